import Derived.Test.YtpleidpbapgmiaaDoorMgC
import Derived.Test.YtpleidpbapgmiaaDoorProg
import Derived.KernelRfl
/- Functions of the program, slimmed down, and the check that they are. Conditions: none. -/
namespace Go.Proofs.YtpleidpbapgmiaaDoor.Sy
open Go Go.Proofs
set_option linter.unusedVariables false

def r5_0 : List SOper := [
  ⟨(some 6), .mv (.c (.one (.sc (.bool false)))), none⟩]
def r5_1 : List SOper := [
  ⟨(some 19), .mv (.t 0), none⟩,
  ⟨(some 20), .len (.t 19), none⟩,
  ⟨(some 21), .bin .gtr (.t 20) (.c (.one (.sc (.int .i64 60)))), none⟩]
def r5_2 : List SOper := [
  ⟨(some 22), .call .t 9 [], none⟩,
  ⟨(some 6), .mv (.t 22), none⟩]
def r5_3 : List SOper := [
  ⟨(some 23), .mv (.t 0), none⟩,
  ⟨(some 24), .call .k 12 [(.t 23)], none⟩,
  ⟨(some 7), .mv (.t 24), none⟩]
def r5_4 : List SOper := [
  ⟨(some 26), .mv (.t 0), none⟩,
  ⟨(some 27), .mv (.t 1), none⟩,
  ⟨(some 28), .call .k 18 [(.t 26), (.t 27)], none⟩,
  ⟨(some 25), .mv (.t 28), none⟩,
  ⟨(some 29), .ext (.t 25) 0, none⟩,
  ⟨(some 30), .ext (.t 25) 1, none⟩,
  ⟨(some 8), .mv (.t 29), none⟩,
  ⟨(some 9), .mv (.t 30), none⟩]
def r5_5 : List SOper := [
  ⟨(some 31), .mv (.t 7), none⟩,
  ⟨(some 32), .call .q 11 [(.t 31)], none⟩,
  ⟨(some 10), .mv (.t 32), none⟩]
def r5_6 : List SOper := [
  ⟨(some 33), .mv (.t 10), none⟩,
  ⟨(some 34), .bin .neq (.t 33) (.c (.one (.sc (.int .i64 0)))), none⟩]
def r5_7 : List SOper := [
  ⟨(some 35), .mv (.t 9), none⟩,
  ⟨(some 36), .mv (.t 10), none⟩,
  ⟨(some 37), .bin .eql (.t 35) (.t 36), none⟩,
  ⟨(some 38), .mv (.t 37), none⟩,
  ⟨(some 39), .mv (.t 8), (some (some 38, true))⟩,
  ⟨(some 40), .len (.t 39), (some (some 38, true))⟩,
  ⟨(some 41), .bin .eql (.t 40) (.c (.one (.sc (.int .i64 0)))), (some (some 38, true))⟩,
  ⟨(some 42), .pick (.t 38) (.t 41) (.c (.one (.sc (.bool false)))), none⟩,
  ⟨(some 43), .mv (.t 42), none⟩,
  ⟨(some 44), .call .t 9 [], (some (some 43, true))⟩,
  ⟨(some 45), .pick (.t 43) (.t 44) (.c (.one (.sc (.bool false)))), none⟩,
  ⟨(some 6), .mv (.t 45), none⟩]
def r5_8 : List SOper := [
  ⟨(some 46), .mv (.t 1), none⟩,
  ⟨(some 47), .bin .lss (.t 46) (.c (.one (.sc (.int .i64 0)))), none⟩,
  ⟨(some 48), .mv (.t 47), none⟩,
  ⟨(some 49), .mv (.t 1), (some (some 48, false))⟩,
  ⟨(some 50), .mv (.t 0), (some (some 48, false))⟩,
  ⟨(some 51), .len (.t 50), (some (some 48, false))⟩,
  ⟨(some 52), .bin .geq (.t 49) (.t 51), (some (some 48, false))⟩,
  ⟨(some 53), .pick (.t 48) (.c (.one (.sc (.bool true)))) (.t 52), none⟩]
def r5_9 : List SOper := [
  ⟨(some 54), .mv (.t 9), none⟩,
  ⟨(some 55), .bin .eql (.t 54) (.c (.one (.sc (.int .i64 30)))), none⟩,
  ⟨(some 56), .mv (.t 55), none⟩,
  ⟨(some 57), .mv (.t 8), (some (some 56, true))⟩,
  ⟨(some 58), .len (.t 57), (some (some 56, true))⟩,
  ⟨(some 59), .bin .eql (.t 58) (.c (.one (.sc (.int .i64 0)))), (some (some 56, true))⟩,
  ⟨(some 60), .pick (.t 56) (.t 59) (.c (.one (.sc (.bool false)))), none⟩,
  ⟨(some 61), .mv (.t 60), none⟩,
  ⟨(some 62), .call .t 9 [], (some (some 61, true))⟩,
  ⟨(some 63), .pick (.t 61) (.t 62) (.c (.one (.sc (.bool false)))), none⟩,
  ⟨(some 6), .mv (.t 63), none⟩]
def r5_10 : List SOper := [
  ⟨(some 64), .mv (.t 0), none⟩,
  ⟨(some 65), .mv (.t 1), none⟩,
  ⟨(some 66), .iadrS 7 (.t 64) (.t 65), none⟩,
  ⟨(some 67), .fadr 0 (.t 66), none⟩,
  ⟨(some 68), .load1 (.t 67), none⟩,
  ⟨(some 69), .bin .eql (.t 68) (.c (.one (.sc (.int .i64 1)))), none⟩,
  ⟨(some 70), .mv (.t 69), none⟩,
  ⟨(some 71), .mv (.t 0), (some (some 70, false))⟩,
  ⟨(some 72), .mv (.t 1), (some (some 70, false))⟩,
  ⟨(some 73), .iadrS 7 (.t 71) (.t 72), (some (some 70, false))⟩,
  ⟨(some 74), .fadr 0 (.t 73), (some (some 70, false))⟩,
  ⟨(some 75), .load1 (.t 74), (some (some 70, false))⟩,
  ⟨(some 76), .bin .eql (.t 75) (.c (.one (.sc (.int .i64 5)))), (some (some 70, false))⟩,
  ⟨(some 77), .pick (.t 70) (.c (.one (.sc (.bool true)))) (.t 76), none⟩]
def r5_11 : List SOper := [
  ⟨(some 78), .mv (.t 9), none⟩,
  ⟨(some 79), .bin .eql (.t 78) (.c (.one (.sc (.int .i64 33)))), none⟩,
  ⟨(some 80), .mv (.t 79), none⟩,
  ⟨(some 81), .mv (.t 8), (some (some 80, true))⟩,
  ⟨(some 82), .len (.t 81), (some (some 80, true))⟩,
  ⟨(some 83), .bin .eql (.t 82) (.c (.one (.sc (.int .i64 0)))), (some (some 80, true))⟩,
  ⟨(some 84), .pick (.t 80) (.t 83) (.c (.one (.sc (.bool false)))), none⟩,
  ⟨(some 85), .mv (.t 84), none⟩,
  ⟨(some 86), .call .t 9 [], (some (some 85, true))⟩,
  ⟨(some 87), .pick (.t 85) (.t 86) (.c (.one (.sc (.bool false)))), none⟩,
  ⟨(some 6), .mv (.t 87), none⟩]
def r5_12 : List SOper := [
  ⟨(some 89), .mv (.t 7), none⟩,
  ⟨(some 90), .mv (.t 1), none⟩,
  ⟨(some 91), .call .q 19 [(.t 89), (.t 90)], none⟩,
  ⟨(some 88), .mv (.t 91), none⟩,
  ⟨(some 92), .ext (.t 88) 0, none⟩,
  ⟨(some 93), .ext (.t 88) 1, none⟩,
  ⟨(some 11), .alloc [.sc (.int .i64 0), .sc (.int .i64 0), .sc (.int .i64 0), .sc (.int .i64 0), .sc (.int .i64 0), .sc (.int .i64 0), .sc (.int .i64 0)], none⟩,
  ⟨(some 12), .alloc [.sc (.int .i64 0), .sc (.int .i64 0), .sc (.int .i64 0), .sc (.int .i64 0), .sc (.int .i64 0), .sc (.int .i64 0), .sc (.int .i64 0)], none⟩,
  ⟨none, .store 7 (.t 11) (.t 92), none⟩,
  ⟨none, .store 7 (.t 12) (.t 93), none⟩]
def r5_13 : List SOper := [
  ⟨(some 94), .mv (.t 8), none⟩,
  ⟨(some 95), .mv (.t 9), none⟩,
  ⟨(some 96), .mv (.t 7), none⟩,
  ⟨(some 97), .mv (.t 1), none⟩,
  ⟨(some 98), .loadA 7 (.t 11), none⟩,
  ⟨(some 99), .loadA 7 (.t 12), none⟩,
  ⟨(some 100), .bslice (List.replicate 14 (.sc (.int .i64 0))) 2 7 [(0, 7, (.t 98)), (7, 7, (.t 99))], none⟩,
  ⟨(some 101), .call .k 21 [(.t 96), (.t 97), (.c (.one (.sc (.int .i64 1)))), (.t 100)], none⟩,
  ⟨(some 102), .call .q 20 [(.t 94), (.t 95), (.t 101)], none⟩,
  ⟨(some 103), .un .not (.t 102), none⟩]
def r5_14 : List SOper := [
  ⟨(some 6), .mv (.c (.one (.sc (.bool false)))), none⟩]
def r5_15 : List SOper := [
  ⟨(some 104), .mv (.t 0), none⟩,
  ⟨(some 105), .mv (.t 1), none⟩,
  ⟨(some 106), .iadrS 7 (.t 104) (.t 105), none⟩,
  ⟨(some 107), .fadr 0 (.t 106), none⟩,
  ⟨(some 108), .load1 (.t 107), none⟩,
  ⟨(some 109), .bin .eql (.t 108) (.c (.one (.sc (.int .i64 2)))), none⟩,
  ⟨(some 110), .mv (.t 109), none⟩,
  ⟨(some 111), .mv (.t 2), (some (some 110, false))⟩,
  ⟨(some 112), .bin .lss (.t 111) (.c (.one (.sc (.int .i64 1)))), (some (some 110, false))⟩,
  ⟨(some 113), .pick (.t 110) (.c (.one (.sc (.bool true)))) (.t 112), none⟩,
  ⟨(some 114), .mv (.t 113), none⟩,
  ⟨(some 115), .mv (.t 2), (some (some 114, false))⟩,
  ⟨(some 116), .bin .gtr (.t 115) (.c (.one (.sc (.int .i64 6)))), (some (some 114, false))⟩,
  ⟨(some 117), .pick (.t 114) (.c (.one (.sc (.bool true)))) (.t 116), none⟩]
def r5_16 : List SOper := [
  ⟨(some 118), .call .t 9 [], none⟩,
  ⟨(some 6), .mv (.t 118), none⟩]
def r5_17 : List SOper := [
  ⟨(some 120), .mv (.t 7), none⟩,
  ⟨(some 121), .mv (.t 1), none⟩,
  ⟨(some 122), .call .q 22 [(.t 120), (.t 121)], none⟩,
  ⟨(some 123), .fld 0 1 false (.t 122), none⟩,
  ⟨(some 124), .mv (.t 7), none⟩,
  ⟨(some 125), .mv (.t 1), none⟩,
  ⟨(some 126), .call .q 22 [(.t 124), (.t 125)], none⟩,
  ⟨(some 127), .fld 1 1 false (.t 126), none⟩,
  ⟨(some 128), .build [.sc (.int .i64 0), .sc (.int .i64 0)] [(0, 1, (.t 123)), (1, 1, (.t 127))], none⟩,
  ⟨(some 129), .build [.sc (.int .i64 0), .sc (.int .i64 0), .sc (.int .i64 0), .sc (.int .i64 0), .sc (.int .i64 0), .sc (.int .i64 0)] [(0, 2, (.t 128))], none⟩,
  ⟨(some 130), .build [.sc (.int .i64 0), .sc (.int .i64 0), .sc (.int .i64 0), .sc (.int .i64 0), .sc (.int .i64 0), .sc (.int .i64 0), .sc (.int .i64 0)] [(0, 1, (.c (.one (.sc (.int .i64 1))))), (1, 6, (.t 129))], none⟩,
  ⟨(some 131), .mv (.t 0), none⟩,
  ⟨(some 132), .mv (.t 1), none⟩,
  ⟨(some 133), .iadrS 7 (.t 131) (.t 132), none⟩,
  ⟨(some 134), .loadA 7 (.t 133), none⟩,
  ⟨(some 135), .bslice (List.replicate 14 (.sc (.int .i64 0))) 2 7 [(0, 7, (.t 130)), (7, 7, (.t 134))], none⟩,
  ⟨(some 136), .mv (.t 2), none⟩,
  ⟨(some 137), .call .k 10 [(.t 135), (.t 136)], none⟩,
  ⟨(some 119), .mv (.t 137), none⟩,
  ⟨(some 138), .ext (.t 119) 0, none⟩,
  ⟨(some 139), .ext (.t 119) 1, none⟩,
  ⟨(some 13), .mv (.t 138), none⟩,
  ⟨(some 14), .mv (.t 139), none⟩]
def r5_18 : List SOper := [
  ⟨(some 141), .mv (.t 7), none⟩,
  ⟨(some 142), .mv (.t 1), none⟩,
  ⟨(some 143), .call .q 22 [(.t 141), (.t 142)], none⟩,
  ⟨(some 144), .fld 0 1 false (.t 143), none⟩,
  ⟨(some 145), .mv (.t 7), none⟩,
  ⟨(some 146), .mv (.t 1), none⟩,
  ⟨(some 147), .call .q 22 [(.t 145), (.t 146)], none⟩,
  ⟨(some 148), .fld 1 1 false (.t 147), none⟩,
  ⟨(some 149), .build [.sc (.int .i64 0), .sc (.int .i64 0)] [(0, 1, (.t 144)), (1, 1, (.t 148))], none⟩,
  ⟨(some 150), .build [.sc (.int .i64 0), .sc (.int .i64 0), .sc (.int .i64 0), .sc (.int .i64 0), .sc (.int .i64 0), .sc (.int .i64 0)] [(0, 2, (.t 149))], none⟩,
  ⟨(some 151), .build [.sc (.int .i64 0), .sc (.int .i64 0), .sc (.int .i64 0), .sc (.int .i64 0), .sc (.int .i64 0), .sc (.int .i64 0), .sc (.int .i64 0)] [(0, 1, (.c (.one (.sc (.int .i64 1))))), (1, 6, (.t 150))], none⟩,
  ⟨(some 152), .mv (.t 8), none⟩,
  ⟨(some 153), .mv (.t 1), none⟩,
  ⟨(some 154), .iadrS 7 (.t 152) (.t 153), none⟩,
  ⟨(some 155), .loadA 7 (.t 154), none⟩,
  ⟨(some 156), .mv (.t 8), none⟩,
  ⟨(some 157), .mv (.t 1), none⟩,
  ⟨(some 158), .bin .add (.t 157) (.c (.one (.sc (.int .i64 1)))), none⟩,
  ⟨(some 159), .iadrS 7 (.t 156) (.t 158), none⟩,
  ⟨(some 160), .loadA 7 (.t 159), none⟩,
  ⟨(some 161), .bslice (List.replicate 21 (.sc (.int .i64 0))) 3 7 [(0, 7, (.t 151)), (7, 7, (.t 155)), (14, 7, (.t 160))], none⟩,
  ⟨(some 162), .mv (.t 2), none⟩,
  ⟨(some 163), .bin .sub (.t 162) (.c (.one (.sc (.int .i64 1)))), none⟩,
  ⟨(some 164), .call .k 10 [(.t 161), (.t 163)], none⟩,
  ⟨(some 140), .mv (.t 164), none⟩,
  ⟨(some 165), .ext (.t 140) 0, none⟩,
  ⟨(some 166), .ext (.t 140) 1, none⟩,
  ⟨(some 15), .mv (.t 165), none⟩,
  ⟨(some 16), .mv (.t 166), none⟩]
def r5_19 : List SOper := [
  ⟨(some 167), .mv (.t 14), none⟩,
  ⟨(some 168), .bin .neq (.t 167) (.c (.one (.sc (.int .i64 0)))), none⟩,
  ⟨(some 169), .mv (.t 168), none⟩,
  ⟨(some 170), .mv (.t 16), (some (some 169, false))⟩,
  ⟨(some 171), .bin .neq (.t 170) (.c (.one (.sc (.int .i64 0)))), (some (some 169, false))⟩,
  ⟨(some 172), .pick (.t 169) (.c (.one (.sc (.bool true)))) (.t 171), none⟩,
  ⟨(some 173), .mv (.t 172), none⟩,
  ⟨(some 174), .mv (.t 13), (some (some 173, false))⟩,
  ⟨(some 175), .len (.t 174), (some (some 173, false))⟩,
  ⟨(some 176), .bin .neq (.t 175) (.c (.one (.sc (.int .i64 1)))), (some (some 173, false))⟩,
  ⟨(some 177), .pick (.t 173) (.c (.one (.sc (.bool true)))) (.t 176), none⟩,
  ⟨(some 178), .mv (.t 177), none⟩,
  ⟨(some 179), .mv (.t 15), (some (some 178, false))⟩,
  ⟨(some 180), .len (.t 179), (some (some 178, false))⟩,
  ⟨(some 181), .bin .neq (.t 180) (.c (.one (.sc (.int .i64 1)))), (some (some 178, false))⟩,
  ⟨(some 182), .pick (.t 178) (.c (.one (.sc (.bool true)))) (.t 181), none⟩,
  ⟨(some 183), .mv (.t 182), none⟩,
  ⟨(some 184), .mv (.t 13), (some (some 183, false))⟩,
  ⟨(some 185), .iadrS 2 (.t 184) (.c (.one (.sc (.int .i64 0)))), (some (some 183, false))⟩,
  ⟨(some 186), .fadr 0 (.t 185), (some (some 183, false))⟩,
  ⟨(some 187), .load1 (.t 186), (some (some 183, false))⟩,
  ⟨(some 188), .len (.t 187), (some (some 183, false))⟩,
  ⟨(some 189), .mv (.t 15), (some (some 183, false))⟩,
  ⟨(some 190), .iadrS 2 (.t 189) (.c (.one (.sc (.int .i64 0)))), (some (some 183, false))⟩,
  ⟨(some 191), .fadr 0 (.t 190), (some (some 183, false))⟩,
  ⟨(some 192), .load1 (.t 191), (some (some 183, false))⟩,
  ⟨(some 193), .len (.t 192), (some (some 183, false))⟩,
  ⟨(some 194), .bin .neq (.t 188) (.t 193), (some (some 183, false))⟩,
  ⟨(some 195), .pick (.t 183) (.c (.one (.sc (.bool true)))) (.t 194), none⟩]
def r5_20 : List SOper := [
  ⟨(some 6), .mv (.c (.one (.sc (.bool false)))), none⟩]
def r5_21 : List SOper := [
  ⟨(some 196), .mv (.t 13), none⟩,
  ⟨(some 197), .iadrS 2 (.t 196) (.c (.one (.sc (.int .i64 0)))), none⟩,
  ⟨(some 198), .fadr 0 (.t 197), none⟩,
  ⟨(some 199), .load1 (.t 198), none⟩,
  ⟨(some 200), .len (.t 199), none⟩,
  ⟨(some 201), .mv (.c (.one (.sc (.int .i64 0)))), none⟩]
def r5_22 : List SOper := [
  ⟨(some 202), .bin .lss (.t 201) (.t 200), none⟩]
def r5_23 : List SOper := [
  ⟨(some 203), .mv (.t 201), none⟩,
  ⟨(some 204), .iadrS 2 (.t 199) (.t 201), none⟩,
  ⟨(some 205), .loadA 2 (.t 204), none⟩,
  ⟨(some 18), .alloc [.sc (.int .i64 0), .sc (.int .i64 0)], none⟩,
  ⟨(some 17), .mv (.t 203), none⟩,
  ⟨none, .store 2 (.t 18) (.t 205), none⟩]
def r5_24 : List SOper := [
  ⟨(some 206), .mv (.t 15), none⟩,
  ⟨(some 207), .iadrS 2 (.t 206) (.c (.one (.sc (.int .i64 0)))), none⟩,
  ⟨(some 208), .fadr 0 (.t 207), none⟩,
  ⟨(some 209), .load1 (.t 208), none⟩,
  ⟨(some 210), .mv (.t 17), none⟩,
  ⟨(some 211), .iadrS 2 (.t 209) (.t 210), none⟩,
  ⟨(some 212), .loadA 2 (.t 211), none⟩,
  ⟨(some 213), .loadA 2 (.t 18), none⟩,
  ⟨(some 214), .eqv [.i, .i] true (.t 212) (.t 213), none⟩]
def r5_25 : List SOper := [
  ⟨(some 6), .mv (.c (.one (.sc (.bool false)))), none⟩]
def r5_26 : List SOper := [
  ⟨(some 215), .bin .add (.t 201) (.c (.one (.sc (.int .i64 1)))), none⟩,
  ⟨(some 201), .mv (.t 215), none⟩]
def l5_0 : SC := (.seq (.reg r5_22) (.seq (.cond (.t 202) .skip (.exit 0)) (.seq (.block 1 (.seq (.reg r5_23) (.seq (.reg r5_24) (.cond (.t 214) (.seq (.reg r5_25) .ret) .skip)))) (.reg r5_26))))
def r5_27 : List SOper := [
  ⟨(some 216), .call .t 9 [], none⟩,
  ⟨(some 6), .mv (.t 216), none⟩]
def c5 : SC := (.seq (.reg r5_0) (.seq (.seq (.reg r5_1) (.cond (.t 21) (.seq (.reg r5_2) .ret) .skip)) (.seq (.reg r5_3) (.seq (.reg r5_4) (.seq (.seq (.reg r5_5) (.seq (.reg r5_6) (.cond (.t 34) (.seq (.reg r5_7) .ret) .skip))) (.seq (.seq (.reg r5_8) (.cond (.t 53) (.seq (.reg r5_9) .ret) .skip)) (.seq (.seq (.reg r5_10) (.cond (.t 77) (.seq (.reg r5_11) .ret) .skip)) (.seq (.reg r5_12) (.seq (.seq (.reg r5_13) (.cond (.t 103) (.seq (.reg r5_14) .ret) .skip)) (.seq (.seq (.reg r5_15) (.cond (.t 117) (.seq (.reg r5_16) .ret) .skip)) (.seq (.reg r5_17) (.seq (.reg r5_18) (.seq (.seq (.reg r5_19) (.cond (.t 195) (.seq (.reg r5_20) .ret) .skip)) (.seq (.seq (.reg r5_21) (.block 0 (.loop l5_0))) (.seq (.reg r5_27) .ret)))))))))))))))
/-- limner/limnerlaw06.PathSplits -/
def F5 : SFun := ⟨217, c5, [.tmp 6]⟩

def r9_0 : List SOper := [
  ⟨(some 0), .mv (.c (.one (.sc (.bool false)))), none⟩]
def r9_1 : List SOper := [
  ⟨(some 4), .call (.z 1) 32 [(.c (.one (.sc (.int .i64 1)))), (.c (.one (.sc (.int .i64 0)))), (.c (.one (.sc (.int .i64 0))))], none⟩,
  ⟨(some 5), .call (.z 1) 32 [(.c (.one (.sc (.int .i64 2)))), (.c (.one (.sc (.int .i64 4)))), (.c (.one (.sc (.int .i64 0))))], none⟩,
  ⟨(some 6), .call (.z 1) 32 [(.c (.one (.sc (.int .i64 2)))), (.c (.one (.sc (.int .i64 4)))), (.c (.one (.sc (.int .i64 4))))], none⟩,
  ⟨(some 7), .build [.sc (.int .i64 0), .sc (.int .i64 0), .sc (.int .i64 0), .sc (.int .i64 0), .sc (.int .i64 0), .sc (.int .i64 0), .sc (.int .i64 0)] [(0, 1, (.c (.one (.sc (.int .i64 5)))))], none⟩,
  ⟨(some 8), .bslice (List.replicate 28 (.sc (.int .i64 0))) 4 7 [(0, 7, (.t 4)), (7, 7, (.t 5)), (14, 7, (.t 6)), (21, 7, (.t 7))], none⟩,
  ⟨(some 9), .call .k 10 [(.t 8), (.c (.one (.sc (.int .i64 2))))], none⟩,
  ⟨(some 3), .mv (.t 9), none⟩,
  ⟨(some 10), .ext (.t 3) 0, none⟩,
  ⟨(some 11), .ext (.t 3) 1, none⟩,
  ⟨(some 1), .mv (.t 10), none⟩,
  ⟨(some 2), .mv (.t 11), none⟩]
def r9_2 : List SOper := [
  ⟨(some 12), .mv (.t 2), none⟩,
  ⟨(some 13), .bin .eql (.t 12) (.c (.one (.sc (.int .i64 0)))), none⟩,
  ⟨(some 14), .mv (.t 13), none⟩,
  ⟨(some 15), .mv (.t 1), (some (some 14, true))⟩,
  ⟨(some 16), .len (.t 15), (some (some 14, true))⟩,
  ⟨(some 17), .bin .eql (.t 16) (.c (.one (.sc (.int .i64 1)))), (some (some 14, true))⟩,
  ⟨(some 18), .pick (.t 14) (.t 17) (.c (.one (.sc (.bool false)))), none⟩,
  ⟨(some 19), .mv (.t 18), none⟩,
  ⟨(some 20), .mv (.t 1), (some (some 19, true))⟩,
  ⟨(some 21), .iadrS 2 (.t 20) (.c (.one (.sc (.int .i64 0)))), (some (some 19, true))⟩,
  ⟨(some 22), .fadr 0 (.t 21), (some (some 19, true))⟩,
  ⟨(some 23), .load1 (.t 22), (some (some 19, true))⟩,
  ⟨(some 24), .len (.t 23), (some (some 19, true))⟩,
  ⟨(some 25), .bin .eql (.t 24) (.c (.one (.sc (.int .i64 3)))), (some (some 19, true))⟩,
  ⟨(some 26), .pick (.t 19) (.t 25) (.c (.one (.sc (.bool false)))), none⟩,
  ⟨(some 27), .mv (.t 26), none⟩,
  ⟨(some 28), .mv (.t 1), (some (some 27, true))⟩,
  ⟨(some 29), .iadrS 2 (.t 28) (.c (.one (.sc (.int .i64 0)))), (some (some 27, true))⟩,
  ⟨(some 30), .fadr 1 (.t 29), (some (some 27, true))⟩,
  ⟨(some 31), .load1 (.t 30), (some (some 27, true))⟩,
  ⟨(some 32), .pick (.t 27) (.t 31) (.c (.one (.sc (.bool false)))), none⟩,
  ⟨(some 0), .mv (.t 32), none⟩]
def c9 : SC := (.seq (.reg r9_0) (.seq (.reg r9_1) (.seq (.reg r9_2) .ret)))
/-- limner/limnerlaw06.awake -/
def F9 : SFun := ⟨33, c9, [.tmp 0]⟩

def r10_0 : List SOper := [
  ⟨(some 3), .box (.t 1), none⟩,
  ⟨(some 4), .mv (.c (.one (.sc (.slice none 0 0)))), none⟩,
  ⟨(some 5), .mv (.c (.one (.sc (.int .i64 0)))), none⟩]
def r10_1 : List SOper := [
  ⟨(some 13), .mv (.t 0), none⟩,
  ⟨(some 14), .call .q 14 [(.t 13)], none⟩,
  ⟨(some 6), .mv (.t 14), none⟩]
def r10_2 : List SOper := [
  ⟨(some 15), .mv (.t 6), none⟩,
  ⟨(some 16), .bin .neq (.t 15) (.c (.one (.sc (.int .i64 0)))), none⟩]
def r10_3 : List SOper := [
  ⟨(some 17), .mv (.t 6), none⟩,
  ⟨(some 4), .mv (.c (.one (.sc (.slice none 0 0)))), none⟩,
  ⟨(some 5), .mv (.t 17), none⟩]
def r10_4 : List SOper := [
  ⟨(some 18), .load1 (.t 3), none⟩,
  ⟨(some 19), .bin .lss (.t 18) (.c (.one (.sc (.int .i64 0)))), none⟩,
  ⟨(some 20), .mv (.t 19), none⟩,
  ⟨(some 21), .load1 (.t 3), (some (some 20, false))⟩,
  ⟨(some 22), .bin .gtr (.t 21) (.c (.one (.sc (.int .i64 6)))), (some (some 20, false))⟩,
  ⟨(some 23), .pick (.t 20) (.c (.one (.sc (.bool true)))) (.t 22), none⟩]
def r10_5 : List SOper := [
  ⟨(some 4), .mv (.c (.one (.sc (.slice none 0 0)))), none⟩,
  ⟨(some 5), .mv (.c (.one (.sc (.int .i64 30)))), none⟩]
def r10_6 : List SOper := [
  ⟨(some 7), .alloc [.sc (.slice none 0 0)], none⟩]
def r10_7 : List SOper := [
  ⟨(some 24), .mv (.t 0), none⟩,
  ⟨(some 25), .call .k 33 [(.t 24)], none⟩]
def r10_8 : List SOper := [
  ⟨(some 8), .alloc [.sc (.int .i64 0), .sc (.int .i64 0)], none⟩,
  ⟨none, .store 2 (.t 8) (.t 26), none⟩]
def r10_9 : List SOper := [
  ⟨(some 9), .alloc [.sc (.int .i64 0), .sc (.int .i64 0), .sc (.int .i64 0), .sc (.int .i64 0), .sc (.int .i64 0), .sc (.int .i64 0), .sc (.int .i64 0)], none⟩,
  ⟨none, .store 7 (.t 9) (.t 27), none⟩]
def r10_10 : List SOper := [
  ⟨(some 28), .fadr 0 (.t 9), none⟩,
  ⟨(some 29), .load1 (.t 28), none⟩,
  ⟨(some 30), .bin .eql (.t 29) (.c (.one (.sc (.int .i64 1)))), none⟩]
def r10_11 : List SOper := [
  ⟨(some 31), .load1 (.t 7), none⟩,
  ⟨(some 32), .build [.sc (.slice none 0 0), .sc (.bool false)] [], none⟩,
  ⟨(some 33), .bslice [.sc (.slice none 0 0), .sc (.bool false)] 1 2 [(0, 2, (.t 32))], none⟩,
  ⟨(some 34), .app 2 32 (.t 31) (.t 33), none⟩,
  ⟨none, .store 1 (.t 7) (.t 34), none⟩]
def r10_12 : List SOper := [
  ⟨(some 35), .load1 (.t 7), none⟩,
  ⟨(some 36), .load1 (.t 7), none⟩,
  ⟨(some 37), .len (.t 36), none⟩,
  ⟨(some 38), .bin .sub (.t 37) (.c (.one (.sc (.int .i64 1)))), none⟩,
  ⟨(some 39), .iadrS 2 (.t 35) (.t 38), none⟩,
  ⟨(some 10), .mv (.t 39), none⟩]
def r10_13 : List SOper := [
  ⟨(some 40), .fadr 0 (.t 9), none⟩,
  ⟨(some 41), .load1 (.t 40), none⟩]
def r10_15 : List SOper := [
  ⟨(some 55), .bin .eql (.t 41) (.c (.one (.sc (.int .i64 5)))), none⟩,
  ⟨(some 54), .mv (.t 55), none⟩]
def r10_16 : List SOper := [
  ⟨(some 56), .mv (.t 10), none⟩,
  ⟨(some 57), .nilchk (.t 56), none⟩,
  ⟨(some 58), .fadr 1 (.t 57), none⟩,
  ⟨none, .store 1 (.t 58) (.c (.one (.sc (.bool true)))), none⟩]
def r10_17 : List SOper := [
  ⟨(some 60), .bin .eql (.t 41) (.c (.one (.sc (.int .i64 3)))), none⟩,
  ⟨(some 59), .mv (.t 60), none⟩]
def r10_18 : List SOper := [
  ⟨(some 61), .bin .eql (.t 41) (.c (.one (.sc (.int .i64 4)))), none⟩,
  ⟨(some 59), .mv (.t 61), none⟩]
def r10_19 : List SOper := [
  ⟨(some 63), .loadA 2 (.t 8), none⟩,
  ⟨(some 64), .bslice [.sc (.int .i64 0), .sc (.int .i64 0)] 1 2 [(0, 2, (.t 63))], none⟩,
  ⟨(some 65), .call .k 35 [(.t 9)], none⟩,
  ⟨(some 66), .app 2 16 (.t 64) (.t 65), none⟩,
  ⟨(some 67), .load1 (.t 3), none⟩,
  ⟨(some 68), .call .k 34 [(.t 66), (.t 67)], none⟩,
  ⟨(some 62), .mv (.t 68), none⟩,
  ⟨(some 69), .ext (.t 62) 0, none⟩,
  ⟨(some 70), .ext (.t 62) 1, none⟩,
  ⟨(some 11), .mv (.t 69), none⟩,
  ⟨(some 12), .mv (.t 70), none⟩]
def r10_20 : List SOper := [
  ⟨(some 71), .mv (.t 10), none⟩,
  ⟨(some 72), .mv (.t 10), none⟩,
  ⟨(some 73), .nilchk (.t 72), none⟩,
  ⟨(some 74), .fadr 0 (.t 73), none⟩,
  ⟨(some 75), .load1 (.t 74), none⟩,
  ⟨(some 76), .mv (.t 11), none⟩,
  ⟨(some 77), .app 2 16 (.t 75) (.t 76), none⟩,
  ⟨(some 78), .nilchk (.t 71), none⟩,
  ⟨(some 79), .fadr 0 (.t 78), none⟩,
  ⟨none, .store 1 (.t 79) (.t 77), none⟩]
def r10_14 : List SOper := [
  ⟨(some 42), .mv (.t 10), none⟩,
  ⟨(some 43), .mv (.t 10), none⟩,
  ⟨(some 44), .nilchk (.t 43), none⟩,
  ⟨(some 45), .fadr 0 (.t 44), none⟩,
  ⟨(some 46), .load1 (.t 45), none⟩,
  ⟨(some 47), .fadr 1 (.t 9), none⟩,
  ⟨(some 48), .iadrA 3 2 (.t 47) (.c (.one (.sc (.int .i64 0)))), none⟩,
  ⟨(some 49), .loadA 2 (.t 48), none⟩,
  ⟨(some 50), .bslice [.sc (.int .i64 0), .sc (.int .i64 0)] 1 2 [(0, 2, (.t 49))], none⟩,
  ⟨(some 51), .app 2 16 (.t 46) (.t 50), none⟩,
  ⟨(some 52), .nilchk (.t 42), none⟩,
  ⟨(some 53), .fadr 0 (.t 52), none⟩,
  ⟨none, .store 1 (.t 53) (.t 51), none⟩]
def wa10 : SC := (.seq (.reg r10_8) (.reg r10_9))
def wb10 : SC := (.block 1 (.seq (.seq (.reg r10_10) (.cond (.t 30) (.reg r10_11) .skip)) (.seq (.reg r10_12) (.seq (.reg r10_13) (.block 2 (.seq (.reg r10_15) (.cond (.t 54) (.reg r10_16) (.seq (.seq (.reg r10_17) (.cond (.t 59) .skip (.reg r10_18))) (.cond (.t 59) (.seq (.preg 2 35 [(.t 9)] [(3, 64)] r10_19) (.reg r10_20)) (.reg r10_14))))))))))
def r10_21 : List SOper := [
  ⟨(some 80), .load1 (.t 7), none⟩,
  ⟨(some 4), .mv (.t 80), none⟩,
  ⟨(some 5), .mv (.c (.one (.sc (.int .i64 0)))), none⟩]
def c10 : SC := (.seq (.reg r10_0) (.seq (.seq (.reg r10_1) (.seq (.reg r10_2) (.cond (.t 16) (.seq (.reg r10_3) .ret) .skip))) (.seq (.seq (.reg r10_4) (.cond (.t 23) (.seq (.reg r10_5) .ret) .skip)) (.seq (.reg r10_6) (.seq (.seq (.reg r10_7) (.block 0 (.walk 53 15 26 27 (.t 25) wa10 wb10))) (.seq (.reg r10_21) .ret))))))
/-- limner/path.Flat -/
def F10 : SFun := ⟨81, c10, [.tmp 4, .tmp 5]⟩

def r11_0 : List SOper := [
  ⟨(some 2), .mv (.c (.one (.sc (.int .i64 0)))), none⟩]
def r11_1 : List SOper := [
  ⟨(some 7), .mv (.t 0), none⟩,
  ⟨(some 8), .len (.t 7), none⟩,
  ⟨(some 9), .bin .gtr (.t 8) (.c (.one (.sc (.int .i64 4096)))), none⟩]
def r11_2 : List SOper := [
  ⟨(some 2), .mv (.c (.one (.sc (.int .i64 36)))), none⟩]
def r11_3 : List SOper := [
  ⟨(some 3), .mv (.c (.one (.sc (.int .i64 0)))), none⟩]
def r11_4 : List SOper := [
  ⟨(some 10), .mv (.t 3), none⟩,
  ⟨(some 11), .mv (.t 0), none⟩,
  ⟨(some 12), .len (.t 11), none⟩,
  ⟨(some 13), .bin .lss (.t 10) (.t 12), none⟩]
def r11_6 : List SOper := [
  ⟨(some 16), .mv (.t 0), none⟩,
  ⟨(some 17), .mv (.t 3), none⟩,
  ⟨(some 18), .iadrS 7 (.t 16) (.t 17), none⟩,
  ⟨(some 19), .loadA 7 (.t 18), none⟩,
  ⟨(some 4), .alloc [.sc (.int .i64 0), .sc (.int .i64 0), .sc (.int .i64 0), .sc (.int .i64 0), .sc (.int .i64 0), .sc (.int .i64 0), .sc (.int .i64 0)], none⟩,
  ⟨none, .store 7 (.t 4) (.t 19), none⟩]
def r11_7 : List SOper := [
  ⟨(some 20), .fadr 0 (.t 4), none⟩,
  ⟨(some 21), .load1 (.t 20), none⟩,
  ⟨(some 22), .bin .lss (.t 21) (.c (.one (.sc (.int .i64 1)))), none⟩,
  ⟨(some 23), .mv (.t 22), none⟩,
  ⟨(some 24), .fadr 0 (.t 4), (some (some 23, false))⟩,
  ⟨(some 25), .load1 (.t 24), (some (some 23, false))⟩,
  ⟨(some 26), .bin .gtr (.t 25) (.c (.one (.sc (.int .i64 5)))), (some (some 23, false))⟩,
  ⟨(some 27), .pick (.t 23) (.c (.one (.sc (.bool true)))) (.t 26), none⟩,
  ⟨(some 28), .mv (.t 27), none⟩,
  ⟨(some 29), .fadr 0 (.t 4), (some (some 28, false))⟩,
  ⟨(some 30), .load1 (.t 29), (some (some 28, false))⟩,
  ⟨(some 31), .bin .neq (.t 30) (.c (.one (.sc (.int .i64 1)))), (some (some 28, false))⟩,
  ⟨(some 32), .mv (.t 31), (some (some 28, false))⟩,
  ⟨(some 33), .mv (.t 3), (some (some 32, true))⟩,
  ⟨(some 34), .bin .eql (.t 33) (.c (.one (.sc (.int .i64 0)))), (some (some 32, true))⟩,
  ⟨(some 35), .mv (.t 34), (some (some 32, true))⟩,
  ⟨(some 36), .mv (.t 0), (some (some 35, false))⟩,
  ⟨(some 37), .mv (.t 3), (some (some 35, false))⟩,
  ⟨(some 38), .bin .sub (.t 37) (.c (.one (.sc (.int .i64 1)))), (some (some 35, false))⟩,
  ⟨(some 39), .iadrS 7 (.t 36) (.t 38), (some (some 35, false))⟩,
  ⟨(some 40), .fadr 0 (.t 39), (some (some 35, false))⟩,
  ⟨(some 41), .load1 (.t 40), (some (some 35, false))⟩,
  ⟨(some 42), .bin .eql (.t 41) (.c (.one (.sc (.int .i64 5)))), (some (some 35, false))⟩,
  ⟨(some 43), .pick (.t 35) (.c (.one (.sc (.bool true)))) (.t 42), (some (some 32, true))⟩,
  ⟨(some 44), .pick (.t 32) (.t 43) (.c (.one (.sc (.bool false)))), (some (some 28, false))⟩,
  ⟨(some 45), .pick (.t 28) (.c (.one (.sc (.bool true)))) (.t 44), none⟩]
def r11_8 : List SOper := [
  ⟨(some 2), .mv (.c (.one (.sc (.int .i64 33)))), none⟩]
def r11_9 : List SOper := [
  ⟨(some 5), .mv (.c (.one (.sc (.int .i64 2)))), none⟩]
def r11_10 : List SOper := [
  ⟨(some 46), .mv (.t 5), none⟩,
  ⟨(some 47), .fadr 0 (.t 4), none⟩,
  ⟨(some 48), .load1 (.t 47), none⟩,
  ⟨(some 49), .call (.z 1) 16 [(.t 48)], none⟩,
  ⟨(some 50), .bin .geq (.t 46) (.t 49), none⟩]
def r11_12 : List SOper := [
  ⟨(some 53), .mv (.t 5), none⟩,
  ⟨(some 54), .fadr 1 (.t 4), none⟩,
  ⟨(some 55), .iadrA 3 2 (.t 54) (.t 53), none⟩,
  ⟨(some 56), .fadr 0 (.t 55), none⟩,
  ⟨(some 57), .load1 (.t 56), none⟩,
  ⟨(some 58), .bin .neq (.t 57) (.c (.one (.sc (.int .i64 0)))), none⟩,
  ⟨(some 59), .mv (.t 58), none⟩,
  ⟨(some 60), .mv (.t 5), (some (some 59, false))⟩,
  ⟨(some 61), .fadr 1 (.t 4), (some (some 59, false))⟩,
  ⟨(some 62), .iadrA 3 2 (.t 61) (.t 60), (some (some 59, false))⟩,
  ⟨(some 63), .fadr 1 (.t 62), (some (some 59, false))⟩,
  ⟨(some 64), .load1 (.t 63), (some (some 59, false))⟩,
  ⟨(some 65), .bin .neq (.t 64) (.c (.one (.sc (.int .i64 0)))), (some (some 59, false))⟩,
  ⟨(some 66), .pick (.t 59) (.c (.one (.sc (.bool true)))) (.t 65), none⟩]
def r11_13 : List SOper := [
  ⟨(some 2), .mv (.c (.one (.sc (.int .i64 33)))), none⟩]
def r11_11 : List SOper := [
  ⟨(some 51), .mv (.t 5), none⟩,
  ⟨(some 52), .bin .sub (.t 51) (.c (.one (.sc (.int .i64 1)))), none⟩,
  ⟨(some 5), .mv (.t 52), none⟩]
def l11_0 : SC := (.seq (.seq (.reg r11_10) (.cond (.t 50) .skip (.exit 2))) (.seq (.block 3 (.seq (.reg r11_12) (.cond (.t 66) (.seq (.reg r11_13) .ret) .skip))) (.reg r11_11)))
def r11_14 : List SOper := [
  ⟨(some 6), .mv (.c (.one (.sc (.int .i64 0)))), none⟩]
def r11_15 : List SOper := [
  ⟨(some 67), .mv (.t 6), none⟩,
  ⟨(some 68), .fadr 0 (.t 4), none⟩,
  ⟨(some 69), .load1 (.t 68), none⟩,
  ⟨(some 70), .call (.z 1) 16 [(.t 69)], none⟩,
  ⟨(some 71), .bin .lss (.t 67) (.t 70), none⟩]
def r11_17 : List SOper := [
  ⟨(some 74), .mv (.t 6), none⟩,
  ⟨(some 75), .fadr 1 (.t 4), none⟩,
  ⟨(some 76), .iadrA 3 2 (.t 75) (.t 74), none⟩,
  ⟨(some 77), .fadr 0 (.t 76), none⟩,
  ⟨(some 78), .load1 (.t 77), none⟩,
  ⟨(some 79), .call (.z 1) 36 [(.t 78)], none⟩,
  ⟨(some 80), .un .not (.t 79), none⟩,
  ⟨(some 81), .mv (.t 80), none⟩,
  ⟨(some 82), .mv (.t 6), (some (some 81, false))⟩,
  ⟨(some 83), .fadr 1 (.t 4), (some (some 81, false))⟩,
  ⟨(some 84), .iadrA 3 2 (.t 83) (.t 82), (some (some 81, false))⟩,
  ⟨(some 85), .fadr 1 (.t 84), (some (some 81, false))⟩,
  ⟨(some 86), .load1 (.t 85), (some (some 81, false))⟩,
  ⟨(some 87), .call (.z 1) 36 [(.t 86)], (some (some 81, false))⟩,
  ⟨(some 88), .un .not (.t 87), (some (some 81, false))⟩,
  ⟨(some 89), .pick (.t 81) (.c (.one (.sc (.bool true)))) (.t 88), none⟩]
def r11_18 : List SOper := [
  ⟨(some 2), .mv (.c (.one (.sc (.int .i64 30)))), none⟩]
def r11_16 : List SOper := [
  ⟨(some 72), .mv (.t 6), none⟩,
  ⟨(some 73), .bin .add (.t 72) (.c (.one (.sc (.int .i64 1)))), none⟩,
  ⟨(some 6), .mv (.t 73), none⟩]
def l11_1 : SC := (.seq (.seq (.reg r11_15) (.cond (.t 71) .skip (.exit 4))) (.seq (.block 5 (.seq (.reg r11_17) (.cond (.t 89) (.seq (.reg r11_18) .ret) .skip))) (.reg r11_16)))
def r11_5 : List SOper := [
  ⟨(some 14), .mv (.t 3), none⟩,
  ⟨(some 15), .bin .add (.t 14) (.c (.one (.sc (.int .i64 1)))), none⟩,
  ⟨(some 3), .mv (.t 15), none⟩]
def l11_2 : SC := (.seq (.seq (.reg r11_4) (.cond (.t 13) .skip (.exit 0))) (.seq (.block 1 (.seq (.reg r11_6) (.seq (.seq (.reg r11_7) (.cond (.t 45) (.seq (.reg r11_8) .ret) .skip)) (.seq (.seq (.reg r11_9) (.block 2 (.loop l11_0))) (.seq (.reg r11_14) (.block 4 (.loop l11_1))))))) (.reg r11_5)))
def r11_19 : List SOper := [
  ⟨(some 2), .mv (.c (.one (.sc (.int .i64 0)))), none⟩]
def c11 : SC := (.seq (.reg r11_0) (.seq (.seq (.reg r11_1) (.cond (.t 9) (.seq (.reg r11_2) .ret) .skip)) (.seq (.seq (.reg r11_3) (.block 0 (.loop l11_2))) (.seq (.reg r11_19) .ret))))
/-- limner/limnerref06.Check -/
def F11 : SFun := ⟨90, c11, [.tmp 2]⟩

def r12_0 : List SOper := [
  ⟨(some 2), .mv (.c (.one (.sc (.slice none 0 0)))), none⟩]
def r12_1 : List SOper := [
  ⟨(some 3), .mv (.c (.one (.sc (.slice none 0 0)))), none⟩]
def r12_2 : List SOper := [
  ⟨(some 9), .mv (.t 0), none⟩,
  ⟨(some 10), .len (.t 9), none⟩,
  ⟨(some 11), .mv (.c (.one (.sc (.int .i64 0)))), none⟩]
def r12_3 : List SOper := [
  ⟨(some 12), .bin .lss (.t 11) (.t 10), none⟩]
def r12_4 : List SOper := [
  ⟨(some 13), .iadrS 7 (.t 9) (.t 11), none⟩,
  ⟨(some 14), .loadA 7 (.t 13), none⟩,
  ⟨(some 5), .alloc [.sc (.int .i64 0), .sc (.int .i64 0), .sc (.int .i64 0), .sc (.int .i64 0), .sc (.int .i64 0), .sc (.int .i64 0), .sc (.int .i64 0)], none⟩,
  ⟨none, .store 7 (.t 5) (.t 14), none⟩]
def r12_5 : List SOper := [
  ⟨(some 15), .fadr 0 (.t 5), none⟩,
  ⟨(some 16), .load1 (.t 15), none⟩,
  ⟨(some 17), .build [.sc (.int .i64 0), .sc (.int .i64 0), .sc (.int .i64 0), .sc (.int .i64 0), .sc (.int .i64 0), .sc (.int .i64 0), .sc (.int .i64 0)] [(0, 1, (.t 16))], none⟩,
  ⟨(some 6), .alloc [.sc (.int .i64 0), .sc (.int .i64 0), .sc (.int .i64 0), .sc (.int .i64 0), .sc (.int .i64 0), .sc (.int .i64 0), .sc (.int .i64 0)], none⟩,
  ⟨none, .store 7 (.t 6) (.t 17), none⟩]
def r12_6 : List SOper := [
  ⟨(some 18), .fadr 1 (.t 5), none⟩,
  ⟨(some 19), .loadA 6 (.t 18), none⟩,
  ⟨(some 20), .mv (.c (.one (.sc (.int .i64 0)))), none⟩]
def r12_7 : List SOper := [
  ⟨(some 21), .bin .lss (.t 20) (.c (.one (.sc (.int .i64 3)))), none⟩]
def r12_8 : List SOper := [
  ⟨(some 22), .mv (.t 20), none⟩,
  ⟨(some 23), .idxA 3 2 true (.t 19) (.t 20), none⟩,
  ⟨(some 8), .alloc [.sc (.int .i64 0), .sc (.int .i64 0)], none⟩,
  ⟨(some 7), .mv (.t 22), none⟩,
  ⟨none, .store 2 (.t 8) (.t 23), none⟩]
def r12_9 : List SOper := [
  ⟨(some 24), .mv (.t 7), none⟩,
  ⟨(some 25), .fadr 0 (.t 8), none⟩,
  ⟨(some 26), .load1 (.t 25), none⟩,
  ⟨(some 27), .fadr 1 (.t 8), none⟩,
  ⟨(some 28), .load1 (.t 27), none⟩,
  ⟨(some 29), .build [.sc (.int .i64 0), .sc (.int .i64 0)] [(0, 1, (.t 26)), (1, 1, (.t 28))], none⟩,
  ⟨(some 30), .fadr 1 (.t 6), none⟩,
  ⟨(some 31), .iadrA 3 2 (.t 30) (.t 24), none⟩,
  ⟨none, .store 2 (.t 31) (.t 29), none⟩]
def r12_10 : List SOper := [
  ⟨(some 32), .bin .add (.t 20) (.c (.one (.sc (.int .i64 1)))), none⟩,
  ⟨(some 20), .mv (.t 32), none⟩]
def l12_0 : SC := (.seq (.reg r12_7) (.seq (.cond (.t 21) .skip (.exit 2)) (.seq (.block 3 (.seq (.reg r12_8) (.reg r12_9))) (.reg r12_10))))
def r12_11 : List SOper := [
  ⟨(some 33), .mv (.t 3), none⟩,
  ⟨(some 34), .loadA 7 (.t 6), none⟩,
  ⟨(some 35), .bslice [.sc (.int .i64 0), .sc (.int .i64 0), .sc (.int .i64 0), .sc (.int .i64 0), .sc (.int .i64 0), .sc (.int .i64 0), .sc (.int .i64 0)] 1 7 [(0, 7, (.t 34))], none⟩,
  ⟨(some 36), .app 7 56 (.t 33) (.t 35), none⟩,
  ⟨(some 3), .mv (.t 36), none⟩]
def r12_12 : List SOper := [
  ⟨(some 37), .bin .add (.t 11) (.c (.one (.sc (.int .i64 1)))), none⟩,
  ⟨(some 11), .mv (.t 37), none⟩]
def l12_1 : SC := (.seq (.reg r12_3) (.seq (.cond (.t 12) .skip (.exit 0)) (.seq (.block 1 (.seq (.reg r12_4) (.seq (.reg r12_5) (.seq (.seq (.reg r12_6) (.block 2 (.loop l12_0))) (.reg r12_11))))) (.reg r12_12))))
def r12_13 : List SOper := [
  ⟨(some 38), .mv (.t 3), none⟩,
  ⟨(some 2), .mv (.t 38), none⟩]
def c12 : SC := (.seq (.reg r12_0) (.seq (.reg r12_1) (.seq (.seq (.reg r12_2) (.block 0 (.loop l12_1))) (.seq (.reg r12_13) .ret))))
/-- limner/limnerlaw06.ref -/
def F12 : SFun := ⟨39, c12, [.tmp 2]⟩

def r14_0 : List SOper := [
  ⟨(some 2), .mv (.c (.one (.sc (.int .i64 0)))), none⟩]
def r14_1 : List SOper := [
  ⟨(some 8), .mv (.t 0), none⟩,
  ⟨(some 9), .len (.t 8), none⟩,
  ⟨(some 10), .bin .gtr (.t 9) (.c (.one (.sc (.int .i64 4096)))), none⟩]
def r14_2 : List SOper := [
  ⟨(some 2), .mv (.c (.one (.sc (.int .i64 36)))), none⟩]
def r14_3 : List SOper := [
  ⟨(some 3), .mv (.c (.one (.sc (.bool false)))), none⟩]
def r14_4 : List SOper := [
  ⟨(some 11), .mv (.t 0), none⟩,
  ⟨(some 12), .len (.t 11), none⟩,
  ⟨(some 13), .mv (.c (.one (.sc (.int .i64 0)))), none⟩]
def r14_5 : List SOper := [
  ⟨(some 14), .bin .lss (.t 13) (.t 12), none⟩]
def r14_6 : List SOper := [
  ⟨(some 15), .iadrS 7 (.t 11) (.t 13), none⟩,
  ⟨(some 16), .loadA 7 (.t 15), none⟩,
  ⟨(some 5), .alloc [.sc (.int .i64 0), .sc (.int .i64 0), .sc (.int .i64 0), .sc (.int .i64 0), .sc (.int .i64 0), .sc (.int .i64 0), .sc (.int .i64 0)], none⟩,
  ⟨none, .store 7 (.t 5) (.t 16), none⟩]
def r14_7 : List SOper := [
  ⟨(some 17), .fadr 0 (.t 5), none⟩,
  ⟨(some 18), .load1 (.t 17), none⟩,
  ⟨(some 19), .bin .lss (.t 18) (.c (.one (.sc (.int .i64 1)))), none⟩,
  ⟨(some 20), .mv (.t 19), none⟩,
  ⟨(some 21), .fadr 0 (.t 5), (some (some 20, false))⟩,
  ⟨(some 22), .load1 (.t 21), (some (some 20, false))⟩,
  ⟨(some 23), .bin .gtr (.t 22) (.c (.one (.sc (.int .i64 5)))), (some (some 20, false))⟩,
  ⟨(some 24), .pick (.t 20) (.c (.one (.sc (.bool true)))) (.t 23), none⟩,
  ⟨(some 25), .mv (.t 24), none⟩,
  ⟨(some 26), .mv (.t 3), (some (some 25, false))⟩,
  ⟨(some 27), .un .not (.t 26), (some (some 25, false))⟩,
  ⟨(some 28), .mv (.t 27), (some (some 25, false))⟩,
  ⟨(some 29), .fadr 0 (.t 5), (some (some 28, true))⟩,
  ⟨(some 30), .load1 (.t 29), (some (some 28, true))⟩,
  ⟨(some 31), .bin .neq (.t 30) (.c (.one (.sc (.int .i64 1)))), (some (some 28, true))⟩,
  ⟨(some 32), .pick (.t 28) (.t 31) (.c (.one (.sc (.bool false)))), (some (some 25, false))⟩,
  ⟨(some 33), .pick (.t 25) (.c (.one (.sc (.bool true)))) (.t 32), none⟩]
def r14_8 : List SOper := [
  ⟨(some 2), .mv (.c (.one (.sc (.int .i64 33)))), none⟩]
def r14_9 : List SOper := [
  ⟨(some 34), .fadr 1 (.t 5), none⟩,
  ⟨(some 35), .loadA 6 (.t 34), none⟩,
  ⟨(some 36), .mv (.c (.one (.sc (.int .i64 0)))), none⟩]
def r14_10 : List SOper := [
  ⟨(some 37), .bin .lss (.t 36) (.c (.one (.sc (.int .i64 3)))), none⟩]
def r14_11 : List SOper := [
  ⟨(some 38), .mv (.t 36), none⟩,
  ⟨(some 39), .idxA 3 2 true (.t 35) (.t 36), none⟩,
  ⟨(some 7), .alloc [.sc (.int .i64 0), .sc (.int .i64 0)], none⟩,
  ⟨(some 6), .mv (.t 38), none⟩,
  ⟨none, .store 2 (.t 7) (.t 39), none⟩]
def r14_12 : List SOper := [
  ⟨(some 40), .mv (.t 6), none⟩,
  ⟨(some 41), .fadr 0 (.t 5), none⟩,
  ⟨(some 42), .load1 (.t 41), none⟩,
  ⟨(some 43), .call .t 15 [(.t 42)], none⟩,
  ⟨(some 44), .bin .geq (.t 40) (.t 43), none⟩,
  ⟨(some 45), .mv (.t 44), none⟩,
  ⟨(some 46), .loadA 2 (.t 7), (some (some 45, true))⟩,
  ⟨(some 47), .build [.sc (.int .i64 0), .sc (.int .i64 0)] [], (some (some 45, true))⟩,
  ⟨(some 48), .eqv [.i, .i] true (.t 46) (.t 47), (some (some 45, true))⟩,
  ⟨(some 49), .pick (.t 45) (.t 48) (.c (.one (.sc (.bool false)))), none⟩]
def r14_13 : List SOper := [
  ⟨(some 2), .mv (.c (.one (.sc (.int .i64 33)))), none⟩]
def r14_14 : List SOper := [
  ⟨(some 50), .bin .add (.t 36) (.c (.one (.sc (.int .i64 1)))), none⟩,
  ⟨(some 36), .mv (.t 50), none⟩]
def l14_0 : SC := (.seq (.reg r14_10) (.seq (.cond (.t 37) .skip (.exit 2)) (.seq (.block 3 (.seq (.reg r14_11) (.seq (.reg r14_12) (.cond (.t 49) (.seq (.reg r14_13) .ret) .skip)))) (.reg r14_14))))
def r14_15 : List SOper := [
  ⟨(some 51), .call .k 35 [(.t 5)], none⟩,
  ⟨(some 52), .call .q 38 [(.t 51), (.f 39)], none⟩]
def r14_16 : List SOper := [
  ⟨(some 2), .mv (.c (.one (.sc (.int .i64 30)))), none⟩]
def r14_17 : List SOper := [
  ⟨(some 53), .fadr 0 (.t 5), none⟩,
  ⟨(some 54), .load1 (.t 53), none⟩,
  ⟨(some 55), .bin .neq (.t 54) (.c (.one (.sc (.int .i64 5)))), none⟩,
  ⟨(some 3), .mv (.t 55), none⟩]
def r14_18 : List SOper := [
  ⟨(some 56), .bin .add (.t 13) (.c (.one (.sc (.int .i64 1)))), none⟩,
  ⟨(some 13), .mv (.t 56), none⟩]
def l14_1 : SC := (.seq (.reg r14_5) (.seq (.cond (.t 14) .skip (.exit 0)) (.seq (.block 1 (.seq (.reg r14_6) (.seq (.seq (.reg r14_7) (.cond (.t 33) (.seq (.reg r14_8) .ret) .skip)) (.seq (.seq (.reg r14_9) (.block 2 (.loop l14_0))) (.seq (.seq (.reg r14_15) (.cond (.t 52) (.seq (.reg r14_16) .ret) .skip)) (.reg r14_17)))))) (.reg r14_18))))
def r14_19 : List SOper := [
  ⟨(some 2), .mv (.c (.one (.sc (.int .i64 0)))), none⟩]
def c14 : SC := (.seq (.reg r14_0) (.seq (.seq (.reg r14_1) (.cond (.t 10) (.seq (.reg r14_2) .ret) .skip)) (.seq (.reg r14_3) (.seq (.seq (.reg r14_4) (.block 0 (.loop l14_1))) (.seq (.reg r14_19) .ret)))))
/-- limner/path.Check -/
def F14 : SFun := ⟨57, c14, [.tmp 2]⟩

def r15_0 : List SOper := [
  ⟨(some 2), .mv (.c (.one (.sc (.int .i64 0)))), none⟩]
def r15_1 : List SOper := [
  ⟨(some 3), .mv (.t 0), none⟩,
  ⟨(some 4), .bin .lss (.t 3) (.c (.one (.sc (.int .i64 1)))), none⟩,
  ⟨(some 5), .mv (.t 4), none⟩,
  ⟨(some 6), .mv (.t 0), (some (some 5, false))⟩,
  ⟨(some 7), .bin .gtr (.t 6) (.c (.one (.sc (.int .i64 5)))), (some (some 5, false))⟩,
  ⟨(some 8), .pick (.t 5) (.c (.one (.sc (.bool true)))) (.t 7), none⟩]
def r15_2 : List SOper := [
  ⟨(some 2), .mv (.c (.one (.sc (.int .i64 0)))), none⟩]
def r15_3 : List SOper := [
  ⟨(some 9), .mv (.t 0), none⟩,
  ⟨(some 10), .iadrA 6 1 (.g 0) (.t 9), none⟩,
  ⟨(some 11), .load1 (.t 10), none⟩,
  ⟨(some 2), .mv (.t 11), none⟩]
def c15 : SC := (.seq (.reg r15_0) (.seq (.seq (.reg r15_1) (.cond (.t 8) (.seq (.reg r15_2) .ret) .skip)) (.seq (.reg r15_3) .ret)))
/-- limner/path.Need -/
def F15 : SFun := ⟨12, c15, [.tmp 2]⟩

def r16_0 : List SOper := [
  ⟨(some 2), .mv (.c (.one (.sc (.int .i64 0)))), none⟩]
def r16_1 : List SOper := [
  ⟨(some 3), .mv (.t 0), none⟩,
  ⟨(some 4), .bin .eql (.t 3) (.c (.one (.sc (.int .i64 1)))), none⟩,
  ⟨(some 5), .mv (.t 4), none⟩,
  ⟨(some 6), .mv (.t 0), (some (some 5, false))⟩,
  ⟨(some 7), .bin .eql (.t 6) (.c (.one (.sc (.int .i64 2)))), (some (some 5, false))⟩,
  ⟨(some 8), .pick (.t 5) (.c (.one (.sc (.bool true)))) (.t 7), none⟩]
def r16_2 : List SOper := [
  ⟨(some 2), .mv (.c (.one (.sc (.int .i64 1)))), none⟩]
def r16_3 : List SOper := [
  ⟨(some 9), .mv (.t 0), none⟩,
  ⟨(some 10), .bin .eql (.t 9) (.c (.one (.sc (.int .i64 3)))), none⟩]
def r16_4 : List SOper := [
  ⟨(some 2), .mv (.c (.one (.sc (.int .i64 2)))), none⟩]
def r16_5 : List SOper := [
  ⟨(some 11), .mv (.t 0), none⟩,
  ⟨(some 12), .bin .eql (.t 11) (.c (.one (.sc (.int .i64 4)))), none⟩]
def r16_6 : List SOper := [
  ⟨(some 2), .mv (.c (.one (.sc (.int .i64 3)))), none⟩]
def r16_7 : List SOper := [
  ⟨(some 2), .mv (.c (.one (.sc (.int .i64 0)))), none⟩]
def c16 : SC := (.seq (.reg r16_0) (.seq (.seq (.reg r16_1) (.cond (.t 8) (.seq (.reg r16_2) .ret) .skip)) (.seq (.seq (.reg r16_3) (.cond (.t 10) (.seq (.reg r16_4) .ret) .skip)) (.seq (.seq (.reg r16_5) (.cond (.t 12) (.seq (.reg r16_6) .ret) .skip)) (.seq (.reg r16_7) .ret)))))
/-- limner/limnerref06.Need -/
def F16 : SFun := ⟨13, c16, [.tmp 2]⟩

def r18_0 : List SOper := [
  ⟨(some 4), .mv (.c (.one (.sc (.slice none 0 0)))), none⟩,
  ⟨(some 5), .mv (.c (.one (.sc (.int .i64 0)))), none⟩]
def r18_1 : List SOper := [
  ⟨(some 14), .mv (.t 0), none⟩,
  ⟨(some 15), .mv (.t 1), none⟩,
  ⟨(some 16), .call .q 42 [(.t 14), (.t 15)], none⟩,
  ⟨(some 6), .mv (.t 16), none⟩]
def r18_2 : List SOper := [
  ⟨(some 18), .mv (.t 6), none⟩,
  ⟨(some 19), .bin .neq (.t 18) (.c (.one (.sc (.int .i64 0)))), none⟩,
  ⟨(some 17), .mv (.t 19), none⟩]
def r18_3 : List SOper := [
  ⟨(some 20), .mv (.t 6), none⟩,
  ⟨(some 4), .mv (.c (.one (.sc (.slice none 0 0)))), none⟩,
  ⟨(some 5), .mv (.t 20), none⟩]
def r18_4 : List SOper := [
  ⟨(some 22), .mv (.t 0), none⟩,
  ⟨(some 23), .mv (.t 1), none⟩,
  ⟨(some 24), .iadrS 7 (.t 22) (.t 23), none⟩,
  ⟨(some 25), .fadr 0 (.t 24), none⟩,
  ⟨(some 26), .load1 (.t 25), none⟩,
  ⟨(some 27), .bin .eql (.t 26) (.c (.one (.sc (.int .i64 1)))), none⟩,
  ⟨(some 28), .mv (.t 27), none⟩,
  ⟨(some 29), .mv (.t 0), (some (some 28, false))⟩,
  ⟨(some 30), .mv (.t 1), (some (some 28, false))⟩,
  ⟨(some 31), .iadrS 7 (.t 29) (.t 30), (some (some 28, false))⟩,
  ⟨(some 32), .fadr 0 (.t 31), (some (some 28, false))⟩,
  ⟨(some 33), .load1 (.t 32), (some (some 28, false))⟩,
  ⟨(some 34), .bin .eql (.t 33) (.c (.one (.sc (.int .i64 5)))), (some (some 28, false))⟩,
  ⟨(some 35), .pick (.t 28) (.c (.one (.sc (.bool true)))) (.t 34), none⟩,
  ⟨(some 21), .mv (.t 35), none⟩]
def r18_5 : List SOper := [
  ⟨(some 4), .mv (.c (.one (.sc (.slice none 0 0)))), none⟩,
  ⟨(some 5), .mv (.c (.one (.sc (.int .i64 33)))), none⟩]
def r18_6 : List SOper := [
  ⟨(some 37), .mv (.t 0), none⟩,
  ⟨(some 38), .len (.t 37), none⟩,
  ⟨(some 39), .bin .eql (.t 38) (.c (.one (.sc (.int .i64 4096)))), none⟩,
  ⟨(some 36), .mv (.t 39), none⟩]
def r18_7 : List SOper := [
  ⟨(some 4), .mv (.c (.one (.sc (.slice none 0 0)))), none⟩,
  ⟨(some 5), .mv (.c (.one (.sc (.int .i64 36)))), none⟩]
def r18_8 : List SOper := [
  ⟨(some 40), .mv (.t 0), none⟩,
  ⟨(some 41), .mv (.t 1), none⟩,
  ⟨(some 42), .iadrS 7 (.t 40) (.t 41), none⟩,
  ⟨(some 43), .loadA 7 (.t 42), none⟩,
  ⟨(some 7), .alloc [.sc (.int .i64 0), .sc (.int .i64 0), .sc (.int .i64 0), .sc (.int .i64 0), .sc (.int .i64 0), .sc (.int .i64 0), .sc (.int .i64 0)], none⟩,
  ⟨none, .store 7 (.t 7) (.t 43), none⟩]
def r18_9 : List SOper := [
  ⟨(some 44), .mv (.t 0), none⟩,
  ⟨(some 45), .mv (.t 1), none⟩,
  ⟨(some 46), .bin .sub (.t 45) (.c (.one (.sc (.int .i64 1)))), none⟩,
  ⟨(some 47), .mv (.t 0), none⟩,
  ⟨(some 48), .mv (.t 1), none⟩,
  ⟨(some 49), .bin .sub (.t 48) (.c (.one (.sc (.int .i64 1)))), none⟩,
  ⟨(some 50), .iadrS 7 (.t 47) (.t 49), none⟩,
  ⟨(some 51), .fadr 0 (.t 50), none⟩,
  ⟨(some 52), .load1 (.t 51), none⟩,
  ⟨(some 53), .call .t 15 [(.t 52)], none⟩,
  ⟨(some 54), .bin .sub (.t 53) (.c (.one (.sc (.int .i64 1)))), none⟩,
  ⟨(some 55), .iadrS 7 (.t 44) (.t 46), none⟩,
  ⟨(some 56), .fadr 1 (.t 55), none⟩,
  ⟨(some 57), .iadrA 3 2 (.t 56) (.t 54), none⟩,
  ⟨(some 58), .loadA 2 (.t 57), none⟩,
  ⟨(some 8), .alloc [.sc (.int .i64 0), .sc (.int .i64 0)], none⟩,
  ⟨none, .store 2 (.t 8) (.t 58), none⟩]
def r18_10 : List SOper := [
  ⟨(some 59), .loadA 7 (.t 7), none⟩,
  ⟨(some 60), .loadA 7 (.t 7), none⟩,
  ⟨(some 9), .alloc [.sc (.int .i64 0), .sc (.int .i64 0), .sc (.int .i64 0), .sc (.int .i64 0), .sc (.int .i64 0), .sc (.int .i64 0), .sc (.int .i64 0)], none⟩,
  ⟨(some 10), .alloc [.sc (.int .i64 0), .sc (.int .i64 0), .sc (.int .i64 0), .sc (.int .i64 0), .sc (.int .i64 0), .sc (.int .i64 0), .sc (.int .i64 0)], none⟩,
  ⟨none, .store 7 (.t 9) (.t 59), none⟩,
  ⟨none, .store 7 (.t 10) (.t 60), none⟩]
def r18_11 : List SOper := [
  ⟨(some 61), .fadr 0 (.t 7), none⟩,
  ⟨(some 62), .load1 (.t 61), none⟩,
  ⟨(some 63), .bin .eql (.t 62) (.c (.one (.sc (.int .i64 2)))), none⟩]
def r18_12 : List SOper := [
  ⟨(some 64), .loadA 2 (.t 8), none⟩,
  ⟨(some 65), .fadr 1 (.t 7), none⟩,
  ⟨(some 66), .iadrA 3 2 (.t 65) (.c (.one (.sc (.int .i64 0)))), none⟩,
  ⟨(some 67), .loadA 2 (.t 66), none⟩,
  ⟨(some 68), .call (.z 1) 43 [(.t 64), (.t 67)], none⟩,
  ⟨(some 69), .fadr 1 (.t 9), none⟩,
  ⟨(some 70), .iadrA 3 2 (.t 69) (.c (.one (.sc (.int .i64 0)))), none⟩,
  ⟨none, .store 2 (.t 70) (.t 68), none⟩]
def r18_13 : List SOper := [
  ⟨(some 72), .loadA 2 (.t 8), none⟩,
  ⟨(some 73), .bslice [.sc (.int .i64 0), .sc (.int .i64 0)] 1 2 [(0, 2, (.t 72))], none⟩,
  ⟨(some 74), .call .k 35 [(.t 7)], none⟩,
  ⟨(some 75), .app 2 16 (.t 73) (.t 74), none⟩,
  ⟨(some 76), .call .k 44 [(.t 75)], none⟩,
  ⟨(some 71), .mv (.t 76), none⟩,
  ⟨(some 77), .ext (.t 71) 0, none⟩,
  ⟨(some 78), .ext (.t 71) 1, none⟩,
  ⟨(some 79), .ext (.t 71) 2, none⟩,
  ⟨(some 11), .mv (.t 77), none⟩,
  ⟨(some 12), .mv (.t 78), none⟩,
  ⟨(some 13), .mv (.t 79), none⟩]
def r18_14 : List SOper := [
  ⟨(some 80), .fadr 1 (.t 9), none⟩,
  ⟨(some 81), .slA 3 2 (.t 80) none none none, none⟩,
  ⟨(some 82), .mv (.t 11), none⟩,
  ⟨(some 83), .slS 2 (.t 82) (some (.c (.one (.sc (.int .i64 1))))) none none, none⟩,
  ⟨(some 84), .cpy 2 (.t 81) (.t 83), none⟩]
def r18_15 : List SOper := [
  ⟨(some 85), .fadr 1 (.t 10), none⟩,
  ⟨(some 86), .slA 3 2 (.t 85) none none none, none⟩,
  ⟨(some 87), .mv (.t 12), none⟩,
  ⟨(some 88), .slS 2 (.t 87) (some (.c (.one (.sc (.int .i64 1))))) none none, none⟩,
  ⟨(some 89), .cpy 2 (.t 86) (.t 88), none⟩]
def r18_16 : List SOper := [
  ⟨(some 90), .mv (.t 0), none⟩,
  ⟨(some 91), .mv (.t 1), none⟩,
  ⟨(some 92), .slS 7 (.t 90) none (some (.t 91)) none, none⟩,
  ⟨(some 93), .loadA 7 (.t 9), none⟩,
  ⟨(some 94), .loadA 7 (.t 10), none⟩,
  ⟨(some 95), .bslice (List.replicate 14 (.sc (.int .i64 0))) 2 7 [(0, 7, (.t 93)), (7, 7, (.t 94))], none⟩,
  ⟨(some 96), .mv (.t 0), none⟩,
  ⟨(some 97), .mv (.t 1), none⟩,
  ⟨(some 98), .bin .add (.t 97) (.c (.one (.sc (.int .i64 1)))), none⟩,
  ⟨(some 99), .slS 7 (.t 96) (some (.t 98)) none none, none⟩,
  ⟨(some 100), .bslice [.sc (.slice none 0 0), .sc (.slice none 0 0), .sc (.slice none 0 0)] 3 1 [(0, 1, (.t 92)), (1, 1, (.t 95)), (2, 1, (.t 99))], none⟩,
  ⟨(some 101), .call .k 45 [(.t 100)], none⟩,
  ⟨(some 4), .mv (.t 101), none⟩,
  ⟨(some 5), .mv (.c (.one (.sc (.int .i64 0)))), none⟩]
def c18 : SC := (.seq (.reg r18_0) (.seq (.seq (.reg r18_1) (.block 0 (.seq (.reg r18_2) (.cond (.t 17) (.seq (.reg r18_3) .ret) (.seq (.reg r18_4) (.cond (.t 21) (.seq (.reg r18_5) .ret) (.seq (.reg r18_6) (.cond (.t 36) (.seq (.reg r18_7) .ret) .skip)))))))) (.seq (.reg r18_8) (.seq (.pureg 9 15 [(.t 52)] [44, 45, 46, 47, 48, 49, 50, 51, 52, 53, 54, 55, 56, 57, 58] [] r18_9) (.seq (.reg r18_10) (.seq (.seq (.reg r18_11) (.cond (.t 63) (.reg r18_12) (.seq (.preg 2 35 [(.t 7)] [] r18_13) (.seq (.reg r18_14) (.reg r18_15))))) (.seq (.reg r18_16) .ret)))))))
/-- limner/path.Split -/
def F18 : SFun := ⟨102, c18, [.tmp 4, .tmp 5]⟩

def r19_0 : List SOper := [
  ⟨(some 4), .alloc [.sc (.int .i64 0), .sc (.int .i64 0), .sc (.int .i64 0), .sc (.int .i64 0), .sc (.int .i64 0), .sc (.int .i64 0), .sc (.int .i64 0)], none⟩,
  ⟨(some 5), .alloc [.sc (.int .i64 0), .sc (.int .i64 0), .sc (.int .i64 0), .sc (.int .i64 0), .sc (.int .i64 0), .sc (.int .i64 0), .sc (.int .i64 0)], none⟩]
def r19_1 : List SOper := [
  ⟨(some 15), .mv (.t 0), none⟩,
  ⟨(some 16), .mv (.t 1), none⟩,
  ⟨(some 17), .iadrS 7 (.t 15) (.t 16), none⟩,
  ⟨(some 18), .loadA 7 (.t 17), none⟩,
  ⟨(some 19), .mv (.t 0), none⟩,
  ⟨(some 20), .mv (.t 1), none⟩,
  ⟨(some 21), .call .q 22 [(.t 19), (.t 20)], none⟩,
  ⟨(some 6), .alloc [.sc (.int .i64 0), .sc (.int .i64 0), .sc (.int .i64 0), .sc (.int .i64 0), .sc (.int .i64 0), .sc (.int .i64 0), .sc (.int .i64 0)], none⟩,
  ⟨(some 7), .alloc [.sc (.int .i64 0), .sc (.int .i64 0)], none⟩,
  ⟨none, .store 7 (.t 6) (.t 18), none⟩,
  ⟨none, .store 2 (.t 7) (.t 21), none⟩]
def r19_2 : List SOper := [
  ⟨(some 22), .loadA 7 (.t 6), none⟩,
  ⟨(some 23), .loadA 7 (.t 6), none⟩,
  ⟨(some 8), .alloc [.sc (.int .i64 0), .sc (.int .i64 0), .sc (.int .i64 0), .sc (.int .i64 0), .sc (.int .i64 0), .sc (.int .i64 0), .sc (.int .i64 0)], none⟩,
  ⟨(some 9), .alloc [.sc (.int .i64 0), .sc (.int .i64 0), .sc (.int .i64 0), .sc (.int .i64 0), .sc (.int .i64 0), .sc (.int .i64 0), .sc (.int .i64 0)], none⟩,
  ⟨none, .store 7 (.t 8) (.t 22), none⟩,
  ⟨none, .store 7 (.t 9) (.t 23), none⟩]
def r19_3 : List SOper := [
  ⟨(some 24), .fadr 0 (.t 6), none⟩,
  ⟨(some 25), .load1 (.t 24), none⟩,
  ⟨(some 26), .bin .eql (.t 25) (.c (.one (.sc (.int .i64 2)))), none⟩]
def r19_4 : List SOper := [
  ⟨(some 27), .loadA 2 (.t 7), none⟩,
  ⟨(some 28), .fadr 1 (.t 6), none⟩,
  ⟨(some 29), .iadrA 3 2 (.t 28) (.c (.one (.sc (.int .i64 0)))), none⟩,
  ⟨(some 30), .loadA 2 (.t 29), none⟩,
  ⟨(some 31), .call (.z 1) 46 [(.t 27), (.t 30)], none⟩,
  ⟨(some 32), .fadr 1 (.t 8), none⟩,
  ⟨(some 33), .iadrA 3 2 (.t 32) (.c (.one (.sc (.int .i64 0)))), none⟩,
  ⟨none, .store 2 (.t 33) (.t 31), none⟩]
def r19_5 : List SOper := [
  ⟨(some 34), .loadA 7 (.t 8), none⟩,
  ⟨(some 35), .loadA 7 (.t 9), none⟩,
  ⟨none, .store 7 (.t 4) (.t 34), none⟩,
  ⟨none, .store 7 (.t 5) (.t 35), none⟩]
def r19_6 : List SOper := [
  ⟨(some 36), .loadA 2 (.t 7), none⟩,
  ⟨(some 37), .bslice [.sc (.int .i64 0), .sc (.int .i64 0)] 1 2 [(0, 2, (.t 36))], none⟩,
  ⟨(some 10), .mv (.t 37), none⟩]
def r19_7 : List SOper := [
  ⟨(some 11), .mv (.c (.one (.sc (.int .i64 0)))), none⟩]
def r19_8 : List SOper := [
  ⟨(some 38), .mv (.t 11), none⟩,
  ⟨(some 39), .fadr 0 (.t 6), none⟩,
  ⟨(some 40), .load1 (.t 39), none⟩,
  ⟨(some 41), .call (.z 1) 16 [(.t 40)], none⟩,
  ⟨(some 42), .bin .lss (.t 38) (.t 41), none⟩]
def r19_10 : List SOper := [
  ⟨(some 45), .mv (.t 10), none⟩,
  ⟨(some 46), .mv (.t 11), none⟩,
  ⟨(some 47), .fadr 1 (.t 6), none⟩,
  ⟨(some 48), .iadrA 3 2 (.t 47) (.t 46), none⟩,
  ⟨(some 49), .loadA 2 (.t 48), none⟩,
  ⟨(some 50), .bslice [.sc (.int .i64 0), .sc (.int .i64 0)] 1 2 [(0, 2, (.t 49))], none⟩,
  ⟨(some 51), .app 2 16 (.t 45) (.t 50), none⟩,
  ⟨(some 10), .mv (.t 51), none⟩]
def r19_9 : List SOper := [
  ⟨(some 43), .mv (.t 11), none⟩,
  ⟨(some 44), .bin .add (.t 43) (.c (.one (.sc (.int .i64 1)))), none⟩,
  ⟨(some 11), .mv (.t 44), none⟩]
def l19_0 : SC := (.seq (.seq (.reg r19_8) (.cond (.t 42) .skip (.exit 0))) (.seq (.block 1 (.reg r19_10)) (.reg r19_9)))
def r19_11 : List SOper := [
  ⟨(some 53), .mv (.t 10), none⟩,
  ⟨(some 54), .call .k 47 [(.t 53)], none⟩,
  ⟨(some 52), .mv (.t 54), none⟩,
  ⟨(some 55), .ext (.t 52) 0, none⟩,
  ⟨(some 56), .ext (.t 52) 1, none⟩,
  ⟨(some 12), .mv (.t 55), none⟩,
  ⟨(some 13), .mv (.t 56), none⟩]
def r19_12 : List SOper := [
  ⟨(some 14), .mv (.c (.one (.sc (.int .i64 1)))), none⟩]
def r19_13 : List SOper := [
  ⟨(some 57), .mv (.t 14), none⟩,
  ⟨(some 58), .mv (.t 10), none⟩,
  ⟨(some 59), .len (.t 58), none⟩,
  ⟨(some 60), .bin .lss (.t 57) (.t 59), none⟩]
def r19_15 : List SOper := [
  ⟨(some 63), .mv (.t 14), none⟩,
  ⟨(some 64), .bin .sub (.t 63) (.c (.one (.sc (.int .i64 1)))), none⟩,
  ⟨(some 65), .mv (.t 12), none⟩,
  ⟨(some 66), .mv (.t 14), none⟩,
  ⟨(some 67), .iadrS 2 (.t 65) (.t 66), none⟩,
  ⟨(some 68), .loadA 2 (.t 67), none⟩,
  ⟨(some 69), .fadr 1 (.t 8), none⟩,
  ⟨(some 70), .iadrA 3 2 (.t 69) (.t 64), none⟩,
  ⟨none, .store 2 (.t 70) (.t 68), none⟩]
def r19_16 : List SOper := [
  ⟨(some 71), .mv (.t 14), none⟩,
  ⟨(some 72), .bin .sub (.t 71) (.c (.one (.sc (.int .i64 1)))), none⟩,
  ⟨(some 73), .mv (.t 13), none⟩,
  ⟨(some 74), .mv (.t 14), none⟩,
  ⟨(some 75), .iadrS 2 (.t 73) (.t 74), none⟩,
  ⟨(some 76), .loadA 2 (.t 75), none⟩,
  ⟨(some 77), .fadr 1 (.t 9), none⟩,
  ⟨(some 78), .iadrA 3 2 (.t 77) (.t 72), none⟩,
  ⟨none, .store 2 (.t 78) (.t 76), none⟩]
def r19_14 : List SOper := [
  ⟨(some 61), .mv (.t 14), none⟩,
  ⟨(some 62), .bin .add (.t 61) (.c (.one (.sc (.int .i64 1)))), none⟩,
  ⟨(some 14), .mv (.t 62), none⟩]
def l19_1 : SC := (.seq (.seq (.reg r19_13) (.cond (.t 60) .skip (.exit 2))) (.seq (.block 3 (.seq (.reg r19_15) (.reg r19_16))) (.reg r19_14)))
def r19_17 : List SOper := [
  ⟨(some 79), .loadA 7 (.t 8), none⟩,
  ⟨(some 80), .loadA 7 (.t 9), none⟩,
  ⟨none, .store 7 (.t 4) (.t 79), none⟩,
  ⟨none, .store 7 (.t 5) (.t 80), none⟩]
def c19 : SC := (.seq (.reg r19_0) (.seq (.pureg 6 22 [(.t 19), (.t 20)] [15, 16, 17, 18, 19, 20, 21] [] r19_1) (.seq (.ureg [22, 23] [(6, 8)] r19_2) (.seq (.seq (.reg r19_3) (.cond (.t 26) (.seq (.reg r19_4) (.seq (.dreg [(9, 4)] r19_5) .ret)) .skip)) (.seq (.reg r19_6) (.seq (.seq (.reg r19_7) (.block 0 (.loop l19_0))) (.seq (.reg r19_11) (.seq (.seq (.reg r19_12) (.block 2 (.loop l19_1))) (.seq (.dreg [(9, 4)] r19_17) .ret)))))))))
/-- limner/limnerref06.Parts -/
def F19 : SFun := ⟨81, c19, [.cellA 4 7, .cellA 5 7]⟩

def r20_0 : List SOper := [
  ⟨(some 6), .mv (.c (.one (.sc (.bool false)))), none⟩]
def r20_1 : List SOper := [
  ⟨(some 8), .mv (.t 2), none⟩,
  ⟨(some 9), .call .q 11 [(.t 8)], none⟩,
  ⟨(some 7), .mv (.t 9), none⟩]
def r20_2 : List SOper := [
  ⟨(some 10), .mv (.t 7), none⟩,
  ⟨(some 11), .bin .neq (.t 10) (.c (.one (.sc (.int .i64 0)))), none⟩]
def r20_3 : List SOper := [
  ⟨(some 12), .mv (.t 1), none⟩,
  ⟨(some 13), .mv (.t 7), none⟩,
  ⟨(some 14), .bin .eql (.t 12) (.t 13), none⟩,
  ⟨(some 15), .mv (.t 14), none⟩,
  ⟨(some 16), .mv (.t 0), (some (some 15, true))⟩,
  ⟨(some 17), .len (.t 16), (some (some 15, true))⟩,
  ⟨(some 18), .bin .eql (.t 17) (.c (.one (.sc (.int .i64 0)))), (some (some 15, true))⟩,
  ⟨(some 19), .pick (.t 15) (.t 18) (.c (.one (.sc (.bool false)))), none⟩,
  ⟨(some 6), .mv (.t 19), none⟩]
def r20_4 : List SOper := [
  ⟨(some 20), .mv (.t 1), none⟩,
  ⟨(some 21), .bin .eql (.t 20) (.c (.one (.sc (.int .i64 0)))), none⟩,
  ⟨(some 22), .mv (.t 21), none⟩,
  ⟨(some 23), .mv (.t 0), (some (some 22, true))⟩,
  ⟨(some 24), .mv (.t 2), (some (some 22, true))⟩,
  ⟨(some 25), .call .q 28 [(.t 23), (.t 24)], (some (some 22, true))⟩,
  ⟨(some 26), .pick (.t 22) (.t 25) (.c (.one (.sc (.bool false)))), none⟩,
  ⟨(some 6), .mv (.t 26), none⟩]
def c20 : SC := (.seq (.reg r20_0) (.seq (.reg r20_1) (.seq (.seq (.reg r20_2) (.cond (.t 11) (.seq (.reg r20_3) .ret) .skip)) (.seq (.reg r20_4) .ret))))
/-- limner/limnerlaw06.is -/
def F20 : SFun := ⟨27, c20, [.tmp 6]⟩

def r21_0 : List SOper := [
  ⟨(some 8), .mv (.c (.one (.sc (.slice none 0 0)))), none⟩]
def r21_1 : List SOper := [
  ⟨(some 9), .mv (.c (.one (.sc (.slice none 0 0)))), none⟩]
def r21_2 : List SOper := [
  ⟨(some 10), .mv (.c (.one (.sc (.int .i64 0)))), none⟩]
def r21_3 : List SOper := [
  ⟨(some 12), .mv (.t 10), none⟩,
  ⟨(some 13), .mv (.t 1), none⟩,
  ⟨(some 14), .bin .lss (.t 12) (.t 13), none⟩]
def r21_5 : List SOper := [
  ⟨(some 17), .mv (.t 9), none⟩,
  ⟨(some 18), .mv (.t 0), none⟩,
  ⟨(some 19), .mv (.t 10), none⟩,
  ⟨(some 20), .iadrS 7 (.t 18) (.t 19), none⟩,
  ⟨(some 21), .loadA 7 (.t 20), none⟩,
  ⟨(some 22), .bslice [.sc (.int .i64 0), .sc (.int .i64 0), .sc (.int .i64 0), .sc (.int .i64 0), .sc (.int .i64 0), .sc (.int .i64 0), .sc (.int .i64 0)] 1 7 [(0, 7, (.t 21))], none⟩,
  ⟨(some 23), .app 7 56 (.t 17) (.t 22), none⟩,
  ⟨(some 9), .mv (.t 23), none⟩]
def r21_4 : List SOper := [
  ⟨(some 15), .mv (.t 10), none⟩,
  ⟨(some 16), .bin .add (.t 15) (.c (.one (.sc (.int .i64 1)))), none⟩,
  ⟨(some 10), .mv (.t 16), none⟩]
def l21_0 : SC := (.seq (.seq (.reg r21_3) (.cond (.t 14) .skip (.exit 0))) (.seq (.block 1 (.reg r21_5)) (.reg r21_4)))
def r21_6 : List SOper := [
  ⟨(some 24), .mv (.t 9), none⟩,
  ⟨(some 25), .mv (.t 3), none⟩,
  ⟨(some 26), .app 7 56 (.t 24) (.t 25), none⟩,
  ⟨(some 9), .mv (.t 26), none⟩]
def r21_7 : List SOper := [
  ⟨(some 27), .mv (.t 1), none⟩,
  ⟨(some 28), .mv (.t 2), none⟩,
  ⟨(some 29), .bin .add (.t 27) (.t 28), none⟩,
  ⟨(some 11), .mv (.t 29), none⟩]
def r21_8 : List SOper := [
  ⟨(some 30), .mv (.t 11), none⟩,
  ⟨(some 31), .mv (.t 0), none⟩,
  ⟨(some 32), .len (.t 31), none⟩,
  ⟨(some 33), .bin .lss (.t 30) (.t 32), none⟩]
def r21_10 : List SOper := [
  ⟨(some 36), .mv (.t 9), none⟩,
  ⟨(some 37), .mv (.t 0), none⟩,
  ⟨(some 38), .mv (.t 11), none⟩,
  ⟨(some 39), .iadrS 7 (.t 37) (.t 38), none⟩,
  ⟨(some 40), .loadA 7 (.t 39), none⟩,
  ⟨(some 41), .bslice [.sc (.int .i64 0), .sc (.int .i64 0), .sc (.int .i64 0), .sc (.int .i64 0), .sc (.int .i64 0), .sc (.int .i64 0), .sc (.int .i64 0)] 1 7 [(0, 7, (.t 40))], none⟩,
  ⟨(some 42), .app 7 56 (.t 36) (.t 41), none⟩,
  ⟨(some 9), .mv (.t 42), none⟩]
def r21_9 : List SOper := [
  ⟨(some 34), .mv (.t 11), none⟩,
  ⟨(some 35), .bin .add (.t 34) (.c (.one (.sc (.int .i64 1)))), none⟩,
  ⟨(some 11), .mv (.t 35), none⟩]
def l21_1 : SC := (.seq (.seq (.reg r21_8) (.cond (.t 33) .skip (.exit 2))) (.seq (.block 3 (.reg r21_10)) (.reg r21_9)))
def r21_11 : List SOper := [
  ⟨(some 43), .mv (.t 9), none⟩,
  ⟨(some 8), .mv (.t 43), none⟩]
def c21 : SC := (.seq (.reg r21_0) (.seq (.reg r21_1) (.seq (.seq (.reg r21_2) (.block 0 (.loop l21_0))) (.seq (.reg r21_6) (.seq (.seq (.reg r21_7) (.block 2 (.loop l21_1))) (.seq (.reg r21_11) .ret))))))
/-- limner/limnerref06.With -/
def F21 : SFun := ⟨44, c21, [.tmp 8]⟩

def r22_0 : List SOper := [
  ⟨(some 4), .alloc [.sc (.int .i64 0), .sc (.int .i64 0)], none⟩]
def r22_1 : List SOper := [
  ⟨(some 6), .mv (.t 0), none⟩,
  ⟨(some 7), .mv (.t 1), none⟩,
  ⟨(some 8), .bin .sub (.t 7) (.c (.one (.sc (.int .i64 1)))), none⟩,
  ⟨(some 9), .iadrS 7 (.t 6) (.t 8), none⟩,
  ⟨(some 10), .fadr 0 (.t 9), none⟩,
  ⟨(some 11), .load1 (.t 10), none⟩,
  ⟨(some 12), .call (.z 1) 16 [(.t 11)], none⟩,
  ⟨(some 5), .mv (.t 12), none⟩]
def r22_2 : List SOper := [
  ⟨(some 13), .mv (.t 0), none⟩,
  ⟨(some 14), .mv (.t 1), none⟩,
  ⟨(some 15), .bin .sub (.t 14) (.c (.one (.sc (.int .i64 1)))), none⟩,
  ⟨(some 16), .mv (.t 5), none⟩,
  ⟨(some 17), .bin .sub (.t 16) (.c (.one (.sc (.int .i64 1)))), none⟩,
  ⟨(some 18), .iadrS 7 (.t 13) (.t 15), none⟩,
  ⟨(some 19), .fadr 1 (.t 18), none⟩,
  ⟨(some 20), .iadrA 3 2 (.t 19) (.t 17), none⟩,
  ⟨(some 21), .loadA 2 (.t 20), none⟩,
  ⟨none, .store 2 (.t 4) (.t 21), none⟩]
def c22 : SC := (.seq (.reg r22_0) (.seq (.reg r22_1) (.seq (.reg r22_2) .ret)))
/-- limner/limnerref06.From -/
def F22 : SFun := ⟨22, c22, [.cellA 4 2]⟩

def r28_0 : List SOper := [
  ⟨(some 4), .mv (.c (.one (.sc (.bool false)))), none⟩]
def r28_1 : List SOper := [
  ⟨(some 7), .mv (.t 0), none⟩,
  ⟨(some 8), .call .k 12 [(.t 7)], none⟩,
  ⟨(some 5), .mv (.t 8), none⟩]
def r28_2 : List SOper := [
  ⟨(some 9), .mv (.t 1), none⟩,
  ⟨(some 10), .len (.t 9), none⟩,
  ⟨(some 11), .mv (.t 5), none⟩,
  ⟨(some 12), .len (.t 11), none⟩,
  ⟨(some 13), .bin .neq (.t 10) (.t 12), none⟩]
def r28_3 : List SOper := [
  ⟨(some 4), .mv (.c (.one (.sc (.bool false)))), none⟩]
def r28_4 : List SOper := [
  ⟨(some 14), .mv (.t 1), none⟩,
  ⟨(some 15), .len (.t 14), none⟩,
  ⟨(some 16), .mv (.c (.one (.sc (.int .i64 0)))), none⟩]
def r28_5 : List SOper := [
  ⟨(some 17), .bin .lss (.t 16) (.t 15), none⟩]
def r28_6 : List SOper := [
  ⟨(some 18), .mv (.t 16), none⟩,
  ⟨(some 6), .mv (.t 18), none⟩]
def r28_7 : List SOper := [
  ⟨(some 19), .mv (.t 1), none⟩,
  ⟨(some 20), .mv (.t 6), none⟩,
  ⟨(some 21), .iadrS 7 (.t 19) (.t 20), none⟩,
  ⟨(some 22), .loadA 7 (.t 21), none⟩,
  ⟨(some 23), .mv (.t 5), none⟩,
  ⟨(some 24), .mv (.t 6), none⟩,
  ⟨(some 25), .iadrS 7 (.t 23) (.t 24), none⟩,
  ⟨(some 26), .loadA 7 (.t 25), none⟩,
  ⟨(some 27), .eqv [.i, .i, .i, .i, .i, .i, .i] true (.t 22) (.t 26), none⟩]
def r28_8 : List SOper := [
  ⟨(some 4), .mv (.c (.one (.sc (.bool false)))), none⟩]
def r28_9 : List SOper := [
  ⟨(some 28), .bin .add (.t 16) (.c (.one (.sc (.int .i64 1)))), none⟩,
  ⟨(some 16), .mv (.t 28), none⟩]
def l28_0 : SC := (.seq (.reg r28_5) (.seq (.cond (.t 17) .skip (.exit 0)) (.seq (.block 1 (.seq (.reg r28_6) (.seq (.reg r28_7) (.cond (.t 27) (.seq (.reg r28_8) .ret) .skip)))) (.reg r28_9))))
def r28_10 : List SOper := [
  ⟨(some 4), .mv (.c (.one (.sc (.bool true)))), none⟩]
def c28 : SC := (.seq (.reg r28_0) (.seq (.reg r28_1) (.seq (.seq (.reg r28_2) (.cond (.t 13) (.seq (.reg r28_3) .ret) .skip)) (.seq (.seq (.reg r28_4) (.block 0 (.loop l28_0))) (.seq (.reg r28_10) .ret)))))
/-- limner/limnerlaw06.same -/
def F28 : SFun := ⟨29, c28, [.tmp 4]⟩

def r32_0 : List SOper := [
  ⟨(some 6), .alloc [.sc (.int .i64 0), .sc (.int .i64 0), .sc (.int .i64 0), .sc (.int .i64 0), .sc (.int .i64 0), .sc (.int .i64 0), .sc (.int .i64 0)], none⟩]
def r32_1 : List SOper := [
  ⟨(some 7), .mv (.t 0), none⟩,
  ⟨(some 8), .mv (.t 1), none⟩,
  ⟨(some 9), .mv (.t 2), none⟩,
  ⟨(some 10), .build [.sc (.int .i64 0), .sc (.int .i64 0)] [(0, 1, (.t 8)), (1, 1, (.t 9))], none⟩,
  ⟨(some 11), .build [.sc (.int .i64 0), .sc (.int .i64 0), .sc (.int .i64 0), .sc (.int .i64 0), .sc (.int .i64 0), .sc (.int .i64 0)] [(0, 2, (.t 10))], none⟩,
  ⟨(some 12), .build [.sc (.int .i64 0), .sc (.int .i64 0), .sc (.int .i64 0), .sc (.int .i64 0), .sc (.int .i64 0), .sc (.int .i64 0), .sc (.int .i64 0)] [(0, 1, (.t 7)), (1, 6, (.t 11))], none⟩,
  ⟨none, .store 7 (.t 6) (.t 12), none⟩]
def c32 : SC := (.seq (.reg r32_0) (.seq (.reg r32_1) .ret))
/-- limner/limnerlaw06.seg -/
def F32 : SFun := ⟨13, c32, [.cellA 6 7]⟩

def r33_0 : List SOper := [
  ⟨(some 1), .box (.t 0), none⟩,
  ⟨(some 2), .mv (.c (.one (.sc .nilFunc))), none⟩]
def r33_1 : List SOper := [
  ⟨(some 3), .mkfn 53 [(.t 1)], none⟩,
  ⟨(some 2), .mv (.t 3), none⟩]
def c33 : SC := (.seq (.reg r33_0) (.seq (.reg r33_1) .ret))
/-- limner/path.walk -/
def F33 : SFun := ⟨4, c33, [.tmp 2]⟩

def r34_0 : List SOper := [
  ⟨(some 4), .mv (.c (.one (.sc (.slice none 0 0)))), none⟩,
  ⟨(some 5), .mv (.c (.one (.sc (.int .i64 0)))), none⟩]
def r34_1 : List SOper := [
  ⟨(some 12), .mv (.t 0), none⟩,
  ⟨(some 13), .call .q 54 [(.t 12)], none⟩,
  ⟨(some 6), .mv (.t 13), none⟩]
def r34_2 : List SOper := [
  ⟨(some 14), .mv (.t 6), none⟩,
  ⟨(some 15), .bin .neq (.t 14) (.c (.one (.sc (.int .i64 0)))), none⟩]
def r34_3 : List SOper := [
  ⟨(some 16), .mv (.t 6), none⟩,
  ⟨(some 4), .mv (.c (.one (.sc (.slice none 0 0)))), none⟩,
  ⟨(some 5), .mv (.t 16), none⟩]
def r34_4 : List SOper := [
  ⟨(some 17), .mv (.t 1), none⟩,
  ⟨(some 18), .bin .lss (.t 17) (.c (.one (.sc (.int .i64 0)))), none⟩,
  ⟨(some 19), .mv (.t 18), none⟩,
  ⟨(some 20), .mv (.t 1), (some (some 19, false))⟩,
  ⟨(some 21), .bin .gtr (.t 20) (.c (.one (.sc (.int .i64 6)))), (some (some 19, false))⟩,
  ⟨(some 22), .pick (.t 19) (.c (.one (.sc (.bool true)))) (.t 21), none⟩]
def r34_5 : List SOper := [
  ⟨(some 4), .mv (.c (.one (.sc (.slice none 0 0)))), none⟩,
  ⟨(some 5), .mv (.c (.one (.sc (.int .i64 30)))), none⟩]
def r34_6 : List SOper := [
  ⟨(some 7), .mv (.c (.one (.sc (.slice none 0 0)))), none⟩]
def r34_7 : List SOper := [
  ⟨(some 23), .mv (.t 0), none⟩,
  ⟨(some 24), .call .q 55 [(.t 23)], none⟩,
  ⟨(some 25), .mv (.t 1), none⟩,
  ⟨(some 26), .build (List.replicate 10 (.sc (.int .i64 0))) [(0, 9, (.t 24)), (9, 1, (.t 25))], none⟩,
  ⟨(some 27), .bslice (List.replicate 10 (.sc (.int .i64 0))) 1 10 [(0, 10, (.t 26))], none⟩,
  ⟨(some 8), .mv (.t 27), none⟩]
def r34_8 : List SOper := [
  ⟨(some 28), .mv (.t 8), none⟩,
  ⟨(some 29), .len (.t 28), none⟩,
  ⟨(some 30), .bin .gtr (.t 29) (.c (.one (.sc (.int .i64 0)))), none⟩]
def r34_9 : List SOper := [
  ⟨(some 31), .mv (.t 8), none⟩,
  ⟨(some 32), .mv (.t 8), none⟩,
  ⟨(some 33), .len (.t 32), none⟩,
  ⟨(some 34), .bin .sub (.t 33) (.c (.one (.sc (.int .i64 1)))), none⟩,
  ⟨(some 35), .iadrS 10 (.t 31) (.t 34), none⟩,
  ⟨(some 36), .loadA 10 (.t 35), none⟩,
  ⟨(some 9), .alloc (List.replicate 10 (.sc (.int .i64 0))), none⟩,
  ⟨none, .store 10 (.t 9) (.t 36), none⟩]
def r34_10 : List SOper := [
  ⟨(some 37), .mv (.t 8), none⟩,
  ⟨(some 38), .mv (.t 8), none⟩,
  ⟨(some 39), .len (.t 38), none⟩,
  ⟨(some 40), .bin .sub (.t 39) (.c (.one (.sc (.int .i64 1)))), none⟩,
  ⟨(some 41), .slS 10 (.t 37) none (some (.t 40)) none, none⟩,
  ⟨(some 8), .mv (.t 41), none⟩]
def r34_11 : List SOper := [
  ⟨(some 42), .fadr 9 (.t 9), none⟩,
  ⟨(some 43), .load1 (.t 42), none⟩,
  ⟨(some 44), .bin .eql (.t 43) (.c (.one (.sc (.int .i64 0)))), none⟩]
def r34_12 : List SOper := [
  ⟨(some 45), .mv (.t 7), none⟩,
  ⟨(some 46), .fadr 0 (.t 9), none⟩,
  ⟨(some 47), .fadr 8 (.t 46), none⟩,
  ⟨(some 48), .load1 (.t 47), none⟩,
  ⟨(some 49), .bin .sub (.t 48) (.c (.one (.sc (.int .i64 1)))), none⟩,
  ⟨(some 50), .fadr 0 (.t 9), none⟩,
  ⟨(some 51), .fadr 0 (.t 50), none⟩,
  ⟨(some 52), .iadrA 4 2 (.t 51) (.t 49), none⟩,
  ⟨(some 53), .loadA 2 (.t 52), none⟩,
  ⟨(some 54), .bslice [.sc (.int .i64 0), .sc (.int .i64 0)] 1 2 [(0, 2, (.t 53))], none⟩,
  ⟨(some 55), .app 2 16 (.t 45) (.t 54), none⟩,
  ⟨(some 7), .mv (.t 55), none⟩]
def r34_13 : List SOper := [
  ⟨(some 57), .fadr 0 (.t 9), none⟩,
  ⟨(some 58), .loadA 9 (.t 57), none⟩,
  ⟨(some 59), .call (.z 1) 56 [(.t 58)], none⟩,
  ⟨(some 56), .mv (.t 59), none⟩,
  ⟨(some 60), .ext (.t 56) 0, none⟩,
  ⟨(some 61), .ext (.t 56) 1, none⟩,
  ⟨(some 10), .alloc (List.replicate 9 (.sc (.int .i64 0))), none⟩,
  ⟨(some 11), .alloc (List.replicate 9 (.sc (.int .i64 0))), none⟩,
  ⟨none, .store 9 (.t 10) (.t 60), none⟩,
  ⟨none, .store 9 (.t 11) (.t 61), none⟩]
def r34_14 : List SOper := [
  ⟨(some 62), .mv (.t 8), none⟩,
  ⟨(some 63), .loadA 9 (.t 11), none⟩,
  ⟨(some 64), .fadr 9 (.t 9), none⟩,
  ⟨(some 65), .load1 (.t 64), none⟩,
  ⟨(some 66), .bin .sub (.t 65) (.c (.one (.sc (.int .i64 1)))), none⟩,
  ⟨(some 67), .build (List.replicate 10 (.sc (.int .i64 0))) [(0, 9, (.t 63)), (9, 1, (.t 66))], none⟩,
  ⟨(some 68), .loadA 9 (.t 10), none⟩,
  ⟨(some 69), .fadr 9 (.t 9), none⟩,
  ⟨(some 70), .load1 (.t 69), none⟩,
  ⟨(some 71), .bin .sub (.t 70) (.c (.one (.sc (.int .i64 1)))), none⟩,
  ⟨(some 72), .build (List.replicate 10 (.sc (.int .i64 0))) [(0, 9, (.t 68)), (9, 1, (.t 71))], none⟩,
  ⟨(some 73), .bslice (List.replicate 20 (.sc (.int .i64 0))) 2 10 [(0, 10, (.t 67)), (10, 10, (.t 72))], none⟩,
  ⟨(some 74), .app 10 80 (.t 62) (.t 73), none⟩,
  ⟨(some 8), .mv (.t 74), none⟩]
def l34_0 : SC := (.seq (.seq (.reg r34_8) (.cond (.t 30) .skip (.exit 0))) (.block 1 (.seq (.reg r34_9) (.seq (.reg r34_10) (.seq (.seq (.reg r34_11) (.cond (.t 44) (.seq (.reg r34_12) (.exit 1)) .skip)) (.seq (.reg r34_13) (.reg r34_14)))))))
def r34_15 : List SOper := [
  ⟨(some 75), .mv (.t 7), none⟩,
  ⟨(some 4), .mv (.t 75), none⟩,
  ⟨(some 5), .mv (.c (.one (.sc (.int .i64 0)))), none⟩]
def c34 : SC := (.seq (.reg r34_0) (.seq (.seq (.reg r34_1) (.seq (.reg r34_2) (.cond (.t 15) (.seq (.reg r34_3) .ret) .skip))) (.seq (.seq (.reg r34_4) (.cond (.t 22) (.seq (.reg r34_5) .ret) .skip)) (.seq (.reg r34_6) (.seq (.reg r34_7) (.seq (.block 0 (.loop l34_0)) (.seq (.reg r34_15) .ret)))))))
/-- limner/curve.Flat -/
def F34 : SFun := ⟨76, c34, [.tmp 4, .tmp 5]⟩

def r35_0 : List SOper := [
  ⟨(some 2), .mv (.c (.one (.sc (.slice none 0 0)))), none⟩]
def r35_1 : List SOper := [
  ⟨(some 3), .mv (.t 0), none⟩,
  ⟨(some 4), .nilchk (.t 3), none⟩,
  ⟨(some 5), .fadr 1 (.t 4), none⟩,
  ⟨(some 6), .mv (.t 0), none⟩,
  ⟨(some 7), .nilchk (.t 6), none⟩,
  ⟨(some 8), .fadr 0 (.t 7), none⟩,
  ⟨(some 9), .load1 (.t 8), none⟩,
  ⟨(some 10), .call .t 15 [(.t 9)], none⟩,
  ⟨(some 11), .slA 3 2 (.t 5) none (some (.t 10)) none, none⟩,
  ⟨(some 2), .mv (.t 11), none⟩]
def c35 : SC := (.seq (.reg r35_0) (.seq (.reg r35_1) .ret))
/-- (*limner/path.Seg).points -/
def F35 : SFun := ⟨12, c35, [.tmp 2]⟩

def r36_0 : List SOper := [
  ⟨(some 2), .mv (.c (.one (.sc (.bool false)))), none⟩]
def r36_1 : List SOper := [
  ⟨(some 3), .mv (.t 0), none⟩,
  ⟨(some 4), .bin .geq (.t 3) (.c (.one (.sc (.int .i64 (-2147483648))))), none⟩,
  ⟨(some 5), .mv (.t 4), none⟩,
  ⟨(some 6), .mv (.t 0), (some (some 5, true))⟩,
  ⟨(some 7), .bin .leq (.t 6) (.c (.one (.sc (.int .i64 2147483648)))), (some (some 5, true))⟩,
  ⟨(some 8), .pick (.t 5) (.t 7) (.c (.one (.sc (.bool false)))), none⟩,
  ⟨(some 2), .mv (.t 8), none⟩]
def c36 : SC := (.seq (.reg r36_0) (.seq (.reg r36_1) .ret))
/-- limner/limnerref01.In -/
def F36 : SFun := ⟨9, c36, [.tmp 2]⟩

def r38_0 : List SOper := [
  ⟨(some 4), .mv (.c (.one (.sc (.bool false)))), none⟩]
def r38_1 : List SOper := [
  ⟨(some 5), .mv (.t 0), none⟩,
  ⟨(some 6), .mv (.t 1), none⟩,
  ⟨(some 7), .call .q 57 [(.t 5), (.t 6)], none⟩,
  ⟨(some 8), .bin .geq (.t 7) (.c (.one (.sc (.int .i64 0)))), none⟩,
  ⟨(some 4), .mv (.t 8), none⟩]
def c38 : SC := (.seq (.reg r38_0) (.seq (.reg r38_1) .ret))
/-- slices.ContainsFunc[[]limner/geom.Point,limner/geom.Point] -/
def F38 : SFun := ⟨9, c38, [.tmp 4]⟩

def r39_0 : List SOper := [
  ⟨(some 1), .box (.t 0), none⟩,
  ⟨(some 2), .mv (.c (.one (.sc (.bool false)))), none⟩]
def r39_1 : List SOper := [
  ⟨(some 3), .loadA 2 (.t 1), none⟩,
  ⟨(some 4), .call (.z 1) 40 [(.t 3)], none⟩,
  ⟨(some 5), .un .not (.t 4), none⟩,
  ⟨(some 2), .mv (.t 5), none⟩]
def c39 : SC := (.seq (.reg r39_0) (.seq (.reg r39_1) .ret))
/-- limner/path.Check$1 -/
def F39 : SFun := ⟨6, c39, [.tmp 2]⟩

def r40_0 : List SOper := [
  ⟨(some 1), .box (.t 0), none⟩,
  ⟨(some 2), .mv (.c (.one (.sc (.bool false)))), none⟩]
def r40_1 : List SOper := [
  ⟨(some 3), .fadr 0 (.t 1), none⟩,
  ⟨(some 4), .load1 (.t 3), none⟩,
  ⟨(some 5), .call (.z 1) 49 [(.t 4)], none⟩,
  ⟨(some 6), .mv (.t 5), none⟩,
  ⟨(some 7), .fadr 1 (.t 1), (some (some 6, true))⟩,
  ⟨(some 8), .load1 (.t 7), (some (some 6, true))⟩,
  ⟨(some 9), .call (.z 1) 49 [(.t 8)], (some (some 6, true))⟩,
  ⟨(some 10), .pick (.t 6) (.t 9) (.c (.one (.sc (.bool false)))), none⟩,
  ⟨(some 2), .mv (.t 10), none⟩]
def c40 : SC := (.seq (.reg r40_0) (.seq (.reg r40_1) .ret))
/-- (limner/geom.Point).In -/
def F40 : SFun := ⟨11, c40, [.tmp 2]⟩

def r42_0 : List SOper := [
  ⟨(some 4), .mv (.c (.one (.sc (.int .i64 0)))), none⟩]
def r42_1 : List SOper := [
  ⟨(some 6), .mv (.t 0), none⟩,
  ⟨(some 7), .call .q 14 [(.t 6)], none⟩,
  ⟨(some 5), .mv (.t 7), none⟩]
def r42_2 : List SOper := [
  ⟨(some 8), .mv (.t 5), none⟩,
  ⟨(some 9), .bin .neq (.t 8) (.c (.one (.sc (.int .i64 0)))), none⟩]
def r42_3 : List SOper := [
  ⟨(some 10), .mv (.t 5), none⟩,
  ⟨(some 4), .mv (.t 10), none⟩]
def r42_4 : List SOper := [
  ⟨(some 11), .mv (.t 1), none⟩,
  ⟨(some 12), .bin .lss (.t 11) (.c (.one (.sc (.int .i64 0)))), none⟩,
  ⟨(some 13), .mv (.t 12), none⟩,
  ⟨(some 14), .mv (.t 1), (some (some 13, false))⟩,
  ⟨(some 15), .mv (.t 0), (some (some 13, false))⟩,
  ⟨(some 16), .len (.t 15), (some (some 13, false))⟩,
  ⟨(some 17), .bin .geq (.t 14) (.t 16), (some (some 13, false))⟩,
  ⟨(some 18), .pick (.t 13) (.c (.one (.sc (.bool true)))) (.t 17), none⟩]
def r42_5 : List SOper := [
  ⟨(some 4), .mv (.c (.one (.sc (.int .i64 30)))), none⟩]
def r42_6 : List SOper := [
  ⟨(some 4), .mv (.c (.one (.sc (.int .i64 0)))), none⟩]
def c42 : SC := (.seq (.reg r42_0) (.seq (.seq (.reg r42_1) (.seq (.reg r42_2) (.cond (.t 9) (.seq (.reg r42_3) .ret) .skip))) (.seq (.seq (.reg r42_4) (.cond (.t 18) (.seq (.reg r42_5) .ret) .skip)) (.seq (.reg r42_6) .ret))))
/-- limner/path.at -/
def F42 : SFun := ⟨19, c42, [.tmp 4]⟩

def r43_0 : List SOper := [
  ⟨(some 2), .box (.t 0), none⟩,
  ⟨(some 3), .box (.t 1), none⟩,
  ⟨(some 4), .alloc [.sc (.int .i64 0), .sc (.int .i64 0)], none⟩]
def r43_1 : List SOper := [
  ⟨(some 5), .fadr 0 (.t 2), none⟩,
  ⟨(some 6), .load1 (.t 5), none⟩,
  ⟨(some 7), .fadr 0 (.t 3), none⟩,
  ⟨(some 8), .load1 (.t 7), none⟩,
  ⟨(some 9), .bin .add (.t 6) (.t 8), none⟩,
  ⟨(some 10), .bin .shr (.t 9) (.c (.one (.sc (.int .u64 1)))), none⟩,
  ⟨(some 11), .fadr 1 (.t 2), none⟩,
  ⟨(some 12), .load1 (.t 11), none⟩,
  ⟨(some 13), .fadr 1 (.t 3), none⟩,
  ⟨(some 14), .load1 (.t 13), none⟩,
  ⟨(some 15), .bin .add (.t 12) (.t 14), none⟩,
  ⟨(some 16), .bin .shr (.t 15) (.c (.one (.sc (.int .u64 1)))), none⟩,
  ⟨(some 17), .build [.sc (.int .i64 0), .sc (.int .i64 0)] [(0, 1, (.t 10)), (1, 1, (.t 16))], none⟩,
  ⟨none, .store 2 (.t 4) (.t 17), none⟩]
def c43 : SC := (.seq (.reg r43_0) (.seq (.reg r43_1) .ret))
/-- limner/curve.Mid -/
def F43 : SFun := ⟨18, c43, [.cellA 4 2]⟩

def r44_0 : List SOper := [
  ⟨(some 2), .mv (.c (.one (.sc (.slice none 0 0)))), none⟩,
  ⟨(some 3), .mv (.c (.one (.sc (.slice none 0 0)))), none⟩,
  ⟨(some 4), .mv (.c (.one (.sc (.int .i64 0)))), none⟩]
def r44_1 : List SOper := [
  ⟨(some 8), .mv (.t 0), none⟩,
  ⟨(some 9), .call .q 54 [(.t 8)], none⟩,
  ⟨(some 5), .mv (.t 9), none⟩]
def r44_2 : List SOper := [
  ⟨(some 10), .mv (.t 5), none⟩,
  ⟨(some 11), .bin .neq (.t 10) (.c (.one (.sc (.int .i64 0)))), none⟩]
def r44_3 : List SOper := [
  ⟨(some 12), .mv (.t 5), none⟩,
  ⟨(some 2), .mv (.c (.one (.sc (.slice none 0 0)))), none⟩,
  ⟨(some 3), .mv (.c (.one (.sc (.slice none 0 0)))), none⟩,
  ⟨(some 4), .mv (.t 12), none⟩]
def r44_4 : List SOper := [
  ⟨(some 14), .mv (.t 0), none⟩,
  ⟨(some 15), .call .q 55 [(.t 14)], none⟩,
  ⟨(some 16), .call (.z 1) 56 [(.t 15)], none⟩,
  ⟨(some 13), .mv (.t 16), none⟩,
  ⟨(some 17), .ext (.t 13) 0, none⟩,
  ⟨(some 18), .ext (.t 13) 1, none⟩,
  ⟨(some 6), .alloc (List.replicate 9 (.sc (.int .i64 0))), none⟩,
  ⟨(some 7), .alloc (List.replicate 9 (.sc (.int .i64 0))), none⟩,
  ⟨none, .store 9 (.t 6) (.t 17), none⟩,
  ⟨none, .store 9 (.t 7) (.t 18), none⟩]
def r44_5 : List SOper := [
  ⟨(some 19), .fadr 0 (.t 6), none⟩,
  ⟨(some 20), .fadr 8 (.t 6), none⟩,
  ⟨(some 21), .load1 (.t 20), none⟩,
  ⟨(some 22), .slA 4 2 (.t 19) none (some (.t 21)) none, none⟩,
  ⟨(some 23), .call .k 58 [(.t 22)], none⟩,
  ⟨(some 24), .fadr 0 (.t 7), none⟩,
  ⟨(some 25), .fadr 8 (.t 7), none⟩,
  ⟨(some 26), .load1 (.t 25), none⟩,
  ⟨(some 27), .slA 4 2 (.t 24) none (some (.t 26)) none, none⟩,
  ⟨(some 28), .call .k 58 [(.t 27)], none⟩,
  ⟨(some 2), .mv (.t 23), none⟩,
  ⟨(some 3), .mv (.t 28), none⟩,
  ⟨(some 4), .mv (.c (.one (.sc (.int .i64 0)))), none⟩]
def c44 : SC := (.seq (.reg r44_0) (.seq (.seq (.reg r44_1) (.seq (.reg r44_2) (.cond (.t 11) (.seq (.reg r44_3) .ret) .skip))) (.seq (.reg r44_4) (.seq (.reg r44_5) .ret))))
/-- limner/curve.Halves -/
def F44 : SFun := ⟨29, c44, [.tmp 2, .tmp 3, .tmp 4]⟩

def r45_0 : List SOper := [
  ⟨(some 2), .mv (.c (.one (.sc (.slice none 0 0)))), none⟩]
def r45_1 : List SOper := [
  ⟨(some 3), .mv (.c (.one (.sc (.int .i64 0)))), none⟩]
def r45_2 : List SOper := [
  ⟨(some 9), .mv (.t 0), none⟩,
  ⟨(some 10), .len (.t 9), none⟩,
  ⟨(some 11), .mv (.c (.one (.sc (.int .i64 0)))), none⟩]
def r45_3 : List SOper := [
  ⟨(some 12), .bin .lss (.t 11) (.t 10), none⟩]
def r45_4 : List SOper := [
  ⟨(some 13), .iadrS 1 (.t 9) (.t 11), none⟩,
  ⟨(some 14), .load1 (.t 13), none⟩,
  ⟨(some 5), .mv (.t 14), none⟩]
def r45_5 : List SOper := [
  ⟨(some 15), .mv (.t 3), none⟩,
  ⟨(some 16), .mv (.t 5), none⟩,
  ⟨(some 17), .len (.t 16), none⟩,
  ⟨(some 18), .bin .add (.t 15) (.t 17), none⟩,
  ⟨(some 3), .mv (.t 18), none⟩]
def r45_6 : List SOper := [
  ⟨(some 19), .mv (.t 3), none⟩,
  ⟨(some 20), .bin .lss (.t 19) (.c (.one (.sc (.int .i64 0)))), none⟩]
def r45_7 : List SOper := [
  ⟨(some 21), .stuck, none⟩,
  ⟨none, .stuck, none⟩]
def r45_8 : List SOper := [
  ⟨(some 22), .bin .add (.t 11) (.c (.one (.sc (.int .i64 1)))), none⟩,
  ⟨(some 11), .mv (.t 22), none⟩]
def l45_0 : SC := (.seq (.reg r45_3) (.seq (.cond (.t 12) .skip (.exit 0)) (.seq (.block 1 (.seq (.reg r45_4) (.seq (.reg r45_5) (.seq (.reg r45_6) (.cond (.t 20) (.reg r45_7) .skip))))) (.reg r45_8))))
def r45_9 : List SOper := [
  ⟨(some 23), .mv (.t 3), none⟩,
  ⟨(some 24), .call .k 59 [(.c (.one (.sc (.slice none 0 0)))), (.t 23)], none⟩,
  ⟨(some 6), .mv (.t 24), none⟩]
def r45_10 : List SOper := [
  ⟨(some 25), .mv (.t 0), none⟩,
  ⟨(some 26), .len (.t 25), none⟩,
  ⟨(some 27), .mv (.c (.one (.sc (.int .i64 0)))), none⟩]
def r45_11 : List SOper := [
  ⟨(some 28), .bin .lss (.t 27) (.t 26), none⟩]
def r45_12 : List SOper := [
  ⟨(some 29), .iadrS 1 (.t 25) (.t 27), none⟩,
  ⟨(some 30), .load1 (.t 29), none⟩,
  ⟨(some 8), .mv (.t 30), none⟩]
def r45_13 : List SOper := [
  ⟨(some 31), .mv (.t 6), none⟩,
  ⟨(some 32), .mv (.t 8), none⟩,
  ⟨(some 33), .app 7 56 (.t 31) (.t 32), none⟩,
  ⟨(some 6), .mv (.t 33), none⟩]
def r45_14 : List SOper := [
  ⟨(some 34), .bin .add (.t 27) (.c (.one (.sc (.int .i64 1)))), none⟩,
  ⟨(some 27), .mv (.t 34), none⟩]
def l45_1 : SC := (.seq (.reg r45_11) (.seq (.cond (.t 28) .skip (.exit 2)) (.seq (.block 3 (.seq (.reg r45_12) (.reg r45_13))) (.reg r45_14))))
def r45_15 : List SOper := [
  ⟨(some 35), .mv (.t 6), none⟩,
  ⟨(some 2), .mv (.t 35), none⟩]
def c45 : SC := (.seq (.reg r45_0) (.seq (.reg r45_1) (.seq (.seq (.reg r45_2) (.block 0 (.loop l45_0))) (.seq (.reg r45_9) (.seq (.seq (.reg r45_10) (.block 2 (.loop l45_1))) (.seq (.reg r45_15) .ret))))))
/-- slices.Concat[[]limner/path.Seg,limner/path.Seg] -/
def F45 : SFun := ⟨36, c45, [.tmp 2]⟩

def r46_0 : List SOper := [
  ⟨(some 2), .box (.t 0), none⟩,
  ⟨(some 3), .box (.t 1), none⟩,
  ⟨(some 4), .alloc [.sc (.int .i64 0), .sc (.int .i64 0)], none⟩]
def r46_1 : List SOper := [
  ⟨(some 5), .fadr 0 (.t 2), none⟩,
  ⟨(some 6), .load1 (.t 5), none⟩,
  ⟨(some 7), .fadr 0 (.t 3), none⟩,
  ⟨(some 8), .load1 (.t 7), none⟩,
  ⟨(some 9), .bin .add (.t 6) (.t 8), none⟩,
  ⟨(some 10), .call (.z 1) 60 [(.t 9), (.c (.one (.sc (.int .i64 2))))], none⟩,
  ⟨(some 11), .fadr 1 (.t 2), none⟩,
  ⟨(some 12), .load1 (.t 11), none⟩,
  ⟨(some 13), .fadr 1 (.t 3), none⟩,
  ⟨(some 14), .load1 (.t 13), none⟩,
  ⟨(some 15), .bin .add (.t 12) (.t 14), none⟩,
  ⟨(some 16), .call (.z 1) 60 [(.t 15), (.c (.one (.sc (.int .i64 2))))], none⟩,
  ⟨(some 17), .build [.sc (.int .i64 0), .sc (.int .i64 0)] [(0, 1, (.t 10)), (1, 1, (.t 16))], none⟩,
  ⟨none, .store 2 (.t 4) (.t 17), none⟩]
def c46 : SC := (.seq (.reg r46_0) (.seq (.reg r46_1) .ret))
/-- limner/limnerref05.Mid -/
def F46 : SFun := ⟨18, c46, [.cellA 4 2]⟩

def r47_0 : List SOper := [
  ⟨(some 2), .mv (.c (.one (.sc (.slice none 0 0)))), none⟩,
  ⟨(some 3), .mv (.c (.one (.sc (.slice none 0 0)))), none⟩]
def r47_1 : List SOper := [
  ⟨(some 4), .mv (.c (.one (.sc (.slice none 0 0)))), none⟩,
  ⟨(some 5), .mv (.c (.one (.sc (.slice none 0 0)))), none⟩]
def r47_2 : List SOper := [
  ⟨(some 8), .mv (.t 0), none⟩,
  ⟨(some 9), .len (.t 8), none⟩,
  ⟨(some 10), .bin .gtr (.t 9) (.c (.one (.sc (.int .i64 0)))), none⟩]
def r47_3 : List SOper := [
  ⟨(some 11), .mv (.t 4), none⟩,
  ⟨(some 12), .mv (.t 0), none⟩,
  ⟨(some 13), .iadrS 2 (.t 12) (.c (.one (.sc (.int .i64 0)))), none⟩,
  ⟨(some 14), .loadA 2 (.t 13), none⟩,
  ⟨(some 15), .bslice [.sc (.int .i64 0), .sc (.int .i64 0)] 1 2 [(0, 2, (.t 14))], none⟩,
  ⟨(some 16), .app 2 16 (.t 11) (.t 15), none⟩,
  ⟨(some 4), .mv (.t 16), none⟩]
def r47_4 : List SOper := [
  ⟨(some 17), .mv (.t 0), none⟩,
  ⟨(some 18), .mv (.t 0), none⟩,
  ⟨(some 19), .len (.t 18), none⟩,
  ⟨(some 20), .bin .sub (.t 19) (.c (.one (.sc (.int .i64 1)))), none⟩,
  ⟨(some 21), .iadrS 2 (.t 17) (.t 20), none⟩,
  ⟨(some 22), .loadA 2 (.t 21), none⟩,
  ⟨(some 23), .bslice [.sc (.int .i64 0), .sc (.int .i64 0)] 1 2 [(0, 2, (.t 22))], none⟩,
  ⟨(some 24), .mv (.t 5), none⟩,
  ⟨(some 25), .app 2 16 (.t 23) (.t 24), none⟩,
  ⟨(some 5), .mv (.t 25), none⟩]
def r47_5 : List SOper := [
  ⟨(some 6), .mv (.c (.one (.sc (.slice none 0 0)))), none⟩]
def r47_6 : List SOper := [
  ⟨(some 7), .mv (.c (.one (.sc (.int .i64 0)))), none⟩]
def r47_7 : List SOper := [
  ⟨(some 26), .mv (.t 7), none⟩,
  ⟨(some 27), .bin .add (.t 26) (.c (.one (.sc (.int .i64 1)))), none⟩,
  ⟨(some 28), .mv (.t 0), none⟩,
  ⟨(some 29), .len (.t 28), none⟩,
  ⟨(some 30), .bin .lss (.t 27) (.t 29), none⟩]
def r47_9 : List SOper := [
  ⟨(some 33), .mv (.t 6), none⟩,
  ⟨(some 34), .mv (.t 0), none⟩,
  ⟨(some 35), .mv (.t 7), none⟩,
  ⟨(some 36), .iadrS 2 (.t 34) (.t 35), none⟩,
  ⟨(some 37), .loadA 2 (.t 36), none⟩,
  ⟨(some 38), .mv (.t 0), none⟩,
  ⟨(some 39), .mv (.t 7), none⟩,
  ⟨(some 40), .bin .add (.t 39) (.c (.one (.sc (.int .i64 1)))), none⟩,
  ⟨(some 41), .iadrS 2 (.t 38) (.t 40), none⟩,
  ⟨(some 42), .loadA 2 (.t 41), none⟩,
  ⟨(some 43), .call (.z 1) 46 [(.t 37), (.t 42)], none⟩,
  ⟨(some 44), .bslice [.sc (.int .i64 0), .sc (.int .i64 0)] 1 2 [(0, 2, (.t 43))], none⟩,
  ⟨(some 45), .app 2 16 (.t 33) (.t 44), none⟩,
  ⟨(some 6), .mv (.t 45), none⟩]
def r47_8 : List SOper := [
  ⟨(some 31), .mv (.t 7), none⟩,
  ⟨(some 32), .bin .add (.t 31) (.c (.one (.sc (.int .i64 1)))), none⟩,
  ⟨(some 7), .mv (.t 32), none⟩]
def l47_0 : SC := (.seq (.seq (.reg r47_7) (.cond (.t 30) .skip (.exit 2))) (.seq (.block 3 (.reg r47_9)) (.reg r47_8)))
def r47_10 : List SOper := [
  ⟨(some 46), .mv (.t 6), none⟩,
  ⟨(some 0), .mv (.t 46), none⟩]
def l47_1 : SC := (.seq (.seq (.reg r47_2) (.cond (.t 10) .skip (.exit 0))) (.block 1 (.seq (.reg r47_3) (.seq (.reg r47_4) (.seq (.reg r47_5) (.seq (.seq (.reg r47_6) (.block 2 (.loop l47_0))) (.reg r47_10)))))))
def r47_11 : List SOper := [
  ⟨(some 47), .mv (.t 4), none⟩,
  ⟨(some 48), .mv (.t 5), none⟩,
  ⟨(some 2), .mv (.t 47), none⟩,
  ⟨(some 3), .mv (.t 48), none⟩]
def c47 : SC := (.seq (.reg r47_0) (.seq (.reg r47_1) (.seq (.block 0 (.loop l47_1)) (.seq (.reg r47_11) .ret))))
/-- limner/limnerref05.Halves -/
def F47 : SFun := ⟨49, c47, [.tmp 2, .tmp 3]⟩

def r49_0 : List SOper := [
  ⟨(some 2), .mv (.c (.one (.sc (.bool false)))), none⟩]
def r49_1 : List SOper := [
  ⟨(some 3), .mv (.t 0), none⟩,
  ⟨(some 4), .bin .geq (.t 3) (.c (.one (.sc (.int .i64 (-2147483648))))), none⟩,
  ⟨(some 5), .mv (.t 4), none⟩,
  ⟨(some 6), .mv (.t 0), (some (some 5, true))⟩,
  ⟨(some 7), .bin .leq (.t 6) (.c (.one (.sc (.int .i64 2147483648)))), (some (some 5, true))⟩,
  ⟨(some 8), .pick (.t 5) (.t 7) (.c (.one (.sc (.bool false)))), none⟩,
  ⟨(some 2), .mv (.t 8), none⟩]
def c49 : SC := (.seq (.reg r49_0) (.seq (.reg r49_1) .ret))
/-- limner/fixed.In -/
def F49 : SFun := ⟨9, c49, [.tmp 2]⟩

def r53_0 : List SOper := [
  ⟨(some 3), .alloc [.sc (.int .i64 0), .sc (.int .i64 0)], none⟩]
def r53_1 : List SOper := [
  ⟨(some 7), .load1 (.t 1), none⟩,
  ⟨(some 8), .len (.t 7), none⟩,
  ⟨(some 9), .mv (.c (.one (.sc (.int .i64 0)))), none⟩]
def r53_2 : List SOper := [
  ⟨(some 10), .bin .lss (.t 9) (.t 8), none⟩]
def r53_3 : List SOper := [
  ⟨(some 11), .iadrS 7 (.t 7) (.t 9), none⟩,
  ⟨(some 12), .loadA 7 (.t 11), none⟩,
  ⟨(some 5), .alloc [.sc (.int .i64 0), .sc (.int .i64 0), .sc (.int .i64 0), .sc (.int .i64 0), .sc (.int .i64 0), .sc (.int .i64 0), .sc (.int .i64 0)], none⟩,
  ⟨none, .store 7 (.t 5) (.t 12), none⟩]
def r53_4 : List SOper := [
  ⟨(some 13), .mv (.t 0), none⟩,
  ⟨(some 14), .loadA 2 (.t 3), none⟩,
  ⟨(some 15), .loadA 7 (.t 5), none⟩,
  ⟨(some 16), .callv .q (.t 13) [(.t 14), (.t 15)], none⟩,
  ⟨(some 17), .un .not (.t 16), none⟩]
def r53_5 : List SOper := [
  ⟨(some 18), .fadr 0 (.t 5), none⟩,
  ⟨(some 19), .load1 (.t 18), none⟩,
  ⟨(some 20), .call .t 15 [(.t 19)], none⟩,
  ⟨(some 6), .mv (.t 20), none⟩]
def r53_6 : List SOper := [
  ⟨(some 21), .mv (.t 6), none⟩,
  ⟨(some 22), .bin .gtr (.t 21) (.c (.one (.sc (.int .i64 0)))), none⟩]
def r53_7 : List SOper := [
  ⟨(some 23), .mv (.t 6), none⟩,
  ⟨(some 24), .bin .sub (.t 23) (.c (.one (.sc (.int .i64 1)))), none⟩,
  ⟨(some 25), .fadr 1 (.t 5), none⟩,
  ⟨(some 26), .iadrA 3 2 (.t 25) (.t 24), none⟩,
  ⟨(some 27), .loadA 2 (.t 26), none⟩,
  ⟨none, .store 2 (.t 3) (.t 27), none⟩]
def r53_8 : List SOper := [
  ⟨(some 28), .bin .add (.t 9) (.c (.one (.sc (.int .i64 1)))), none⟩,
  ⟨(some 9), .mv (.t 28), none⟩]
def l53_0 : SC := (.seq (.reg r53_2) (.seq (.cond (.t 10) .skip (.exit 0)) (.seq (.block 1 (.seq (.reg r53_3) (.seq (.seq (.reg r53_4) (.cond (.t 17) .ret .skip)) (.seq (.reg r53_5) (.seq (.reg r53_6) (.cond (.t 22) (.reg r53_7) .skip)))))) (.reg r53_8))))
def c53 : SC := (.seq (.reg r53_0) (.seq (.reg r53_1) (.block 0 (.loop l53_0))))
/-- limner/path.walk$1 -/
def F53 : SFun := ⟨29, c53, []⟩

def r54_0 : List SOper := [
  ⟨(some 2), .mv (.c (.one (.sc (.int .i64 0)))), none⟩]
def r54_1 : List SOper := [
  ⟨(some 3), .mv (.t 0), none⟩,
  ⟨(some 4), .len (.t 3), none⟩,
  ⟨(some 5), .bin .lss (.t 4) (.c (.one (.sc (.int .i64 3)))), none⟩,
  ⟨(some 6), .mv (.t 5), none⟩,
  ⟨(some 7), .mv (.t 0), (some (some 6, false))⟩,
  ⟨(some 8), .len (.t 7), (some (some 6, false))⟩,
  ⟨(some 9), .bin .gtr (.t 8) (.c (.one (.sc (.int .i64 4)))), (some (some 6, false))⟩,
  ⟨(some 10), .pick (.t 6) (.c (.one (.sc (.bool true)))) (.t 9), none⟩,
  ⟨(some 11), .mv (.t 10), none⟩,
  ⟨(some 12), .mv (.t 0), (some (some 11, false))⟩,
  ⟨(some 13), .call .q 38 [(.t 12), (.f 62)], (some (some 11, false))⟩,
  ⟨(some 14), .pick (.t 11) (.c (.one (.sc (.bool true)))) (.t 13), none⟩]
def r54_2 : List SOper := [
  ⟨(some 2), .mv (.c (.one (.sc (.int .i64 30)))), none⟩]
def r54_3 : List SOper := [
  ⟨(some 2), .mv (.c (.one (.sc (.int .i64 0)))), none⟩]
def c54 : SC := (.seq (.reg r54_0) (.seq (.seq (.reg r54_1) (.cond (.t 14) (.seq (.reg r54_2) .ret) .skip)) (.seq (.reg r54_3) .ret)))
/-- limner/curve.check -/
def F54 : SFun := ⟨15, c54, [.tmp 2]⟩

def r55_0 : List SOper := [
  ⟨(some 2), .alloc (List.replicate 9 (.sc (.int .i64 0))), none⟩]
def r55_1 : List SOper := [
  ⟨(some 4), .mv (.t 0), none⟩,
  ⟨(some 5), .len (.t 4), none⟩,
  ⟨(some 6), .build (List.replicate 9 (.sc (.int .i64 0))) [(8, 1, (.t 5))], none⟩,
  ⟨(some 3), .alloc (List.replicate 9 (.sc (.int .i64 0))), none⟩,
  ⟨none, .store 9 (.t 3) (.t 6), none⟩]
def r55_2 : List SOper := [
  ⟨(some 7), .fadr 0 (.t 3), none⟩,
  ⟨(some 8), .slA 4 2 (.t 7) none none none, none⟩,
  ⟨(some 9), .mv (.t 0), none⟩,
  ⟨(some 10), .cpy 2 (.t 8) (.t 9), none⟩]
def r55_3 : List SOper := [
  ⟨(some 11), .loadA 9 (.t 3), none⟩,
  ⟨none, .store 9 (.t 2) (.t 11), none⟩]
def c55 : SC := (.seq (.reg r55_0) (.seq (.reg r55_1) (.seq (.reg r55_2) (.seq (.reg r55_3) .ret))))
/-- limner/curve.rowOf -/
def F55 : SFun := ⟨12, c55, [.cellA 2 9]⟩

def r56_0 : List SOper := [
  ⟨(some 1), .box (.t 0), none⟩,
  ⟨(some 2), .alloc (List.replicate 9 (.sc (.int .i64 0))), none⟩,
  ⟨(some 3), .alloc (List.replicate 9 (.sc (.int .i64 0))), none⟩]
def r56_1 : List SOper := [
  ⟨(some 7), .fadr 8 (.t 1), none⟩,
  ⟨(some 8), .load1 (.t 7), none⟩,
  ⟨(some 9), .fadr 8 (.t 1), none⟩,
  ⟨(some 10), .load1 (.t 9), none⟩,
  ⟨(some 11), .fadr 8 (.t 2), none⟩,
  ⟨none, .store 1 (.t 11) (.t 8), none⟩,
  ⟨(some 12), .fadr 8 (.t 3), none⟩,
  ⟨none, .store 1 (.t 12) (.t 10), none⟩]
def r56_2 : List SOper := [
  ⟨(some 13), .fadr 8 (.t 1), none⟩,
  ⟨(some 14), .load1 (.t 13), none⟩,
  ⟨(some 15), .mv (.c (.one (.sc (.int .i64 0)))), none⟩]
def r56_3 : List SOper := [
  ⟨(some 16), .bin .lss (.t 15) (.t 14), none⟩]
def r56_4 : List SOper := [
  ⟨(some 17), .mv (.t 15), none⟩,
  ⟨(some 4), .mv (.t 17), none⟩]
def r56_5 : List SOper := [
  ⟨(some 18), .fadr 8 (.t 1), none⟩,
  ⟨(some 19), .load1 (.t 18), none⟩,
  ⟨(some 20), .bin .sub (.t 19) (.c (.one (.sc (.int .i64 1)))), none⟩,
  ⟨(some 21), .mv (.t 4), none⟩,
  ⟨(some 22), .bin .sub (.t 20) (.t 21), none⟩,
  ⟨(some 5), .mv (.t 22), none⟩]
def r56_6 : List SOper := [
  ⟨(some 23), .mv (.t 4), none⟩,
  ⟨(some 24), .mv (.t 5), none⟩,
  ⟨(some 25), .fadr 0 (.t 1), none⟩,
  ⟨(some 26), .iadrA 4 2 (.t 25) (.c (.one (.sc (.int .i64 0)))), none⟩,
  ⟨(some 27), .loadA 2 (.t 26), none⟩,
  ⟨(some 28), .mv (.t 5), none⟩,
  ⟨(some 29), .fadr 0 (.t 1), none⟩,
  ⟨(some 30), .iadrA 4 2 (.t 29) (.t 28), none⟩,
  ⟨(some 31), .loadA 2 (.t 30), none⟩,
  ⟨(some 32), .fadr 0 (.t 2), none⟩,
  ⟨(some 33), .iadrA 4 2 (.t 32) (.t 23), none⟩,
  ⟨none, .store 2 (.t 33) (.t 27), none⟩,
  ⟨(some 34), .fadr 0 (.t 3), none⟩,
  ⟨(some 35), .iadrA 4 2 (.t 34) (.t 24), none⟩,
  ⟨none, .store 2 (.t 35) (.t 31), none⟩]
def r56_7 : List SOper := [
  ⟨(some 36), .mv (.t 5), none⟩,
  ⟨(some 37), .mv (.c (.one (.sc (.int .i64 0)))), none⟩]
def r56_8 : List SOper := [
  ⟨(some 38), .bin .lss (.t 37) (.t 36), none⟩]
def r56_9 : List SOper := [
  ⟨(some 39), .mv (.t 37), none⟩,
  ⟨(some 6), .mv (.t 39), none⟩]
def r56_10 : List SOper := [
  ⟨(some 40), .mv (.t 6), none⟩,
  ⟨(some 41), .mv (.t 6), none⟩,
  ⟨(some 42), .fadr 0 (.t 1), none⟩,
  ⟨(some 43), .iadrA 4 2 (.t 42) (.t 41), none⟩,
  ⟨(some 44), .loadA 2 (.t 43), none⟩,
  ⟨(some 45), .mv (.t 6), none⟩,
  ⟨(some 46), .bin .add (.t 45) (.c (.one (.sc (.int .i64 1)))), none⟩,
  ⟨(some 47), .fadr 0 (.t 1), none⟩,
  ⟨(some 48), .iadrA 4 2 (.t 47) (.t 46), none⟩,
  ⟨(some 49), .loadA 2 (.t 48), none⟩,
  ⟨(some 50), .call (.z 1) 43 [(.t 44), (.t 49)], none⟩,
  ⟨(some 51), .fadr 0 (.t 1), none⟩,
  ⟨(some 52), .iadrA 4 2 (.t 51) (.t 40), none⟩,
  ⟨none, .store 2 (.t 52) (.t 50), none⟩]
def r56_11 : List SOper := [
  ⟨(some 53), .bin .add (.t 37) (.c (.one (.sc (.int .i64 1)))), none⟩,
  ⟨(some 37), .mv (.t 53), none⟩]
def l56_0 : SC := (.seq (.reg r56_8) (.seq (.cond (.t 38) .skip (.exit 2)) (.seq (.block 3 (.seq (.reg r56_9) (.reg r56_10))) (.reg r56_11))))
def r56_12 : List SOper := [
  ⟨(some 54), .bin .add (.t 15) (.c (.one (.sc (.int .i64 1)))), none⟩,
  ⟨(some 15), .mv (.t 54), none⟩]
def l56_1 : SC := (.seq (.reg r56_3) (.seq (.cond (.t 16) .skip (.exit 0)) (.seq (.block 1 (.seq (.reg r56_4) (.seq (.reg r56_5) (.seq (.dreg [(30, 33)] r56_6) (.seq (.reg r56_7) (.block 2 (.loop l56_0))))))) (.reg r56_12))))
def r56_13 : List SOper := [
  ⟨(some 55), .loadA 9 (.t 2), none⟩,
  ⟨(some 56), .loadA 9 (.t 3), none⟩,
  ⟨none, .store 9 (.t 2) (.t 55), none⟩,
  ⟨none, .store 9 (.t 3) (.t 56), none⟩]
def c56 : SC := (.seq (.reg r56_0) (.seq (.dreg [(9, 11)] r56_1) (.seq (.seq (.reg r56_2) (.block 0 (.loop l56_1))) (.seq (.dreg [(3, 2)] r56_13) .ret))))
/-- (limner/curve.row).halves -/
def F56 : SFun := ⟨57, c56, [.cellA 2 9, .cellA 3 9]⟩

def r57_0 : List SOper := [
  ⟨(some 4), .mv (.c (.one (.sc (.int .i64 0)))), none⟩]
def r57_1 : List SOper := [
  ⟨(some 6), .mv (.t 0), none⟩,
  ⟨(some 7), .len (.t 6), none⟩,
  ⟨(some 8), .mv (.c (.one (.sc (.int .i64 0)))), none⟩]
def r57_2 : List SOper := [
  ⟨(some 9), .bin .lss (.t 8) (.t 7), none⟩]
def r57_3 : List SOper := [
  ⟨(some 10), .mv (.t 8), none⟩,
  ⟨(some 5), .mv (.t 10), none⟩]
def r57_4 : List SOper := [
  ⟨(some 11), .mv (.t 1), none⟩,
  ⟨(some 12), .mv (.t 0), none⟩,
  ⟨(some 13), .mv (.t 5), none⟩,
  ⟨(some 14), .iadrS 2 (.t 12) (.t 13), none⟩,
  ⟨(some 15), .loadA 2 (.t 14), none⟩,
  ⟨(some 16), .callv .q (.t 11) [(.t 15)], none⟩]
def r57_5 : List SOper := [
  ⟨(some 17), .mv (.t 5), none⟩,
  ⟨(some 4), .mv (.t 17), none⟩]
def r57_6 : List SOper := [
  ⟨(some 18), .bin .add (.t 8) (.c (.one (.sc (.int .i64 1)))), none⟩,
  ⟨(some 8), .mv (.t 18), none⟩]
def l57_0 : SC := (.seq (.reg r57_2) (.seq (.cond (.t 9) .skip (.exit 0)) (.seq (.block 1 (.seq (.reg r57_3) (.seq (.reg r57_4) (.cond (.t 16) (.seq (.reg r57_5) .ret) .skip)))) (.reg r57_6))))
def r57_7 : List SOper := [
  ⟨(some 4), .mv (.c (.one (.sc (.int .i64 (-1))))), none⟩]
def c57 : SC := (.seq (.reg r57_0) (.seq (.seq (.reg r57_1) (.block 0 (.loop l57_0))) (.seq (.reg r57_7) .ret)))
/-- slices.IndexFunc[[]limner/geom.Point,limner/geom.Point] -/
def F57 : SFun := ⟨19, c57, [.tmp 4]⟩

def r58_0 : List SOper := [
  ⟨(some 2), .mv (.c (.one (.sc (.slice none 0 0)))), none⟩]
def r58_1 : List SOper := [
  ⟨(some 3), .mv (.t 0), none⟩,
  ⟨(some 4), .eqnil 0 false (.t 3), none⟩]
def r58_2 : List SOper := [
  ⟨(some 2), .mv (.c (.one (.sc (.slice none 0 0)))), none⟩]
def r58_3 : List SOper := [
  ⟨(some 5), .bslice [] 0 2 [], none⟩,
  ⟨(some 6), .mv (.t 0), none⟩,
  ⟨(some 7), .app 2 16 (.t 5) (.t 6), none⟩,
  ⟨(some 2), .mv (.t 7), none⟩]
def c58 : SC := (.seq (.reg r58_0) (.seq (.seq (.reg r58_1) (.cond (.t 4) (.seq (.reg r58_2) .ret) .skip)) (.seq (.reg r58_3) .ret)))
/-- slices.Clone[[]limner/geom.Point,limner/geom.Point] -/
def F58 : SFun := ⟨8, c58, [.tmp 2]⟩

def r59_0 : List SOper := [
  ⟨(some 4), .mv (.c (.one (.sc (.slice none 0 0)))), none⟩]
def r59_1 : List SOper := [
  ⟨(some 5), .mv (.t 1), none⟩,
  ⟨(some 6), .bin .lss (.t 5) (.c (.one (.sc (.int .i64 0)))), none⟩]
def r59_2 : List SOper := [
  ⟨(some 7), .stuck, none⟩,
  ⟨none, .stuck, none⟩]
def r59_3 : List SOper := [
  ⟨(some 8), .mv (.t 1), none⟩,
  ⟨(some 9), .mv (.t 0), none⟩,
  ⟨(some 10), .cap (.t 9), none⟩,
  ⟨(some 11), .mv (.t 0), none⟩,
  ⟨(some 12), .len (.t 11), none⟩,
  ⟨(some 13), .bin .sub (.t 10) (.t 12), none⟩,
  ⟨(some 14), .bin .sub (.t 8) (.t 13), none⟩,
  ⟨(some 1), .mv (.t 14), none⟩]
def r59_4 : List SOper := [
  ⟨(some 15), .mv (.t 1), none⟩,
  ⟨(some 16), .bin .gtr (.t 15) (.c (.one (.sc (.int .i64 0)))), none⟩]
def r59_5 : List SOper := [
  ⟨(some 17), .mv (.t 0), none⟩,
  ⟨(some 18), .mv (.t 0), none⟩,
  ⟨(some 19), .cap (.t 18), none⟩,
  ⟨(some 20), .slS 7 (.t 17) none (some (.t 19)) none, none⟩,
  ⟨(some 21), .mv (.t 1), none⟩,
  ⟨(some 22), .appz [.sc (.int .i64 0), .sc (.int .i64 0), .sc (.int .i64 0), .sc (.int .i64 0), .sc (.int .i64 0), .sc (.int .i64 0), .sc (.int .i64 0)] 56 7 (.t 20) (.t 21), none⟩,
  ⟨(some 23), .mv (.t 0), none⟩,
  ⟨(some 24), .len (.t 23), none⟩,
  ⟨(some 25), .slS 7 (.t 22) none (some (.t 24)) none, none⟩,
  ⟨(some 0), .mv (.t 25), none⟩]
def r59_6 : List SOper := [
  ⟨(some 26), .mv (.t 0), none⟩,
  ⟨(some 4), .mv (.t 26), none⟩]
def c59 : SC := (.seq (.reg r59_0) (.seq (.seq (.reg r59_1) (.cond (.t 6) (.reg r59_2) .skip)) (.seq (.seq (.reg r59_3) (.seq (.reg r59_4) (.cond (.t 16) (.reg r59_5) .skip))) (.seq (.reg r59_6) .ret))))
/-- slices.Grow[[]limner/path.Seg,limner/path.Seg] -/
def F59 : SFun := ⟨27, c59, [.tmp 4]⟩

def r60_0 : List SOper := [
  ⟨(some 4), .mv (.c (.one (.sc (.int .i64 0)))), none⟩]
def r60_1 : List SOper := [
  ⟨(some 6), .mv (.t 0), none⟩,
  ⟨(some 7), .mv (.t 1), none⟩,
  ⟨(some 8), .bin .quo (.t 6) (.t 7), none⟩,
  ⟨(some 5), .mv (.t 8), none⟩]
def r60_2 : List SOper := [
  ⟨(some 9), .mv (.t 5), none⟩,
  ⟨(some 10), .mv (.t 1), none⟩,
  ⟨(some 11), .bin .mul (.t 9) (.t 10), none⟩,
  ⟨(some 12), .mv (.t 0), none⟩,
  ⟨(some 13), .bin .gtr (.t 11) (.t 12), none⟩]
def r60_3 : List SOper := [
  ⟨(some 14), .mv (.t 5), none⟩,
  ⟨(some 15), .bin .sub (.t 14) (.c (.one (.sc (.int .i64 1)))), none⟩,
  ⟨(some 5), .mv (.t 15), none⟩]
def r60_4 : List SOper := [
  ⟨(some 16), .mv (.t 5), none⟩,
  ⟨(some 4), .mv (.t 16), none⟩]
def c60 : SC := (.seq (.reg r60_0) (.seq (.reg r60_1) (.seq (.seq (.reg r60_2) (.cond (.t 13) (.reg r60_3) .skip)) (.seq (.reg r60_4) .ret))))
/-- limner/limnerref01.Below -/
def F60 : SFun := ⟨17, c60, [.tmp 4]⟩

def r62_0 : List SOper := [
  ⟨(some 1), .box (.t 0), none⟩,
  ⟨(some 2), .mv (.c (.one (.sc (.bool false)))), none⟩]
def r62_1 : List SOper := [
  ⟨(some 3), .loadA 2 (.t 1), none⟩,
  ⟨(some 4), .call (.z 1) 40 [(.t 3)], none⟩,
  ⟨(some 5), .un .not (.t 4), none⟩,
  ⟨(some 2), .mv (.t 5), none⟩]
def c62 : SC := (.seq (.reg r62_0) (.seq (.reg r62_1) .ret))
/-- limner/curve.check$1 -/
def F62 : SFun := ⟨6, c62, [.tmp 2]⟩

def TA : Nat → Option SFun
  | 5 => some F5
  | 9 => some F9
  | 10 => some F10
  | 11 => some F11
  | 12 => some F12
  | 14 => some F14
  | 15 => some F15
  | 16 => some F16
  | 18 => some F18
  | 19 => some F19
  | 20 => some F20
  | 21 => some F21
  | 22 => some F22
  | 28 => some F28
  | 32 => some F32
  | 33 => some F33
  | 34 => some F34
  | 35 => some F35
  | 36 => some F36
  | 38 => some F38
  | 39 => some F39
  | 40 => some F40
  | 42 => some F42
  | 43 => some F43
  | 44 => some F44
  | 45 => some F45
  | 46 => some F46
  | 47 => some F47
  | 49 => some F49
  | 53 => some F53
  | 54 => some F54
  | 55 => some F55
  | 56 => some F56
  | 57 => some F57
  | 58 => some F58
  | 59 => some F59
  | 60 => some F60
  | 62 => some F62
  | _ => none
def mdA : Nat → Mode
  | 9 => .t
  | 10 => .k
  | 12 => .k
  | 15 => .t
  | 16 => (.z 1)
  | 18 => .k
  | 21 => .k
  | 32 => (.z 1)
  | 33 => .k
  | 34 => .k
  | 35 => .k
  | 36 => (.z 1)
  | 39 => (.z 1)
  | 40 => (.z 1)
  | 43 => (.z 1)
  | 44 => .k
  | 45 => .k
  | 46 => (.z 1)
  | 47 => .k
  | 49 => (.z 1)
  | 56 => (.z 1)
  | 58 => .k
  | 59 => .k
  | 60 => (.z 1)
  | 62 => (.z 1)
  | _ => .q
def q5 : Nat → List (List Nat) × List (Nat × Nat)
  | 17 => ([[], [], [0, 1], [0, 1, 2], [], [], [0, 1, 2, 4, 5], [0, 1, 2, 4, 5, 6], [0, 1, 2, 3, 4, 5, 6, 7], [0, 1, 2, 3, 4, 5, 6, 7, 8], [0, 1, 2, 3, 4, 5, 6, 7, 8, 9], [], [], [11, 12], [11, 12, 13], [0, 1, 2, 3, 4, 5, 6, 7, 8, 9, 10, 11, 12, 13, 14], [], [0, 1, 2, 3, 4, 5, 6, 7, 8, 9, 10, 11, 12, 13, 14, 15, 16], [0, 1, 2, 3, 4, 5, 6, 7, 8, 9, 10, 11, 12, 13, 14, 15, 16, 17], [0, 1, 2, 3, 4, 5, 6, 7, 8, 9, 10, 11, 12, 13, 14, 15, 16, 17, 18], [0, 1, 2, 3, 4, 5, 6, 7, 8, 9, 10, 11, 12, 13, 14, 15, 16, 17, 18], [0, 1, 2, 3, 4, 5, 6, 7, 8, 9, 10, 11, 12, 13, 14, 15, 16, 17, 18, 19], [0, 1, 2, 3, 4, 5, 6, 7, 8, 9, 10, 11, 12, 13, 14, 15, 16, 17, 18, 19, 20, 21]], [])
  | 18 => ([[], [], [0, 1], [0, 1, 2], [], [], [0, 1, 2, 4, 5], [0, 1, 2, 4, 5, 6], [0, 1, 2, 3, 4, 5, 6, 7], [0, 1, 2, 3, 4, 5, 6, 7, 8], [0, 1, 2, 3, 4, 5, 6, 7, 8, 9], [], [], [11, 12], [11, 12, 13], [], [], [16], [15, 16, 17], [15, 16, 17, 18], [0, 1, 2, 3, 4, 5, 6, 7, 8, 9, 10, 11, 12, 13, 14, 15, 16, 17, 18, 19], [], [21], [0, 1, 2, 3, 4, 5, 6, 7, 8, 9, 10, 11, 12, 13, 14, 15, 16, 17, 18, 19, 20, 21, 22], [0, 1, 2, 3, 4, 5, 6, 7, 8, 9, 10, 11, 12, 13, 14, 15, 16, 17, 18, 19, 20, 21, 22, 23], [0, 1, 2, 3, 4, 5, 6, 7, 8, 9, 10, 11, 12, 13, 14, 15, 16, 17, 18, 19, 20, 21, 22, 23, 24], [0, 1, 2, 3, 4, 5, 6, 7, 8, 9, 10, 11, 12, 13, 14, 15, 16, 17, 18, 19, 20, 21, 22, 23, 24], [0, 1, 2, 3, 4, 5, 6, 7, 8, 9, 10, 11, 12, 13, 14, 15, 16, 17, 18, 19, 20, 21, 22, 23, 24, 25], [0, 1, 2, 3, 4, 5, 6, 7, 8, 9, 10, 11, 12, 13, 14, 15, 16, 17, 18, 19, 20, 21, 22, 23, 24, 25, 26, 27]], [])
  | 19 => ([[], [0], [0, 1], [0, 1, 2], [0, 1, 2, 3], [0, 1, 2, 3, 4], [0, 1, 2, 3, 4, 5], [0, 1, 2, 3, 4, 5, 6], [0, 1, 2, 3, 4, 5, 6, 7], [0, 1, 2, 3, 4, 5, 6, 7, 8], [0, 1, 2, 3, 4, 5, 6, 7, 8, 9], [0, 1, 2, 3, 4, 5, 6, 7, 8, 9, 10], [0, 1, 2, 3, 4, 5, 6, 7, 8, 9, 10, 11], [0, 1, 2, 3, 4, 5, 6, 7, 8, 9, 10, 11, 12], [0, 1, 2, 3, 4, 5, 6, 7, 8, 9, 10, 11, 12, 13], [0, 1, 2, 3, 4, 5, 6, 7, 8, 9, 10, 11, 12, 13, 14], [0, 1, 2, 3, 4, 5, 6, 7, 8, 9, 10, 11, 12, 13, 14, 15], [0, 1, 2, 3, 4, 5, 6, 7, 8, 9, 10, 11, 12, 13, 14, 15, 16], [0, 1, 2, 3, 4, 5, 6, 7, 8, 9, 10, 11, 12, 13, 14, 15, 16, 17], [0, 1, 2, 3, 4, 5, 6, 7, 8, 9, 10, 11, 12, 13, 14, 15, 16, 17, 18], [0, 1, 2, 3, 4, 5, 6, 7, 8, 9, 10, 11, 12, 13, 14, 15, 16, 17, 18, 19], [0, 1, 2, 3, 4, 5, 6, 7, 8, 9, 10, 11, 12, 13, 14, 15, 16, 17, 18, 19, 20], [0, 1, 2, 3, 4, 5, 6, 7, 8, 9, 10, 11, 12, 13, 14, 15, 16], [0, 1, 2, 3, 4, 5, 6, 7, 8, 9, 10, 11, 12, 13, 14, 15, 16, 22], [0, 1, 2, 3, 4, 5, 6, 7, 8, 9, 10, 11, 12, 13, 14, 15, 16, 22, 23], [0, 1, 2, 3, 4, 5, 6, 7, 8, 9, 10, 11, 12, 13, 14, 15, 16, 22, 23, 24], [0, 1, 2, 3, 4, 5, 6, 7, 8, 9, 10, 11, 12, 13, 14, 15, 16, 22, 23, 24, 25], [0, 1, 2, 3, 4, 5, 6, 7, 8, 9, 10, 11, 12, 13, 14, 15, 16, 17, 18, 19, 20, 21, 22, 23, 24, 25, 26], [0, 1, 2, 3, 4, 5, 6, 7, 8, 9, 10, 11, 12, 13, 14, 15, 16, 17, 18, 19, 20, 21, 22, 23, 24, 25, 26, 27]], [])
  | 24 => ([[], [0], [0, 1], [0, 1, 2], [], [0, 1, 2, 3, 4], [0, 1, 2, 3, 4, 5], [], [0, 1, 2, 3, 4, 5, 6, 7]], [])
  | _ => ([], [])
theorem ok5 : slimF Tryd.prog 1 mdA q5 (some (53, 15)) Tryd.f5 = some F5 := by kernel_rfl
def q9 : Nat → List (List Nat) × List (Nat × Nat)
  | _ => ([], [])
theorem ok9 : slimF Tryd.prog 1 mdA q9 (some (53, 15)) Tryd.f9 = some F9 := by kernel_rfl
def q10 : Nat → List (List Nat) × List (Nat × Nat)
  | 19 => ([[], [0], [], [0, 1, 2], [], [0, 1, 2, 3, 4], [0, 1, 2, 3, 4, 5], [0, 1, 2, 3, 4, 5, 6], [0, 1, 2, 3, 4, 5, 6], [0, 1, 2, 3, 4, 5, 6, 7], [0, 1, 2, 3, 4, 5, 6, 7, 8, 9]], [(4294967295, 2), (3, 64)])
  | 14 => ([[], [], [1], [1, 2], [1, 2, 3], [], [5], [5, 6], [5, 6, 7], [1, 2, 3, 4, 5, 6, 7, 8], [0, 1, 2, 3, 4, 5, 6, 7, 8, 9], [0, 1, 2, 3, 4, 5, 6, 7, 8, 9, 10], [0, 1, 2, 3, 4, 5, 6, 7, 8, 9, 10, 11]], [])
  | _ => ([], [])
theorem ok10 : slimF Tryd.prog 1 mdA q10 (some (53, 15)) Tryd.f10 = some F10 := by kernel_rfl
def q11 : Nat → List (List Nat) × List (Nat × Nat)
  | _ => ([], [])
theorem ok11 : slimF Tryd.prog 1 mdA q11 (some (53, 15)) Tryd.f11 = some F11 := by kernel_rfl
def q12 : Nat → List (List Nat) × List (Nat × Nat)
  | _ => ([], [])
theorem ok12 : slimF Tryd.prog 1 mdA q12 (some (53, 15)) Tryd.f12 = some F12 := by kernel_rfl
def q14 : Nat → List (List Nat) × List (Nat × Nat)
  | _ => ([], [])
theorem ok14 : slimF Tryd.prog 1 mdA q14 (some (53, 15)) Tryd.f14 = some F14 := by kernel_rfl
def q15 : Nat → List (List Nat) × List (Nat × Nat)
  | _ => ([], [])
theorem ok15 : slimF Tryd.prog 1 mdA q15 (some (53, 15)) Tryd.f15 = some F15 := by kernel_rfl
def q16 : Nat → List (List Nat) × List (Nat × Nat)
  | _ => ([], [])
theorem ok16 : slimF Tryd.prog 1 mdA q16 (some (53, 15)) Tryd.f16 = some F16 := by kernel_rfl
def q18 : Nat → List (List Nat) × List (Nat × Nat)
  | 9 => ([[], [], [1], [], [], [4], [3, 4, 5], [3, 4, 5, 6], [3, 4, 5, 6, 7], [3, 4, 5, 6, 7, 8], [3, 4, 5, 6, 7, 8, 9], [0, 1, 2], [0, 1, 2, 11], [0, 1, 2, 3, 4, 5, 6, 7, 8, 9, 10, 11, 12], [0, 1, 2, 3, 4, 5, 6, 7, 8, 9, 10, 11, 12, 13], [], [0, 1, 2, 3, 4, 5, 6, 7, 8, 9, 10, 11, 12, 13, 14, 15]], [(4294967294, 9)])
  | 13 => ([[], [0], [], [0, 1, 2], [0, 1, 2, 3], [0, 1, 2, 3, 4], [0, 1, 2, 3, 4, 5], [0, 1, 2, 3, 4, 5], [0, 1, 2, 3, 4, 5], [0, 1, 2, 3, 4, 5, 6], [0, 1, 2, 3, 4, 5, 6, 7, 9], [0, 1, 2, 3, 4, 5, 6, 7, 8, 9, 10]], [(4294967295, 2)])
  | 14 => ([[], [0], [], [2], [0, 1, 2, 3]], [])
  | 15 => ([[], [0], [], [2], [0, 1, 2, 3]], [])
  | 16 => ([[], [], [0, 1], [], [], [3, 4], [], [], [7], [6, 7, 8], [0, 1, 2, 3, 4, 5, 6, 7, 8, 9], [0, 1, 2, 3, 4, 5, 6, 7, 8, 9, 10], [0, 1, 2, 3, 4, 5, 6, 7, 8, 9, 10, 11], [0, 1, 2, 3, 4, 5, 6, 7, 8, 9, 10, 11, 12]], [])
  | _ => ([], [])
theorem ok18 : slimF Tryd.prog 1 mdA q18 (some (53, 15)) Tryd.f18 = some F18 := by kernel_rfl
def q19 : Nat → List (List Nat) × List (Nat × Nat)
  | 1 => ([[], [], [0, 1], [0, 1, 2], [], [], [4, 5], [], [], [0, 1, 2, 3, 4, 5, 6, 7, 8], [0, 1, 2, 3, 4, 5, 6, 7, 8, 9]], [(4294967294, 6)])
  | 2 => ([[], [], [], [], [0, 2, 3], [0, 1, 2, 3, 4]], [(6, 8)])
  | 5 => ([[], [], [0], [0, 1, 2]], [(9, 4)])
  | 17 => ([[], [], [0], [0, 1, 2]], [(9, 4)])
  | _ => ([], [])
theorem ok19 : slimF Tryd.prog 1 mdA q19 (some (53, 15)) Tryd.f19 = some F19 := by kernel_rfl
def q20 : Nat → List (List Nat) × List (Nat × Nat)
  | _ => ([], [])
theorem ok20 : slimF Tryd.prog 1 mdA q20 (some (53, 15)) Tryd.f20 = some F20 := by kernel_rfl
def q21 : Nat → List (List Nat) × List (Nat × Nat)
  | _ => ([], [])
theorem ok21 : slimF Tryd.prog 1 mdA q21 (some (53, 15)) Tryd.f21 = some F21 := by kernel_rfl
def q22 : Nat → List (List Nat) × List (Nat × Nat)
  | _ => ([], [])
theorem ok22 : slimF Tryd.prog 1 mdA q22 (some (53, 15)) Tryd.f22 = some F22 := by kernel_rfl
def q28 : Nat → List (List Nat) × List (Nat × Nat)
  | 7 => ([[], [], [0, 1], [0, 1, 2], [], [], [4, 5], [4, 5, 6], [0, 1, 2, 3, 4, 5, 6, 7]], [])
  | _ => ([], [])
theorem ok28 : slimF Tryd.prog 1 mdA q28 (some (53, 15)) Tryd.f28 = some F28 := by kernel_rfl
def q32 : Nat → List (List Nat) × List (Nat × Nat)
  | _ => ([], [])
theorem ok32 : slimF Tryd.prog 1 mdA q32 (some (53, 15)) Tryd.f32 = some F32 := by kernel_rfl
def q33 : Nat → List (List Nat) × List (Nat × Nat)
  | _ => ([], [])
theorem ok33 : slimF Tryd.prog 1 mdA q33 (some (53, 15)) Tryd.f33 = some F33 := by kernel_rfl
def q34 : Nat → List (List Nat) × List (Nat × Nat)
  | _ => ([], [])
theorem ok34 : slimF Tryd.prog 1 mdA q34 (some (53, 15)) Tryd.f34 = some F34 := by kernel_rfl
def q35 : Nat → List (List Nat) × List (Nat × Nat)
  | 1 => ([[], [0], [0, 1], [], [3], [3, 4], [3, 4, 5], [3, 4, 5, 6], [0, 1, 2, 3, 4, 5, 6, 7], [0, 1, 2, 3, 4, 5, 6, 7, 8]], [])
  | _ => ([], [])
theorem ok35 : slimF Tryd.prog 1 mdA q35 (some (53, 15)) Tryd.f35 = some F35 := by kernel_rfl
def q36 : Nat → List (List Nat) × List (Nat × Nat)
  | _ => ([], [])
theorem ok36 : slimF Tryd.prog 1 mdA q36 (some (53, 15)) Tryd.f36 = some F36 := by kernel_rfl
def q38 : Nat → List (List Nat) × List (Nat × Nat)
  | _ => ([], [])
theorem ok38 : slimF Tryd.prog 1 mdA q38 (some (53, 15)) Tryd.f38 = some F38 := by kernel_rfl
def q39 : Nat → List (List Nat) × List (Nat × Nat)
  | _ => ([], [])
theorem ok39 : slimF Tryd.prog 1 mdA q39 (some (53, 15)) Tryd.f39 = some F39 := by kernel_rfl
def q40 : Nat → List (List Nat) × List (Nat × Nat)
  | _ => ([], [])
theorem ok40 : slimF Tryd.prog 1 mdA q40 (some (53, 15)) Tryd.f40 = some F40 := by kernel_rfl
def q42 : Nat → List (List Nat) × List (Nat × Nat)
  | _ => ([], [])
theorem ok42 : slimF Tryd.prog 1 mdA q42 (some (53, 15)) Tryd.f42 = some F42 := by kernel_rfl
def q43 : Nat → List (List Nat) × List (Nat × Nat)
  | _ => ([], [])
theorem ok43 : slimF Tryd.prog 1 mdA q43 (some (53, 15)) Tryd.f43 = some F43 := by kernel_rfl
def q44 : Nat → List (List Nat) × List (Nat × Nat)
  | 5 => ([[], [], [1], [0, 1, 2], [0, 1, 2, 3], [], [], [6], [5, 6, 7], [0, 1, 2, 3, 4, 5, 6, 7, 8], [0, 1, 2, 3, 4, 5, 6, 7, 8, 9], [0, 1, 2, 3, 4, 5, 6, 7, 8, 9, 10], [0, 1, 2, 3, 4, 5, 6, 7, 8, 9, 10, 11]], [])
  | _ => ([], [])
theorem ok44 : slimF Tryd.prog 1 mdA q44 (some (53, 15)) Tryd.f44 = some F44 := by kernel_rfl
def q45 : Nat → List (List Nat) × List (Nat × Nat)
  | _ => ([], [])
theorem ok45 : slimF Tryd.prog 1 mdA q45 (some (53, 15)) Tryd.f45 = some F45 := by kernel_rfl
def q46 : Nat → List (List Nat) × List (Nat × Nat)
  | 1 => ([[], [0], [], [2], [0, 1, 2, 3], [0, 1, 2, 3, 4], [], [6], [], [8], [6, 7, 8, 9], [0, 1, 2, 3, 4, 5, 6, 7, 8, 9, 10], [0, 1, 2, 3, 4, 5, 6, 7, 8, 9, 10, 11], [0, 1, 2, 3, 4, 5, 6, 7, 8, 9, 10, 11, 12]], [])
  | _ => ([], [])
theorem ok46 : slimF Tryd.prog 1 mdA q46 (some (53, 15)) Tryd.f46 = some F46 := by kernel_rfl
def q47 : Nat → List (List Nat) × List (Nat × Nat)
  | 9 => ([[], [], [], [1, 2], [1, 2, 3], [], [], [6], [5, 6, 7], [5, 6, 7, 8], [1, 2, 3, 4, 5, 6, 7, 8, 9], [1, 2, 3, 4, 5, 6, 7, 8, 9, 10], [0, 1, 2, 3, 4, 5, 6, 7, 8, 9, 10, 11], [0, 1, 2, 3, 4, 5, 6, 7, 8, 9, 10, 11, 12]], [])
  | _ => ([], [])
theorem ok47 : slimF Tryd.prog 1 mdA q47 (some (53, 15)) Tryd.f47 = some F47 := by kernel_rfl
def q49 : Nat → List (List Nat) × List (Nat × Nat)
  | _ => ([], [])
theorem ok49 : slimF Tryd.prog 1 mdA q49 (some (53, 15)) Tryd.f49 = some F49 := by kernel_rfl
def q53 : Nat → List (List Nat) × List (Nat × Nat)
  | _ => ([], [])
theorem ok53 : slimF Tryd.prog 1 mdA q53 (some (53, 15)) Tryd.f53 = some F53 := by kernel_rfl
def q54 : Nat → List (List Nat) × List (Nat × Nat)
  | _ => ([], [])
theorem ok54 : slimF Tryd.prog 1 mdA q54 (some (53, 15)) Tryd.f54 = some F54 := by kernel_rfl
def q55 : Nat → List (List Nat) × List (Nat × Nat)
  | _ => ([], [])
theorem ok55 : slimF Tryd.prog 1 mdA q55 (some (53, 15)) Tryd.f55 = some F55 := by kernel_rfl
def q56 : Nat → List (List Nat) × List (Nat × Nat)
  | 1 => ([[], [0], [], [2], [0, 1], [0, 1, 4], [0, 1, 2, 3, 4, 5], [0, 1, 2, 3, 4, 5, 6]], [(9, 11)])
  | 6 => ([[], [], [], [2], [2, 3], [], [], [5, 6], [5, 6, 7], [], [0, 2, 3, 4, 9], [0, 2, 3, 4, 9, 10], [], [0, 1, 2, 3, 4, 5, 6, 7, 8, 9, 10, 11, 12], [0, 1, 2, 3, 4, 5, 6, 7, 8, 9, 10, 11, 12, 13]], [(30, 33)])
  | 10 => ([[], [], [], [1, 2], [1, 2, 3], [], [5], [], [5, 6, 7], [5, 6, 7, 8], [1, 2, 3, 4, 5, 6, 7, 8, 9], [], [0, 1, 2, 3, 4, 5, 6, 7, 8, 9, 10, 11], [0, 1, 2, 3, 4, 5, 6, 7, 8, 9, 10, 11, 12]], [])
  | 13 => ([[], [], [0], [0, 1, 2]], [(3, 2)])
  | _ => ([], [])
theorem ok56 : slimF Tryd.prog 1 mdA q56 (some (53, 15)) Tryd.f56 = some F56 := by kernel_rfl
def q57 : Nat → List (List Nat) × List (Nat × Nat)
  | _ => ([], [])
theorem ok57 : slimF Tryd.prog 1 mdA q57 (some (53, 15)) Tryd.f57 = some F57 := by kernel_rfl
def q58 : Nat → List (List Nat) × List (Nat × Nat)
  | _ => ([], [])
theorem ok58 : slimF Tryd.prog 1 mdA q58 (some (53, 15)) Tryd.f58 = some F58 := by kernel_rfl
def q59 : Nat → List (List Nat) × List (Nat × Nat)
  | _ => ([], [])
theorem ok59 : slimF Tryd.prog 1 mdA q59 (some (53, 15)) Tryd.f59 = some F59 := by kernel_rfl
def q60 : Nat → List (List Nat) × List (Nat × Nat)
  | _ => ([], [])
theorem ok60 : slimF Tryd.prog 1 mdA q60 (some (53, 15)) Tryd.f60 = some F60 := by kernel_rfl
def q62 : Nat → List (List Nat) × List (Nat × Nat)
  | _ => ([], [])
theorem ok62 : slimF Tryd.prog 1 mdA q62 (some (53, 15)) Tryd.f62 = some F62 := by kernel_rfl
def qA : Nat → Nat → List (List Nat) × List (Nat × Nat)
  | 5 => q5
  | 9 => q9
  | 10 => q10
  | 11 => q11
  | 12 => q12
  | 14 => q14
  | 15 => q15
  | 16 => q16
  | 18 => q18
  | 19 => q19
  | 20 => q20
  | 21 => q21
  | 22 => q22
  | 28 => q28
  | 32 => q32
  | 33 => q33
  | 34 => q34
  | 35 => q35
  | 36 => q36
  | 38 => q38
  | 39 => q39
  | 40 => q40
  | 42 => q42
  | 43 => q43
  | 44 => q44
  | 45 => q45
  | 46 => q46
  | 47 => q47
  | 49 => q49
  | 53 => q53
  | 54 => q54
  | 55 => q55
  | 56 => q56
  | 57 => q57
  | 58 => q58
  | 59 => q59
  | 60 => q60
  | 62 => q62
  | _ => fun _ => ([], [])
theorem TA_ok : ∀ f sf, TA f = some sf → ∃ fn, Tryd.prog.funcs[f]? = some fn ∧ slimF Tryd.prog 1 mdA (qA f) (some (53, 15)) fn = some sf := by
  intro f sf h
  unfold TA at h
  split at h
  · cases h; exact ⟨Tryd.f5, Tryd.func5, ok5⟩
  · cases h; exact ⟨Tryd.f9, Tryd.func9, ok9⟩
  · cases h; exact ⟨Tryd.f10, Tryd.func10, ok10⟩
  · cases h; exact ⟨Tryd.f11, Tryd.func11, ok11⟩
  · cases h; exact ⟨Tryd.f12, Tryd.func12, ok12⟩
  · cases h; exact ⟨Tryd.f14, Tryd.func14, ok14⟩
  · cases h; exact ⟨Tryd.f15, Tryd.func15, ok15⟩
  · cases h; exact ⟨Tryd.f16, Tryd.func16, ok16⟩
  · cases h; exact ⟨Tryd.f18, Tryd.func18, ok18⟩
  · cases h; exact ⟨Tryd.f19, Tryd.func19, ok19⟩
  · cases h; exact ⟨Tryd.f20, Tryd.func20, ok20⟩
  · cases h; exact ⟨Tryd.f21, Tryd.func21, ok21⟩
  · cases h; exact ⟨Tryd.f22, Tryd.func22, ok22⟩
  · cases h; exact ⟨Tryd.f28, Tryd.func28, ok28⟩
  · cases h; exact ⟨Tryd.f32, Tryd.func32, ok32⟩
  · cases h; exact ⟨Tryd.f33, Tryd.func33, ok33⟩
  · cases h; exact ⟨Tryd.f34, Tryd.func34, ok34⟩
  · cases h; exact ⟨Tryd.f35, Tryd.func35, ok35⟩
  · cases h; exact ⟨Tryd.f36, Tryd.func36, ok36⟩
  · cases h; exact ⟨Tryd.f38, Tryd.func38, ok38⟩
  · cases h; exact ⟨Tryd.f39, Tryd.func39, ok39⟩
  · cases h; exact ⟨Tryd.f40, Tryd.func40, ok40⟩
  · cases h; exact ⟨Tryd.f42, Tryd.func42, ok42⟩
  · cases h; exact ⟨Tryd.f43, Tryd.func43, ok43⟩
  · cases h; exact ⟨Tryd.f44, Tryd.func44, ok44⟩
  · cases h; exact ⟨Tryd.f45, Tryd.func45, ok45⟩
  · cases h; exact ⟨Tryd.f46, Tryd.func46, ok46⟩
  · cases h; exact ⟨Tryd.f47, Tryd.func47, ok47⟩
  · cases h; exact ⟨Tryd.f49, Tryd.func49, ok49⟩
  · cases h; exact ⟨Tryd.f53, Tryd.func53, ok53⟩
  · cases h; exact ⟨Tryd.f54, Tryd.func54, ok54⟩
  · cases h; exact ⟨Tryd.f55, Tryd.func55, ok55⟩
  · cases h; exact ⟨Tryd.f56, Tryd.func56, ok56⟩
  · cases h; exact ⟨Tryd.f57, Tryd.func57, ok57⟩
  · cases h; exact ⟨Tryd.f58, Tryd.func58, ok58⟩
  · cases h; exact ⟨Tryd.f59, Tryd.func59, ok59⟩
  · cases h; exact ⟨Tryd.f60, Tryd.func60, ok60⟩
  · cases h; exact ⟨Tryd.f62, Tryd.func62, ok62⟩
  · cases h
end Go.Proofs.YtpleidpbapgmiaaDoor.Sy

/- The evaluator's range over path.walk is the machine's. Conditions: those that each theorem names. -/
namespace Go.Proofs.YtpleidpbapgmiaaDoor.Sy
open Go Go.Proofs
set_option linter.unusedSimpArgs false
set_option linter.unusedVariables false

theorem mixedW : Tryd.prog.follows .mixedOrders = true := by kernel_rfl
/-- The iterator's code. -/
def WCode (o0 o1 o2 o3 o4 o5 o6 o7 o8 : Array Oper) : Code := (Code.region 0 o0 false).seq ((Code.region 1 o1 false).seq (Code.block 0 (((Code.region 2 o2 false).seq ((Code.cond (.tmp 10) Code.skip (Code.exit 0)).seq ((Code.block 1 ((Code.region 3 o3 false).seq
  (((Code.region 4 o4 false).seq (Code.cond (.tmp 17) Code.ret Code.skip)).seq ((Code.region 5 o5 false).seq ((Code.region 6 o6 false).seq (Code.cond (.tmp 22) (Code.region 7 o7 false) Code.skip)))))).seq (Code.region 8 o8 false)))).loop)))
theorem code_walk : ∃ (fn : Func) (o0 o1 o2 o3 o4 o5 o6 o7 o8 : Array Oper), Tryd.prog.funcs[53]? = some fn ∧ fn.body = some (WCode o0 o1 o2 o3 o4 o5 o6 o7 o8) ∧ fn.ntmps = 29 ∧ fn.results = #[] ∧ (fn.name == "runtime.NumGoroutine") = false ∧
    slimOpers Tryd.prog 1 mdA o0 o0.toList = some r53_0 ∧ slimOpers Tryd.prog 1 mdA o1 o1.toList = some r53_1 ∧ slimOpers Tryd.prog 1 mdA o2 o2.toList = some r53_2 ∧ slimOpers Tryd.prog 1 mdA o3 o3.toList = some r53_3 ∧
    slimOpers Tryd.prog 1 mdA o4 o4.toList = some r53_4 ∧ slimOpers Tryd.prog 1 mdA o5 o5.toList = some r53_5 ∧ slimOpers Tryd.prog 1 mdA o6 o6.toList = some r53_6 ∧ slimOpers Tryd.prog 1 mdA o7 o7.toList = some r53_7 ∧
    slimOpers Tryd.prog 1 mdA o8 o8.toList = some r53_8 ∧ ∃ oy ty ts, o4[3]? = some oy ∧ oy.guard = none ∧ oy.dst = some 16 ∧ oy.type = ty ∧ oy.op = .call { callee := .value (.tmp 13), args := #[.tmp 14, .tmp 15], argTypes := ts } :=
  ⟨Tryd.f53, _, _, _, _, _, _, _, _, _, Tryd.func53, rfl, rfl, rfl, rfl, by kernel_rfl, by kernel_rfl, by kernel_rfl, by kernel_rfl, by kernel_rfl, by kernel_rfl, by kernel_rfl, by kernel_rfl, by kernel_rfl, _, _, _, rfl, rfl, rfl, rfl, rfl⟩

section
variable {call : Callf} {env : Nat → Reg} {m : Mem} {n : Nat}
theorem ev0 : evalOps call r53_0 env m n = some (upd env 3 (.one (.ptr n 0)), upd m n (some ⟨[zc, zc], true⟩), n + 1) := rfl
theorem ev1 {bx len : Nat} {b : Blk} {c : Cell} {id off : Nat} (h1 : env 1 = .one (.ptr bx 0)) (hb : m bx = some b) (hc : b.cells[0]? = some c) (hs : segsOf c = some (id, off, len)) :
    evalOps call r53_1 env m n = some (upd (upd (upd env 7 (.one c)) 8 (.one (.sc (.int .i64 len)))) 9 (.one (.sc (.int .i64 0))), m, n) := by
  have hl : evalOp call (upd env 7 (.one c)) m n (.len (.t 7)) = some (.one (.sc (.int .i64 len)), m, n) := by
    simp only [evalOp, evO, upd_same]
    unfold segsOf at hs
    split at hs
    · cases hs; rfl
    · split at hs
      · cases hs; rfl
      · cases hs
    · cases hs
  have hl1 : evalOp call env m n (.load1 (.t 1)) = some (.one c, m, n) := by simp only [evalOp, evO, h1, hb, hc]
  simp only [r53_1, evalOps, wantedS, hl1, putE, hl]
  simp only [evalOp, evO]
theorem ev2 {i len : Nat} (h9 : env 9 = .one (.sc (.int .i64 i))) (h8 : env 8 = .one (.sc (.int .i64 len))) :
    evalOps call r53_2 env m n = some (upd env 10 (.one (.sc (.bool (decide ((i : Int) < len))))), m, n) := by
  simp only [r53_2, evalOps, wantedS, putE, evalOp, evO, h9, h8, binV, if_true, Option.map_some]
theorem ev3 {i id off len : Nat} {cap : Option Nat} {cs : List Cell} (h9 : env 9 = .one (.sc (.int .i64 i))) (h7 : env 7 = .one (.sl id off len cap 7)) (hi : i < len) (hrd : rd m id (off + i * 7) 7 = some cs) (hid : id < n) (hl : cs.length = 7) :
    ∃ e, evalOps call r53_3 env m n = some (e, upd m n (some ⟨cs, true⟩), n + 1) ∧ e 5 = .one (.ptr n 0) ∧ ∀ t, t ≠ 11 → t ≠ 12 → t ≠ 5 → e t = env t := by
  obtain ⟨c1, c2, c3, c4, c5, c6, c7, rfl⟩ : ∃ c1 c2 c3 c4 c5 c6 c7, cs = [c1, c2, c3, c4, c5, c6, c7] := by
    match cs, hl with
    | [c1, c2, c3, c4, c5, c6, c7], _ => exact ⟨_, _, _, _, _, _, _, rfl⟩
  have c2' : (0 ≤ (i : Int) ∧ (i : Int) < len) = True := eq_true (by omega)
  refine ⟨upd (upd (upd env 11 (.one (.ptr id (off + i * 7)))) 12 (.agg [c1, c2, c3, c4, c5, c6, c7])) 5 (.one (.ptr n 0)), ?_, upd_same _ _ _, fun t h1 h2 h3 => by rw [upd_ne _ _ h3, upd_ne _ _ h2, upd_ne _ _ h1]⟩
  have u5 : ∀ (e : Nat → Reg) (r : Reg), upd e 5 r 12 = e 12 := fun e r => upd_ne _ _ (by decide)
  simp only [r53_3, evalOps, wantedS, putE, evalOp, evO, h9, h7, ix, true_and, c2', if_true, Int.toNat_natCast, upd_same, hrd, Option.map_some, u5, Reg.cs?, List.length_cons, List.length_nil, wr, Nat.zero_add, Nat.le_refl, and_self, setL, List.set_cons_zero, List.set_cons_succ, upd_upd, Nat.reduceAdd, Nat.reduceLeDiff]
theorem ev5 {d : Int} {c : Cell} {sb : Nat} {b : Blk} (h5 : env 5 = .one (.ptr sb 0)) (hb : m sb = some b) (hc : b.cells[0]? = some c) (hd : ∃ x y, doCall call .t 15 [.one c] m n = some (.one (.sc (.int .i64 d)), x, y)) :
    ∃ e, evalOps call r53_5 env m n = some (e, m, n) ∧ e 6 = .one (.sc (.int .i64 d)) ∧ ∀ t, t ≠ 18 → t ≠ 19 → t ≠ 20 → t ≠ 6 → e t = env t := by
  obtain ⟨x, y, hd⟩ := hd
  have hxy : x = m ∧ y = n := by
    simp only [doCall] at hd
    split at hd
    case h_2 => cases hd
    split at hd
    case isFalse => cases hd
    split at hd
    case h_2 => cases hd
    split at hd
    case isFalse => cases hd
    cases hd
    exact ⟨rfl, rfl⟩
  obtain ⟨rfl, rfl⟩ := hxy
  refine ⟨upd (upd (upd (upd env 18 (.one (.ptr sb 0))) 19 (.one c)) 20 (.one (.sc (.int .i64 d)))) 6 (.one (.sc (.int .i64 d))), ?_, upd_same _ _ _, fun t h1 h2 h3 h4 => by rw [upd_ne _ _ h4, upd_ne _ _ h3, upd_ne _ _ h2, upd_ne _ _ h1]⟩
  simp only [r53_5, evalOps, wantedS, putE, evalOp, evO, h5, Nat.add_zero, upd_same, hb, hc, evOs, hd]
theorem ev6 {d : Int} (h6 : env 6 = .one (.sc (.int .i64 d))) :
    ∃ e, evalOps call r53_6 env m n = some (e, m, n) ∧ e 22 = .one (.sc (.bool (decide (0 < d)))) ∧ ∀ t, t ≠ 21 → t ≠ 22 → e t = env t := by
  refine ⟨upd (upd env 21 (.one (.sc (.int .i64 d)))) 22 (.one (.sc (.bool (decide (d > 0))))), ?_, upd_same _ _ _, fun t h1 h2 => by rw [upd_ne _ _ h2, upd_ne _ _ h1]⟩
  simp only [r53_6, evalOps, wantedS, putE, evalOp, evO, h6, upd_same, binV, if_true, Option.map_some]
theorem ev7 {d : Int} {sb fb : Nat} {q : List Cell} {m3 : Mem} (h6 : env 6 = .one (.sc (.int .i64 d))) (h5 : env 5 = .one (.ptr sb 0)) (h3 : env 3 = .one (.ptr fb 0)) (h0 : 0 < d) (hd : d ≤ 3) (hq : rd m sb (1 + (d.toNat - 1) * 2) 2 = some q) (hw : wr m fb 0 q = some m3) :
    ∃ e, evalOps call r53_7 env m n = some (e, m3, n) ∧ ∀ t, t ≠ 23 → t ≠ 24 → t ≠ 25 → t ≠ 26 → t ≠ 27 → e t = env t := by
  have hl : q.length = 2 := rd_len hq
  have w1 : IntKind.i64.wrap (d - 1) = d - 1 := wr_eq (by omega) (by omega)
  have c1 : (0 ≤ d - 1 ∧ d - 1 < ((3 : Nat) : Int)) = True := eq_true (by omega)
  have c2 : (d - 1).toNat = d.toNat - 1 := by omega
  have u5 : ∀ (e : Nat → Reg) (r : Reg) (a b : Nat), b ≠ a → upd e a r b = e b := fun e r a b h => upd_ne _ _ h
  refine ⟨upd (upd (upd (upd (upd env 23 (.one (.sc (.int .i64 d)))) 24 (.one (.sc (.int .i64 (d - 1))))) 25 (.one (.ptr sb 1))) 26 (.one (.ptr sb (1 + (d.toNat - 1) * 2)))) 27 (.agg q), ?_, fun t h1 h2 h3 h4 h5 => by rw [upd_ne _ _ h5, upd_ne _ _ h4, upd_ne _ _ h3, upd_ne _ _ h2, upd_ne _ _ h1]⟩
  simp only [r53_7, evalOps, wantedS, putE, evalOp, evO, h6, upd_same, binV, if_true, Option.map_some, w1, u5 _ _ 24 5 (by decide), u5 _ _ 23 5 (by decide), h5, Nat.zero_add, u5 _ _ 25 24 (by decide), ix, c1, c2, hq, u5 _ _ 27 3 (by decide), u5 _ _ 26 3 (by decide), u5 _ _ 25 3 (by decide), u5 _ _ 24 3 (by decide), u5 _ _ 23 3 (by decide), h3, Reg.cs?, hl, hw]
theorem ev8 {i : Nat} (hi : i < 4294967296) (h9 : env 9 = .one (.sc (.int .i64 i))) :
    ∃ e, evalOps call r53_8 env m n = some (e, m, n) ∧ e 9 = .one (.sc (.int .i64 ((i + 1 : Nat) : Int))) ∧ ∀ t, t ≠ 28 → t ≠ 9 → e t = env t := by
  have w1 : IntKind.i64.wrap ((i : Int) + 1) = ((i + 1 : Nat) : Int) := wr_nat (by omega)
  refine ⟨upd (upd env 28 (.one (.sc (.int .i64 ((i + 1 : Nat) : Int))))) 9 (.one (.sc (.int .i64 ((i + 1 : Nat) : Int)))), ?_, upd_same _ _ _, fun t h1 h2 => by rw [upd_ne _ _ h2, upd_ne _ _ h1]⟩
  simp only [r53_8, evalOps, wantedS, putE, evalOp, evO, h9, upd_same, binV, if_true, Option.map_some, w1]
end

section
variable {call : Callf}
theorem regS {F : Fence} [Wide F] {nf : Nat} (hcall : CallOK Tryd.prog 1 call) {ops : Array Oper} {ss : List SOper} {env env' : Nat → Reg} {m m' : Mem} {n n' id : Nat} {ρ : Loc} {a : Act} {w : World} {Q : Exit → Act → World → Prop} (hs : slimOpers Tryd.prog 1 mdA ops ops.toList = some ss) (hN : dstsOk 29 ss = true) (hG : Good 29 1 ρ n w env m a)
    (hev : evalOps call ss env m n = some (env', m', n')) (hQ : ∀ ρ' a' w', Step ρ n w m ρ' n' w' m' → Good 29 1 ρ' n' w' env' m' a' → a'.defers = a.defers → Q .normal a' w') : (Code.region id ops false).wpIn F nf Tryd.prog Q a w :=
  region_sound (dis := []) (cl := []) hcall mixedW hs hN (fun h => by cases h) hG hev (fun h => by cases h) hQ

/-- The record while a round may begin. -/
def recW (fn : FuncId) (tmps : Array Value) (p1 p2 D : Nat) (asg body : Code) (st : LoopState) : Loop := { state := st, pending := none, fn, tmps, params := #[p1, p2], assign := asg, body, defers := D }

set_option maxHeartbeats 4000000 in
/-- The region with the call of yield. -/
theorem yield_sound {nf : Nat} (hcall : CallOK Tryd.prog 1 call) {K N : Nat} {p1 p2 l D : Nat} {fn : FuncId} {asg body : Code} {a b : SC} (hp1 : p1 < N) (hp2 : p2 < N)
    (hA : ∀ l, Sound Tryd.prog 1 N call K (Fence.wide.inRound l) asg a) (hB : ∀ l, Sound Tryd.prog 1 N call K (Fence.wide.inRound l) body b)
    {o4 : Array Oper} (hs4 : slimOpers Tryd.prog 1 mdA o4 o4.toList = some r53_4) {oy : Oper} {ts : Array TypeId} (ho : o4[3]? = some oy) (hgd : oy.guard = none) (hdst : oy.dst = some 16) (hop : oy.op = .call { callee := .value (.tmp 13), args := #[.tmp 14, .tmp 15], argTypes := ts })
    {env e0 : Nat → Reg} {m m1 : Mem} {n n1 fb sb : Nat} {fr cs : List Cell} {ρ : Loc} {act a2 : Act} {w : World} {Q : Exit → Act → World → Prop} (hG : Good 29 1 ρ n w env m a2) (hE : ERel ρ n w e0 act) (hsz : act.tmps.size = N) (hd2 : a2.defers = [])
    (h0 : env 0 = .one (.sc (.func (.yield l) #[] #[]))) (h3 : env 3 = .one (.ptr fb 0)) (h5 : env 5 = .one (.ptr sb 0)) (hfr : rd m fb 0 2 = some fr) (hcs : rd m sb 0 7 = some cs)
    (hwB : walkB (exec call K a) (exec call K b) e0 p1 p2 fr cs m n = some (m1, n1)) (hl : w.heap[l]? = some (.loop (recW fn act.tmps p1 p2 D asg body .ready))) (hno : ¬ Own ρ m l)
    (hQ : ∀ ρ' env' a' w', Step ρ n w m ρ' n1 w' m1 → Good 29 1 ρ' n1 w' env' m1 a' → a'.defers = [] → env' 17 = .one (.sc (.bool false)) → (∀ t, t < 13 → env' t = env t) → Q .normal a' w') : (Code.region 4 o4 false).wpIn Fence.wide nf Tryd.prog Q a2 w := by
  obtain ⟨hlen, hg⟩ := slimOpers_get hs4
  have hM : ∀ (i : Nat) (so : SOper), r53_4[i]? = some so → Matches Tryd.prog 1 29 mdA o4 i so := fun i so hi => by
    obtain ⟨o, h1, h2⟩ := hg i so hi
    exact ⟨o, by simpa using h1, h2, fun dd hdd => dstsOk_get (N := 29) (by decide) i so hi dd hdd⟩
  have hsize : o4.size = 5 := by rw [← Array.length_toList]; exact hlen.symm
  refine wpIn_region ?_
  rw [hsize, show List.range 5 = [0, 1, 2, 3, 4] from rfl, wpOpsIn_cons]
  refine wpOp_sound hcall (hM 0 _ rfl) hG (r := .one (.sc (.func (.yield l) #[] #[]))) (m' := m) (n' := n) (by simp only [wantedS, evalOp, evO, h0]) (fun v0 ρ0 w0 st0 hv0 => ?_)
  have hG0 := hG.step st0 (dst := some 13) hv0 (fun d h => by cases h; decide)
  rw [wpOpsIn_cons]
  refine wpOp_sound hcall (hM 1 _ rfl) hG0 (r := .agg fr) (m' := m) (n' := n) (by simp only [wantedS, evalOp, evO, putE, upd_ne _ _ (show (3 : Nat) ≠ 13 by decide), h3, hfr, Option.map_some]) (fun v1 ρ1 w1 st1 hv1 => ?_)
  have hG1 := hG0.step st1 (dst := some 14) hv1 (fun d h => by cases h; decide)
  rw [wpOpsIn_cons]
  refine wpOp_sound hcall (hM 2 _ rfl) hG1 (r := .agg cs) (m' := m) (n' := n) (by simp only [wantedS, evalOp, evO, putE, upd_ne _ _ (show (5 : Nat) ≠ 13 by decide), upd_ne _ _ (show (5 : Nat) ≠ 14 by decide), h5, hcs, Option.map_some]) (fun v2 ρ2 w2 st2 hv2 => ?_)
  have hG2 := hG1.step st2 (dst := some 15) hv2 (fun d h => by cases h; decide)
  have st02 := (st0.trans st1).trans st2
  rw [wpOpsIn_cons]
  obtain ⟨a3, ha3⟩ : ∃ a3, a3 = ((a2.put (some 13) v0).put (some 14) v1).put (some 15) v2 := ⟨_, rfl⟩
  have hd3 : a3.defers = [] := by rw [ha3, Act.defers_put, Act.defers_put, Act.defers_put, hd2]
  change Good 29 1 ρ2 n w2 _ m (((a2.put (some 13) v0).put (some 14) v1).put (some 15) v2) at hG2
  change wpOpIn Fence.wide nf Tryd.prog o4 Q 3 _ (((a2.put (some 13) v0).put (some 14) v1).put (some 15) v2) w2
  rw [← ha3] at hG2 ⊢
  have hl2 : w2.heap[l]? = some (.loop (recW fn act.tmps p1 p2 D asg body .ready)) := by rw [st02.fr.block l (Array.getElem?_eq_some_iff.1 hl).1 hno]; exact hl
  have hno2 : ¬ Own ρ2 m l := fun h => hno (st02.own l (Array.getElem?_eq_some_iff.1 hl).1 h)
  have e13 : a3.tmps.getD 13 undef = .func (.yield l) #[] #[] := by
    have := hG2.env 13
    exact sc_inv this
  obtain ⟨u14, e14⟩ : ∃ u, a3.tmps.getD 14 undef = u := ⟨_, rfl⟩
  obtain ⟨u15, e15⟩ : ∃ u, a3.tmps.getD 15 undef = u := ⟨_, rfl⟩
  have r14 : RRel ρ2 n w2 (.agg fr) u14 := by rw [← e14]; exact hG2.env 14
  have r15 : RRel ρ2 n w2 (.agg cs) u15 := by rw [← e15]; exact hG2.env 15
  have hrun : (execOp a3.eval oy).run Tryd.prog w2 = .ok (.round l fn ((act.tmps.setIfInBounds p1 u14).setIfInBounds p2 u15) asg body) w2 := by
    have hy := run_yield (P := Tryd.prog) (args := #[u14, u15]) hl2 rfl
    have hy' : (Instr.yield l #[u14, u15]).run Tryd.prog w2 = .ok (.round l fn ((act.tmps.setIfInBounds p1 u14).setIfInBounds p2 u15) asg body) w2 := by simpa [recW] using hy
    have x13 : a3.eval (.tmp 13) = .func (.yield l) #[] #[] := e13
    have x14 : a3.eval (.tmp 14) = u14 := e14
    have x15 : a3.eval (.tmp 15) = u15 := e15
    simp [execOp, hop, resolve, Deferred.ofValue, invoke, x13, x14, x15, hy']
  unfold wpOpIn
  simp only [ho]
  rw [show Region.wanted oy (yielded o4 a3.tmps) = true by unfold Region.wanted; rw [hgd]]
  simp only [if_true]
  refine ⟨fun f _ => Wide.fn f, ?_⟩
  rw [Oper.semAt_eq _ a3.eval oy (fun c' e => by rw [hop] at e; cases e), hrun, Oper.uponIn_round]
  refine ⟨fun h => (by cases h), roundIn_of_wpIn (F := Fence.wide) trivial ?_⟩
  -- the round
  unfold walkB at hwB
  split at hwB
  case h_2 => cases hwB
  rename_i s1 hx1
  split at hwB
  case h_2 => cases hwB
  rename_i s2 hx2
  cases hwB
  have hEr : ERel ρ2 n w2 (upd (upd e0 p1 (.agg fr)) p2 (.agg cs)) { tmps := (act.tmps.setIfInBounds p1 u14).setIfInBounds p2 u15, defers := [] } := by
    have hE2 := hE.mono st02.le
    have q1 : ERel ρ2 n w2 (putE e0 (some p1) (.agg fr)) (act.put (some p1) u14) := hE2.put r14 (fun d h => by cases h; rw [hsz]; exact hp1)
    have q2 := q1.put (dst := some p2) r15 (fun d h => by cases h; rw [Act.size_put, hsz]; exact hp2)
    exact q2
  have hGr : Good N 1 ρ2 n w2 (upd (upd e0 p1 (.agg fr)) p2 (.agg cs)) m { tmps := (act.tmps.setIfInBounds p1 u14).setIfInBounds p2 u15, defers := [] } := ⟨hG2.mem, hG2.glob, hEr, by simp [hsz]⟩
  refine hA l (nf - 1) _ s1 .n hx1 ρ2 _ w2 _ w2.heap.size hGr (DOk.nil (Nat.le_refl _)) (fun ρ3 a4 w3 st3 hG3 hD3 => ?_)
  have hl3 : w3.heap[l]? = some (.loop (recW fn act.tmps p1 p2 D asg body .ready)) := by rw [st3.fr.block l (Array.getElem?_eq_some_iff.1 hl2).1 hno2]; exact hl2
  have hno3 : ¬ Own ρ3 s1.m l := fun h => hno2 (st3.own l (Array.getElem?_eq_some_iff.1 hl2).1 h)
  refine ⟨_, run_beginRound hl3 rfl, ?_⟩
  obtain ⟨w4, hw4⟩ : ∃ w4, w4 = w3.putObj l (.loop { recW fn act.tmps p1 p2 D asg body .ready with state := .busy }) := ⟨_, rfl⟩
  rw [← hw4]
  have hL4 : Le ρ3 s1.n w3 ρ3 s1.n w4 := by rw [hw4]; exact Le.put hl3 rfl rfl
  have hG4 : Good N 1 ρ3 s1.n w4 s1.e s1.m a4 := ⟨by rw [hw4]; exact hG3.mem.put hl3 rfl rfl, hG3.glob, hG3.env.mono hL4, hG3.size⟩
  refine hB l (nf - 1) s1 s2 .n hx2 ρ3 a4 w4 _ w2.heap.size hG4 (by rw [hw4]; exact hD3.put hl3 _) (fun ρ4 a5 w5 st4 hG5 _ => ?_)
  have hlt3 := (Array.getElem?_eq_some_iff.1 hl3).1
  have hl5 : w5.heap[l]? = some (.loop { recW fn act.tmps p1 p2 D asg body .ready with state := .busy }) := by
    rw [st4.fr.block l (by rw [hw4, World.putObj_size]; exact hlt3) hno3, hw4]
    exact World.putObj_heap_same hlt3
  refine ⟨_, _, run_endRound none hl5, ?_⟩
  have stR : Step ρ3 s1.n w3 s1.m ρ4 s2.n (w5.putObj l (.loop (recW fn act.tmps p1 p2 D asg body .ready))) s2.m := Step.round (w2 := w3) hG3.mem hl3 rfl (o' := .loop { recW fn act.tmps p1 p2 D asg body .ready with state := .busy }) rfl hno3 (by rw [← hw4]; exact st4)
  have stA := st3.trans stR
  change wpOpsIn Fence.wide nf Tryd.prog o4 Q [4] (a3.put oy.dst (.bool true)) (w5.putObj l (.loop (recW fn act.tmps p1 p2 D asg body .ready)))
  rw [hdst, wpOpsIn_cons]
  have hG6 := hG2.step stA (dst := some 16) (r := .one (.sc (.bool true))) (v := .bool true) (by simp [RRel, CRel, Value.oneCell']) (fun d h => by cases h; decide)
  refine wpOp_sound hcall (hM 4 _ rfl) hG6 (r := .one (.sc (.bool false))) (m' := s2.m) (n' := s2.n) (by simp only [wantedS, evalOp, evO, putE, upd_same, unV, Option.map_some, Bool.not_true]) (fun v7 ρ7 w7 st7 hv7 => ?_)
  have hG7 := hG6.step st7 (dst := some 17) hv7 (fun d h => by cases h; decide)
  refine hQ ρ7 _ _ w7 ((st02.trans stA).trans st7) hG7 (by rw [Act.defers_put, Act.defers_put, hd3]) (upd_same _ _ _) (fun t ht => ?_)
  simp only [putE]
  rw [upd_ne _ _ (by omega), upd_ne _ _ (by omega), upd_ne _ _ (by omega), upd_ne _ _ (by omega), upd_ne _ _ (by omega)]

theorem walkGo_fr {nd fb id off : Nat} {B : List Cell → List Cell → Mem → Nat → Option (Mem × Nat)} {k i : Nat} {m : Mem} {n : Nat} {x : Mem × Nat} (h : walkGo call nd B fb id off (k + 1) i m n = some x) :
    ∃ cs fr m1 n1 c d, rd m id (off + i * 7) 7 = some cs ∧ rd m fb 0 2 = some fr ∧ B fr cs (upd m n (some ⟨cs, true⟩)) (n + 1) = some (m1, n1) ∧ (m1 n).bind (·.cells[0]?) = some c ∧ (∃ x y, doCall call .t nd [.one c] m1 n1 = some (.one (.sc (.int .i64 d)), x, y)) ∧
      ((¬ 0 < d ∧ walkGo call nd B fb id off k (i + 1) m1 n1 = some x) ∨ (0 < d ∧ d ≤ 3 ∧ ∃ q m3, rd m1 n (1 + (d.toNat - 1) * 2) 2 = some q ∧ wr m1 fb 0 q = some m3 ∧ walkGo call nd B fb id off k (i + 1) m3 n1 = some x)) := by
  simp only [walkGo] at h
  split at h
  case h_2 => cases h
  rename_i cs fr h1 h2
  split at h
  case h_2 => cases h
  rename_i m1 n1 h3
  split at h
  case h_2 => cases h
  rename_i c h4
  split at h
  case h_2 => cases h
  rename_i d y z h5
  refine ⟨cs, fr, m1, n1, c, d, h1, h2, h3, h4, ⟨y, z, h5⟩, ?_⟩
  split at h
  · rename_i hd
    split at h
    case isFalse => cases h
    rename_i hd3
    split at h
    case h_2 => cases h
    rename_i q h6
    split at h
    case h_2 => cases h
    rename_i m3 h7
    exact Or.inr ⟨hd, hd3, q, m3, h6, h7, h⟩
  · rename_i hd
    exact Or.inl ⟨hd, h⟩

set_option maxHeartbeats 4000000 in
theorem walk_rounds {nf : Nat} (hcall : CallOK Tryd.prog 1 call) {K N : Nat} {p1 p2 l D : Nat} {fn : FuncId} {asg body : Code} {a b : SC} (hp1 : p1 < N) (hp2 : p2 < N)
    (hA : ∀ l, Sound Tryd.prog 1 N call K (Fence.wide.inRound l) asg a) (hB : ∀ l, Sound Tryd.prog 1 N call K (Fence.wide.inRound l) body b)
    {o2 o3 o4 o5 o6 o7 o8 : Array Oper} (hs2 : slimOpers Tryd.prog 1 mdA o2 o2.toList = some r53_2) (hs3 : slimOpers Tryd.prog 1 mdA o3 o3.toList = some r53_3) (hs4 : slimOpers Tryd.prog 1 mdA o4 o4.toList = some r53_4) (hs5 : slimOpers Tryd.prog 1 mdA o5 o5.toList = some r53_5) (hs6 : slimOpers Tryd.prog 1 mdA o6 o6.toList = some r53_6) (hs7 : slimOpers Tryd.prog 1 mdA o7 o7.toList = some r53_7) (hs8 : slimOpers Tryd.prog 1 mdA o8 o8.toList = some r53_8)
    {oy : Oper} {ts : Array TypeId} (ho : o4[3]? = some oy) (hgd : oy.guard = none) (hdst : oy.dst = some 16) (hop : oy.op = .call { callee := .value (.tmp 13), args := #[.tmp 14, .tmp 15], argTypes := ts })
    {e0 : Nat → Reg} {fb id off len : Nat} {c : Cell} (hsl : segsOf c = some (id, off, len)) {act : Act} (hsz : act.tmps.size = N) {m' : Mem} {n' : Nat} {Q : Exit → Act → World → Prop} :
    ∀ (k i : Nat) (env : Nat → Reg) (m : Mem) (n : Nat) (ρ : Loc) (a2 : Act) (w : World), i + k = len → walkGo call 15 (walkB (exec call K a) (exec call K b) e0 p1 p2) fb id off k i m n = some (m', n') →
      Good 29 1 ρ n w env m a2 → ERel ρ n w e0 act → a2.defers = [] → env 0 = .one (.sc (.func (.yield l) #[] #[])) → env 3 = .one (.ptr fb 0) → env 7 = .one c → env 8 = .one (.sc (.int .i64 len)) → env 9 = .one (.sc (.int .i64 i)) →
      w.heap[l]? = some (.loop (recW fn act.tmps p1 p2 D asg body .ready)) → ¬ Own ρ m l →
      (∀ ρ' env' a' w', Step ρ n w m ρ' n' w' m' → Good 29 1 ρ' n' w' env' m' a' → a'.defers = [] → Q (.exit 0) a' w') →
      Code.roundsIn Fence.wide nf Tryd.prog ((Code.region 2 o2 false).seq ((Code.cond (.tmp 10) Code.skip (Code.exit 0)).seq ((Code.block 1 ((Code.region 3 o3 false).seq
  (((Code.region 4 o4 false).seq (Code.cond (.tmp 17) Code.ret Code.skip)).seq ((Code.region 5 o5 false).seq ((Code.region 6 o6 false).seq (Code.cond (.tmp 22) (Code.region 7 o7 false) Code.skip)))))).seq (Code.region 8 o8 false)))) Q (k + 1) a2 w := by
  intro k
  induction k with
  | zero =>
    intro i env m n ρ a2 w hik hgo hG hE hd h0 h3 h7 h8 h9 hl hno hQ
    cases hgo
    rw [roundsIn_succ]
    refine wpIn_seq (regS hcall hs2 (by decide) hG (ev2 h9 h8) (fun ρ1 a1 w1 st1 hG1 hd1 => ?_))
    have hv := hG1.env 10
    rw [upd_same] at hv
    have hv := sc_inv hv
    refine wpIn_seq (wpIn_cond (c := .tmp 10) (t := false) ?_ ?_)
    · show a1.tmps.getD 10 undef = _
      rw [hv]
      simp only [Value.bool.injEq, decide_eq_false_iff_not]
      omega
    · exact wpIn_exit (hQ ρ1 _ a1 w1 st1 hG1 (hd1.trans hd))
  | succ k ih =>
    intro i env m n ρ a2 w hik hgo hG hE hd h0 h3 h7 h8 h9 hl hno hQ
    obtain ⟨cs, fr, m1, n1, cc, d, hcs, hfr, hwB, hcc, hnd, hgo2⟩ := walkGo_fr hgo
    obtain ⟨cap, rfl, hlen⟩ : ∃ cap, c = .sl id off len cap 7 ∧ len ≤ 4294967296 := by
      unfold segsOf at hsl
      split at hsl
      · cases hsl; omega
      · split at hsl
        · rename_i hle
          cases hsl
          exact ⟨_, rfl, hle⟩
        · cases hsl
      · cases hsl
    rw [roundsIn_succ]
    refine wpIn_seq (regS hcall hs2 (by decide) hG (ev2 h9 h8) (fun ρ1 a1 w1 st1 hG1 hd1 => ?_))
    have hv := hG1.env 10
    rw [upd_same] at hv
    have hv := sc_inv hv
    refine wpIn_seq (wpIn_cond (c := .tmp 10) (t := true) ?_ ?_)
    · show a1.tmps.getD 10 undef = _
      rw [hv]
      simp only [Value.bool.injEq, decide_eq_true_eq]
      omega
    refine wpIn_skip ?_
    refine wpIn_seq (wpIn_block ?_)
    have hid : id < n := by
      unfold rd at hcs
      split at hcs
      · rename_i bb hbb; exact hG.mem.lt id bb hbb
      · cases hcs
    have hfb : fb < n := by
      unfold rd at hfr
      split at hfr
      · rename_i bb hbb; exact hG.mem.lt fb bb hbb
      · cases hfr
    have g9 : upd env 10 (.one (.sc (.bool (decide ((i : Int) < len))))) 9 = .one (.sc (.int .i64 i)) := by rw [upd_ne _ _ (by decide)]; exact h9
    have g7 : upd env 10 (.one (.sc (.bool (decide ((i : Int) < len))))) 7 = .one (.sl id off len cap 7) := by rw [upd_ne _ _ (by decide)]; exact h7
    obtain ⟨e3, hev3, h35, hk3⟩ := ev3 (call := call) (m := m) (n := n) g9 g7 (by omega) hcs hid (rd_len hcs)
    refine wpIn_seq (regS hcall hs3 (by decide) hG1 hev3 (fun ρ2 a3 w2 st2 hG2 hd2 => ?_))
    have st12 := st1.trans st2
    have hlt := (Array.getElem?_eq_some_iff.1 hl).1
    have hl2 : w2.heap[l]? = some (.loop (recW fn act.tmps p1 p2 D asg body .ready)) := by rw [st12.fr.block l hlt hno]; exact hl
    have hno2 : ¬ Own ρ2 (upd m n (some ⟨cs, true⟩)) l := fun h => hno (st12.own l hlt h)
    have hfr2 : rd (upd m n (some ⟨cs, true⟩)) fb 0 2 = some fr := by rw [rd_upd, if_neg (by omega)]; exact hfr
    have hcs2 : rd (upd m n (some ⟨cs, true⟩)) n 0 7 = some cs := by
      rw [rd_upd, if_pos rfl]
      have h7' := rd_len hcs
      unfold rdB
      simp only [h7', Nat.zero_add, Nat.le_refl, if_true, List.drop_zero]
      rw [List.take_of_length_le (by omega)]
    refine wpIn_seq (wpIn_seq ?_)
    refine yield_sound hcall hp1 hp2 hA hB hs4 ho hgd hdst hop hG2 (hE.mono st12.le) hsz (by rw [hd2, hd1, hd]) (by rw [hk3 0 (by decide) (by decide) (by decide), upd_ne _ _ (by decide)]; exact h0) (by rw [hk3 3 (by decide) (by decide) (by decide), upd_ne _ _ (by decide)]; exact h3) h35 hfr2 hcs2 hwB hl2 hno2
      (fun ρ3 e4 a4 w3 st3 hG3 hd3 h17 hk4 => ?_)
    have hv17 := hG3.env 17
    rw [h17] at hv17
    have hv17 := sc_inv hv17
    refine wpIn_cond (c := .tmp 17) (t := false) (show a4.tmps.getD 17 undef = _ from hv17) ?_
    refine wpIn_skip ?_
    obtain ⟨bb, hbb, hbc⟩ := Option.bind_eq_some_iff.1 hcc
    obtain ⟨e5, hev5, h56, hk5⟩ := ev5 (call := call) (env := e4) (m := m1) (n := n1) (by rw [hk4 5 (by decide)]; exact h35) hbb hbc hnd
    refine wpIn_seq (regS hcall hs5 (by decide) hG3 hev5 (fun ρ4 a5 w4 st4 hG4 hd4 => ?_))
    obtain ⟨e6, hev6, h622, hk6⟩ := ev6 (call := call) (env := e5) (m := m1) (n := n1) h56
    refine wpIn_seq (regS hcall hs6 (by decide) hG4 hev6 (fun ρ5 a6 w5 st5 hG5 hd5 => ?_))
    have hv22 := hG5.env 22
    rw [h622] at hv22
    have hv22 := sc_inv hv22
    have st15 := ((st12.trans st3).trans st4).trans st5
    have hdf : a6.defers = [] := by rw [hd5, hd4, hd3]
    have keep : ∀ t, t ∈ [0, 3, 7, 8, 9] → e6 t = env t := by
      intro t ht
      simp only [List.mem_cons, List.mem_nil_iff, or_false] at ht
      rw [hk6 t (by omega) (by omega), hk5 t (by omega) (by omega) (by omega) (by omega), hk4 t (by omega), hk3 t (by omega) (by omega) (by omega), upd_ne _ _ (by omega)]
    -- the last region, and on
    have fin : ∀ (m3 : Mem) (ρ6 : Loc) (e7 : Nat → Reg) (a7 : Act) (w6 : World), Step ρ n w m ρ6 n1 w6 m3 → Good 29 1 ρ6 n1 w6 e7 m3 a7 → a7.defers = [] → (∀ t, t ∈ [0, 3, 7, 8, 9] → e7 t = env t) → walkGo call 15 (walkB (exec call K a) (exec call K b) e0 p1 p2) fb id off k (i + 1) m3 n1 = some (m', n') →
        (Code.region 8 o8 false).wpIn Fence.wide nf Tryd.prog (Exit.then (Code.roundsIn Fence.wide nf Tryd.prog ((Code.region 2 o2 false).seq ((Code.cond (.tmp 10) Code.skip (Code.exit 0)).seq ((Code.block 1 ((Code.region 3 o3 false).seq
  (((Code.region 4 o4 false).seq (Code.cond (.tmp 17) Code.ret Code.skip)).seq ((Code.region 5 o5 false).seq ((Code.region 6 o6 false).seq (Code.cond (.tmp 22) (Code.region 7 o7 false) Code.skip)))))).seq (Code.region 8 o8 false)))) Q (k + 1)) Q) a7 w6 := by
      intro m3 ρ6 e7 a7 w6 st6 hG6 hd6 hk7 hgo3
      obtain ⟨e8, hev8, h89, hk8⟩ := ev8 (call := call) (env := e7) (m := m3) (n := n1) (i := i) (by omega) (by rw [hk7 9 (by simp)]; exact h9)
      refine regS hcall hs8 (by decide) hG6 hev8 (fun ρ7 a8 w7 st7 hG7 hd7 => ?_)
      have st17 := st6.trans st7
      exact ih (i + 1) e8 m3 n1 ρ7 a8 w7 (by omega) hgo3 hG7 (hE.mono st17.le) (hd7.trans hd6) (by rw [hk8 0 (by decide) (by decide), hk7 0 (by simp)]; exact h0) (by rw [hk8 3 (by decide) (by decide), hk7 3 (by simp)]; exact h3) (by rw [hk8 7 (by decide) (by decide), hk7 7 (by simp)]; exact h7) (by rw [hk8 8 (by decide) (by decide), hk7 8 (by simp)]; exact h8) h89
        (by rw [st17.fr.block l hlt hno]; exact hl) (fun h => hno (st17.own l hlt h)) (fun ρ' env' a' w' q1 q2 q3 => hQ ρ' env' a' w' (st17.trans q1) q2 q3)
    rcases hgo2 with ⟨hd0, hgo3⟩ | ⟨hd0, hd3', q, m3, hq, hm3, hgo3⟩
    · refine wpIn_cond (c := .tmp 22) (t := false) (show a6.tmps.getD 22 undef = _ by rw [hv22]; simp only [Value.bool.injEq, decide_eq_false_iff_not]; exact hd0) ?_
      exact wpIn_skip (fin m1 ρ5 e6 a6 w5 st15 hG5 hdf keep hgo3)
    · refine wpIn_cond (c := .tmp 22) (t := true) (show a6.tmps.getD 22 undef = _ by rw [hv22]; simp only [Value.bool.injEq, decide_eq_true_eq]; exact hd0) ?_
      obtain ⟨e7, hev7, hk7⟩ := ev7 (call := call) (env := e6) (m := m1) (n := n1) (d := d) (sb := n) (fb := fb) (by rw [hk6 6 (by decide) (by decide)]; exact h56) (by rw [hk6 5 (by decide) (by decide), hk5 5 (by decide) (by decide) (by decide) (by decide), hk4 5 (by decide)]; exact h35) (by rw [keep 3 (by simp)]; exact h3) hd0 hd3' hq hm3
      refine regS hcall hs7 (by decide) hG5 hev7 (fun ρ6 a7 w6 st6 hG6 hd6 => ?_)
      exact fin m3 ρ6 e7 a7 w6 (st15.trans st6) hG6 (hd6.trans hdf) (fun t ht => by
        rw [← keep t ht]
        simp only [List.mem_cons, List.mem_nil_iff, or_false] at ht
        exact hk7 t (by omega) (by omega) (by omega) (by omega) (by omega)) hgo3
end

theorem inv_fn {P : Program} {f : Nat} {fn : Func} {cap args : Array Value} (h1 : P.funcs[f]? = some fn) (h2 : fn.body.isSome = true) (h3 : (fn.name == "runtime.NumGoroutine") = false) (w : World) : (invoke (.fn (.func f) cap) args).run P w = .ok (.enter f (args ++ cap)) w := by
  have := run_callFunc (args := args ++ cap) h1 h2 h3 w
  simpa [invoke] using this
theorem res_fn {P : Program} {f : Nat} {cap : Array Value} {g : Operand} {a : Act} {l : Nat} (h : a.eval g = .func (.func f) #[] cap) (w : World) : (resolve a.eval (rangeCall g l) 0).run P w = .ok { target := .fn (.func f) cap, args := #[.func (.yield l) #[] #[]] } w := by
  unfold resolve rangeCall
  simp only [h]
  simp [Deferred.ofValue, Act.eval]
theorem good_walk {ρ : Loc} {n bx l : Nat} {w : World} {m : Mem} {v1 : Value} (hm : MRel ρ n w m) (hg : Glob 1 ρ n) (hv : CRel ρ n w (.ptr bx 0) v1) :
    Good 29 1 ρ n w (fun t => ([.one (.sc (.func (.yield l) #[] #[])), .one (.ptr bx 0)] : List Reg).getD t (.tup [])) m { tmps := #[.func (.yield l) #[] #[], v1] ++ Array.replicate 27 undef, defers := [] } := by
  refine ⟨hm, hg, fun t => ?_, by simp⟩
  match t with
  | 0 =>
    have e0 : (#[Value.func (.yield l) #[] #[], v1] ++ Array.replicate 27 undef).getD 0 undef = .func (.yield l) #[] #[] := by
      simp only [Array.getD_eq_getD_getElem?]
      rw [Array.getElem?_append_left (by simp)]
      rfl
    show RRel ρ n w (.one (.sc (.func (.yield l) #[] #[]))) _
    rw [e0]
    simp [RRel, CRel, Value.oneCell']
  | 1 =>
    have e1 : (#[Value.func (.yield l) #[] #[], v1] ++ Array.replicate 27 undef).getD 1 undef = v1 := by
      simp only [Array.getD_eq_getD_getElem?]
      rw [Array.getElem?_append_left (by simp)]
      rfl
    show RRel ρ n w (.one (.ptr bx 0)) _
    rw [e1]
    simpa only [RRel] using hv
  | t + 2 =>
    have e2 : (#[Value.func (.yield l) #[] #[], v1] ++ Array.replicate 27 undef).getD (t + 2) undef = undef := by
      simp only [Array.getD_eq_getD_getElem?]
      rw [Array.getElem?_append_right (by simp), Array.getElem?_replicate]
      split <;> rfl
    show RRel ρ n w (.tup []) _
    rw [e2]
    exact undef_rel
theorem results_none {fn : Func} (h : fn.results = #[]) (tmps : Array Value) (P : Program) (w : World) : (results fn tmps).run P w = .ok (.tuple #[]) w := by
  rw [results_eq, h]
  simp

set_option maxHeartbeats 4000000 in
/-- The range over path.walk. -/
theorem walk_ok : WalkOK Tryd.prog 1 53 15 := by
  intro call hcall K N g x p1 p2 asg body a b hg hp1 hp2 hA hB nf s s' e he ρ act w Q B hG hD hQ
  obtain ⟨fnW, o0, o1, o2, o3, o4, o5, o6, o7, o8, hfn, hbody, hnt, hres, hname, hs0, hs1, hs2, hs3, hs4, hs5, hs6, hs7, hs8, oy, ty, ts, ho, hgd, hdst, _, hop⟩ := code_walk
  simp only [exec] at he
  split at he
  case h_2 => cases he
  rename_i f bx hx
  split at he
  case isFalse => cases he
  rename_i hf
  subst hf
  split at he
  case h_2 => cases he
  rename_i c hc
  split at he
  case h_2 => cases he
  rename_i id off len hsl
  split at he
  case h_2 => cases he
  rename_i m' n' hgo
  cases he
  obtain ⟨blk, hblk, hbc⟩ := Option.bind_eq_some_iff.1 hc
  have hbx : bx < s.n := hG.mem.lt bx blk hblk
  have hv := evO_rel hg hG.glob hG.env
  rw [hx] at hv
  obtain ⟨vs, hv1, hv2⟩ : ∃ vs : List Value, act.eval g = .func (.func 53) #[] vs.toArray ∧ CRels ρ s.n w [.ptr bx 0] vs := by simpa only [RRel, CRel] using hv
  obtain ⟨v1, rfl, hv3⟩ : ∃ v1, vs = [v1] ∧ CRel ρ s.n w (.ptr bx 0) v1 := by
    simp only [CRels] at hv2
    obtain ⟨v, r, h1, h2, h3⟩ := hv2
    exact ⟨v, by rw [h1, h3], h2⟩
  refine wpIn_rangeFunc ?_
  intro fn _
  obtain ⟨l, hl⟩ : ∃ l, l = w.heap.size + 1 := ⟨_, rfl⟩
  obtain ⟨rec, hrec⟩ : ∃ rec, rec = recW fn act.tmps p1 p2 w.heap.size asg body .ready := ⟨_, rfl⟩
  obtain ⟨W1, hW1⟩ : ∃ W1, W1 = (w.alloc (.deferred (some []))).alloc (.loop rec) := ⟨_, rfl⟩
  have stD := Step.lay hG.mem (.deferred (some []))
  have stL := Step.lay stD.rel (.loop rec)
  have st0 : Step ρ s.n w s.m ρ s.n W1 s.m := by rw [hW1]; exact stD.trans stL
  have hlw : W1.heap[l]? = some (.loop rec) := by
    rw [hW1, hl]
    have := World.alloc_heap_new (w.alloc (.deferred (some []))) (.loop rec)
    rwa [World.size_alloc] at this
  have hDw : W1.heap[w.heap.size]? = some (.deferred (some [])) := by
    rw [hW1]
    exact (Go.RowKit.Below.heap_alloc _ _ _ (by simp)).trans (World.alloc_heap_new w _)
  have hnoL : ∀ k, w.heap.size ≤ k → ¬ Own ρ s.m k := fun k hk ⟨i, bb, h1, _, h3⟩ => by have := hG.mem.blk i bb h1; omega
  refine ⟨l, [{ target := .collected w.heap.size, args := #[] }], W1, { target := .fn (.func 53) #[v1], args := #[.func (.yield l) #[] #[]] }, W1, 53,
    #[.func (.yield l) #[] #[], v1], W1, ?_, res_fn hv1 W1, fun _ _ => trivial, inv_fn hfn (by rw [hbody]; rfl) hname W1, fun h => (by cases h), ?_⟩
  · rw [hW1, hl, hrec]; exact run_enterLoop_outer _ _ _ _ _
  refine Wide.calls (calls_of_wp hfn hbody (wpIn_wide (n := 0).1 ?_))
  rw [hnt]
  have hG0 := good_walk (l := l) st0.rel hG.glob (CRel.mono st0.le _ _ hv3)
  obtain ⟨a0, ha0⟩ : ∃ a0 : Act, a0 = { tmps := #[.func (.yield l) #[] #[], v1] ++ Array.replicate 27 undef, defers := [] } := ⟨_, rfl⟩
  change (WCode o0 o1 o2 o3 o4 o5 o6 o7 o8).wpIn Fence.wide 0 Tryd.prog _ { tmps := #[.func (.yield l) #[] #[], v1] ++ Array.replicate 27 undef, defers := [] } W1
  rw [← ha0] at hG0 ⊢
  have hd0 : a0.defers = [] := by rw [ha0]
  clear ha0
  unfold WCode
  refine wpIn_seq (regS hcall hs0 (by decide) hG0 ev0 (fun ρ1 a1 w1 st1 hG1 hd1 => ?_))
  refine wpIn_seq (regS hcall hs1 (by decide) hG1 (ev1 (bx := bx) (b := blk) rfl (by rw [upd_ne _ _ (by omega)]; exact hblk) hbc hsl) (fun ρ2 a2 w2 st2 hG2 hd2 => ?_))
  have st02 := st0.trans (st1.trans st2)
  have st12 := st1.trans st2
  have hllt := (Array.getElem?_eq_some_iff.1 hlw).1
  refine wpIn_block (wpIn_loop_rounds (len + 1) (walk_rounds (l := l) (D := w.heap.size) (fn := fn) hcall hp1 hp2 hA hB hs2 hs3 hs4 hs5 hs6 hs7 hs8 ho hgd hdst hop hsl hG.size len 0 _ _ _ ρ2 a2 w2 (by omega) hgo hG2 (hG.env.mono st02.le) (by rw [hd2, hd1, hd0]) rfl rfl rfl rfl rfl
    (by rw [← hrec, st12.fr.block l hllt (hnoL l (by omega))]; exact hlw) (fun h => hnoL l (by omega) (st12.own l hllt h)) (fun ρ' env' a' w' st hG' hd' => ?_)))
  show bodyPost Tryd.prog fnW _ .normal a' w'
  have st1e : Step ρ s.n W1 s.m ρ' n' w' m' := st12.trans st
  have ste : Step ρ s.n w s.m ρ' n' w' m' := st0.trans st1e
  have hl' : w'.heap[l]? = some (.loop rec) := by rw [st1e.fr.block l hllt (hnoL l (by omega))]; exact hlw
  have hDlt := (Array.getElem?_eq_some_iff.1 hDw).1
  have hD' : w'.heap[w.heap.size]? = some (.deferred (some [])) := by rw [st1e.fr.block _ hDlt (hnoL _ (Nat.le_refl _))]; exact hDw
  refine ⟨hd', _, results_none hres _ _ _, ?_⟩
  have hend := run_endLoop (P := Tryd.prog) hl' (by rw [hrec]; intro h; cases h)
  have hpn : rec.pending = none := by rw [hrec]; rfl
  obtain ⟨rE, hrE⟩ : ∃ rE : Loop, rE = { rec with state := .exhausted } := ⟨_, rfl⟩
  rw [← hrE, hpn] at hend
  refine ⟨none, _, hend, ?_⟩
  have stf := ste.put (l := l) (o' := .loop rE) (by omega) hl' rfl rfl
  refine hQ ρ' _ _ stf ⟨stf.rel, hG.glob.mono stf.le, hG.env.mono stf.le, hG.size⟩ ?_
  have hDs := ((hD.step ste).put hl' (.loop rE))
  refine ⟨hDs.1, List.nodup_cons.2 ⟨fun hmem => ?_, hDs.2.1⟩, fun d hd => ?_⟩
  · obtain ⟨D, h1, _, h3, _⟩ := hD.2.2 _ hmem
    have := (Array.getElem?_eq_some_iff.1 h3).1
    simp only [Deferred.mk.injEq, Target.collected.injEq, and_true] at h1
    omega
  · rcases List.mem_cons.1 hd with rfl | hd
    · refine ⟨w.heap.size, rfl, hD.1, ?_, fun h => hnoL _ (Nat.le_refl _) (st1e.own _ hDlt h)⟩
      rw [World.putObj_heap_other (by omega)]
      exact hD'
    · exact hDs.2.2 d hd
end Go.Proofs.YtpleidpbapgmiaaDoor.Sy

/- Numbers in room, points, rows of points: where there are no wide numbers. Conditions: those that each theorem names. -/
namespace Go.Proofs.YtpleidpbapgmiaaDoor.Sy
open Go Go.Proofs
set_option linter.unusedSimpArgs false
set_option linter.unusedVariables false
set_option maxRecDepth 20000
attribute [local go_sem] XK_seq XK_block XK_skip XK_exit XK_ret XK_cond XK_reg XK_dreg XK_ureg KN_seq KN_blk KN_lp KN_chk KN_chku KN_top KN_fin KX_seq KX_lp KX_blk KX_chk KX_top KR_seq KR_blk KR_lp KR_chk KR_top KR_fin FK_true FK_false RK_nil RK_mv RK_pick RK_alloc RK_box RK_build RK_bslice RK_load1 RK_loadA RK_store RK_nilchk RK_bin RK_beq RK_eqv RK_eqnil RK_un RK_conv RK_mkfn RK_mkslice RK_slS RK_slA RK_fadr RK_fld RK_iadrA RK_iadrS RK_idxA RK_ext RK_lenC RK_cap RK_app RK_appz RK_pre RK_cpy RK_mn RK_mx RK_len RK_carry RK_clr carryR um0 um1 ThenK_some RK_guard GK_tt GK_ff GK_tf GK_ft GK_none QK_some RK_callQ RK_callZ RK_callT TK_some VK_clo RK_callV
  evalOp evO evOs upd_at unfrz_at putE_some putE_none boolOf_b boolOf_tup Option.map_some evRes pack_one pack_two pack_three pack_none List.getD_cons_zero List.getD_cons_succ getD_nil
  Option.some.injEq exists_eq_left' Reg.cs? fillC setL List.set_cons_zero List.set_cons_succ List.length_cons List.length_nil rd_upd rd_updn rdB wr List.drop_zero List.drop_succ_cons List.take_succ_cons List.take_zero List.getElem?_cons_zero List.getElem?_cons_succ
  ix Int.toNat_zero lenO_sl lenO_nil nadd na_eq na_eq' na_lt na_ee na_ll na_ne na_ne' na_tt
attribute [local go_sem] Reg.flat_one Reg.flat_agg Reg.flat_tup flats_nil flats_cons Cell.flat_sc Cell.flat_ptr List.all_cons List.all_nil disOk safeOk safeR decide_eq_true_eq decide_eq_false_iff_not
  List.map_cons List.map_nil List.cons_append List.nil_append List.append_nil evalOp.capsOf Bool.false_bne Bool.bne_false Bool.true_bne Bool.bne_true bne_self_eq_false beq_self_eq_true Bool.not_not Bool.false_and Bool.and_false Bool.true_or Bool.or_true beq_iff_eq eqCells
  Bool.true_beq Bool.false_beq Bool.not_eq_true' Bool.not_eq_eq_eq_not Bool.not_eq_false' and_false false_and frz_at idOf noId Option.isSome_some Bool.and_eq_true
attribute [local go_sem] wr_eq bV_add bV_sub bV_mul bV_eql bV_neq bV_lss bV_leq bV_gtr bV_geq bV_quo bV_rem bV_shr bV_shl uV_not uV_neg wrapU bits_and bits_or bits_xor IntKind.bits Nat.min_eq_left Nat.min_eq_right Nat.min_self
attribute [local go_sem] bne_iff_ne Int.cast_ofNat_Int Nat.zero_add Nat.add_zero and_self and_true true_and ne_eq not_false_eq_true not_true_eq_false decide_true decide_false Bool.false_eq_true Bool.not_true Bool.not_false Bool.true_and Bool.and_true Bool.or_false Bool.false_or Bool.and_self

def rm (a : Int) : Bool := decide (-2147483648 ≤ a) && decide (a ≤ 2147483648)
theorem rm_iff {a : Int} : rm a = true ↔ -2147483648 ≤ a ∧ a ≤ 2147483648 := by simp [rm]
theorem v_rIn (a : Int) (m : Mem) (n : Nat) : callF TA 36 [RI a] m n = some (RB (rm a)) := by
  refine callF_of (Fn_ofK (fn := F36) rfl (by simp [F36]) ?_)
  try simp only [r36_0, r36_1, c36, F36, rm, go_sem, Int.reduceTMod, Int.reduceTDiv, Int.reduceDiv, Int.reduceMod, Int.reduceAdd, Int.reduceSub, Int.reduceMul, Int.reduceNeg, Int.reducePow, Int.reduceEq, ↓reduceIte, Nat.reduceEqDiff, Nat.reduceAdd, Nat.reduceMul, Nat.reduceLeDiff, Nat.reduceSub, Nat.reduceLT, Int.reduceToNat, Int.reduceLT, Int.reduceLE, reduceCtorEq]
  repeat' ((first | refine FK_split (fun h_ => ?_) (fun h_ => ?_) | refine GK_split (fun h_ => ?_) (fun h_ => ?_) | refine ite_both (fun h_ => ?_) (fun h_ => ?_)) <;> (try simp only [decide_eq_true_eq, decide_eq_false_iff_not, Bool.not_true, Bool.not_false, Bool.not_eq_true', Bool.not_eq_false', Bool.not_eq_eq_eq_not, Decidable.not_not] at h_) <;> (try simp only [r36_0, r36_1, c36, F36, rm, h_, go_sem, Int.reduceTMod, Int.reduceTDiv, Int.reduceDiv, Int.reduceMod, Int.reduceAdd, Int.reduceSub, Int.reduceMul, Int.reduceNeg, Int.reducePow, Int.reduceEq, ↓reduceIte, Nat.reduceEqDiff, Nat.reduceAdd, Nat.reduceMul, Nat.reduceLeDiff, Nat.reduceSub, Nat.reduceLT, Int.reduceToNat, Int.reduceLT, Int.reduceLE, reduceCtorEq]))

theorem v_fIn (a : Int) (m : Mem) (n : Nat) : callF TA 49 [RI a] m n = some (RB (rm a)) := by
  refine callF_of (Fn_ofK (fn := F49) rfl (by simp [F49]) ?_)
  try simp only [r49_0, r49_1, c49, F49, rm, go_sem, Int.reduceTMod, Int.reduceTDiv, Int.reduceDiv, Int.reduceMod, Int.reduceAdd, Int.reduceSub, Int.reduceMul, Int.reduceNeg, Int.reducePow, Int.reduceEq, ↓reduceIte, Nat.reduceEqDiff, Nat.reduceAdd, Nat.reduceMul, Nat.reduceLeDiff, Nat.reduceSub, Nat.reduceLT, Int.reduceToNat, Int.reduceLT, Int.reduceLE, reduceCtorEq]
  repeat' ((first | refine FK_split (fun h_ => ?_) (fun h_ => ?_) | refine GK_split (fun h_ => ?_) (fun h_ => ?_) | refine ite_both (fun h_ => ?_) (fun h_ => ?_)) <;> (try simp only [decide_eq_true_eq, decide_eq_false_iff_not, Bool.not_true, Bool.not_false, Bool.not_eq_true', Bool.not_eq_false', Bool.not_eq_eq_eq_not, Decidable.not_not] at h_) <;> (try simp only [r49_0, r49_1, c49, F49, rm, h_, go_sem, Int.reduceTMod, Int.reduceTDiv, Int.reduceDiv, Int.reduceMod, Int.reduceAdd, Int.reduceSub, Int.reduceMul, Int.reduceNeg, Int.reducePow, Int.reduceEq, ↓reduceIte, Nat.reduceEqDiff, Nat.reduceAdd, Nat.reduceMul, Nat.reduceLeDiff, Nat.reduceSub, Nat.reduceLT, Int.reduceToNat, Int.reduceLT, Int.reduceLE, reduceCtorEq]))
structure Pt where
  x : Int
  y : Int
abbrev Pt.cs (p : Pt) : List Cell := [I p.x, I p.y]
abbrev Pt.r (p : Pt) : Reg := .agg [I p.x, I p.y]
def inP (p : Pt) : Bool := rm p.x && rm p.y
theorem cs2 (p : Pt) : p.cs.length = 2 := rfl
theorem v_PIn (x y : Int) (m : Mem) (n : Nat) : callF TA 40 [.agg [I x, I y]] m n = some (RB (inP ⟨x, y⟩)) := by
  refine callF_of (Fn_ofK (fn := F40) rfl (by simp [F40]) ?_)
  try simp only [r40_0, r40_1, c40, F40, v_fIn, inP, go_sem, Int.reduceTMod, Int.reduceTDiv, Int.reduceDiv, Int.reduceMod, Int.reduceAdd, Int.reduceSub, Int.reduceMul, Int.reduceNeg, Int.reducePow, Int.reduceEq, ↓reduceIte, Nat.reduceEqDiff, Nat.reduceAdd, Nat.reduceMul, Nat.reduceLeDiff, Nat.reduceSub, Nat.reduceLT, Int.reduceToNat, Int.reduceLT, Int.reduceLE, reduceCtorEq]
  repeat' ((first | refine FK_split (fun h_ => ?_) (fun h_ => ?_) | refine GK_split (fun h_ => ?_) (fun h_ => ?_) | refine ite_both (fun h_ => ?_) (fun h_ => ?_)) <;> (try simp only [decide_eq_true_eq, decide_eq_false_iff_not, Bool.not_true, Bool.not_false, Bool.not_eq_true', Bool.not_eq_false', Bool.not_eq_eq_eq_not, Decidable.not_not] at h_) <;> (try simp only [r40_0, r40_1, c40, F40, v_fIn, inP, h_, go_sem, Int.reduceTMod, Int.reduceTDiv, Int.reduceDiv, Int.reduceMod, Int.reduceAdd, Int.reduceSub, Int.reduceMul, Int.reduceNeg, Int.reducePow, Int.reduceEq, ↓reduceIte, Nat.reduceEqDiff, Nat.reduceAdd, Nat.reduceMul, Nat.reduceLeDiff, Nat.reduceSub, Nat.reduceLT, Int.reduceToNat, Int.reduceLT, Int.reduceLE, reduceCtorEq]))
abbrev RPt := RL Pt.cs 2
theorem all_snoc {l : List Pt} {i : Nat} {p : Pt} (hp : l[i]? = some p) : (l.take (i + 1)).all inP = ((l.take i).all inP && inP p) := by
  have hi : i < l.length := (List.getElem?_eq_some_iff.1 hp).1
  rw [List.take_add_one, hp, List.all_append]
  simp
theorem w_Index (c : Nat) (hc : ∀ x y m n, callF TA c [.agg [I x, I y]] m n = some (RB (!inP ⟨x, y⟩))) (r : Reg) (l : List Pt) (m : Mem) (n : Nat) (hr : RPt m n r l) (hl : l.length < 4294967296) :
    Fn TA 57 [r, .one (.clo c [])] m n (fun r' _ _ => ∃ k : Int, r' = RI k ∧ ((l.all inP = true ∧ k = -1) ∨ (l.all inP = false ∧ 0 ≤ k))) := by
  refine Fn_ofK (fn := F57) rfl (by simp [F57]) ?_
  have hlen := hr.len
  try simp only [r57_0, r57_1, r57_2, r57_3, r57_4, r57_5, r57_6, r57_7, c57, F57, hlen, go_sem, Int.reduceTMod, Int.reduceTDiv, Int.reduceDiv, Int.reduceMod, Int.reduceAdd, Int.reduceSub, Int.reduceMul, Int.reduceNeg, Int.reducePow, Int.reduceEq, ↓reduceIte, Nat.reduceEqDiff, Nat.reduceAdd, Nat.reduceMul, Nat.reduceLeDiff, Nat.reduceSub, Nat.reduceLT, Int.reduceToNat, Int.reduceLT, Int.reduceLE, reduceCtorEq]
  repeat' ((first | refine FK_split (fun h_ => ?_) (fun h_ => ?_) | refine GK_split (fun h_ => ?_) (fun h_ => ?_) | refine ite_both (fun h_ => ?_) (fun h_ => ?_)) <;> (try simp only [decide_eq_true_eq, decide_eq_false_iff_not, Bool.not_true, Bool.not_false, Bool.not_eq_true', Bool.not_eq_false', Bool.not_eq_eq_eq_not, Decidable.not_not] at h_) <;> (try simp only [r57_0, r57_1, r57_2, r57_3, r57_4, r57_5, r57_6, r57_7, c57, F57, hlen, h_, go_sem, Int.reduceTMod, Int.reduceTDiv, Int.reduceDiv, Int.reduceMod, Int.reduceAdd, Int.reduceSub, Int.reduceMul, Int.reduceNeg, Int.reducePow, Int.reduceEq, ↓reduceIte, Nat.reduceEqDiff, Nat.reduceAdd, Nat.reduceMul, Nat.reduceLeDiff, Nat.reduceSub, Nat.reduceLT, Int.reduceToNat, Int.reduceLT, Int.reduceLE, reduceCtorEq]))
  refine XK_iter (inv := fun i s => s.e 8 = RI i ∧ s.e 7 = RI l.length ∧ s.e 0 = r ∧ s.e 1 = .one (.clo c []) ∧ s.m = m ∧ s.n = n ∧ (l.take i).all inP = true) l.length
    (fun L _ => ⟨fun i hi s hs next => ?_, fun s hs => ?_⟩) 0 (by omega) _ ?_
  · obtain ⟨q8, q7, q0, q1, qm, qn, qa⟩ := hs
    have hp : l[i]? = some l[i] := List.getElem?_eq_getElem hi
    obtain ⟨id, off, cap, hr1, hid, hrd⟩ := hr.at cs2 hp
    generalize l[i] = p at *
    have c2 : ((i : Int) < (l.length : Int)) = True := eq_true (by omega)
    have c3 : (0 ≤ (i : Int)) = True := eq_true (by omega)
    have c7 : IntKind.i64.wrap ((i : Int) + 1) = ((i + 1 : Nat) : Int) := wr_nat (by omega)
    have hsn := all_snoc hp
    rw [hr1] at q0
    cases hin : inP p with
    | true =>
      try simp only [r57_0, r57_1, r57_2, r57_3, r57_4, r57_5, r57_6, r57_7, c57, F57, l57_0, q8, q7, q0, q1, qm, qn, c2, c3, c7, hrd, hc, hin, Int.toNat_natCast, go_sem, Int.reduceTMod, Int.reduceTDiv, Int.reduceDiv, Int.reduceMod, Int.reduceAdd, Int.reduceSub, Int.reduceMul, Int.reduceNeg, Int.reducePow, Int.reduceEq, ↓reduceIte, Nat.reduceEqDiff, Nat.reduceAdd, Nat.reduceMul, Nat.reduceLeDiff, Nat.reduceSub, Nat.reduceLT, Int.reduceToNat, Int.reduceLT, Int.reduceLE, reduceCtorEq]
      repeat' ((first | refine FK_split (fun h_ => ?_) (fun h_ => ?_) | refine GK_split (fun h_ => ?_) (fun h_ => ?_) | refine ite_both (fun h_ => ?_) (fun h_ => ?_)) <;> (try simp only [decide_eq_true_eq, decide_eq_false_iff_not, Bool.not_true, Bool.not_false, Bool.not_eq_true', Bool.not_eq_false', Bool.not_eq_eq_eq_not, Decidable.not_not] at h_) <;> (try simp only [r57_0, r57_1, r57_2, r57_3, r57_4, r57_5, r57_6, r57_7, c57, F57, l57_0, q8, q7, q0, q1, qm, qn, c2, c3, c7, hrd, hc, hin, Int.toNat_natCast, h_, go_sem, Int.reduceTMod, Int.reduceTDiv, Int.reduceDiv, Int.reduceMod, Int.reduceAdd, Int.reduceSub, Int.reduceMul, Int.reduceNeg, Int.reducePow, Int.reduceEq, ↓reduceIte, Nat.reduceEqDiff, Nat.reduceAdd, Nat.reduceMul, Nat.reduceLeDiff, Nat.reduceSub, Nat.reduceLT, Int.reduceToNat, Int.reduceLT, Int.reduceLE, reduceCtorEq]))
      refine next _ ⟨?_, ?_, ?_, ?_, ?_, ?_, ?_⟩
      all_goals simp only [q8, q7, q0, q1, qm, qn, hsn, qa, hin, hr1, go_sem, Int.reduceTMod, Int.reduceTDiv, Int.reduceDiv, Int.reduceMod, Int.reduceAdd, Int.reduceSub, Int.reduceMul, Int.reduceNeg, Int.reducePow, Int.reduceEq, ↓reduceIte, Nat.reduceEqDiff, Nat.reduceAdd, Nat.reduceMul, Nat.reduceLeDiff, Nat.reduceSub, Nat.reduceLT, Int.reduceToNat, Int.reduceLT, Int.reduceLE, reduceCtorEq]
    | false =>
      try simp only [r57_0, r57_1, r57_2, r57_3, r57_4, r57_5, r57_6, r57_7, c57, F57, l57_0, q8, q7, q0, q1, qm, qn, c2, c3, c7, hrd, hc, hin, Int.toNat_natCast, go_sem, Int.reduceTMod, Int.reduceTDiv, Int.reduceDiv, Int.reduceMod, Int.reduceAdd, Int.reduceSub, Int.reduceMul, Int.reduceNeg, Int.reducePow, Int.reduceEq, ↓reduceIte, Nat.reduceEqDiff, Nat.reduceAdd, Nat.reduceMul, Nat.reduceLeDiff, Nat.reduceSub, Nat.reduceLT, Int.reduceToNat, Int.reduceLT, Int.reduceLE, reduceCtorEq]
      repeat' ((first | refine FK_split (fun h_ => ?_) (fun h_ => ?_) | refine GK_split (fun h_ => ?_) (fun h_ => ?_) | refine ite_both (fun h_ => ?_) (fun h_ => ?_)) <;> (try simp only [decide_eq_true_eq, decide_eq_false_iff_not, Bool.not_true, Bool.not_false, Bool.not_eq_true', Bool.not_eq_false', Bool.not_eq_eq_eq_not, Decidable.not_not] at h_) <;> (try simp only [r57_0, r57_1, r57_2, r57_3, r57_4, r57_5, r57_6, r57_7, c57, F57, l57_0, q8, q7, q0, q1, qm, qn, c2, c3, c7, hrd, hc, hin, Int.toNat_natCast, h_, go_sem, Int.reduceTMod, Int.reduceTDiv, Int.reduceDiv, Int.reduceMod, Int.reduceAdd, Int.reduceSub, Int.reduceMul, Int.reduceNeg, Int.reducePow, Int.reduceEq, ↓reduceIte, Nat.reduceEqDiff, Nat.reduceAdd, Nat.reduceMul, Nat.reduceLeDiff, Nat.reduceSub, Nat.reduceLT, Int.reduceToNat, Int.reduceLT, Int.reduceLE, reduceCtorEq]))
      refine ⟨i, rfl, Or.inr ⟨?_, by omega⟩⟩
      rw [List.all_eq_false]
      exact ⟨p, List.mem_of_getElem? hp, by simp [hin]⟩
  · obtain ⟨q8, q7, q0, q1, qm, qn, qa⟩ := hs
    have c2 : ((l.length : Int) < (l.length : Int)) = False := eq_false (by omega)
    rw [List.take_length] at qa
    try simp only [r57_0, r57_1, r57_2, r57_3, r57_4, r57_5, r57_6, r57_7, c57, F57, l57_0, q8, q7, q0, q1, qm, qn, c2, go_sem, Int.reduceTMod, Int.reduceTDiv, Int.reduceDiv, Int.reduceMod, Int.reduceAdd, Int.reduceSub, Int.reduceMul, Int.reduceNeg, Int.reducePow, Int.reduceEq, ↓reduceIte, Nat.reduceEqDiff, Nat.reduceAdd, Nat.reduceMul, Nat.reduceLeDiff, Nat.reduceSub, Nat.reduceLT, Int.reduceToNat, Int.reduceLT, Int.reduceLE, reduceCtorEq]
    repeat' ((first | refine FK_split (fun h_ => ?_) (fun h_ => ?_) | refine GK_split (fun h_ => ?_) (fun h_ => ?_) | refine ite_both (fun h_ => ?_) (fun h_ => ?_)) <;> (try simp only [decide_eq_true_eq, decide_eq_false_iff_not, Bool.not_true, Bool.not_false, Bool.not_eq_true', Bool.not_eq_false', Bool.not_eq_eq_eq_not, Decidable.not_not] at h_) <;> (try simp only [r57_0, r57_1, r57_2, r57_3, r57_4, r57_5, r57_6, r57_7, c57, F57, l57_0, q8, q7, q0, q1, qm, qn, c2, h_, go_sem, Int.reduceTMod, Int.reduceTDiv, Int.reduceDiv, Int.reduceMod, Int.reduceAdd, Int.reduceSub, Int.reduceMul, Int.reduceNeg, Int.reducePow, Int.reduceEq, ↓reduceIte, Nat.reduceEqDiff, Nat.reduceAdd, Nat.reduceMul, Nat.reduceLeDiff, Nat.reduceSub, Nat.reduceLT, Int.reduceToNat, Int.reduceLT, Int.reduceLE, reduceCtorEq]))
    exact ⟨-1, rfl, Or.inl ⟨qa, rfl⟩⟩
  · simp only [List.take_zero, List.all_nil, go_sem, Int.reduceTMod, Int.reduceTDiv, Int.reduceDiv, Int.reduceMod, Int.reduceAdd, Int.reduceSub, Int.reduceMul, Int.reduceNeg, Int.reducePow, Int.reduceEq, ↓reduceIte, Nat.reduceEqDiff, Nat.reduceAdd, Nat.reduceMul, Nat.reduceLeDiff, Nat.reduceSub, Nat.reduceLT, Int.reduceToNat, Int.reduceLT, Int.reduceLE, reduceCtorEq]
theorem v_Contains (c : Nat) (hc : ∀ x y m n, callF TA c [.agg [I x, I y]] m n = some (RB (!inP ⟨x, y⟩))) (r : Reg) (l : List Pt) (m : Mem) (n : Nat) (hr : RPt m n r l) (hl : l.length < 4294967296) :
    callF TA 38 [r, .one (.clo c [])] m n = some (RB (!l.all inP)) := by
  refine callF_of (Fn_ofK (fn := F38) rfl (by simp [F38]) ?_)
  obtain ⟨r1, h1, k, rfl, h2⟩ := callF_ex (w_Index c hc r l (frz m) n hr.frz hl)
  have e : decide (0 ≤ k) = !l.all inP := by
    rcases h2 with ⟨h2, h3⟩ | ⟨h2, h3⟩
    · rw [h2, decide_eq_false (by omega)]; rfl
    · rw [h2, decide_eq_true h3]; rfl
  try simp only [r38_0, r38_1, c38, F38, h1, e, go_sem, Int.reduceTMod, Int.reduceTDiv, Int.reduceDiv, Int.reduceMod, Int.reduceAdd, Int.reduceSub, Int.reduceMul, Int.reduceNeg, Int.reducePow, Int.reduceEq, ↓reduceIte, Nat.reduceEqDiff, Nat.reduceAdd, Nat.reduceMul, Nat.reduceLeDiff, Nat.reduceSub, Nat.reduceLT, Int.reduceToNat, Int.reduceLT, Int.reduceLE, reduceCtorEq]
  repeat' ((first | refine FK_split (fun h_ => ?_) (fun h_ => ?_) | refine GK_split (fun h_ => ?_) (fun h_ => ?_) | refine ite_both (fun h_ => ?_) (fun h_ => ?_)) <;> (try simp only [decide_eq_true_eq, decide_eq_false_iff_not, Bool.not_true, Bool.not_false, Bool.not_eq_true', Bool.not_eq_false', Bool.not_eq_eq_eq_not, Decidable.not_not] at h_) <;> (try simp only [r38_0, r38_1, c38, F38, h1, e, h_, go_sem, Int.reduceTMod, Int.reduceTDiv, Int.reduceDiv, Int.reduceMod, Int.reduceAdd, Int.reduceSub, Int.reduceMul, Int.reduceNeg, Int.reducePow, Int.reduceEq, ↓reduceIte, Nat.reduceEqDiff, Nat.reduceAdd, Nat.reduceMul, Nat.reduceLeDiff, Nat.reduceSub, Nat.reduceLT, Int.reduceToNat, Int.reduceLT, Int.reduceLE, reduceCtorEq]))
instance : DecidableEq Pt := fun a b => decidable_of_iff (a.x = b.x ∧ a.y = b.y) (by cases a; cases b; simp)

/- Segments of paths; how many points a kind needs. Conditions: those that each theorem names. -/
open Go Go.Proofs
set_option linter.unusedSimpArgs false
set_option linter.unusedVariables false

structure Sg where
  k : Int
  a : Pt
  b : Pt
  c : Pt
abbrev Sg.cs (s : Sg) : List Cell := [I s.k, I s.a.x, I s.a.y, I s.b.x, I s.b.y, I s.c.x, I s.c.y]
theorem cs7 (s : Sg) : s.cs.length = 7 := rfl
abbrev RSg := RL Sg.cs 7
def Sg.pts (s : Sg) : List Pt := [s.a, s.b, s.c]
def need (k : Int) : Int := if k = 1 ∨ k = 2 then 1 else if k = 3 then 2 else if k = 4 then 3 else 0
theorem need1 : need 1 = 1 := rfl
theorem need2 : need 2 = 1 := rfl
theorem need3 : need 3 = 2 := rfl
theorem need4 : need 4 = 3 := rfl
theorem need5 : need 5 = 0 := rfl
theorem inR_nat {i y : Nat} (h : i ≤ y) : inR (RI i) y = some i := by
  have : (0 ≤ (i : Int) ∧ (i : Int) ≤ (y : Int)) = True := eq_true (by omega)
  simp only [inR, ix, this, if_true, Int.toNat_natCast]
def needC : List Cell := [I 0, I 1, I 1, I 2, I 3, I 0]
theorem ng1 : needC[1]? = some (I 1) := rfl
theorem ng2 : needC[2]? = some (I 1) := rfl
theorem ng3 : needC[3]? = some (I 2) := rfl
theorem ng4 : needC[4]? = some (I 3) := rfl
theorem ng5 : needC[5]? = some (I 0) := rfl
theorem needC_flat : needC.all Cell.flat = true := rfl
theorem kinds {k : Int} (h1 : ¬ k < 1) (h2 : ¬ 5 < k) : k = 1 ∨ k = 2 ∨ k = 3 ∨ k = 4 ∨ k = 5 := by omega
theorem v_Need (k : Int) : callF TA 15 [RI k] (tabM needC) 1 = some (RI (need k)) := by
  refine callF_of (Fn_ofK (fn := F15) rfl (by simp [F15]) ?_)
  have hm : tabM needC 0 = some ⟨needC, false⟩ := upd_same _ _ _
  by_cases h1 : k < 1
  · have e : need k = 0 := by unfold need; rw [if_neg (by omega), if_neg (by omega), if_neg (by omega)]
    try simp only [r15_0, r15_1, r15_2, r15_3, c15, F15, h1, e, go_sem, Int.reduceTMod, Int.reduceTDiv, Int.reduceDiv, Int.reduceMod, Int.reduceAdd, Int.reduceSub, Int.reduceMul, Int.reduceNeg, Int.reducePow, Int.reduceEq, ↓reduceIte, Nat.reduceEqDiff, Nat.reduceAdd, Nat.reduceMul, Nat.reduceLeDiff, Nat.reduceSub, Nat.reduceLT, Int.reduceToNat, Int.reduceLT, Int.reduceLE, reduceCtorEq]
    repeat' ((first | refine FK_split (fun h_ => ?_) (fun h_ => ?_) | refine GK_split (fun h_ => ?_) (fun h_ => ?_) | refine ite_both (fun h_ => ?_) (fun h_ => ?_)) <;> (try simp only [decide_eq_true_eq, decide_eq_false_iff_not, Bool.not_true, Bool.not_false, Bool.not_eq_true', Bool.not_eq_false', Bool.not_eq_eq_eq_not, Decidable.not_not] at h_) <;> (try simp only [r15_0, r15_1, r15_2, r15_3, c15, F15, h1, e, h_, go_sem, Int.reduceTMod, Int.reduceTDiv, Int.reduceDiv, Int.reduceMod, Int.reduceAdd, Int.reduceSub, Int.reduceMul, Int.reduceNeg, Int.reducePow, Int.reduceEq, ↓reduceIte, Nat.reduceEqDiff, Nat.reduceAdd, Nat.reduceMul, Nat.reduceLeDiff, Nat.reduceSub, Nat.reduceLT, Int.reduceToNat, Int.reduceLT, Int.reduceLE, reduceCtorEq]))
  · by_cases h2 : 5 < k
    · have e : need k = 0 := by unfold need; rw [if_neg (by omega), if_neg (by omega), if_neg (by omega)]
      try simp only [r15_0, r15_1, r15_2, r15_3, c15, F15, h1, h2, e, go_sem, Int.reduceTMod, Int.reduceTDiv, Int.reduceDiv, Int.reduceMod, Int.reduceAdd, Int.reduceSub, Int.reduceMul, Int.reduceNeg, Int.reducePow, Int.reduceEq, ↓reduceIte, Nat.reduceEqDiff, Nat.reduceAdd, Nat.reduceMul, Nat.reduceLeDiff, Nat.reduceSub, Nat.reduceLT, Int.reduceToNat, Int.reduceLT, Int.reduceLE, reduceCtorEq]
      repeat' ((first | refine FK_split (fun h_ => ?_) (fun h_ => ?_) | refine GK_split (fun h_ => ?_) (fun h_ => ?_) | refine ite_both (fun h_ => ?_) (fun h_ => ?_)) <;> (try simp only [decide_eq_true_eq, decide_eq_false_iff_not, Bool.not_true, Bool.not_false, Bool.not_eq_true', Bool.not_eq_false', Bool.not_eq_eq_eq_not, Decidable.not_not] at h_) <;> (try simp only [r15_0, r15_1, r15_2, r15_3, c15, F15, h1, h2, e, h_, go_sem, Int.reduceTMod, Int.reduceTDiv, Int.reduceDiv, Int.reduceMod, Int.reduceAdd, Int.reduceSub, Int.reduceMul, Int.reduceNeg, Int.reducePow, Int.reduceEq, ↓reduceIte, Nat.reduceEqDiff, Nat.reduceAdd, Nat.reduceMul, Nat.reduceLeDiff, Nat.reduceSub, Nat.reduceLT, Int.reduceToNat, Int.reduceLT, Int.reduceLE, reduceCtorEq]))
    · rcases kinds h1 h2 with rfl | rfl | rfl | rfl | rfl
      all_goals
        try simp only [r15_0, r15_1, r15_2, r15_3, c15, F15, hm, ng1, ng2, ng3, ng4, ng5, need1, need2, need3, need4, need5, Int.reduceLT, Int.reduceLE, Int.reduceToNat, Nat.reduceMul, Nat.zero_add, go_sem, Int.reduceTMod, Int.reduceTDiv, Int.reduceDiv, Int.reduceMod, Int.reduceAdd, Int.reduceSub, Int.reduceMul, Int.reduceNeg, Int.reducePow, Int.reduceEq, ↓reduceIte, Nat.reduceEqDiff, Nat.reduceAdd, Nat.reduceMul, Nat.reduceLeDiff, Nat.reduceSub, Nat.reduceLT, Int.reduceToNat, Int.reduceLT, Int.reduceLE, reduceCtorEq]
        repeat' ((first | refine FK_split (fun h_ => ?_) (fun h_ => ?_) | refine GK_split (fun h_ => ?_) (fun h_ => ?_) | refine ite_both (fun h_ => ?_) (fun h_ => ?_)) <;> (try simp only [decide_eq_true_eq, decide_eq_false_iff_not, Bool.not_true, Bool.not_false, Bool.not_eq_true', Bool.not_eq_false', Bool.not_eq_eq_eq_not, Decidable.not_not] at h_) <;> (try simp only [r15_0, r15_1, r15_2, r15_3, c15, F15, hm, ng1, ng2, ng3, ng4, ng5, need1, need2, need3, need4, need5, Int.reduceLT, Int.reduceLE, Int.reduceToNat, Nat.reduceMul, Nat.zero_add, h_, go_sem, Int.reduceTMod, Int.reduceTDiv, Int.reduceDiv, Int.reduceMod, Int.reduceAdd, Int.reduceSub, Int.reduceMul, Int.reduceNeg, Int.reducePow, Int.reduceEq, ↓reduceIte, Nat.reduceEqDiff, Nat.reduceAdd, Nat.reduceMul, Nat.reduceLeDiff, Nat.reduceSub, Nat.reduceLT, Int.reduceToNat, Int.reduceLT, Int.reduceLE, reduceCtorEq]))
theorem v_rNeed (k : Int) : callF TA 16 [RI k] (fun _ => none) 1 = some (RI (need k)) := by
  refine callF_of (Fn_ofK (fn := F16) rfl (by simp [F16]) ?_)
  by_cases h1 : k = 1
  · subst h1
    try simp only [r16_0, r16_1, r16_2, r16_3, r16_4, r16_5, r16_6, r16_7, c16, F16, need1, need2, need3, need4, go_sem, Int.reduceTMod, Int.reduceTDiv, Int.reduceDiv, Int.reduceMod, Int.reduceAdd, Int.reduceSub, Int.reduceMul, Int.reduceNeg, Int.reducePow, Int.reduceEq, ↓reduceIte, Nat.reduceEqDiff, Nat.reduceAdd, Nat.reduceMul, Nat.reduceLeDiff, Nat.reduceSub, Nat.reduceLT, Int.reduceToNat, Int.reduceLT, Int.reduceLE, reduceCtorEq]
    repeat' ((first | refine FK_split (fun h_ => ?_) (fun h_ => ?_) | refine GK_split (fun h_ => ?_) (fun h_ => ?_) | refine ite_both (fun h_ => ?_) (fun h_ => ?_)) <;> (try simp only [decide_eq_true_eq, decide_eq_false_iff_not, Bool.not_true, Bool.not_false, Bool.not_eq_true', Bool.not_eq_false', Bool.not_eq_eq_eq_not, Decidable.not_not] at h_) <;> (try simp only [r16_0, r16_1, r16_2, r16_3, r16_4, r16_5, r16_6, r16_7, c16, F16, need1, need2, need3, need4, h_, go_sem, Int.reduceTMod, Int.reduceTDiv, Int.reduceDiv, Int.reduceMod, Int.reduceAdd, Int.reduceSub, Int.reduceMul, Int.reduceNeg, Int.reducePow, Int.reduceEq, ↓reduceIte, Nat.reduceEqDiff, Nat.reduceAdd, Nat.reduceMul, Nat.reduceLeDiff, Nat.reduceSub, Nat.reduceLT, Int.reduceToNat, Int.reduceLT, Int.reduceLE, reduceCtorEq]))
  by_cases h2 : k = 2
  · subst h2
    try simp only [r16_0, r16_1, r16_2, r16_3, r16_4, r16_5, r16_6, r16_7, c16, F16, need1, need2, need3, need4, go_sem, Int.reduceTMod, Int.reduceTDiv, Int.reduceDiv, Int.reduceMod, Int.reduceAdd, Int.reduceSub, Int.reduceMul, Int.reduceNeg, Int.reducePow, Int.reduceEq, ↓reduceIte, Nat.reduceEqDiff, Nat.reduceAdd, Nat.reduceMul, Nat.reduceLeDiff, Nat.reduceSub, Nat.reduceLT, Int.reduceToNat, Int.reduceLT, Int.reduceLE, reduceCtorEq]
    repeat' ((first | refine FK_split (fun h_ => ?_) (fun h_ => ?_) | refine GK_split (fun h_ => ?_) (fun h_ => ?_) | refine ite_both (fun h_ => ?_) (fun h_ => ?_)) <;> (try simp only [decide_eq_true_eq, decide_eq_false_iff_not, Bool.not_true, Bool.not_false, Bool.not_eq_true', Bool.not_eq_false', Bool.not_eq_eq_eq_not, Decidable.not_not] at h_) <;> (try simp only [r16_0, r16_1, r16_2, r16_3, r16_4, r16_5, r16_6, r16_7, c16, F16, need1, need2, need3, need4, h_, go_sem, Int.reduceTMod, Int.reduceTDiv, Int.reduceDiv, Int.reduceMod, Int.reduceAdd, Int.reduceSub, Int.reduceMul, Int.reduceNeg, Int.reducePow, Int.reduceEq, ↓reduceIte, Nat.reduceEqDiff, Nat.reduceAdd, Nat.reduceMul, Nat.reduceLeDiff, Nat.reduceSub, Nat.reduceLT, Int.reduceToNat, Int.reduceLT, Int.reduceLE, reduceCtorEq]))
  by_cases h3 : k = 3
  · subst h3
    try simp only [r16_0, r16_1, r16_2, r16_3, r16_4, r16_5, r16_6, r16_7, c16, F16, need1, need2, need3, need4, go_sem, Int.reduceTMod, Int.reduceTDiv, Int.reduceDiv, Int.reduceMod, Int.reduceAdd, Int.reduceSub, Int.reduceMul, Int.reduceNeg, Int.reducePow, Int.reduceEq, ↓reduceIte, Nat.reduceEqDiff, Nat.reduceAdd, Nat.reduceMul, Nat.reduceLeDiff, Nat.reduceSub, Nat.reduceLT, Int.reduceToNat, Int.reduceLT, Int.reduceLE, reduceCtorEq]
    repeat' ((first | refine FK_split (fun h_ => ?_) (fun h_ => ?_) | refine GK_split (fun h_ => ?_) (fun h_ => ?_) | refine ite_both (fun h_ => ?_) (fun h_ => ?_)) <;> (try simp only [decide_eq_true_eq, decide_eq_false_iff_not, Bool.not_true, Bool.not_false, Bool.not_eq_true', Bool.not_eq_false', Bool.not_eq_eq_eq_not, Decidable.not_not] at h_) <;> (try simp only [r16_0, r16_1, r16_2, r16_3, r16_4, r16_5, r16_6, r16_7, c16, F16, need1, need2, need3, need4, h_, go_sem, Int.reduceTMod, Int.reduceTDiv, Int.reduceDiv, Int.reduceMod, Int.reduceAdd, Int.reduceSub, Int.reduceMul, Int.reduceNeg, Int.reducePow, Int.reduceEq, ↓reduceIte, Nat.reduceEqDiff, Nat.reduceAdd, Nat.reduceMul, Nat.reduceLeDiff, Nat.reduceSub, Nat.reduceLT, Int.reduceToNat, Int.reduceLT, Int.reduceLE, reduceCtorEq]))
  by_cases h4 : k = 4
  · subst h4
    try simp only [r16_0, r16_1, r16_2, r16_3, r16_4, r16_5, r16_6, r16_7, c16, F16, need1, need2, need3, need4, go_sem, Int.reduceTMod, Int.reduceTDiv, Int.reduceDiv, Int.reduceMod, Int.reduceAdd, Int.reduceSub, Int.reduceMul, Int.reduceNeg, Int.reducePow, Int.reduceEq, ↓reduceIte, Nat.reduceEqDiff, Nat.reduceAdd, Nat.reduceMul, Nat.reduceLeDiff, Nat.reduceSub, Nat.reduceLT, Int.reduceToNat, Int.reduceLT, Int.reduceLE, reduceCtorEq]
    repeat' ((first | refine FK_split (fun h_ => ?_) (fun h_ => ?_) | refine GK_split (fun h_ => ?_) (fun h_ => ?_) | refine ite_both (fun h_ => ?_) (fun h_ => ?_)) <;> (try simp only [decide_eq_true_eq, decide_eq_false_iff_not, Bool.not_true, Bool.not_false, Bool.not_eq_true', Bool.not_eq_false', Bool.not_eq_eq_eq_not, Decidable.not_not] at h_) <;> (try simp only [r16_0, r16_1, r16_2, r16_3, r16_4, r16_5, r16_6, r16_7, c16, F16, need1, need2, need3, need4, h_, go_sem, Int.reduceTMod, Int.reduceTDiv, Int.reduceDiv, Int.reduceMod, Int.reduceAdd, Int.reduceSub, Int.reduceMul, Int.reduceNeg, Int.reducePow, Int.reduceEq, ↓reduceIte, Nat.reduceEqDiff, Nat.reduceAdd, Nat.reduceMul, Nat.reduceLeDiff, Nat.reduceSub, Nat.reduceLT, Int.reduceToNat, Int.reduceLT, Int.reduceLE, reduceCtorEq]))
  · have e : need k = 0 := by unfold need; rw [if_neg (by omega), if_neg (by omega), if_neg (by omega)]
    try simp only [r16_0, r16_1, r16_2, r16_3, r16_4, r16_5, r16_6, r16_7, c16, F16, h1, h2, h3, h4, e, go_sem, Int.reduceTMod, Int.reduceTDiv, Int.reduceDiv, Int.reduceMod, Int.reduceAdd, Int.reduceSub, Int.reduceMul, Int.reduceNeg, Int.reducePow, Int.reduceEq, ↓reduceIte, Nat.reduceEqDiff, Nat.reduceAdd, Nat.reduceMul, Nat.reduceLeDiff, Nat.reduceSub, Nat.reduceLT, Int.reduceToNat, Int.reduceLT, Int.reduceLE, reduceCtorEq]
    repeat' ((first | refine FK_split (fun h_ => ?_) (fun h_ => ?_) | refine GK_split (fun h_ => ?_) (fun h_ => ?_) | refine ite_both (fun h_ => ?_) (fun h_ => ?_)) <;> (try simp only [decide_eq_true_eq, decide_eq_false_iff_not, Bool.not_true, Bool.not_false, Bool.not_eq_true', Bool.not_eq_false', Bool.not_eq_eq_eq_not, Decidable.not_not] at h_) <;> (try simp only [r16_0, r16_1, r16_2, r16_3, r16_4, r16_5, r16_6, r16_7, c16, F16, h1, h2, h3, h4, e, h_, go_sem, Int.reduceTMod, Int.reduceTDiv, Int.reduceDiv, Int.reduceMod, Int.reduceAdd, Int.reduceSub, Int.reduceMul, Int.reduceNeg, Int.reducePow, Int.reduceEq, ↓reduceIte, Nat.reduceEqDiff, Nat.reduceAdd, Nat.reduceMul, Nat.reduceLeDiff, Nat.reduceSub, Nat.reduceLT, Int.reduceToNat, Int.reduceLT, Int.reduceLE, reduceCtorEq]))
theorem v_awake06 : callF TA 9 [] (tabM needC) 1 = some (RB true) := callF_closed (k := 60) (by kernel_rfl)
/-- The points that a segment needs: a slice of its own array. -/
theorem w_points {sb off : Nat} {m : Mem} {n : Nat} {b : Blk} {k : Int} {o : Bool} (h0 : m 0 = some ⟨needC, o⟩) (hb : m sb = some b) (hk : b.cells[off]? = some (I k)) (hl : off + 7 ≤ b.cells.length) :
    Fn TA 35 [.one (.ptr sb off)] m n (fun r m' n' => r = .one (.sl sb (off + 1) (need k).toNat (some 3) 2) ∧ m' = m ∧ n' = n) := by
  refine Fn_ofK (fn := F35) rfl (by simp [F35]) ?_
  have hn : 0 ≤ need k ∧ need k ≤ 3 := by unfold need; split <;> (try split) <;> (try split) <;> omega
  have hbn : bnds 3 (some 3) none (some (RI (need k))) none = some (0, (need k).toNat, some 3) := by
    have := inR_nat (i := (need k).toNat) (y := 3) (by omega)
    rw [show (((need k).toNat : Nat) : Int) = need k by omega] at this
    simp [bnds, bMax, bHigh, bLow, this]
  have hle : (off + 1 + 3 * 2 ≤ b.cells.length) = True := eq_true (by omega)
  try simp only [r35_0, r35_1, c35, F35, h0, needC_flat, v_Need, hb, hk, hbn, hle, Nat.zero_mul, Nat.add_zero, Nat.sub_zero, Option.map_none, Option.map_some, go_sem, Int.reduceTMod, Int.reduceTDiv, Int.reduceDiv, Int.reduceMod, Int.reduceAdd, Int.reduceSub, Int.reduceMul, Int.reduceNeg, Int.reducePow, Int.reduceEq, ↓reduceIte, Nat.reduceEqDiff, Nat.reduceAdd, Nat.reduceMul, Nat.reduceLeDiff, Nat.reduceSub, Nat.reduceLT, Int.reduceToNat, Int.reduceLT, Int.reduceLE, reduceCtorEq]
  repeat' ((first | refine FK_split (fun h_ => ?_) (fun h_ => ?_) | refine GK_split (fun h_ => ?_) (fun h_ => ?_) | refine ite_both (fun h_ => ?_) (fun h_ => ?_)) <;> (try simp only [decide_eq_true_eq, decide_eq_false_iff_not, Bool.not_true, Bool.not_false, Bool.not_eq_true', Bool.not_eq_false', Bool.not_eq_eq_eq_not, Decidable.not_not] at h_) <;> (try simp only [r35_0, r35_1, c35, F35, h0, needC_flat, v_Need, hb, hk, hbn, hle, Nat.zero_mul, Nat.add_zero, Nat.sub_zero, Option.map_none, Option.map_some, h_, go_sem, Int.reduceTMod, Int.reduceTDiv, Int.reduceDiv, Int.reduceMod, Int.reduceAdd, Int.reduceSub, Int.reduceMul, Int.reduceNeg, Int.reducePow, Int.reduceEq, ↓reduceIte, Nat.reduceEqDiff, Nat.reduceAdd, Nat.reduceMul, Nat.reduceLeDiff, Nat.reduceSub, Nat.reduceLT, Int.reduceToNat, Int.reduceLT, Int.reduceLE, reduceCtorEq]))

end Go.Proofs.YtpleidpbapgmiaaDoor.Sy
