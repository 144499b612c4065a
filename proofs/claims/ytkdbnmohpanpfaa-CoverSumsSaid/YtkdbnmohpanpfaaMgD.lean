import Derived.Test.YtkdbnmohpanpfaaMgC
import Derived.Test.YtkdbnmohpanpfaaProg
import Derived.KernelRfl
/- Functions of the program, slimmed down, and the check that they are. Conditions: none. -/
namespace Go.Proofs.Ytkdbnmohpanpfaa.Sy
open Go Go.Proofs
set_option linter.unusedVariables false

def bytesA : List Nat := [0, 1, 2, 2, 3, 3, 3, 3, 4, 4, 4, 4, 4, 4, 4, 4, 5, 5, 5, 5, 5, 5, 5, 5, 5, 5, 5, 5, 5, 5, 5, 5, 6, 6, 6, 6, 6, 6, 6, 6, 6, 6, 6, 6, 6, 6, 6, 6, 6, 6, 6, 6, 6, 6, 6, 6, 6, 6, 6, 6, 6, 6, 6, 6, 7, 7, 7, 7, 7, 7, 7, 7, 7, 7, 7, 7, 7, 7, 7, 7, 7, 7, 7, 7, 7, 7, 7, 7, 7, 7, 7, 7, 7, 7, 7, 7, 7, 7, 7, 7, 7, 7, 7, 7, 7, 7, 7, 7, 7, 7, 7, 7, 7, 7, 7, 7, 7, 7, 7, 7, 7, 7, 7, 7, 7, 7, 7, 7, 8, 8, 8, 8, 8, 8, 8, 8, 8, 8, 8, 8, 8, 8, 8, 8, 8, 8, 8, 8, 8, 8, 8, 8, 8, 8, 8, 8, 8, 8, 8, 8, 8, 8, 8, 8, 8, 8, 8, 8, 8, 8, 8, 8, 8, 8, 8, 8, 8, 8, 8, 8, 8, 8, 8, 8, 8, 8, 8, 8, 8, 8, 8, 8, 8, 8, 8, 8, 8, 8, 8, 8, 8, 8, 8, 8, 8, 8, 8, 8, 8, 8, 8, 8, 8, 8, 8, 8, 8, 8, 8, 8, 8, 8, 8, 8, 8, 8, 8, 8, 8, 8, 8, 8, 8, 8, 8, 8, 8, 8, 8, 8, 8, 8, 8, 8, 8, 8, 8, 8, 8, 8, 8, 8, 8, 8, 8, 8]
def r3_0 : List SOper := [
  ⟨(some 1), .box (.t 0), none⟩,
  ⟨(some 2), .mv (.c (.one (.sc (.bool false)))), none⟩]
def r3_1 : List SOper := [
  ⟨(some 16), .fadr 2 (.t 1), none⟩,
  ⟨(some 17), .loadA 4 (.t 16), none⟩,
  ⟨(some 3), .alloc [.sc (.int .i64 0), .sc (.int .i64 0), .sc (.int .i64 0), .sc (.int .i64 0)], none⟩,
  ⟨none, .store 4 (.t 3) (.t 17), none⟩]
def r3_2 : List SOper := [
  ⟨(some 18), .fadr 0 (.t 1), none⟩,
  ⟨(some 19), .load1 (.t 18), none⟩,
  ⟨(some 20), .loadA 4 (.t 3), none⟩,
  ⟨(some 21), .call .q 9 [(.t 19), (.t 20)], none⟩,
  ⟨(some 22), .un .not (.t 21), none⟩,
  ⟨(some 23), .mv (.t 22), none⟩,
  ⟨(some 24), .fadr 0 (.t 3), (some (some 23, false))⟩,
  ⟨(some 25), .load1 (.t 24), (some (some 23, false))⟩,
  ⟨(some 26), .fadr 1 (.t 3), (some (some 23, false))⟩,
  ⟨(some 27), .load1 (.t 26), (some (some 23, false))⟩,
  ⟨(some 28), .fadr 2 (.t 3), (some (some 23, false))⟩,
  ⟨(some 29), .load1 (.t 28), (some (some 23, false))⟩,
  ⟨(some 30), .fadr 3 (.t 3), (some (some 23, false))⟩,
  ⟨(some 31), .load1 (.t 30), (some (some 23, false))⟩,
  ⟨(some 32), .call (.z 0) 10 [(.t 25), (.t 27), (.t 29), (.t 31)], (some (some 23, false))⟩,
  ⟨(some 33), .un .not (.t 32), (some (some 23, false))⟩,
  ⟨(some 34), .pick (.t 23) (.c (.one (.sc (.bool true)))) (.t 33), none⟩]
def r3_3 : List SOper := [
  ⟨(some 35), .call (.z 0) 11 [], none⟩,
  ⟨(some 2), .mv (.t 35), none⟩]
def r3_4 : List SOper := [
  ⟨(some 37), .fadr 0 (.t 1), none⟩,
  ⟨(some 38), .load1 (.t 37), none⟩,
  ⟨(some 39), .fadr 1 (.t 1), none⟩,
  ⟨(some 40), .load1 (.t 39), none⟩,
  ⟨(some 41), .loadA 4 (.t 3), none⟩,
  ⟨(some 42), .call .k 12 [(.t 38), (.t 40), (.t 41)], none⟩,
  ⟨(some 36), .mv (.t 42), none⟩,
  ⟨(some 43), .ext (.t 36) 0, none⟩,
  ⟨(some 44), .ext (.t 36) 1, none⟩,
  ⟨(some 4), .mv (.t 43), none⟩,
  ⟨(some 5), .mv (.t 44), none⟩]
def r3_5 : List SOper := [
  ⟨(some 45), .mv (.t 5), none⟩,
  ⟨(some 46), .bin .neq (.t 45) (.c (.one (.sc (.int .i64 0)))), none⟩]
def r3_6 : List SOper := [
  ⟨(some 47), .fadr 1 (.t 1), none⟩,
  ⟨(some 48), .load1 (.t 47), none⟩,
  ⟨(some 49), .bin .neq (.t 48) (.c (.one (.sc (.int .i64 1)))), none⟩,
  ⟨(some 50), .mv (.t 49), none⟩,
  ⟨(some 51), .fadr 1 (.t 1), (some (some 50, true))⟩,
  ⟨(some 52), .load1 (.t 51), (some (some 50, true))⟩,
  ⟨(some 53), .bin .neq (.t 52) (.c (.one (.sc (.int .i64 2)))), (some (some 50, true))⟩,
  ⟨(some 54), .pick (.t 50) (.t 53) (.c (.one (.sc (.bool false)))), none⟩,
  ⟨(some 55), .mv (.t 54), none⟩,
  ⟨(some 56), .fadr 0 (.t 1), (some (some 55, false))⟩,
  ⟨(some 57), .load1 (.t 56), (some (some 55, false))⟩,
  ⟨(some 58), .call .k 14 [(.t 57)], (some (some 55, false))⟩,
  ⟨(some 59), .call .q 13 [(.t 58)], (some (some 55, false))⟩,
  ⟨(some 60), .un .not (.t 59), (some (some 55, false))⟩,
  ⟨(some 61), .pick (.t 55) (.c (.one (.sc (.bool true)))) (.t 60), none⟩,
  ⟨(some 62), .mv (.t 61), none⟩,
  ⟨(some 63), .call (.z 0) 11 [], (some (some 62, true))⟩,
  ⟨(some 64), .pick (.t 62) (.t 63) (.c (.one (.sc (.bool false)))), none⟩,
  ⟨(some 2), .mv (.t 64), none⟩]
def r3_7 : List SOper := [
  ⟨(some 65), .fadr 2 (.t 3), none⟩,
  ⟨(some 66), .load1 (.t 65), none⟩,
  ⟨(some 67), .fadr 0 (.t 3), none⟩,
  ⟨(some 68), .load1 (.t 67), none⟩,
  ⟨(some 69), .bin .sub (.t 66) (.t 68), none⟩,
  ⟨(some 6), .mv (.t 69), none⟩]
def r3_8 : List SOper := [
  ⟨(some 70), .fadr 6 (.t 1), none⟩,
  ⟨(some 71), .load1 (.t 70), none⟩,
  ⟨(some 72), .bin .gtr (.t 71) (.c (.one (.sc (.int .i64 0)))), none⟩,
  ⟨(some 73), .mv (.t 72), none⟩,
  ⟨(some 74), .fadr 6 (.t 1), (some (some 73, true))⟩,
  ⟨(some 75), .load1 (.t 74), (some (some 73, true))⟩,
  ⟨(some 76), .fadr 3 (.t 3), (some (some 73, true))⟩,
  ⟨(some 77), .load1 (.t 76), (some (some 73, true))⟩,
  ⟨(some 78), .fadr 1 (.t 3), (some (some 73, true))⟩,
  ⟨(some 79), .load1 (.t 78), (some (some 73, true))⟩,
  ⟨(some 80), .bin .sub (.t 77) (.t 79), (some (some 73, true))⟩,
  ⟨(some 81), .bin .lss (.t 75) (.t 80), (some (some 73, true))⟩,
  ⟨(some 82), .pick (.t 73) (.t 81) (.c (.one (.sc (.bool false)))), none⟩]
def r3_9 : List SOper := [
  ⟨(some 84), .fadr 0 (.t 1), none⟩,
  ⟨(some 85), .load1 (.t 84), none⟩,
  ⟨(some 86), .fadr 1 (.t 1), none⟩,
  ⟨(some 87), .load1 (.t 86), none⟩,
  ⟨(some 88), .fadr 0 (.t 3), none⟩,
  ⟨(some 89), .load1 (.t 88), none⟩,
  ⟨(some 90), .fadr 1 (.t 3), none⟩,
  ⟨(some 91), .load1 (.t 90), none⟩,
  ⟨(some 92), .fadr 2 (.t 3), none⟩,
  ⟨(some 93), .load1 (.t 92), none⟩,
  ⟨(some 94), .fadr 1 (.t 3), none⟩,
  ⟨(some 95), .load1 (.t 94), none⟩,
  ⟨(some 96), .fadr 6 (.t 1), none⟩,
  ⟨(some 97), .load1 (.t 96), none⟩,
  ⟨(some 98), .bin .add (.t 95) (.t 97), none⟩,
  ⟨(some 99), .build [.sc (.int .i64 0), .sc (.int .i64 0), .sc (.int .i64 0), .sc (.int .i64 0)] [(0, 1, (.t 89)), (1, 1, (.t 91)), (2, 1, (.t 93)), (3, 1, (.t 98))], none⟩,
  ⟨(some 100), .call .k 12 [(.t 85), (.t 87), (.t 99)], none⟩,
  ⟨(some 83), .mv (.t 100), none⟩,
  ⟨(some 101), .ext (.t 83) 0, none⟩,
  ⟨(some 102), .ext (.t 83) 1, none⟩,
  ⟨(some 7), .mv (.t 101), none⟩,
  ⟨(some 8), .mv (.t 102), none⟩]
def r3_10 : List SOper := [
  ⟨(some 104), .fadr 0 (.t 1), none⟩,
  ⟨(some 105), .load1 (.t 104), none⟩,
  ⟨(some 106), .fadr 1 (.t 1), none⟩,
  ⟨(some 107), .load1 (.t 106), none⟩,
  ⟨(some 108), .fadr 0 (.t 3), none⟩,
  ⟨(some 109), .load1 (.t 108), none⟩,
  ⟨(some 110), .fadr 1 (.t 3), none⟩,
  ⟨(some 111), .load1 (.t 110), none⟩,
  ⟨(some 112), .fadr 6 (.t 1), none⟩,
  ⟨(some 113), .load1 (.t 112), none⟩,
  ⟨(some 114), .bin .add (.t 111) (.t 113), none⟩,
  ⟨(some 115), .fadr 2 (.t 3), none⟩,
  ⟨(some 116), .load1 (.t 115), none⟩,
  ⟨(some 117), .fadr 3 (.t 3), none⟩,
  ⟨(some 118), .load1 (.t 117), none⟩,
  ⟨(some 119), .build [.sc (.int .i64 0), .sc (.int .i64 0), .sc (.int .i64 0), .sc (.int .i64 0)] [(0, 1, (.t 109)), (1, 1, (.t 114)), (2, 1, (.t 116)), (3, 1, (.t 118))], none⟩,
  ⟨(some 120), .call .k 12 [(.t 105), (.t 107), (.t 119)], none⟩,
  ⟨(some 103), .mv (.t 120), none⟩,
  ⟨(some 121), .ext (.t 103) 0, none⟩,
  ⟨(some 122), .ext (.t 103) 1, none⟩,
  ⟨(some 9), .mv (.t 121), none⟩,
  ⟨(some 10), .mv (.t 122), none⟩]
def r3_11 : List SOper := [
  ⟨(some 123), .mv (.t 8), none⟩,
  ⟨(some 124), .bin .neq (.t 123) (.c (.one (.sc (.int .i64 0)))), none⟩,
  ⟨(some 125), .mv (.t 124), none⟩,
  ⟨(some 126), .mv (.t 10), (some (some 125, false))⟩,
  ⟨(some 127), .bin .neq (.t 126) (.c (.one (.sc (.int .i64 0)))), (some (some 125, false))⟩,
  ⟨(some 128), .pick (.t 125) (.c (.one (.sc (.bool true)))) (.t 127), none⟩,
  ⟨(some 129), .mv (.t 128), none⟩,
  ⟨(some 130), .bslice [] 0 1 [], (some (some 129, false))⟩,
  ⟨(some 131), .mv (.t 7), (some (some 129, false))⟩,
  ⟨(some 132), .app 1 1 (.t 130) (.t 131), (some (some 129, false))⟩,
  ⟨(some 133), .mv (.t 9), (some (some 129, false))⟩,
  ⟨(some 134), .app 1 1 (.t 132) (.t 133), (some (some 129, false))⟩,
  ⟨(some 135), .stuck, (some (some 129, false))⟩,
  ⟨(some 136), .mv (.t 4), (some (some 129, false))⟩,
  ⟨(some 137), .stuck, (some (some 129, false))⟩,
  ⟨(some 138), .stuck, (some (some 129, false))⟩,
  ⟨(some 139), .pick (.t 129) (.c (.one (.sc (.bool true)))) (.t 138), none⟩]
def r3_12 : List SOper := [
  ⟨(some 2), .mv (.c (.one (.sc (.bool false)))), none⟩]
def r3_13 : List SOper := [
  ⟨(some 140), .fadr 6 (.t 1), none⟩,
  ⟨(some 141), .load1 (.t 140), none⟩,
  ⟨(some 142), .bin .gtr (.t 141) (.c (.one (.sc (.int .i64 0)))), none⟩,
  ⟨(some 143), .mv (.t 142), none⟩,
  ⟨(some 144), .fadr 6 (.t 1), (some (some 143, true))⟩,
  ⟨(some 145), .load1 (.t 144), (some (some 143, true))⟩,
  ⟨(some 146), .mv (.t 6), (some (some 143, true))⟩,
  ⟨(some 147), .bin .lss (.t 145) (.t 146), (some (some 143, true))⟩,
  ⟨(some 148), .pick (.t 143) (.t 147) (.c (.one (.sc (.bool false)))), none⟩]
def r3_14 : List SOper := [
  ⟨(some 150), .fadr 0 (.t 1), none⟩,
  ⟨(some 151), .load1 (.t 150), none⟩,
  ⟨(some 152), .fadr 1 (.t 1), none⟩,
  ⟨(some 153), .load1 (.t 152), none⟩,
  ⟨(some 154), .fadr 0 (.t 3), none⟩,
  ⟨(some 155), .load1 (.t 154), none⟩,
  ⟨(some 156), .fadr 1 (.t 3), none⟩,
  ⟨(some 157), .load1 (.t 156), none⟩,
  ⟨(some 158), .fadr 0 (.t 3), none⟩,
  ⟨(some 159), .load1 (.t 158), none⟩,
  ⟨(some 160), .fadr 6 (.t 1), none⟩,
  ⟨(some 161), .load1 (.t 160), none⟩,
  ⟨(some 162), .bin .add (.t 159) (.t 161), none⟩,
  ⟨(some 163), .fadr 3 (.t 3), none⟩,
  ⟨(some 164), .load1 (.t 163), none⟩,
  ⟨(some 165), .build [.sc (.int .i64 0), .sc (.int .i64 0), .sc (.int .i64 0), .sc (.int .i64 0)] [(0, 1, (.t 155)), (1, 1, (.t 157)), (2, 1, (.t 162)), (3, 1, (.t 164))], none⟩,
  ⟨(some 166), .call .k 12 [(.t 151), (.t 153), (.t 165)], none⟩,
  ⟨(some 149), .mv (.t 166), none⟩,
  ⟨(some 167), .ext (.t 149) 0, none⟩,
  ⟨(some 168), .ext (.t 149) 1, none⟩,
  ⟨(some 11), .mv (.t 167), none⟩,
  ⟨(some 12), .mv (.t 168), none⟩]
def r3_15 : List SOper := [
  ⟨(some 170), .fadr 0 (.t 1), none⟩,
  ⟨(some 171), .load1 (.t 170), none⟩,
  ⟨(some 172), .fadr 1 (.t 1), none⟩,
  ⟨(some 173), .load1 (.t 172), none⟩,
  ⟨(some 174), .fadr 0 (.t 3), none⟩,
  ⟨(some 175), .load1 (.t 174), none⟩,
  ⟨(some 176), .fadr 6 (.t 1), none⟩,
  ⟨(some 177), .load1 (.t 176), none⟩,
  ⟨(some 178), .bin .add (.t 175) (.t 177), none⟩,
  ⟨(some 179), .fadr 1 (.t 3), none⟩,
  ⟨(some 180), .load1 (.t 179), none⟩,
  ⟨(some 181), .fadr 2 (.t 3), none⟩,
  ⟨(some 182), .load1 (.t 181), none⟩,
  ⟨(some 183), .fadr 3 (.t 3), none⟩,
  ⟨(some 184), .load1 (.t 183), none⟩,
  ⟨(some 185), .build [.sc (.int .i64 0), .sc (.int .i64 0), .sc (.int .i64 0), .sc (.int .i64 0)] [(0, 1, (.t 178)), (1, 1, (.t 180)), (2, 1, (.t 182)), (3, 1, (.t 184))], none⟩,
  ⟨(some 186), .call .k 12 [(.t 171), (.t 173), (.t 185)], none⟩,
  ⟨(some 169), .mv (.t 186), none⟩,
  ⟨(some 187), .ext (.t 169) 0, none⟩,
  ⟨(some 188), .ext (.t 169) 1, none⟩,
  ⟨(some 13), .mv (.t 187), none⟩,
  ⟨(some 14), .mv (.t 188), none⟩]
def r3_16 : List SOper := [
  ⟨(some 189), .mv (.t 12), none⟩,
  ⟨(some 190), .bin .neq (.t 189) (.c (.one (.sc (.int .i64 0)))), none⟩,
  ⟨(some 191), .mv (.t 190), none⟩,
  ⟨(some 192), .mv (.t 14), (some (some 191, false))⟩,
  ⟨(some 193), .bin .neq (.t 192) (.c (.one (.sc (.int .i64 0)))), (some (some 191, false))⟩,
  ⟨(some 194), .pick (.t 191) (.c (.one (.sc (.bool true)))) (.t 193), none⟩,
  ⟨(some 195), .mv (.t 194), none⟩,
  ⟨(some 196), .mv (.t 11), (some (some 195, false))⟩,
  ⟨(some 197), .len (.t 196), (some (some 195, false))⟩,
  ⟨(some 198), .fadr 6 (.t 1), (some (some 195, false))⟩,
  ⟨(some 199), .load1 (.t 198), (some (some 195, false))⟩,
  ⟨(some 200), .fadr 3 (.t 3), (some (some 195, false))⟩,
  ⟨(some 201), .load1 (.t 200), (some (some 195, false))⟩,
  ⟨(some 202), .fadr 1 (.t 3), (some (some 195, false))⟩,
  ⟨(some 203), .load1 (.t 202), (some (some 195, false))⟩,
  ⟨(some 204), .bin .sub (.t 201) (.t 203), (some (some 195, false))⟩,
  ⟨(some 205), .bin .mul (.t 199) (.t 204), (some (some 195, false))⟩,
  ⟨(some 206), .bin .neq (.t 197) (.t 205), (some (some 195, false))⟩,
  ⟨(some 207), .pick (.t 195) (.c (.one (.sc (.bool true)))) (.t 206), none⟩,
  ⟨(some 208), .mv (.t 207), none⟩,
  ⟨(some 209), .mv (.t 13), (some (some 208, false))⟩,
  ⟨(some 210), .len (.t 209), (some (some 208, false))⟩,
  ⟨(some 211), .mv (.t 6), (some (some 208, false))⟩,
  ⟨(some 212), .fadr 6 (.t 1), (some (some 208, false))⟩,
  ⟨(some 213), .load1 (.t 212), (some (some 208, false))⟩,
  ⟨(some 214), .bin .sub (.t 211) (.t 213), (some (some 208, false))⟩,
  ⟨(some 215), .fadr 3 (.t 3), (some (some 208, false))⟩,
  ⟨(some 216), .load1 (.t 215), (some (some 208, false))⟩,
  ⟨(some 217), .fadr 1 (.t 3), (some (some 208, false))⟩,
  ⟨(some 218), .load1 (.t 217), (some (some 208, false))⟩,
  ⟨(some 219), .bin .sub (.t 216) (.t 218), (some (some 208, false))⟩,
  ⟨(some 220), .bin .mul (.t 214) (.t 219), (some (some 208, false))⟩,
  ⟨(some 221), .bin .neq (.t 210) (.t 220), (some (some 208, false))⟩,
  ⟨(some 222), .pick (.t 208) (.c (.one (.sc (.bool true)))) (.t 221), none⟩]
def r3_17 : List SOper := [
  ⟨(some 2), .mv (.c (.one (.sc (.bool false)))), none⟩]
def r3_18 : List SOper := [
  ⟨(some 223), .fadr 3 (.t 3), none⟩,
  ⟨(some 224), .load1 (.t 223), none⟩,
  ⟨(some 225), .fadr 1 (.t 3), none⟩,
  ⟨(some 226), .load1 (.t 225), none⟩,
  ⟨(some 227), .bin .sub (.t 224) (.t 226), none⟩,
  ⟨(some 228), .mv (.c (.one (.sc (.int .i64 0)))), none⟩]
def r3_19 : List SOper := [
  ⟨(some 229), .bin .lss (.t 228) (.t 227), none⟩]
def r3_20 : List SOper := [
  ⟨(some 230), .mv (.t 228), none⟩,
  ⟨(some 15), .mv (.t 230), none⟩]
def r3_21 : List SOper := [
  ⟨(some 231), .mv (.t 4), none⟩,
  ⟨(some 232), .mv (.t 15), none⟩,
  ⟨(some 233), .mv (.t 6), none⟩,
  ⟨(some 234), .bin .mul (.t 232) (.t 233), none⟩,
  ⟨(some 235), .mv (.t 15), none⟩,
  ⟨(some 236), .mv (.t 6), none⟩,
  ⟨(some 237), .bin .mul (.t 235) (.t 236), none⟩,
  ⟨(some 238), .fadr 6 (.t 1), none⟩,
  ⟨(some 239), .load1 (.t 238), none⟩,
  ⟨(some 240), .bin .add (.t 237) (.t 239), none⟩,
  ⟨(some 241), .slS 1 (.t 231) (some (.t 234)) (some (.t 240)) none, none⟩,
  ⟨(some 242), .stuck, none⟩,
  ⟨(some 243), .mv (.t 11), none⟩,
  ⟨(some 244), .mv (.t 15), none⟩,
  ⟨(some 245), .fadr 6 (.t 1), none⟩,
  ⟨(some 246), .load1 (.t 245), none⟩,
  ⟨(some 247), .bin .mul (.t 244) (.t 246), none⟩,
  ⟨(some 248), .mv (.t 15), none⟩,
  ⟨(some 249), .bin .add (.t 248) (.c (.one (.sc (.int .i64 1)))), none⟩,
  ⟨(some 250), .fadr 6 (.t 1), none⟩,
  ⟨(some 251), .load1 (.t 250), none⟩,
  ⟨(some 252), .bin .mul (.t 249) (.t 251), none⟩,
  ⟨(some 253), .slS 1 (.t 243) (some (.t 247)) (some (.t 252)) none, none⟩,
  ⟨(some 254), .stuck, none⟩,
  ⟨(some 255), .stuck, none⟩,
  ⟨(some 256), .mv (.t 255), none⟩,
  ⟨(some 257), .mv (.t 4), (some (some 256, false))⟩,
  ⟨(some 258), .mv (.t 15), (some (some 256, false))⟩,
  ⟨(some 259), .mv (.t 6), (some (some 256, false))⟩,
  ⟨(some 260), .bin .mul (.t 258) (.t 259), (some (some 256, false))⟩,
  ⟨(some 261), .fadr 6 (.t 1), (some (some 256, false))⟩,
  ⟨(some 262), .load1 (.t 261), (some (some 256, false))⟩,
  ⟨(some 263), .bin .add (.t 260) (.t 262), (some (some 256, false))⟩,
  ⟨(some 264), .mv (.t 15), (some (some 256, false))⟩,
  ⟨(some 265), .bin .add (.t 264) (.c (.one (.sc (.int .i64 1)))), (some (some 256, false))⟩,
  ⟨(some 266), .mv (.t 6), (some (some 256, false))⟩,
  ⟨(some 267), .bin .mul (.t 265) (.t 266), (some (some 256, false))⟩,
  ⟨(some 268), .slS 1 (.t 257) (some (.t 263)) (some (.t 267)) none, (some (some 256, false))⟩,
  ⟨(some 269), .stuck, (some (some 256, false))⟩,
  ⟨(some 270), .mv (.t 13), (some (some 256, false))⟩,
  ⟨(some 271), .mv (.t 15), (some (some 256, false))⟩,
  ⟨(some 272), .mv (.t 6), (some (some 256, false))⟩,
  ⟨(some 273), .fadr 6 (.t 1), (some (some 256, false))⟩,
  ⟨(some 274), .load1 (.t 273), (some (some 256, false))⟩,
  ⟨(some 275), .bin .sub (.t 272) (.t 274), (some (some 256, false))⟩,
  ⟨(some 276), .bin .mul (.t 271) (.t 275), (some (some 256, false))⟩,
  ⟨(some 277), .mv (.t 15), (some (some 256, false))⟩,
  ⟨(some 278), .bin .add (.t 277) (.c (.one (.sc (.int .i64 1)))), (some (some 256, false))⟩,
  ⟨(some 279), .mv (.t 6), (some (some 256, false))⟩,
  ⟨(some 280), .fadr 6 (.t 1), (some (some 256, false))⟩,
  ⟨(some 281), .load1 (.t 280), (some (some 256, false))⟩,
  ⟨(some 282), .bin .sub (.t 279) (.t 281), (some (some 256, false))⟩,
  ⟨(some 283), .bin .mul (.t 278) (.t 282), (some (some 256, false))⟩,
  ⟨(some 284), .slS 1 (.t 270) (some (.t 276)) (some (.t 283)) none, (some (some 256, false))⟩,
  ⟨(some 285), .stuck, (some (some 256, false))⟩,
  ⟨(some 286), .stuck, (some (some 256, false))⟩,
  ⟨(some 287), .pick (.t 256) (.c (.one (.sc (.bool true)))) (.t 286), none⟩]
def r3_22 : List SOper := [
  ⟨(some 2), .mv (.c (.one (.sc (.bool false)))), none⟩]
def r3_23 : List SOper := [
  ⟨(some 288), .bin .add (.t 228) (.c (.one (.sc (.int .i64 1)))), none⟩,
  ⟨(some 228), .mv (.t 288), none⟩]
def l3_0 : SC := (.seq (.reg r3_19) (.seq (.cond (.t 229) .skip (.exit 0)) (.seq (.block 1 (.seq (.reg r3_20) (.seq (.reg r3_21) (.cond (.t 287) (.seq (.reg r3_22) .ret) .skip)))) (.reg r3_23))))
def r3_24 : List SOper := [
  ⟨(some 289), .call (.z 0) 11 [], none⟩,
  ⟨(some 2), .mv (.t 289), none⟩]
def c3 : SC := (.seq (.reg r3_0) (.seq (.reg r3_1) (.seq (.seq (.reg r3_2) (.cond (.t 34) (.seq (.reg r3_3) .ret) .skip)) (.seq (.reg r3_4) (.seq (.seq (.reg r3_5) (.cond (.t 46) (.seq (.reg r3_6) .ret) .skip)) (.seq (.reg r3_7) (.seq (.seq (.reg r3_8) (.cond (.t 82) (.seq (.reg r3_9) (.seq (.reg r3_10) (.seq (.reg r3_11) (.cond (.t 139) (.seq (.reg r3_12) .ret) .skip)))) .skip)) (.seq (.seq (.reg r3_13) (.cond (.t 148) (.seq (.reg r3_14) (.seq (.reg r3_15) (.seq (.seq (.reg r3_16) (.cond (.t 222) (.seq (.reg r3_17) .ret) .skip)) (.seq (.reg r3_18) (.block 0 (.loop l3_0)))))) .skip)) (.seq (.reg r3_24) .ret)))))))))
/-- limner/limnerlaw08.CoverParts -/
def F3 : SFun := ⟨290, c3, [.tmp 2], none⟩

def r4_0 : List SOper := [
  ⟨(some 5), .box (.t 2), none⟩,
  ⟨(some 6), .mv (.c (.one (.sc (.bool false)))), none⟩]
def r4_1 : List SOper := [
  ⟨(some 18), .build [.sc (.int .i64 0), .sc (.int .i64 0), .sc (.int .i64 0), .sc (.int .i64 0)] [(0, 1, (.c (.one (.sc (.int .i64 (-1)))))), (1, 1, (.c (.one (.sc (.int .i64 (-1)))))), (2, 1, (.c (.one (.sc (.int .i64 4))))), (3, 1, (.c (.one (.sc (.int .i64 4)))))], none⟩,
  ⟨(some 7), .alloc [.sc (.int .i64 0), .sc (.int .i64 0), .sc (.int .i64 0), .sc (.int .i64 0)], none⟩,
  ⟨none, .store 4 (.t 7) (.t 18), none⟩]
def r4_2 : List SOper := [
  ⟨(some 19), .mv (.t 0), none⟩,
  ⟨(some 20), .loadA 4 (.t 7), none⟩,
  ⟨(some 21), .call .q 9 [(.t 19), (.t 20)], none⟩,
  ⟨(some 22), .un .not (.t 21), none⟩,
  ⟨(some 23), .mv (.t 22), none⟩,
  ⟨(some 24), .fadr 0 (.t 5), (some (some 23, false))⟩,
  ⟨(some 25), .load1 (.t 24), (some (some 23, false))⟩,
  ⟨(some 26), .bin .lss (.t 25) (.c (.one (.sc (.int .i64 (-1048576))))), (some (some 23, false))⟩,
  ⟨(some 27), .pick (.t 23) (.c (.one (.sc (.bool true)))) (.t 26), none⟩,
  ⟨(some 28), .mv (.t 27), none⟩,
  ⟨(some 29), .fadr 0 (.t 5), (some (some 28, false))⟩,
  ⟨(some 30), .load1 (.t 29), (some (some 28, false))⟩,
  ⟨(some 31), .bin .gtr (.t 30) (.c (.one (.sc (.int .i64 1048576)))), (some (some 28, false))⟩,
  ⟨(some 32), .pick (.t 28) (.c (.one (.sc (.bool true)))) (.t 31), none⟩,
  ⟨(some 33), .mv (.t 32), none⟩,
  ⟨(some 34), .fadr 1 (.t 5), (some (some 33, false))⟩,
  ⟨(some 35), .load1 (.t 34), (some (some 33, false))⟩,
  ⟨(some 36), .bin .lss (.t 35) (.c (.one (.sc (.int .i64 (-1048576))))), (some (some 33, false))⟩,
  ⟨(some 37), .pick (.t 33) (.c (.one (.sc (.bool true)))) (.t 36), none⟩,
  ⟨(some 38), .mv (.t 37), none⟩,
  ⟨(some 39), .fadr 1 (.t 5), (some (some 38, false))⟩,
  ⟨(some 40), .load1 (.t 39), (some (some 38, false))⟩,
  ⟨(some 41), .bin .gtr (.t 40) (.c (.one (.sc (.int .i64 1048576)))), (some (some 38, false))⟩,
  ⟨(some 42), .pick (.t 38) (.c (.one (.sc (.bool true)))) (.t 41), none⟩]
def r4_3 : List SOper := [
  ⟨(some 43), .call (.z 0) 11 [], none⟩,
  ⟨(some 6), .mv (.t 43), none⟩]
def r4_4 : List SOper := [
  ⟨(some 8), .mv (.c (.one (.sc (.slice none 0 0)))), none⟩]
def r4_5 : List SOper := [
  ⟨(some 44), .mv (.t 0), none⟩,
  ⟨(some 45), .len (.t 44), none⟩,
  ⟨(some 46), .mv (.c (.one (.sc (.int .i64 0)))), none⟩]
def r4_6 : List SOper := [
  ⟨(some 47), .bin .lss (.t 46) (.t 45), none⟩]
def r4_7 : List SOper := [
  ⟨(some 48), .iadrS 1 (.t 44) (.t 46), none⟩,
  ⟨(some 49), .load1 (.t 48), none⟩,
  ⟨(some 10), .mv (.t 49), none⟩]
def r4_8 : List SOper := [
  ⟨(some 11), .mv (.c (.one (.sc (.slice none 0 0)))), none⟩]
def r4_9 : List SOper := [
  ⟨(some 50), .mv (.t 10), none⟩,
  ⟨(some 51), .len (.t 50), none⟩,
  ⟨(some 52), .mv (.c (.one (.sc (.int .i64 0)))), none⟩]
def r4_10 : List SOper := [
  ⟨(some 53), .bin .lss (.t 52) (.t 51), none⟩]
def r4_11 : List SOper := [
  ⟨(some 54), .iadrS 2 (.t 50) (.t 52), none⟩,
  ⟨(some 55), .loadA 2 (.t 54), none⟩,
  ⟨(some 13), .alloc [.sc (.int .i64 0), .sc (.int .i64 0)], none⟩,
  ⟨none, .store 2 (.t 13) (.t 55), none⟩]
def r4_12 : List SOper := [
  ⟨(some 56), .fadr 0 (.t 13), none⟩,
  ⟨(some 57), .load1 (.t 56), none⟩,
  ⟨(some 58), .bin .lss (.t 57) (.c (.one (.sc (.int .i64 (-1073741824))))), none⟩,
  ⟨(some 59), .mv (.t 58), none⟩,
  ⟨(some 60), .fadr 0 (.t 13), (some (some 59, false))⟩,
  ⟨(some 61), .load1 (.t 60), (some (some 59, false))⟩,
  ⟨(some 62), .bin .gtr (.t 61) (.c (.one (.sc (.int .i64 1073741824)))), (some (some 59, false))⟩,
  ⟨(some 63), .pick (.t 59) (.c (.one (.sc (.bool true)))) (.t 62), none⟩,
  ⟨(some 64), .mv (.t 63), none⟩,
  ⟨(some 65), .fadr 1 (.t 13), (some (some 64, false))⟩,
  ⟨(some 66), .load1 (.t 65), (some (some 64, false))⟩,
  ⟨(some 67), .bin .lss (.t 66) (.c (.one (.sc (.int .i64 (-1073741824))))), (some (some 64, false))⟩,
  ⟨(some 68), .pick (.t 64) (.c (.one (.sc (.bool true)))) (.t 67), none⟩,
  ⟨(some 69), .mv (.t 68), none⟩,
  ⟨(some 70), .fadr 1 (.t 13), (some (some 69, false))⟩,
  ⟨(some 71), .load1 (.t 70), (some (some 69, false))⟩,
  ⟨(some 72), .bin .gtr (.t 71) (.c (.one (.sc (.int .i64 1073741824)))), (some (some 69, false))⟩,
  ⟨(some 73), .pick (.t 69) (.c (.one (.sc (.bool true)))) (.t 72), none⟩]
def r4_13 : List SOper := [
  ⟨(some 74), .call (.z 0) 11 [], none⟩,
  ⟨(some 6), .mv (.t 74), none⟩]
def r4_14 : List SOper := [
  ⟨(some 75), .mv (.t 11), none⟩,
  ⟨(some 76), .fadr 0 (.t 13), none⟩,
  ⟨(some 77), .load1 (.t 76), none⟩,
  ⟨(some 78), .fadr 0 (.t 5), none⟩,
  ⟨(some 79), .load1 (.t 78), none⟩,
  ⟨(some 80), .bin .mul (.c (.one (.sc (.int .i64 256)))) (.t 79), none⟩,
  ⟨(some 81), .bin .add (.t 77) (.t 80), none⟩,
  ⟨(some 82), .fadr 1 (.t 13), none⟩,
  ⟨(some 83), .load1 (.t 82), none⟩,
  ⟨(some 84), .fadr 1 (.t 5), none⟩,
  ⟨(some 85), .load1 (.t 84), none⟩,
  ⟨(some 86), .bin .mul (.c (.one (.sc (.int .i64 256)))) (.t 85), none⟩,
  ⟨(some 87), .bin .add (.t 83) (.t 86), none⟩,
  ⟨(some 88), .call (.z 0) 15 [(.t 81), (.t 87)], none⟩,
  ⟨(some 89), .bslice [.sc (.int .i64 0), .sc (.int .i64 0)] 1 2 [(0, 2, (.t 88))], none⟩,
  ⟨(some 90), .app 2 16 (.t 75) (.t 89), none⟩,
  ⟨(some 11), .mv (.t 90), none⟩]
def r4_15 : List SOper := [
  ⟨(some 91), .bin .add (.t 52) (.c (.one (.sc (.int .i64 1)))), none⟩,
  ⟨(some 52), .mv (.t 91), none⟩]
def l4_0 : SC := (.seq (.reg r4_10) (.seq (.cond (.t 53) .skip (.exit 2)) (.seq (.block 3 (.seq (.reg r4_11) (.seq (.seq (.reg r4_12) (.cond (.t 73) (.seq (.reg r4_13) .ret) .skip)) (.reg r4_14)))) (.reg r4_15))))
def r4_16 : List SOper := [
  ⟨(some 92), .mv (.t 8), none⟩,
  ⟨(some 93), .mv (.t 11), none⟩,
  ⟨(some 94), .bslice [.sc (.slice none 0 0)] 1 1 [(0, 1, (.t 93))], none⟩,
  ⟨(some 95), .app 1 24 (.t 92) (.t 94), none⟩,
  ⟨(some 8), .mv (.t 95), none⟩]
def r4_17 : List SOper := [
  ⟨(some 96), .bin .add (.t 46) (.c (.one (.sc (.int .i64 1)))), none⟩,
  ⟨(some 46), .mv (.t 96), none⟩]
def l4_1 : SC := (.seq (.reg r4_6) (.seq (.cond (.t 47) .skip (.exit 0)) (.seq (.block 1 (.seq (.reg r4_7) (.seq (.reg r4_8) (.seq (.seq (.reg r4_9) (.block 2 (.loop l4_0))) (.reg r4_16))))) (.reg r4_17))))
def r4_18 : List SOper := [
  ⟨(some 98), .mv (.t 0), none⟩,
  ⟨(some 99), .mv (.t 1), none⟩,
  ⟨(some 100), .loadA 4 (.t 7), none⟩,
  ⟨(some 101), .call .k 12 [(.t 98), (.t 99), (.t 100)], none⟩,
  ⟨(some 97), .mv (.t 101), none⟩,
  ⟨(some 102), .ext (.t 97) 0, none⟩,
  ⟨(some 103), .ext (.t 97) 1, none⟩,
  ⟨(some 14), .mv (.t 102), none⟩,
  ⟨(some 15), .mv (.t 103), none⟩]
def r4_19 : List SOper := [
  ⟨(some 105), .mv (.t 8), none⟩,
  ⟨(some 106), .mv (.t 1), none⟩,
  ⟨(some 107), .fadr 0 (.t 7), none⟩,
  ⟨(some 108), .load1 (.t 107), none⟩,
  ⟨(some 109), .fadr 0 (.t 5), none⟩,
  ⟨(some 110), .load1 (.t 109), none⟩,
  ⟨(some 111), .bin .add (.t 108) (.t 110), none⟩,
  ⟨(some 112), .fadr 1 (.t 7), none⟩,
  ⟨(some 113), .load1 (.t 112), none⟩,
  ⟨(some 114), .fadr 1 (.t 5), none⟩,
  ⟨(some 115), .load1 (.t 114), none⟩,
  ⟨(some 116), .bin .add (.t 113) (.t 115), none⟩,
  ⟨(some 117), .fadr 2 (.t 7), none⟩,
  ⟨(some 118), .load1 (.t 117), none⟩,
  ⟨(some 119), .fadr 0 (.t 5), none⟩,
  ⟨(some 120), .load1 (.t 119), none⟩,
  ⟨(some 121), .bin .add (.t 118) (.t 120), none⟩,
  ⟨(some 122), .fadr 3 (.t 7), none⟩,
  ⟨(some 123), .load1 (.t 122), none⟩,
  ⟨(some 124), .fadr 1 (.t 5), none⟩,
  ⟨(some 125), .load1 (.t 124), none⟩,
  ⟨(some 126), .bin .add (.t 123) (.t 125), none⟩,
  ⟨(some 127), .build [.sc (.int .i64 0), .sc (.int .i64 0), .sc (.int .i64 0), .sc (.int .i64 0)] [(0, 1, (.t 111)), (1, 1, (.t 116)), (2, 1, (.t 121)), (3, 1, (.t 126))], none⟩,
  ⟨(some 128), .call .k 12 [(.t 105), (.t 106), (.t 127)], none⟩,
  ⟨(some 104), .mv (.t 128), none⟩,
  ⟨(some 129), .ext (.t 104) 0, none⟩,
  ⟨(some 130), .ext (.t 104) 1, none⟩,
  ⟨(some 16), .mv (.t 129), none⟩,
  ⟨(some 17), .mv (.t 130), none⟩]
def r4_20 : List SOper := [
  ⟨(some 131), .mv (.t 15), none⟩,
  ⟨(some 132), .mv (.t 17), none⟩,
  ⟨(some 133), .bin .eql (.t 131) (.t 132), none⟩,
  ⟨(some 134), .mv (.t 133), none⟩,
  ⟨(some 135), .mv (.t 14), (some (some 134, true))⟩,
  ⟨(some 136), .stuck, (some (some 134, true))⟩,
  ⟨(some 137), .mv (.t 16), (some (some 134, true))⟩,
  ⟨(some 138), .stuck, (some (some 134, true))⟩,
  ⟨(some 139), .stuck, (some (some 134, true))⟩,
  ⟨(some 140), .pick (.t 134) (.t 139) (.c (.one (.sc (.bool false)))), none⟩,
  ⟨(some 141), .mv (.t 140), none⟩,
  ⟨(some 142), .call (.z 0) 11 [], (some (some 141, true))⟩,
  ⟨(some 143), .pick (.t 141) (.t 142) (.c (.one (.sc (.bool false)))), none⟩,
  ⟨(some 6), .mv (.t 143), none⟩]
def c4 : SC := (.seq (.reg r4_0) (.seq (.reg r4_1) (.seq (.seq (.reg r4_2) (.cond (.t 42) (.seq (.reg r4_3) .ret) .skip)) (.seq (.reg r4_4) (.seq (.seq (.reg r4_5) (.block 0 (.loop l4_1))) (.seq (.reg r4_18) (.seq (.reg r4_19) (.seq (.reg r4_20) .ret))))))))
/-- limner/limnerlaw08.CoverMoves -/
def F4 : SFun := ⟨144, c4, [.tmp 6], none⟩

def r5_0 : List SOper := [
  ⟨(some 4), .mv (.c (.one (.sc (.bool false)))), none⟩]
def r5_1 : List SOper := [
  ⟨(some 15), .build [.sc (.int .i64 0), .sc (.int .i64 0), .sc (.int .i64 0), .sc (.int .i64 0)] [(0, 1, (.c (.one (.sc (.int .i64 0))))), (1, 1, (.c (.one (.sc (.int .i64 0))))), (2, 1, (.c (.one (.sc (.int .i64 4))))), (3, 1, (.c (.one (.sc (.int .i64 4)))))], none⟩,
  ⟨(some 5), .alloc [.sc (.int .i64 0), .sc (.int .i64 0), .sc (.int .i64 0), .sc (.int .i64 0)], none⟩,
  ⟨none, .store 4 (.t 5) (.t 15), none⟩]
def r5_2 : List SOper := [
  ⟨(some 16), .mv (.t 0), none⟩,
  ⟨(some 17), .mv (.t 1), none⟩,
  ⟨(some 18), .bslice [.sc (.slice none 0 0), .sc (.slice none 0 0)] 2 1 [(0, 1, (.t 16)), (1, 1, (.t 17))], none⟩,
  ⟨(some 19), .loadA 4 (.t 5), none⟩,
  ⟨(some 20), .call .q 9 [(.t 18), (.t 19)], none⟩,
  ⟨(some 21), .un .not (.t 20), none⟩]
def r5_3 : List SOper := [
  ⟨(some 22), .call (.z 0) 11 [], none⟩,
  ⟨(some 4), .mv (.t 22), none⟩]
def r5_4 : List SOper := [
  ⟨(some 24), .mv (.t 0), none⟩,
  ⟨(some 25), .mv (.t 1), none⟩,
  ⟨(some 26), .bslice [.sc (.slice none 0 0), .sc (.slice none 0 0)] 2 1 [(0, 1, (.t 24)), (1, 1, (.t 25))], none⟩,
  ⟨(some 27), .loadA 4 (.t 5), none⟩,
  ⟨(some 28), .call .k 12 [(.t 26), (.c (.one (.sc (.int .i64 1)))), (.t 27)], none⟩,
  ⟨(some 23), .mv (.t 28), none⟩,
  ⟨(some 29), .ext (.t 23) 0, none⟩,
  ⟨(some 30), .ext (.t 23) 1, none⟩,
  ⟨(some 6), .mv (.t 29), none⟩,
  ⟨(some 7), .mv (.t 30), none⟩]
def r5_5 : List SOper := [
  ⟨(some 32), .mv (.t 0), none⟩,
  ⟨(some 33), .bslice [.sc (.slice none 0 0)] 1 1 [(0, 1, (.t 32))], none⟩,
  ⟨(some 34), .loadA 4 (.t 5), none⟩,
  ⟨(some 35), .call .k 12 [(.t 33), (.c (.one (.sc (.int .i64 1)))), (.t 34)], none⟩,
  ⟨(some 31), .mv (.t 35), none⟩,
  ⟨(some 36), .ext (.t 31) 0, none⟩,
  ⟨(some 37), .ext (.t 31) 1, none⟩,
  ⟨(some 8), .mv (.t 36), none⟩,
  ⟨(some 9), .mv (.t 37), none⟩]
def r5_6 : List SOper := [
  ⟨(some 39), .mv (.t 1), none⟩,
  ⟨(some 40), .bslice [.sc (.slice none 0 0)] 1 1 [(0, 1, (.t 39))], none⟩,
  ⟨(some 41), .loadA 4 (.t 5), none⟩,
  ⟨(some 42), .call .k 12 [(.t 40), (.c (.one (.sc (.int .i64 1)))), (.t 41)], none⟩,
  ⟨(some 38), .mv (.t 42), none⟩,
  ⟨(some 43), .ext (.t 38) 0, none⟩,
  ⟨(some 44), .ext (.t 38) 1, none⟩,
  ⟨(some 10), .mv (.t 43), none⟩,
  ⟨(some 11), .mv (.t 44), none⟩]
def r5_7 : List SOper := [
  ⟨(some 46), .mv (.t 0), none⟩,
  ⟨(some 47), .mv (.t 1), none⟩,
  ⟨(some 48), .mv (.t 1), none⟩,
  ⟨(some 49), .mv (.t 0), none⟩,
  ⟨(some 50), .bslice [.sc (.slice none 0 0), .sc (.slice none 0 0), .sc (.slice none 0 0), .sc (.slice none 0 0)] 4 1 [(0, 1, (.t 46)), (1, 1, (.t 47)), (2, 1, (.t 48)), (3, 1, (.t 49))], none⟩,
  ⟨(some 51), .loadA 4 (.t 5), none⟩,
  ⟨(some 52), .call .k 12 [(.t 50), (.c (.one (.sc (.int .i64 2)))), (.t 51)], none⟩,
  ⟨(some 45), .mv (.t 52), none⟩,
  ⟨(some 53), .ext (.t 45) 0, none⟩,
  ⟨(some 54), .ext (.t 45) 1, none⟩,
  ⟨(some 12), .mv (.t 53), none⟩,
  ⟨(some 13), .mv (.t 54), none⟩]
def r5_8 : List SOper := [
  ⟨(some 55), .mv (.t 7), none⟩,
  ⟨(some 56), .bin .neq (.t 55) (.c (.one (.sc (.int .i64 0)))), none⟩,
  ⟨(some 57), .mv (.t 56), none⟩,
  ⟨(some 58), .mv (.t 9), (some (some 57, false))⟩,
  ⟨(some 59), .bin .neq (.t 58) (.c (.one (.sc (.int .i64 0)))), (some (some 57, false))⟩,
  ⟨(some 60), .pick (.t 57) (.c (.one (.sc (.bool true)))) (.t 59), none⟩,
  ⟨(some 61), .mv (.t 60), none⟩,
  ⟨(some 62), .mv (.t 11), (some (some 61, false))⟩,
  ⟨(some 63), .bin .neq (.t 62) (.c (.one (.sc (.int .i64 0)))), (some (some 61, false))⟩,
  ⟨(some 64), .pick (.t 61) (.c (.one (.sc (.bool true)))) (.t 63), none⟩,
  ⟨(some 65), .mv (.t 64), none⟩,
  ⟨(some 66), .mv (.t 13), (some (some 65, false))⟩,
  ⟨(some 67), .bin .neq (.t 66) (.c (.one (.sc (.int .i64 0)))), (some (some 65, false))⟩,
  ⟨(some 68), .pick (.t 65) (.c (.one (.sc (.bool true)))) (.t 67), none⟩]
def r5_9 : List SOper := [
  ⟨(some 69), .mv (.t 0), none⟩,
  ⟨(some 70), .mv (.t 1), none⟩,
  ⟨(some 71), .bslice [.sc (.slice none 0 0), .sc (.slice none 0 0)] 2 1 [(0, 1, (.t 69)), (1, 1, (.t 70))], none⟩,
  ⟨(some 72), .call .k 14 [(.t 71)], none⟩,
  ⟨(some 73), .call .q 13 [(.t 72)], none⟩,
  ⟨(some 74), .un .not (.t 73), none⟩,
  ⟨(some 75), .mv (.t 74), none⟩,
  ⟨(some 76), .call (.z 0) 11 [], (some (some 75, true))⟩,
  ⟨(some 77), .pick (.t 75) (.t 76) (.c (.one (.sc (.bool false)))), none⟩,
  ⟨(some 4), .mv (.t 77), none⟩]
def r5_10 : List SOper := [
  ⟨(some 78), .mv (.t 6), none⟩,
  ⟨(some 79), .len (.t 78), none⟩,
  ⟨(some 80), .mv (.c (.one (.sc (.int .i64 0)))), none⟩]
def r5_11 : List SOper := [
  ⟨(some 81), .bin .lss (.t 80) (.t 79), none⟩]
def r5_12 : List SOper := [
  ⟨(some 82), .mv (.t 80), none⟩,
  ⟨(some 14), .mv (.t 82), none⟩]
def r5_13 : List SOper := [
  ⟨(some 83), .mv (.t 6), none⟩,
  ⟨(some 84), .mv (.t 14), none⟩,
  ⟨(some 85), .iadrS 1 (.t 83) (.t 84), none⟩,
  ⟨(some 86), .load1 (.t 85), none⟩,
  ⟨(some 87), .mv (.t 8), none⟩,
  ⟨(some 88), .mv (.t 14), none⟩,
  ⟨(some 89), .iadrS 1 (.t 87) (.t 88), none⟩,
  ⟨(some 90), .load1 (.t 89), none⟩,
  ⟨(some 91), .mv (.t 10), none⟩,
  ⟨(some 92), .mv (.t 14), none⟩,
  ⟨(some 93), .iadrS 1 (.t 91) (.t 92), none⟩,
  ⟨(some 94), .load1 (.t 93), none⟩,
  ⟨(some 95), .bin .add (.t 90) (.t 94), none⟩,
  ⟨(some 96), .bin .gtr (.t 86) (.t 95), none⟩,
  ⟨(some 97), .mv (.t 96), none⟩,
  ⟨(some 98), .mv (.t 12), (some (some 97, false))⟩,
  ⟨(some 99), .mv (.t 14), (some (some 97, false))⟩,
  ⟨(some 100), .iadrS 1 (.t 98) (.t 99), (some (some 97, false))⟩,
  ⟨(some 101), .load1 (.t 100), (some (some 97, false))⟩,
  ⟨(some 102), .bin .neq (.t 101) (.c (.one (.sc (.int .u8 0)))), (some (some 97, false))⟩,
  ⟨(some 103), .pick (.t 97) (.c (.one (.sc (.bool true)))) (.t 102), none⟩,
  ⟨(some 104), .mv (.t 103), none⟩,
  ⟨(some 105), .mv (.t 6), (some (some 104, false))⟩,
  ⟨(some 106), .mv (.t 14), (some (some 104, false))⟩,
  ⟨(some 107), .iadrS 1 (.t 105) (.t 106), (some (some 104, false))⟩,
  ⟨(some 108), .load1 (.t 107), (some (some 104, false))⟩,
  ⟨(some 109), .bin .gtr (.t 108) (.c (.one (.sc (.int .u8 16)))), (some (some 104, false))⟩,
  ⟨(some 110), .pick (.t 104) (.c (.one (.sc (.bool true)))) (.t 109), none⟩]
def r5_14 : List SOper := [
  ⟨(some 4), .mv (.c (.one (.sc (.bool false)))), none⟩]
def r5_15 : List SOper := [
  ⟨(some 111), .bin .add (.t 80) (.c (.one (.sc (.int .i64 1)))), none⟩,
  ⟨(some 80), .mv (.t 111), none⟩]
def l5_0 : SC := (.seq (.reg r5_11) (.seq (.cond (.t 81) .skip (.exit 0)) (.seq (.block 1 (.seq (.reg r5_12) (.seq (.reg r5_13) (.cond (.t 110) (.seq (.reg r5_14) .ret) .skip)))) (.reg r5_15))))
def r5_16 : List SOper := [
  ⟨(some 112), .call (.z 0) 11 [], none⟩,
  ⟨(some 4), .mv (.t 112), none⟩]
def c5 : SC := (.seq (.reg r5_0) (.seq (.reg r5_1) (.seq (.seq (.reg r5_2) (.cond (.t 21) (.seq (.reg r5_3) .ret) .skip)) (.seq (.reg r5_4) (.seq (.reg r5_5) (.seq (.reg r5_6) (.seq (.reg r5_7) (.seq (.seq (.reg r5_8) (.cond (.t 68) (.seq (.reg r5_9) .ret) .skip)) (.seq (.seq (.reg r5_10) (.block 0 (.loop l5_0))) (.seq (.reg r5_16) .ret))))))))))
/-- limner/limnerlaw08.CoverSums -/
def F5 : SFun := ⟨113, c5, [.tmp 4], none⟩

def r6_0 : List SOper := [
  ⟨(some 5), .box (.t 2), none⟩,
  ⟨(some 6), .mv (.c (.one (.sc (.bool false)))), none⟩]
def r6_1 : List SOper := [
  ⟨(some 14), .mv (.t 0), none⟩,
  ⟨(some 15), .loadA 4 (.t 5), none⟩,
  ⟨(some 16), .call .q 9 [(.t 14), (.t 15)], none⟩,
  ⟨(some 17), .un .not (.t 16), none⟩]
def r6_2 : List SOper := [
  ⟨(some 18), .call (.z 0) 11 [], none⟩,
  ⟨(some 6), .mv (.t 18), none⟩]
def r6_3 : List SOper := [
  ⟨(some 19), .mv (.t 0), none⟩,
  ⟨(some 20), .call .k 14 [(.t 19)], none⟩,
  ⟨(some 7), .mv (.t 20), none⟩]
def r6_4 : List SOper := [
  ⟨(some 22), .mv (.t 0), none⟩,
  ⟨(some 23), .mv (.t 1), none⟩,
  ⟨(some 24), .loadA 4 (.t 5), none⟩,
  ⟨(some 25), .call .k 12 [(.t 22), (.t 23), (.t 24)], none⟩,
  ⟨(some 21), .mv (.t 25), none⟩,
  ⟨(some 26), .ext (.t 21) 0, none⟩,
  ⟨(some 27), .ext (.t 21) 1, none⟩,
  ⟨(some 8), .mv (.t 26), none⟩,
  ⟨(some 9), .mv (.t 27), none⟩]
def r6_5 : List SOper := [
  ⟨(some 28), .mv (.t 1), none⟩,
  ⟨(some 29), .bin .neq (.t 28) (.c (.one (.sc (.int .i64 1)))), none⟩,
  ⟨(some 30), .mv (.t 29), none⟩,
  ⟨(some 31), .mv (.t 1), (some (some 30, true))⟩,
  ⟨(some 32), .bin .neq (.t 31) (.c (.one (.sc (.int .i64 2)))), (some (some 30, true))⟩,
  ⟨(some 33), .pick (.t 30) (.t 32) (.c (.one (.sc (.bool false)))), none⟩,
  ⟨(some 34), .mv (.t 33), none⟩,
  ⟨(some 35), .fadr 0 (.t 5), (some (some 34, false))⟩,
  ⟨(some 36), .load1 (.t 35), (some (some 34, false))⟩,
  ⟨(some 37), .fadr 1 (.t 5), (some (some 34, false))⟩,
  ⟨(some 38), .load1 (.t 37), (some (some 34, false))⟩,
  ⟨(some 39), .fadr 2 (.t 5), (some (some 34, false))⟩,
  ⟨(some 40), .load1 (.t 39), (some (some 34, false))⟩,
  ⟨(some 41), .fadr 3 (.t 5), (some (some 34, false))⟩,
  ⟨(some 42), .load1 (.t 41), (some (some 34, false))⟩,
  ⟨(some 43), .call (.z 0) 10 [(.t 36), (.t 38), (.t 40), (.t 42)], (some (some 34, false))⟩,
  ⟨(some 44), .un .not (.t 43), (some (some 34, false))⟩,
  ⟨(some 45), .pick (.t 34) (.c (.one (.sc (.bool true)))) (.t 44), none⟩,
  ⟨(some 46), .mv (.t 45), none⟩,
  ⟨(some 47), .mv (.t 7), (some (some 46, false))⟩,
  ⟨(some 48), .call .q 13 [(.t 47)], (some (some 46, false))⟩,
  ⟨(some 49), .un .not (.t 48), (some (some 46, false))⟩,
  ⟨(some 50), .pick (.t 46) (.c (.one (.sc (.bool true)))) (.t 49), none⟩]
def r6_6 : List SOper := [
  ⟨(some 51), .mv (.t 9), none⟩,
  ⟨(some 52), .bin .eql (.t 51) (.c (.one (.sc (.int .i64 30)))), none⟩,
  ⟨(some 53), .mv (.t 52), none⟩,
  ⟨(some 54), .mv (.t 8), (some (some 53, true))⟩,
  ⟨(some 55), .len (.t 54), (some (some 53, true))⟩,
  ⟨(some 56), .bin .eql (.t 55) (.c (.one (.sc (.int .i64 0)))), (some (some 53, true))⟩,
  ⟨(some 57), .pick (.t 53) (.t 56) (.c (.one (.sc (.bool false)))), none⟩,
  ⟨(some 58), .mv (.t 57), none⟩,
  ⟨(some 59), .call (.z 0) 11 [], (some (some 58, true))⟩,
  ⟨(some 60), .pick (.t 58) (.t 59) (.c (.one (.sc (.bool false)))), none⟩,
  ⟨(some 6), .mv (.t 60), none⟩]
def r6_7 : List SOper := [
  ⟨(some 61), .mv (.t 9), none⟩,
  ⟨(some 62), .bin .neq (.t 61) (.c (.one (.sc (.int .i64 0)))), none⟩,
  ⟨(some 63), .mv (.t 62), none⟩,
  ⟨(some 64), .mv (.t 8), (some (some 63, false))⟩,
  ⟨(some 65), .len (.t 64), (some (some 63, false))⟩,
  ⟨(some 66), .fadr 2 (.t 5), (some (some 63, false))⟩,
  ⟨(some 67), .load1 (.t 66), (some (some 63, false))⟩,
  ⟨(some 68), .fadr 0 (.t 5), (some (some 63, false))⟩,
  ⟨(some 69), .load1 (.t 68), (some (some 63, false))⟩,
  ⟨(some 70), .bin .sub (.t 67) (.t 69), (some (some 63, false))⟩,
  ⟨(some 71), .fadr 3 (.t 5), (some (some 63, false))⟩,
  ⟨(some 72), .load1 (.t 71), (some (some 63, false))⟩,
  ⟨(some 73), .fadr 1 (.t 5), (some (some 63, false))⟩,
  ⟨(some 74), .load1 (.t 73), (some (some 63, false))⟩,
  ⟨(some 75), .bin .sub (.t 72) (.t 74), (some (some 63, false))⟩,
  ⟨(some 76), .bin .mul (.t 70) (.t 75), (some (some 63, false))⟩,
  ⟨(some 77), .bin .neq (.t 65) (.t 76), (some (some 63, false))⟩,
  ⟨(some 78), .pick (.t 63) (.c (.one (.sc (.bool true)))) (.t 77), none⟩]
def r6_8 : List SOper := [
  ⟨(some 6), .mv (.c (.one (.sc (.bool false)))), none⟩]
def r6_9 : List SOper := [
  ⟨(some 10), .mv (.c (.one (.sc (.int .i64 0)))), none⟩,
  ⟨(some 11), .mv (.c (.one (.sc (.int .i64 0)))), none⟩]
def r6_10 : List SOper := [
  ⟨(some 79), .fadr 1 (.t 5), none⟩,
  ⟨(some 80), .load1 (.t 79), none⟩,
  ⟨(some 12), .mv (.t 80), none⟩]
def r6_11 : List SOper := [
  ⟨(some 81), .mv (.t 12), none⟩,
  ⟨(some 82), .fadr 3 (.t 5), none⟩,
  ⟨(some 83), .load1 (.t 82), none⟩,
  ⟨(some 84), .bin .lss (.t 81) (.t 83), none⟩]
def r6_13 : List SOper := [
  ⟨(some 87), .fadr 0 (.t 5), none⟩,
  ⟨(some 88), .load1 (.t 87), none⟩,
  ⟨(some 13), .mv (.t 88), none⟩]
def r6_14 : List SOper := [
  ⟨(some 89), .mv (.t 13), none⟩,
  ⟨(some 90), .fadr 2 (.t 5), none⟩,
  ⟨(some 91), .load1 (.t 90), none⟩,
  ⟨(some 92), .bin .lss (.t 89) (.t 91), none⟩]
def r6_16 : List SOper := [
  ⟨(some 95), .mv (.t 8), none⟩,
  ⟨(some 96), .mv (.t 11), none⟩,
  ⟨(some 97), .iadrS 1 (.t 95) (.t 96), none⟩,
  ⟨(some 98), .load1 (.t 97), none⟩,
  ⟨(some 99), .conv .i64 (.t 98), none⟩,
  ⟨(some 100), .mv (.t 7), none⟩,
  ⟨(some 101), .mv (.t 1), none⟩,
  ⟨(some 102), .mv (.t 13), none⟩,
  ⟨(some 103), .mv (.t 12), none⟩,
  ⟨(some 104), .call .q 16 [(.t 100), (.t 101), (.t 102), (.t 103)], none⟩,
  ⟨(some 105), .bin .neq (.t 99) (.t 104), none⟩]
def r6_17 : List SOper := [
  ⟨(some 6), .mv (.c (.one (.sc (.bool false)))), none⟩]
def r6_18 : List SOper := [
  ⟨(some 106), .mv (.t 10), none⟩,
  ⟨(some 107), .mv (.t 8), none⟩,
  ⟨(some 108), .mv (.t 11), none⟩,
  ⟨(some 109), .iadrS 1 (.t 107) (.t 108), none⟩,
  ⟨(some 110), .load1 (.t 109), none⟩,
  ⟨(some 111), .conv .i64 (.t 110), none⟩,
  ⟨(some 112), .bin .add (.t 106) (.t 111), none⟩,
  ⟨(some 10), .mv (.t 112), none⟩]
def r6_19 : List SOper := [
  ⟨(some 113), .mv (.t 11), none⟩,
  ⟨(some 114), .bin .add (.t 113) (.c (.one (.sc (.int .i64 1)))), none⟩,
  ⟨(some 11), .mv (.t 114), none⟩]
def r6_15 : List SOper := [
  ⟨(some 93), .mv (.t 13), none⟩,
  ⟨(some 94), .bin .add (.t 93) (.c (.one (.sc (.int .i64 1)))), none⟩,
  ⟨(some 13), .mv (.t 94), none⟩]
def l6_0 : SC := (.seq (.seq (.reg r6_14) (.cond (.t 92) .skip (.exit 2))) (.seq (.block 3 (.seq (.seq (.reg r6_16) (.cond (.t 105) (.seq (.reg r6_17) .ret) .skip)) (.seq (.reg r6_18) (.reg r6_19)))) (.reg r6_15)))
def r6_12 : List SOper := [
  ⟨(some 85), .mv (.t 12), none⟩,
  ⟨(some 86), .bin .add (.t 85) (.c (.one (.sc (.int .i64 1)))), none⟩,
  ⟨(some 12), .mv (.t 86), none⟩]
def l6_1 : SC := (.seq (.seq (.reg r6_11) (.cond (.t 84) .skip (.exit 0))) (.seq (.block 1 (.seq (.reg r6_13) (.block 2 (.loop l6_0)))) (.reg r6_12)))
def r6_20 : List SOper := [
  ⟨(some 115), .mv (.t 8), none⟩,
  ⟨(some 116), .call .q 17 [(.t 115)], none⟩,
  ⟨(some 117), .mv (.t 10), none⟩,
  ⟨(some 118), .bin .eql (.t 116) (.t 117), none⟩,
  ⟨(some 119), .mv (.t 118), none⟩,
  ⟨(some 120), .call (.z 0) 11 [], (some (some 119, true))⟩,
  ⟨(some 121), .pick (.t 119) (.t 120) (.c (.one (.sc (.bool false)))), none⟩,
  ⟨(some 6), .mv (.t 121), none⟩]
def c6 : SC := (.seq (.reg r6_0) (.seq (.seq (.reg r6_1) (.cond (.t 17) (.seq (.reg r6_2) .ret) .skip)) (.seq (.reg r6_3) (.seq (.reg r6_4) (.seq (.seq (.reg r6_5) (.cond (.t 50) (.seq (.reg r6_6) .ret) .skip)) (.seq (.seq (.reg r6_7) (.cond (.t 78) (.seq (.reg r6_8) .ret) .skip)) (.seq (.reg r6_9) (.seq (.seq (.reg r6_10) (.block 0 (.loop l6_1))) (.seq (.reg r6_20) .ret)))))))))
/-- limner/limnerlaw08.CoverMasks -/
def F6 : SFun := ⟨122, c6, [.tmp 6], none⟩

def r7_0 : List SOper := [
  ⟨(some 1), .box (.t 0), none⟩,
  ⟨(some 2), .mv (.c (.one (.sc (.bool false)))), none⟩]
def r7_1 : List SOper := [
  ⟨(some 15), .fadr 0 (.t 1), none⟩,
  ⟨(some 16), .load1 (.t 15), none⟩,
  ⟨(some 17), .fadr 1 (.t 1), none⟩,
  ⟨(some 18), .load1 (.t 17), none⟩,
  ⟨(some 19), .fadr 2 (.t 1), none⟩,
  ⟨(some 20), .load1 (.t 19), none⟩,
  ⟨(some 21), .fadr 3 (.t 1), none⟩,
  ⟨(some 22), .load1 (.t 21), none⟩,
  ⟨(some 3), .mv (.t 16), none⟩,
  ⟨(some 4), .mv (.t 18), none⟩,
  ⟨(some 5), .mv (.t 20), none⟩,
  ⟨(some 6), .mv (.t 22), none⟩]
def r7_2 : List SOper := [
  ⟨(some 23), .mv (.t 3), none⟩,
  ⟨(some 24), .build [.sc (.int .i64 0), .sc (.int .i64 0), .sc (.int .i64 0), .sc (.int .i64 0)] [], none⟩,
  ⟨(some 25), .call .q 9 [(.t 23), (.t 24)], none⟩,
  ⟨(some 26), .un .not (.t 25), none⟩,
  ⟨(some 27), .mv (.t 26), none⟩,
  ⟨(some 28), .mv (.t 3), (some (some 27, false))⟩,
  ⟨(some 29), .call .k 14 [(.t 28)], (some (some 27, false))⟩,
  ⟨(some 30), .call .q 13 [(.t 29)], (some (some 27, false))⟩,
  ⟨(some 31), .un .not (.t 30), (some (some 27, false))⟩,
  ⟨(some 32), .pick (.t 27) (.c (.one (.sc (.bool true)))) (.t 31), none⟩,
  ⟨(some 33), .mv (.t 32), none⟩,
  ⟨(some 34), .mv (.t 5), (some (some 33, false))⟩,
  ⟨(some 35), .bin .lss (.t 34) (.c (.one (.sc (.int .i64 (-1048576))))), (some (some 33, false))⟩,
  ⟨(some 36), .pick (.t 33) (.c (.one (.sc (.bool true)))) (.t 35), none⟩,
  ⟨(some 37), .mv (.t 36), none⟩,
  ⟨(some 38), .mv (.t 5), (some (some 37, false))⟩,
  ⟨(some 39), .bin .gtr (.t 38) (.c (.one (.sc (.int .i64 1048576)))), (some (some 37, false))⟩,
  ⟨(some 40), .pick (.t 37) (.c (.one (.sc (.bool true)))) (.t 39), none⟩,
  ⟨(some 41), .mv (.t 40), none⟩,
  ⟨(some 42), .mv (.t 6), (some (some 41, false))⟩,
  ⟨(some 43), .bin .lss (.t 42) (.c (.one (.sc (.int .i64 (-1048576))))), (some (some 41, false))⟩,
  ⟨(some 44), .pick (.t 41) (.c (.one (.sc (.bool true)))) (.t 43), none⟩,
  ⟨(some 45), .mv (.t 44), none⟩,
  ⟨(some 46), .mv (.t 6), (some (some 45, false))⟩,
  ⟨(some 47), .bin .gtr (.t 46) (.c (.one (.sc (.int .i64 1048576)))), (some (some 45, false))⟩,
  ⟨(some 48), .pick (.t 45) (.c (.one (.sc (.bool true)))) (.t 47), none⟩]
def r7_3 : List SOper := [
  ⟨(some 49), .call (.z 0) 11 [], none⟩,
  ⟨(some 2), .mv (.t 49), none⟩]
def r7_4 : List SOper := [
  ⟨(some 7), .mv (.c (.one (.sc (.slice none 0 0)))), none⟩]
def r7_5 : List SOper := [
  ⟨(some 50), .mv (.t 3), none⟩,
  ⟨(some 51), .len (.t 50), none⟩,
  ⟨(some 52), .mv (.c (.one (.sc (.int .i64 0)))), none⟩]
def r7_6 : List SOper := [
  ⟨(some 53), .bin .lss (.t 52) (.t 51), none⟩]
def r7_7 : List SOper := [
  ⟨(some 54), .iadrS 1 (.t 50) (.t 52), none⟩,
  ⟨(some 55), .load1 (.t 54), none⟩,
  ⟨(some 9), .mv (.t 55), none⟩]
def r7_8 : List SOper := [
  ⟨(some 56), .mv (.t 7), none⟩,
  ⟨(some 57), .mv (.t 9), none⟩,
  ⟨(some 58), .app 2 16 (.t 56) (.t 57), none⟩,
  ⟨(some 7), .mv (.t 58), none⟩]
def r7_9 : List SOper := [
  ⟨(some 59), .bin .add (.t 52) (.c (.one (.sc (.int .i64 1)))), none⟩,
  ⟨(some 52), .mv (.t 59), none⟩]
def l7_0 : SC := (.seq (.reg r7_6) (.seq (.cond (.t 53) .skip (.exit 0)) (.seq (.block 1 (.seq (.reg r7_7) (.reg r7_8))) (.reg r7_9))))
def r7_10 : List SOper := [
  ⟨(some 60), .mv (.t 7), none⟩,
  ⟨(some 61), .call .q 19 [(.t 60)], none⟩,
  ⟨(some 62), .call (.z 0) 18 [(.t 61)], none⟩,
  ⟨(some 10), .alloc [.sc (.int .i64 0), .sc (.int .i64 0), .sc (.int .i64 0), .sc (.int .i64 0)], none⟩,
  ⟨none, .store 4 (.t 10) (.t 62), none⟩]
def r7_11 : List SOper := [
  ⟨(some 63), .mv (.t 7), none⟩,
  ⟨(some 64), .len (.t 63), none⟩,
  ⟨(some 65), .mv (.c (.one (.sc (.int .i64 0)))), none⟩]
def r7_12 : List SOper := [
  ⟨(some 66), .bin .lss (.t 65) (.t 64), none⟩]
def r7_13 : List SOper := [
  ⟨(some 67), .iadrS 2 (.t 63) (.t 65), none⟩,
  ⟨(some 68), .loadA 2 (.t 67), none⟩,
  ⟨(some 12), .alloc [.sc (.int .i64 0), .sc (.int .i64 0)], none⟩,
  ⟨none, .store 2 (.t 12) (.t 68), none⟩]
def r7_14 : List SOper := [
  ⟨(some 69), .fadr 0 (.t 12), none⟩,
  ⟨(some 70), .load1 (.t 69), none⟩,
  ⟨(some 71), .bin .lss (.t 70) (.c (.one (.sc (.int .i64 2147483648)))), none⟩,
  ⟨(some 72), .mv (.t 71), none⟩,
  ⟨(some 73), .fadr 1 (.t 12), (some (some 72, true))⟩,
  ⟨(some 74), .load1 (.t 73), (some (some 72, true))⟩,
  ⟨(some 75), .bin .lss (.t 74) (.c (.one (.sc (.int .i64 2147483648)))), (some (some 72, true))⟩,
  ⟨(some 76), .pick (.t 72) (.t 75) (.c (.one (.sc (.bool false)))), none⟩,
  ⟨(some 77), .mv (.t 76), none⟩,
  ⟨(some 78), .loadA 4 (.t 10), (some (some 77, true))⟩,
  ⟨(some 79), .build [.sc (.int .i64 0), .sc (.int .i64 0), .sc (.int .i64 0), .sc (.int .i64 0)] [], (some (some 77, true))⟩,
  ⟨(some 80), .eqv [.i, .i, .i, .i] true (.t 78) (.t 79), (some (some 77, true))⟩,
  ⟨(some 81), .pick (.t 77) (.t 80) (.c (.one (.sc (.bool false)))), none⟩,
  ⟨(some 82), .mv (.t 81), none⟩,
  ⟨(some 83), .loadA 4 (.t 10), (some (some 82, true))⟩,
  ⟨(some 84), .fadr 0 (.t 12), (some (some 82, true))⟩,
  ⟨(some 85), .load1 (.t 84), (some (some 82, true))⟩,
  ⟨(some 86), .call (.z 0) 21 [(.t 85), (.c (.one (.sc (.int .i64 256))))], (some (some 82, true))⟩,
  ⟨(some 87), .fadr 1 (.t 12), (some (some 82, true))⟩,
  ⟨(some 88), .load1 (.t 87), (some (some 82, true))⟩,
  ⟨(some 89), .call (.z 0) 21 [(.t 88), (.c (.one (.sc (.int .i64 256))))], (some (some 82, true))⟩,
  ⟨(some 90), .call (.z 0) 15 [(.t 86), (.t 89)], (some (some 82, true))⟩,
  ⟨(some 91), .call (.z 0) 20 [(.t 83), (.t 90)], (some (some 82, true))⟩,
  ⟨(some 92), .un .not (.t 91), (some (some 82, true))⟩,
  ⟨(some 93), .pick (.t 82) (.t 92) (.c (.one (.sc (.bool false)))), none⟩]
def r7_15 : List SOper := [
  ⟨(some 2), .mv (.c (.one (.sc (.bool false)))), none⟩]
def r7_16 : List SOper := [
  ⟨(some 94), .bin .add (.t 65) (.c (.one (.sc (.int .i64 1)))), none⟩,
  ⟨(some 65), .mv (.t 94), none⟩]
def l7_1 : SC := (.seq (.reg r7_12) (.seq (.cond (.t 66) .skip (.exit 2)) (.seq (.block 3 (.seq (.reg r7_13) (.seq (.reg r7_14) (.cond (.t 93) (.seq (.reg r7_15) .ret) .skip)))) (.reg r7_16))))
def r7_17 : List SOper := [
  ⟨(some 96), .mv (.t 3), none⟩,
  ⟨(some 97), .mv (.t 4), none⟩,
  ⟨(some 98), .mv (.t 5), none⟩,
  ⟨(some 99), .mv (.t 6), none⟩,
  ⟨(some 100), .mv (.t 5), none⟩,
  ⟨(some 101), .bin .add (.t 100) (.c (.one (.sc (.int .i64 1)))), none⟩,
  ⟨(some 102), .mv (.t 6), none⟩,
  ⟨(some 103), .bin .add (.t 102) (.c (.one (.sc (.int .i64 1)))), none⟩,
  ⟨(some 104), .build [.sc (.int .i64 0), .sc (.int .i64 0), .sc (.int .i64 0), .sc (.int .i64 0)] [(0, 1, (.t 98)), (1, 1, (.t 99)), (2, 1, (.t 101)), (3, 1, (.t 103))], none⟩,
  ⟨(some 105), .call .k 12 [(.t 96), (.t 97), (.t 104)], none⟩,
  ⟨(some 95), .mv (.t 105), none⟩,
  ⟨(some 106), .ext (.t 95) 0, none⟩,
  ⟨(some 107), .ext (.t 95) 1, none⟩,
  ⟨(some 13), .mv (.t 106), none⟩,
  ⟨(some 14), .mv (.t 107), none⟩]
def r7_18 : List SOper := [
  ⟨(some 108), .mv (.t 14), none⟩,
  ⟨(some 109), .bin .neq (.t 108) (.c (.one (.sc (.int .i64 0)))), none⟩]
def r7_19 : List SOper := [
  ⟨(some 110), .mv (.t 4), none⟩,
  ⟨(some 111), .bin .neq (.t 110) (.c (.one (.sc (.int .i64 1)))), none⟩,
  ⟨(some 112), .mv (.t 111), none⟩,
  ⟨(some 113), .mv (.t 4), (some (some 112, true))⟩,
  ⟨(some 114), .bin .neq (.t 113) (.c (.one (.sc (.int .i64 2)))), (some (some 112, true))⟩,
  ⟨(some 115), .pick (.t 112) (.t 114) (.c (.one (.sc (.bool false)))), none⟩,
  ⟨(some 116), .mv (.t 115), none⟩,
  ⟨(some 117), .call (.z 0) 11 [], (some (some 116, true))⟩,
  ⟨(some 118), .pick (.t 116) (.t 117) (.c (.one (.sc (.bool false)))), none⟩,
  ⟨(some 2), .mv (.t 118), none⟩]
def r7_20 : List SOper := [
  ⟨(some 119), .mv (.t 13), none⟩,
  ⟨(some 120), .len (.t 119), none⟩,
  ⟨(some 121), .bin .eql (.t 120) (.c (.one (.sc (.int .i64 1)))), none⟩,
  ⟨(some 122), .mv (.t 121), none⟩,
  ⟨(some 123), .mv (.t 13), (some (some 122, true))⟩,
  ⟨(some 124), .iadrS 1 (.t 123) (.c (.one (.sc (.int .i64 0)))), (some (some 122, true))⟩,
  ⟨(some 125), .load1 (.t 124), (some (some 122, true))⟩,
  ⟨(some 126), .bin .eql (.t 125) (.c (.one (.sc (.int .u8 0)))), (some (some 122, true))⟩,
  ⟨(some 127), .mv (.t 126), (some (some 122, true))⟩,
  ⟨(some 128), .loadA 4 (.t 10), (some (some 127, false))⟩,
  ⟨(some 129), .build [.sc (.int .i64 0), .sc (.int .i64 0), .sc (.int .i64 0), .sc (.int .i64 0)] [], (some (some 127, false))⟩,
  ⟨(some 130), .eqv [.i, .i, .i, .i] false (.t 128) (.t 129), (some (some 127, false))⟩,
  ⟨(some 131), .pick (.t 127) (.c (.one (.sc (.bool true)))) (.t 130), (some (some 122, true))⟩,
  ⟨(some 132), .mv (.t 131), (some (some 122, true))⟩,
  ⟨(some 133), .loadA 4 (.t 10), (some (some 132, false))⟩,
  ⟨(some 134), .mv (.t 5), (some (some 132, false))⟩,
  ⟨(some 135), .mv (.t 6), (some (some 132, false))⟩,
  ⟨(some 136), .call (.z 0) 15 [(.t 134), (.t 135)], (some (some 132, false))⟩,
  ⟨(some 137), .call (.z 0) 20 [(.t 133), (.t 136)], (some (some 132, false))⟩,
  ⟨(some 138), .pick (.t 132) (.c (.one (.sc (.bool true)))) (.t 137), (some (some 122, true))⟩,
  ⟨(some 139), .pick (.t 122) (.t 138) (.c (.one (.sc (.bool false)))), none⟩,
  ⟨(some 140), .mv (.t 139), none⟩,
  ⟨(some 141), .call (.z 0) 11 [], (some (some 140, true))⟩,
  ⟨(some 142), .pick (.t 140) (.t 141) (.c (.one (.sc (.bool false)))), none⟩,
  ⟨(some 2), .mv (.t 142), none⟩]
def c7 : SC := (.seq (.reg r7_0) (.seq (.reg r7_1) (.seq (.seq (.reg r7_2) (.cond (.t 48) (.seq (.reg r7_3) .ret) .skip)) (.seq (.reg r7_4) (.seq (.seq (.reg r7_5) (.block 0 (.loop l7_0))) (.seq (.reg r7_10) (.seq (.seq (.reg r7_11) (.block 2 (.loop l7_1))) (.seq (.reg r7_17) (.seq (.seq (.reg r7_18) (.cond (.t 109) (.seq (.reg r7_19) .ret) .skip)) (.seq (.reg r7_20) .ret))))))))))
/-- limner/limnerlaw08.CoverBounds -/
def F7 : SFun := ⟨143, c7, [.tmp 2], none⟩

def r8_0 : List SOper := [
  ⟨(some 5), .box (.t 2), none⟩,
  ⟨(some 6), .mv (.c (.one (.sc (.bool false)))), none⟩]
def r8_1 : List SOper := [
  ⟨(some 7), .mv (.t 0), none⟩,
  ⟨(some 8), .build [.sc (.int .i64 0), .sc (.int .i64 0), .sc (.int .i64 0), .sc (.int .i64 0)] [], none⟩,
  ⟨(some 9), .call .q 9 [(.t 7), (.t 8)], none⟩,
  ⟨(some 10), .un .not (.t 9), none⟩,
  ⟨(some 11), .mv (.t 10), none⟩,
  ⟨(some 12), .mv (.t 0), (some (some 11, false))⟩,
  ⟨(some 13), .call .k 14 [(.t 12)], (some (some 11, false))⟩,
  ⟨(some 14), .call .q 13 [(.t 13)], (some (some 11, false))⟩,
  ⟨(some 15), .un .not (.t 14), (some (some 11, false))⟩,
  ⟨(some 16), .pick (.t 11) (.c (.one (.sc (.bool true)))) (.t 15), none⟩,
  ⟨(some 17), .mv (.t 16), none⟩,
  ⟨(some 18), .fadr 0 (.t 5), (some (some 17, false))⟩,
  ⟨(some 19), .load1 (.t 18), (some (some 17, false))⟩,
  ⟨(some 20), .call (.z 0) 22 [(.t 19)], (some (some 17, false))⟩,
  ⟨(some 21), .un .not (.t 20), (some (some 17, false))⟩,
  ⟨(some 22), .pick (.t 17) (.c (.one (.sc (.bool true)))) (.t 21), none⟩,
  ⟨(some 23), .mv (.t 22), none⟩,
  ⟨(some 24), .fadr 1 (.t 5), (some (some 23, false))⟩,
  ⟨(some 25), .load1 (.t 24), (some (some 23, false))⟩,
  ⟨(some 26), .call (.z 0) 22 [(.t 25)], (some (some 23, false))⟩,
  ⟨(some 27), .un .not (.t 26), (some (some 23, false))⟩,
  ⟨(some 28), .pick (.t 23) (.c (.one (.sc (.bool true)))) (.t 27), none⟩]
def r8_2 : List SOper := [
  ⟨(some 29), .call (.z 0) 11 [], none⟩,
  ⟨(some 6), .mv (.t 29), none⟩]
def r8_3 : List SOper := [
  ⟨(some 30), .mv (.t 0), none⟩,
  ⟨(some 31), .mv (.t 1), none⟩,
  ⟨(some 32), .loadA 2 (.t 5), none⟩,
  ⟨(some 33), .call .q 23 [(.t 30), (.t 31), (.t 32)], none⟩,
  ⟨(some 34), .mv (.t 0), none⟩,
  ⟨(some 35), .call .k 14 [(.t 34)], none⟩,
  ⟨(some 36), .mv (.t 1), none⟩,
  ⟨(some 37), .fadr 0 (.t 5), none⟩,
  ⟨(some 38), .load1 (.t 37), none⟩,
  ⟨(some 39), .fadr 1 (.t 5), none⟩,
  ⟨(some 40), .load1 (.t 39), none⟩,
  ⟨(some 41), .build [.sc (.int .i64 0), .sc (.int .i64 0)] [(0, 1, (.t 38)), (1, 1, (.t 40))], none⟩,
  ⟨(some 42), .call .q 24 [(.t 35), (.t 36), (.t 41)], none⟩,
  ⟨(some 43), .beq false (.t 33) (.t 42), none⟩,
  ⟨(some 44), .mv (.t 43), none⟩,
  ⟨(some 45), .call (.z 0) 11 [], (some (some 44, true))⟩,
  ⟨(some 46), .pick (.t 44) (.t 45) (.c (.one (.sc (.bool false)))), none⟩,
  ⟨(some 6), .mv (.t 46), none⟩]
def c8 : SC := (.seq (.reg r8_0) (.seq (.seq (.reg r8_1) (.cond (.t 28) (.seq (.reg r8_2) .ret) .skip)) (.seq (.reg r8_3) .ret)))
/-- limner/limnerlaw08.CoverInside -/
def F8 : SFun := ⟨47, c8, [.tmp 6], none⟩

def r9_0 : List SOper := [
  ⟨(some 3), .box (.t 1), none⟩,
  ⟨(some 4), .mv (.c (.one (.sc (.bool false)))), none⟩]
def r9_1 : List SOper := [
  ⟨(some 5), .mv (.c (.one (.sc (.int .i64 0)))), none⟩]
def r9_2 : List SOper := [
  ⟨(some 8), .mv (.t 0), none⟩,
  ⟨(some 9), .len (.t 8), none⟩,
  ⟨(some 10), .mv (.c (.one (.sc (.int .i64 0)))), none⟩]
def r9_3 : List SOper := [
  ⟨(some 11), .bin .lss (.t 10) (.t 9), none⟩]
def r9_4 : List SOper := [
  ⟨(some 12), .iadrS 1 (.t 8) (.t 10), none⟩,
  ⟨(some 13), .load1 (.t 12), none⟩,
  ⟨(some 7), .mv (.t 13), none⟩]
def r9_5 : List SOper := [
  ⟨(some 14), .mv (.t 7), none⟩,
  ⟨(some 15), .len (.t 14), none⟩,
  ⟨(some 16), .bin .gtr (.t 15) (.c (.one (.sc (.int .i64 20)))), none⟩]
def r9_6 : List SOper := [
  ⟨(some 4), .mv (.c (.one (.sc (.bool false)))), none⟩]
def r9_7 : List SOper := [
  ⟨(some 17), .mv (.t 5), none⟩,
  ⟨(some 18), .mv (.t 7), none⟩,
  ⟨(some 19), .len (.t 18), none⟩,
  ⟨(some 20), .bin .add (.t 19) (.c (.one (.sc (.int .i64 1)))), none⟩,
  ⟨(some 21), .bin .add (.t 17) (.t 20), none⟩,
  ⟨(some 5), .mv (.t 21), none⟩]
def r9_8 : List SOper := [
  ⟨(some 22), .mv (.t 5), none⟩,
  ⟨(some 23), .bin .gtr (.t 22) (.c (.one (.sc (.int .i64 60)))), none⟩]
def r9_9 : List SOper := [
  ⟨(some 4), .mv (.c (.one (.sc (.bool false)))), none⟩]
def r9_10 : List SOper := [
  ⟨(some 24), .bin .add (.t 10) (.c (.one (.sc (.int .i64 1)))), none⟩,
  ⟨(some 10), .mv (.t 24), none⟩]
def l9_0 : SC := (.seq (.reg r9_3) (.seq (.cond (.t 11) .skip (.exit 0)) (.seq (.block 1 (.seq (.reg r9_4) (.seq (.seq (.reg r9_5) (.cond (.t 16) (.seq (.reg r9_6) .ret) .skip)) (.seq (.reg r9_7) (.seq (.reg r9_8) (.cond (.t 23) (.seq (.reg r9_9) .ret) .skip)))))) (.reg r9_10))))
def r9_11 : List SOper := [
  ⟨(some 25), .fadr 0 (.t 3), none⟩,
  ⟨(some 26), .load1 (.t 25), none⟩,
  ⟨(some 27), .fadr 1 (.t 3), none⟩,
  ⟨(some 28), .load1 (.t 27), none⟩,
  ⟨(some 29), .fadr 2 (.t 3), none⟩,
  ⟨(some 30), .load1 (.t 29), none⟩,
  ⟨(some 31), .fadr 3 (.t 3), none⟩,
  ⟨(some 32), .load1 (.t 31), none⟩,
  ⟨(some 33), .call (.z 0) 10 [(.t 26), (.t 28), (.t 30), (.t 32)], none⟩,
  ⟨(some 34), .un .not (.t 33), none⟩]
def r9_12 : List SOper := [
  ⟨(some 4), .mv (.c (.one (.sc (.bool true)))), none⟩]
def r9_13 : List SOper := [
  ⟨(some 35), .fadr 2 (.t 3), none⟩,
  ⟨(some 36), .load1 (.t 35), none⟩,
  ⟨(some 37), .fadr 0 (.t 3), none⟩,
  ⟨(some 38), .load1 (.t 37), none⟩,
  ⟨(some 39), .bin .sub (.t 36) (.t 38), none⟩,
  ⟨(some 40), .fadr 3 (.t 3), none⟩,
  ⟨(some 41), .load1 (.t 40), none⟩,
  ⟨(some 42), .fadr 1 (.t 3), none⟩,
  ⟨(some 43), .load1 (.t 42), none⟩,
  ⟨(some 44), .bin .sub (.t 41) (.t 43), none⟩,
  ⟨(some 45), .bin .mul (.t 39) (.t 44), none⟩,
  ⟨(some 46), .bin .leq (.t 45) (.c (.one (.sc (.int .i64 40)))), none⟩,
  ⟨(some 4), .mv (.t 46), none⟩]
def c9 : SC := (.seq (.reg r9_0) (.seq (.reg r9_1) (.seq (.seq (.reg r9_2) (.block 0 (.loop l9_0))) (.seq (.seq (.reg r9_11) (.cond (.t 34) (.seq (.reg r9_12) .ret) .skip)) (.seq (.reg r9_13) .ret)))))
/-- limner/limnerlaw08.small -/
def F9 : SFun := ⟨47, c9, [.tmp 4], none⟩

def r10_0 : List SOper := [
  ⟨(some 8), .mv (.c (.one (.sc (.bool false)))), none⟩]
def r10_1 : List SOper := [
  ⟨(some 9), .mv (.t 0), none⟩,
  ⟨(some 10), .mv (.t 2), none⟩,
  ⟨(some 11), .bin .geq (.t 9) (.t 10), none⟩,
  ⟨(some 12), .mv (.t 11), none⟩,
  ⟨(some 13), .mv (.t 1), (some (some 12, false))⟩,
  ⟨(some 14), .mv (.t 3), (some (some 12, false))⟩,
  ⟨(some 15), .bin .geq (.t 13) (.t 14), (some (some 12, false))⟩,
  ⟨(some 16), .pick (.t 12) (.c (.one (.sc (.bool true)))) (.t 15), none⟩,
  ⟨(some 17), .mv (.t 16), none⟩,
  ⟨(some 18), .mv (.t 0), (some (some 17, false))⟩,
  ⟨(some 19), .bin .lss (.t 18) (.c (.one (.sc (.int .i64 (-4194304))))), (some (some 17, false))⟩,
  ⟨(some 20), .pick (.t 17) (.c (.one (.sc (.bool true)))) (.t 19), none⟩,
  ⟨(some 21), .mv (.t 20), none⟩,
  ⟨(some 22), .mv (.t 1), (some (some 21, false))⟩,
  ⟨(some 23), .bin .lss (.t 22) (.c (.one (.sc (.int .i64 (-4194304))))), (some (some 21, false))⟩,
  ⟨(some 24), .pick (.t 21) (.c (.one (.sc (.bool true)))) (.t 23), none⟩,
  ⟨(some 25), .mv (.t 24), none⟩,
  ⟨(some 26), .mv (.t 2), (some (some 25, false))⟩,
  ⟨(some 27), .bin .gtr (.t 26) (.c (.one (.sc (.int .i64 4194304)))), (some (some 25, false))⟩,
  ⟨(some 28), .pick (.t 25) (.c (.one (.sc (.bool true)))) (.t 27), none⟩,
  ⟨(some 29), .mv (.t 28), none⟩,
  ⟨(some 30), .mv (.t 3), (some (some 29, false))⟩,
  ⟨(some 31), .bin .gtr (.t 30) (.c (.one (.sc (.int .i64 4194304)))), (some (some 29, false))⟩,
  ⟨(some 32), .pick (.t 29) (.c (.one (.sc (.bool true)))) (.t 31), none⟩]
def r10_2 : List SOper := [
  ⟨(some 8), .mv (.c (.one (.sc (.bool false)))), none⟩]
def r10_3 : List SOper := [
  ⟨(some 33), .mv (.t 2), none⟩,
  ⟨(some 34), .mv (.t 0), none⟩,
  ⟨(some 35), .bin .sub (.t 33) (.t 34), none⟩,
  ⟨(some 36), .bin .leq (.t 35) (.c (.one (.sc (.int .i64 256)))), none⟩,
  ⟨(some 37), .mv (.t 36), none⟩,
  ⟨(some 38), .mv (.t 3), (some (some 37, true))⟩,
  ⟨(some 39), .mv (.t 1), (some (some 37, true))⟩,
  ⟨(some 40), .bin .sub (.t 38) (.t 39), (some (some 37, true))⟩,
  ⟨(some 41), .bin .leq (.t 40) (.c (.one (.sc (.int .i64 256)))), (some (some 37, true))⟩,
  ⟨(some 42), .pick (.t 37) (.t 41) (.c (.one (.sc (.bool false)))), none⟩,
  ⟨(some 8), .mv (.t 42), none⟩]
def c10 : SC := (.seq (.reg r10_0) (.seq (.seq (.reg r10_1) (.cond (.t 32) (.seq (.reg r10_2) .ret) .skip)) (.seq (.reg r10_3) .ret)))
/-- limner/limnerref08.Window -/
def F10 : SFun := ⟨43, c10, [.tmp 8], none⟩

def r11_0 : List SOper := [
  ⟨(some 0), .mv (.c (.one (.sc (.bool false)))), none⟩]
def r11_1 : List SOper := [
  ⟨(some 6), .call (.z 0) 15 [(.c (.one (.sc (.int .i64 0)))), (.c (.one (.sc (.int .i64 0))))], none⟩,
  ⟨(some 7), .call (.z 0) 15 [(.c (.one (.sc (.int .i64 256)))), (.c (.one (.sc (.int .i64 0))))], none⟩,
  ⟨(some 8), .call (.z 0) 15 [(.c (.one (.sc (.int .i64 256)))), (.c (.one (.sc (.int .i64 128))))], none⟩,
  ⟨(some 9), .call (.z 0) 15 [(.c (.one (.sc (.int .i64 0)))), (.c (.one (.sc (.int .i64 128))))], none⟩,
  ⟨(some 10), .bslice [.sc (.int .i64 0), .sc (.int .i64 0), .sc (.int .i64 0), .sc (.int .i64 0), .sc (.int .i64 0), .sc (.int .i64 0), .sc (.int .i64 0), .sc (.int .i64 0)] 4 2 [(0, 2, (.t 6)), (2, 2, (.t 7)), (4, 2, (.t 8)), (6, 2, (.t 9))], none⟩,
  ⟨(some 1), .mv (.t 10), none⟩]
def r11_2 : List SOper := [
  ⟨(some 12), .mv (.t 1), none⟩,
  ⟨(some 13), .bslice [.sc (.slice none 0 0)] 1 1 [(0, 1, (.t 12))], none⟩,
  ⟨(some 14), .build [.sc (.int .i64 0), .sc (.int .i64 0), .sc (.int .i64 0), .sc (.int .i64 0)] [(2, 1, (.c (.one (.sc (.int .i64 1))))), (3, 1, (.c (.one (.sc (.int .i64 1)))))], none⟩,
  ⟨(some 15), .call .k 12 [(.t 13), (.c (.one (.sc (.int .i64 1)))), (.t 14)], none⟩,
  ⟨(some 11), .mv (.t 15), none⟩,
  ⟨(some 16), .ext (.t 11) 0, none⟩,
  ⟨(some 17), .ext (.t 11) 1, none⟩,
  ⟨(some 2), .mv (.t 16), none⟩,
  ⟨(some 3), .mv (.t 17), none⟩]
def r11_3 : List SOper := [
  ⟨(some 19), .mv (.t 1), none⟩,
  ⟨(some 20), .mv (.t 1), none⟩,
  ⟨(some 21), .bslice [.sc (.slice none 0 0), .sc (.slice none 0 0)] 2 1 [(0, 1, (.t 19)), (1, 1, (.t 20))], none⟩,
  ⟨(some 22), .build [.sc (.int .i64 0), .sc (.int .i64 0), .sc (.int .i64 0), .sc (.int .i64 0)] [(2, 1, (.c (.one (.sc (.int .i64 1))))), (3, 1, (.c (.one (.sc (.int .i64 1)))))], none⟩,
  ⟨(some 23), .call .k 12 [(.t 21), (.c (.one (.sc (.int .i64 2)))), (.t 22)], none⟩,
  ⟨(some 18), .mv (.t 23), none⟩,
  ⟨(some 24), .ext (.t 18) 0, none⟩,
  ⟨(some 25), .ext (.t 18) 1, none⟩,
  ⟨(some 4), .mv (.t 24), none⟩,
  ⟨(some 5), .mv (.t 25), none⟩]
def r11_4 : List SOper := [
  ⟨(some 26), .mv (.t 3), none⟩,
  ⟨(some 27), .bin .eql (.t 26) (.c (.one (.sc (.int .i64 0)))), none⟩,
  ⟨(some 28), .mv (.t 27), none⟩,
  ⟨(some 29), .mv (.t 5), (some (some 28, true))⟩,
  ⟨(some 30), .bin .eql (.t 29) (.c (.one (.sc (.int .i64 0)))), (some (some 28, true))⟩,
  ⟨(some 31), .pick (.t 28) (.t 30) (.c (.one (.sc (.bool false)))), none⟩,
  ⟨(some 32), .mv (.t 31), none⟩,
  ⟨(some 33), .mv (.t 2), (some (some 32, true))⟩,
  ⟨(some 34), .len (.t 33), (some (some 32, true))⟩,
  ⟨(some 35), .bin .eql (.t 34) (.c (.one (.sc (.int .i64 1)))), (some (some 32, true))⟩,
  ⟨(some 36), .pick (.t 32) (.t 35) (.c (.one (.sc (.bool false)))), none⟩,
  ⟨(some 37), .mv (.t 36), none⟩,
  ⟨(some 38), .mv (.t 2), (some (some 37, true))⟩,
  ⟨(some 39), .iadrS 1 (.t 38) (.c (.one (.sc (.int .i64 0)))), (some (some 37, true))⟩,
  ⟨(some 40), .load1 (.t 39), (some (some 37, true))⟩,
  ⟨(some 41), .bin .eql (.t 40) (.c (.one (.sc (.int .u8 8)))), (some (some 37, true))⟩,
  ⟨(some 42), .pick (.t 37) (.t 41) (.c (.one (.sc (.bool false)))), none⟩,
  ⟨(some 43), .mv (.t 42), none⟩,
  ⟨(some 44), .mv (.t 4), (some (some 43, true))⟩,
  ⟨(some 45), .len (.t 44), (some (some 43, true))⟩,
  ⟨(some 46), .bin .eql (.t 45) (.c (.one (.sc (.int .i64 1)))), (some (some 43, true))⟩,
  ⟨(some 47), .pick (.t 43) (.t 46) (.c (.one (.sc (.bool false)))), none⟩,
  ⟨(some 48), .mv (.t 47), none⟩,
  ⟨(some 49), .mv (.t 4), (some (some 48, true))⟩,
  ⟨(some 50), .iadrS 1 (.t 49) (.c (.one (.sc (.int .i64 0)))), (some (some 48, true))⟩,
  ⟨(some 51), .load1 (.t 50), (some (some 48, true))⟩,
  ⟨(some 52), .bin .eql (.t 51) (.c (.one (.sc (.int .u8 0)))), (some (some 48, true))⟩,
  ⟨(some 53), .pick (.t 48) (.t 52) (.c (.one (.sc (.bool false)))), none⟩,
  ⟨(some 0), .mv (.t 53), none⟩]
def c11 : SC := (.seq (.reg r11_0) (.seq (.reg r11_1) (.seq (.reg r11_2) (.seq (.reg r11_3) (.seq (.reg r11_4) .ret)))))
/-- limner/limnerlaw08.awake -/
def F11 : SFun := ⟨54, c11, [.tmp 0], none⟩

def r12_0 : List SOper := [
  ⟨(some 5), .box (.t 2), none⟩,
  ⟨(some 6), .mv (.c (.one (.sc (.slice none 0 0)))), none⟩,
  ⟨(some 7), .mv (.c (.one (.sc (.int .i64 0)))), none⟩]
def r12_1 : List SOper := [
  ⟨(some 8), .mv (.f 25), none⟩]
def r12_2 : List SOper := [
  ⟨(some 19), .mv (.t 1), none⟩,
  ⟨(some 20), .bin .neq (.t 19) (.c (.one (.sc (.int .i64 1)))), none⟩,
  ⟨(some 21), .mv (.t 20), none⟩,
  ⟨(some 22), .mv (.t 1), (some (some 21, true))⟩,
  ⟨(some 23), .bin .neq (.t 22) (.c (.one (.sc (.int .i64 2)))), (some (some 21, true))⟩,
  ⟨(some 24), .pick (.t 21) (.t 23) (.c (.one (.sc (.bool false)))), none⟩,
  ⟨(some 25), .mv (.t 24), none⟩,
  ⟨(some 26), .loadA 4 (.t 5), (some (some 25, false))⟩,
  ⟨(some 27), .call (.z 0) 29 [(.t 26)], (some (some 25, false))⟩,
  ⟨(some 28), .un .not (.t 27), (some (some 25, false))⟩,
  ⟨(some 29), .pick (.t 25) (.c (.one (.sc (.bool true)))) (.t 28), none⟩,
  ⟨(some 30), .mv (.t 29), none⟩,
  ⟨(some 31), .mv (.t 0), (some (some 30, false))⟩,
  ⟨(some 32), .mv (.t 8), (some (some 30, false))⟩,
  ⟨(some 33), .call .q 30 [(.t 31), (.t 32)], (some (some 30, false))⟩,
  ⟨(some 34), .pick (.t 30) (.c (.one (.sc (.bool true)))) (.t 33), none⟩]
def r12_3 : List SOper := [
  ⟨(some 6), .mv (.c (.one (.sc (.slice none 0 0)))), none⟩,
  ⟨(some 7), .mv (.c (.one (.sc (.int .i64 30)))), none⟩]
def r12_4 : List SOper := [
  ⟨(some 35), .fadr 2 (.t 5), none⟩,
  ⟨(some 36), .load1 (.t 35), none⟩,
  ⟨(some 37), .fadr 0 (.t 5), none⟩,
  ⟨(some 38), .load1 (.t 37), none⟩,
  ⟨(some 39), .bin .sub (.t 36) (.t 38), none⟩,
  ⟨(some 9), .mv (.t 39), none⟩]
def r12_5 : List SOper := [
  ⟨(some 40), .mv (.t 9), none⟩,
  ⟨(some 41), .fadr 3 (.t 5), none⟩,
  ⟨(some 42), .load1 (.t 41), none⟩,
  ⟨(some 43), .fadr 1 (.t 5), none⟩,
  ⟨(some 44), .load1 (.t 43), none⟩,
  ⟨(some 45), .bin .sub (.t 42) (.t 44), none⟩,
  ⟨(some 46), .bin .mul (.t 40) (.t 45), none⟩,
  ⟨(some 47), .mkslice [.sc (.int .u8 0)] 1 1 (.t 46) (.t 46), none⟩,
  ⟨(some 10), .mv (.t 47), none⟩]
def r12_6 : List SOper := [
  ⟨(some 48), .fadr 3 (.t 5), none⟩,
  ⟨(some 49), .load1 (.t 48), none⟩,
  ⟨(some 50), .fadr 1 (.t 5), none⟩,
  ⟨(some 51), .load1 (.t 50), none⟩,
  ⟨(some 52), .bin .sub (.t 49) (.t 51), none⟩,
  ⟨(some 53), .bin .mul (.t 52) (.c (.one (.sc (.int .i64 4)))), none⟩,
  ⟨(some 54), .mv (.c (.one (.sc (.int .i64 0)))), none⟩]
def r12_7 : List SOper := [
  ⟨(some 55), .bin .lss (.t 54) (.t 53), none⟩]
def r12_8 : List SOper := [
  ⟨(some 56), .mv (.t 54), none⟩,
  ⟨(some 11), .mv (.t 56), none⟩]
def r12_9 : List SOper := [
  ⟨(some 57), .mv (.t 0), none⟩,
  ⟨(some 58), .fadr 1 (.t 5), none⟩,
  ⟨(some 59), .load1 (.t 58), none⟩,
  ⟨(some 60), .bin .mul (.t 59) (.c (.one (.sc (.int .i64 256)))), none⟩,
  ⟨(some 61), .bin .add (.t 60) (.c (.one (.sc (.int .i64 32)))), none⟩,
  ⟨(some 62), .mv (.t 11), none⟩,
  ⟨(some 63), .bin .mul (.t 62) (.c (.one (.sc (.int .i64 64)))), none⟩,
  ⟨(some 64), .bin .add (.t 61) (.t 63), none⟩,
  ⟨(some 65), .call .k 31 [(.t 57), (.t 64)], none⟩,
  ⟨(some 12), .mv (.t 65), none⟩]
def r12_10 : List SOper := [
  ⟨(some 13), .mv (.c (.one (.sc (.int .i64 0)))), none⟩]
def r12_11 : List SOper := [
  ⟨(some 66), .mv (.t 12), none⟩,
  ⟨(some 67), .len (.t 66), none⟩,
  ⟨(some 68), .mv (.c (.one (.sc (.int .i64 0)))), none⟩]
def r12_12 : List SOper := [
  ⟨(some 69), .bin .lss (.t 68) (.t 67), none⟩]
def r12_13 : List SOper := [
  ⟨(some 70), .iadrS 2 (.t 66) (.t 68), none⟩,
  ⟨(some 71), .loadA 2 (.t 70), none⟩,
  ⟨(some 15), .alloc [.sc (.int .i64 0), .sc (.int .i64 0)], none⟩,
  ⟨none, .store 2 (.t 15) (.t 71), none⟩]
def r12_14 : List SOper := [
  ⟨(some 72), .mv (.t 13), none⟩,
  ⟨(some 73), .fadr 1 (.t 15), none⟩,
  ⟨(some 74), .load1 (.t 73), none⟩,
  ⟨(some 75), .bin .add (.t 72) (.t 74), none⟩,
  ⟨(some 13), .mv (.t 75), none⟩]
def r12_15 : List SOper := [
  ⟨(some 76), .bin .add (.t 68) (.c (.one (.sc (.int .i64 1)))), none⟩,
  ⟨(some 68), .mv (.t 76), none⟩]
def l12_0 : SC := (.seq (.reg r12_12) (.seq (.cond (.t 69) .skip (.exit 2)) (.seq (.block 3 (.seq (.reg r12_13) (.reg r12_14))) (.reg r12_15))))
def r12_16 : List SOper := [
  ⟨(some 77), .mv (.t 10), none⟩,
  ⟨(some 78), .mv (.t 11), none⟩,
  ⟨(some 79), .bin .quo (.t 78) (.c (.one (.sc (.int .i64 4)))), none⟩,
  ⟨(some 80), .mv (.t 9), none⟩,
  ⟨(some 81), .bin .mul (.t 79) (.t 80), none⟩,
  ⟨(some 82), .mv (.t 11), none⟩,
  ⟨(some 83), .bin .quo (.t 82) (.c (.one (.sc (.int .i64 4)))), none⟩,
  ⟨(some 84), .bin .add (.t 83) (.c (.one (.sc (.int .i64 1)))), none⟩,
  ⟨(some 85), .mv (.t 9), none⟩,
  ⟨(some 86), .bin .mul (.t 84) (.t 85), none⟩,
  ⟨(some 87), .slS 1 (.t 77) (some (.t 81)) (some (.t 86)) none, none⟩,
  ⟨(some 16), .mv (.t 87), none⟩]
def r12_17 : List SOper := [
  ⟨(some 88), .mv (.t 9), none⟩,
  ⟨(some 89), .bin .mul (.t 88) (.c (.one (.sc (.int .i64 4)))), none⟩,
  ⟨(some 90), .mv (.c (.one (.sc (.int .i64 0)))), none⟩]
def r12_18 : List SOper := [
  ⟨(some 91), .bin .lss (.t 90) (.t 89), none⟩]
def r12_19 : List SOper := [
  ⟨(some 92), .mv (.t 90), none⟩,
  ⟨(some 17), .mv (.t 92), none⟩]
def r12_20 : List SOper := [
  ⟨(some 93), .fadr 0 (.t 5), none⟩,
  ⟨(some 94), .load1 (.t 93), none⟩,
  ⟨(some 95), .bin .mul (.t 94) (.c (.one (.sc (.int .i64 256)))), none⟩,
  ⟨(some 96), .bin .add (.t 95) (.c (.one (.sc (.int .i64 32)))), none⟩,
  ⟨(some 97), .mv (.t 17), none⟩,
  ⟨(some 98), .bin .mul (.t 97) (.c (.one (.sc (.int .i64 64)))), none⟩,
  ⟨(some 99), .bin .add (.t 96) (.t 98), none⟩,
  ⟨(some 18), .mv (.t 99), none⟩]
def r12_21 : List SOper := [
  ⟨(some 100), .mv (.t 12), none⟩,
  ⟨(some 101), .len (.t 100), none⟩,
  ⟨(some 102), .bin .gtr (.t 101) (.c (.one (.sc (.int .i64 0)))), none⟩,
  ⟨(some 103), .mv (.t 102), none⟩,
  ⟨(some 104), .mv (.t 12), (some (some 103, true))⟩,
  ⟨(some 105), .iadrS 2 (.t 104) (.c (.one (.sc (.int .i64 0)))), (some (some 103, true))⟩,
  ⟨(some 106), .fadr 0 (.t 105), (some (some 103, true))⟩,
  ⟨(some 107), .load1 (.t 106), (some (some 103, true))⟩,
  ⟨(some 108), .mv (.t 18), (some (some 103, true))⟩,
  ⟨(some 109), .bin .leq (.t 107) (.t 108), (some (some 103, true))⟩,
  ⟨(some 110), .pick (.t 103) (.t 109) (.c (.one (.sc (.bool false)))), none⟩]
def r12_22 : List SOper := [
  ⟨(some 111), .mv (.t 13), none⟩,
  ⟨(some 112), .mv (.t 12), none⟩,
  ⟨(some 113), .iadrS 2 (.t 112) (.c (.one (.sc (.int .i64 0)))), none⟩,
  ⟨(some 114), .fadr 1 (.t 113), none⟩,
  ⟨(some 115), .load1 (.t 114), none⟩,
  ⟨(some 116), .bin .sub (.t 111) (.t 115), none⟩,
  ⟨(some 13), .mv (.t 116), none⟩]
def r12_23 : List SOper := [
  ⟨(some 117), .mv (.t 12), none⟩,
  ⟨(some 118), .slS 2 (.t 117) (some (.c (.one (.sc (.int .i64 1))))) none none, none⟩,
  ⟨(some 12), .mv (.t 118), none⟩]
def l12_1 : SC := (.seq (.seq (.reg r12_21) (.cond (.t 110) .skip (.exit 6))) (.block 7 (.seq (.reg r12_22) (.reg r12_23))))
def r12_24 : List SOper := [
  ⟨(some 119), .mv (.t 1), none⟩,
  ⟨(some 120), .mv (.t 13), none⟩,
  ⟨(some 121), .call (.z 0) 32 [(.t 119), (.t 120)], none⟩]
def r12_25 : List SOper := [
  ⟨(some 122), .mv (.t 16), none⟩,
  ⟨(some 123), .mv (.t 17), none⟩,
  ⟨(some 124), .bin .quo (.t 123) (.c (.one (.sc (.int .i64 4)))), none⟩,
  ⟨(some 125), .iadrS 1 (.t 122) (.t 124), none⟩,
  ⟨(some 126), .load1 (.t 125), none⟩,
  ⟨(some 127), .bin .add (.t 126) (.c (.one (.sc (.int .u8 1)))), none⟩,
  ⟨(some 128), .iadrS 1 (.t 122) (.t 124), none⟩,
  ⟨none, .store 1 (.t 128) (.t 127), none⟩]
def r12_26 : List SOper := [
  ⟨(some 129), .bin .add (.t 90) (.c (.one (.sc (.int .i64 1)))), none⟩,
  ⟨(some 90), .mv (.t 129), none⟩]
def l12_2 : SC := (.seq (.reg r12_18) (.seq (.cond (.t 91) .skip (.exit 4)) (.seq (.block 5 (.seq (.reg r12_19) (.seq (.reg r12_20) (.seq (.block 6 (.loop l12_1)) (.seq (.reg r12_24) (.cond (.t 121) (.reg r12_25) .skip)))))) (.reg r12_26))))
def r12_27 : List SOper := [
  ⟨(some 130), .bin .add (.t 54) (.c (.one (.sc (.int .i64 1)))), none⟩,
  ⟨(some 54), .mv (.t 130), none⟩]
def l12_3 : SC := (.seq (.reg r12_7) (.seq (.cond (.t 55) .skip (.exit 0)) (.seq (.block 1 (.seq (.reg r12_8) (.seq (.reg r12_9) (.seq (.reg r12_10) (.seq (.seq (.reg r12_11) (.block 2 (.loop l12_0))) (.seq (.reg r12_16) (.seq (.reg r12_17) (.block 4 (.loop l12_2))))))))) (.reg r12_27))))
def r12_28 : List SOper := [
  ⟨(some 131), .mv (.t 10), none⟩,
  ⟨(some 6), .mv (.t 131), none⟩,
  ⟨(some 7), .mv (.c (.one (.sc (.int .i64 0)))), none⟩]
def c12 : SC := (.seq (.reg r12_0) (.seq (.reg r12_1) (.seq (.seq (.reg r12_2) (.cond (.t 34) (.seq (.reg r12_3) .ret) .skip)) (.seq (.reg r12_4) (.seq (.reg r12_5) (.seq (.seq (.reg r12_6) (.block 0 (.loop l12_3))) (.seq (.reg r12_28) .ret)))))))
/-- limner/cover.Mask -/
def F12 : SFun := ⟨132, c12, [.tmp 6, .tmp 7], none⟩

def r13_0 : List SOper := [
  ⟨(some 2), .mv (.c (.one (.sc (.bool false)))), none⟩]
def r13_1 : List SOper := [
  ⟨(some 3), .mv (.c (.one (.sc (.int .i64 0)))), none⟩]
def r13_2 : List SOper := [
  ⟨(some 5), .mv (.t 3), none⟩,
  ⟨(some 6), .mv (.t 0), none⟩,
  ⟨(some 7), .len (.t 6), none⟩,
  ⟨(some 8), .bin .lss (.t 5) (.t 7), none⟩]
def r13_4 : List SOper := [
  ⟨(some 4), .mv (.c (.one (.sc (.int .i64 0)))), none⟩]
def r13_5 : List SOper := [
  ⟨(some 11), .mv (.t 4), none⟩,
  ⟨(some 12), .mv (.t 0), none⟩,
  ⟨(some 13), .mv (.t 3), none⟩,
  ⟨(some 14), .iadrS 1 (.t 12) (.t 13), none⟩,
  ⟨(some 15), .load1 (.t 14), none⟩,
  ⟨(some 16), .len (.t 15), none⟩,
  ⟨(some 17), .bin .lss (.t 11) (.t 16), none⟩]
def r13_7 : List SOper := [
  ⟨(some 20), .mv (.t 0), none⟩,
  ⟨(some 21), .mv (.t 3), none⟩,
  ⟨(some 22), .iadrS 1 (.t 20) (.t 21), none⟩,
  ⟨(some 23), .load1 (.t 22), none⟩,
  ⟨(some 24), .mv (.t 4), none⟩,
  ⟨(some 25), .iadrS 2 (.t 23) (.t 24), none⟩,
  ⟨(some 26), .fadr 0 (.t 25), none⟩,
  ⟨(some 27), .load1 (.t 26), none⟩,
  ⟨(some 28), .call (.z 0) 22 [(.t 27)], none⟩,
  ⟨(some 29), .un .not (.t 28), none⟩,
  ⟨(some 30), .mv (.t 29), none⟩,
  ⟨(some 31), .mv (.t 0), (some (some 30, false))⟩,
  ⟨(some 32), .mv (.t 3), (some (some 30, false))⟩,
  ⟨(some 33), .iadrS 1 (.t 31) (.t 32), (some (some 30, false))⟩,
  ⟨(some 34), .load1 (.t 33), (some (some 30, false))⟩,
  ⟨(some 35), .mv (.t 4), (some (some 30, false))⟩,
  ⟨(some 36), .iadrS 2 (.t 34) (.t 35), (some (some 30, false))⟩,
  ⟨(some 37), .fadr 1 (.t 36), (some (some 30, false))⟩,
  ⟨(some 38), .load1 (.t 37), (some (some 30, false))⟩,
  ⟨(some 39), .call (.z 0) 22 [(.t 38)], (some (some 30, false))⟩,
  ⟨(some 40), .un .not (.t 39), (some (some 30, false))⟩,
  ⟨(some 41), .pick (.t 30) (.c (.one (.sc (.bool true)))) (.t 40), none⟩]
def r13_8 : List SOper := [
  ⟨(some 2), .mv (.c (.one (.sc (.bool false)))), none⟩]
def r13_6 : List SOper := [
  ⟨(some 18), .mv (.t 4), none⟩,
  ⟨(some 19), .bin .add (.t 18) (.c (.one (.sc (.int .i64 1)))), none⟩,
  ⟨(some 4), .mv (.t 19), none⟩]
def l13_0 : SC := (.seq (.seq (.reg r13_5) (.cond (.t 17) .skip (.exit 2))) (.seq (.block 3 (.seq (.reg r13_7) (.cond (.t 41) (.seq (.reg r13_8) .ret) .skip))) (.reg r13_6)))
def r13_3 : List SOper := [
  ⟨(some 9), .mv (.t 3), none⟩,
  ⟨(some 10), .bin .add (.t 9) (.c (.one (.sc (.int .i64 1)))), none⟩,
  ⟨(some 3), .mv (.t 10), none⟩]
def l13_1 : SC := (.seq (.seq (.reg r13_2) (.cond (.t 8) .skip (.exit 0))) (.seq (.block 1 (.seq (.reg r13_4) (.block 2 (.loop l13_0)))) (.reg r13_3)))
def r13_9 : List SOper := [
  ⟨(some 2), .mv (.c (.one (.sc (.bool true)))), none⟩]
def c13 : SC := (.seq (.reg r13_0) (.seq (.seq (.reg r13_1) (.block 0 (.loop l13_1))) (.seq (.reg r13_9) .ret)))
/-- limner/limnerref08.In -/
def F13 : SFun := ⟨42, c13, [.tmp 2], none⟩

def r14_0 : List SOper := [
  ⟨(some 2), .mv (.c (.one (.sc (.slice none 0 0)))), none⟩]
def r14_1 : List SOper := [
  ⟨(some 3), .mv (.c (.one (.sc (.slice none 0 0)))), none⟩]
def r14_2 : List SOper := [
  ⟨(some 9), .mv (.t 0), none⟩,
  ⟨(some 10), .len (.t 9), none⟩,
  ⟨(some 11), .mv (.c (.one (.sc (.int .i64 0)))), none⟩]
def r14_3 : List SOper := [
  ⟨(some 12), .bin .lss (.t 11) (.t 10), none⟩]
def r14_4 : List SOper := [
  ⟨(some 13), .iadrS 1 (.t 9) (.t 11), none⟩,
  ⟨(some 14), .load1 (.t 13), none⟩,
  ⟨(some 5), .mv (.t 14), none⟩]
def r14_5 : List SOper := [
  ⟨(some 6), .mv (.c (.one (.sc (.slice none 0 0)))), none⟩]
def r14_6 : List SOper := [
  ⟨(some 15), .mv (.t 5), none⟩,
  ⟨(some 16), .len (.t 15), none⟩,
  ⟨(some 17), .mv (.c (.one (.sc (.int .i64 0)))), none⟩]
def r14_7 : List SOper := [
  ⟨(some 18), .bin .lss (.t 17) (.t 16), none⟩]
def r14_8 : List SOper := [
  ⟨(some 19), .iadrS 2 (.t 15) (.t 17), none⟩,
  ⟨(some 20), .loadA 2 (.t 19), none⟩,
  ⟨(some 8), .alloc [.sc (.int .i64 0), .sc (.int .i64 0)], none⟩,
  ⟨none, .store 2 (.t 8) (.t 20), none⟩]
def r14_9 : List SOper := [
  ⟨(some 21), .mv (.t 6), none⟩,
  ⟨(some 22), .fadr 0 (.t 8), none⟩,
  ⟨(some 23), .load1 (.t 22), none⟩,
  ⟨(some 24), .fadr 1 (.t 8), none⟩,
  ⟨(some 25), .load1 (.t 24), none⟩,
  ⟨(some 26), .build [.sc (.int .i64 0), .sc (.int .i64 0)] [(0, 1, (.t 23)), (1, 1, (.t 25))], none⟩,
  ⟨(some 27), .bslice [.sc (.int .i64 0), .sc (.int .i64 0)] 1 2 [(0, 2, (.t 26))], none⟩,
  ⟨(some 28), .app 2 16 (.t 21) (.t 27), none⟩,
  ⟨(some 6), .mv (.t 28), none⟩]
def r14_10 : List SOper := [
  ⟨(some 29), .bin .add (.t 17) (.c (.one (.sc (.int .i64 1)))), none⟩,
  ⟨(some 17), .mv (.t 29), none⟩]
def l14_0 : SC := (.seq (.reg r14_7) (.seq (.cond (.t 18) .skip (.exit 2)) (.seq (.block 3 (.seq (.reg r14_8) (.reg r14_9))) (.reg r14_10))))
def r14_11 : List SOper := [
  ⟨(some 30), .mv (.t 3), none⟩,
  ⟨(some 31), .mv (.t 6), none⟩,
  ⟨(some 32), .bslice [.sc (.slice none 0 0)] 1 1 [(0, 1, (.t 31))], none⟩,
  ⟨(some 33), .app 1 24 (.t 30) (.t 32), none⟩,
  ⟨(some 3), .mv (.t 33), none⟩]
def r14_12 : List SOper := [
  ⟨(some 34), .bin .add (.t 11) (.c (.one (.sc (.int .i64 1)))), none⟩,
  ⟨(some 11), .mv (.t 34), none⟩]
def l14_1 : SC := (.seq (.reg r14_3) (.seq (.cond (.t 12) .skip (.exit 0)) (.seq (.block 1 (.seq (.reg r14_4) (.seq (.reg r14_5) (.seq (.seq (.reg r14_6) (.block 2 (.loop l14_0))) (.reg r14_11))))) (.reg r14_12))))
def r14_13 : List SOper := [
  ⟨(some 35), .mv (.t 3), none⟩,
  ⟨(some 2), .mv (.t 35), none⟩]
def c14 : SC := (.seq (.reg r14_0) (.seq (.reg r14_1) (.seq (.seq (.reg r14_2) (.block 0 (.loop l14_1))) (.seq (.reg r14_13) .ret))))
/-- limner/limnerlaw08.refs -/
def F14 : SFun := ⟨36, c14, [.tmp 2], none⟩

def r15_0 : List SOper := [
  ⟨(some 4), .alloc [.sc (.int .i64 0), .sc (.int .i64 0)], none⟩]
def r15_1 : List SOper := [
  ⟨(some 5), .mv (.t 0), none⟩,
  ⟨(some 6), .mv (.t 1), none⟩,
  ⟨(some 7), .build [.sc (.int .i64 0), .sc (.int .i64 0)] [(0, 1, (.t 5)), (1, 1, (.t 6))], none⟩,
  ⟨none, .store 2 (.t 4) (.t 7), none⟩]
def c15 : SC := (.seq (.reg r15_0) (.seq (.reg r15_1) .ret))
/-- limner/limnerlaw08.at -/
def F15 : SFun := ⟨8, c15, [.cellA 4 2], none⟩

def r16_0 : List SOper := [
  ⟨(some 8), .mv (.c (.one (.sc (.int .i64 0)))), none⟩]
def r16_1 : List SOper := [
  ⟨(some 9), .mv (.c (.one (.sc (.int .i64 0)))), none⟩]
def r16_2 : List SOper := [
  ⟨(some 10), .mv (.c (.one (.sc (.int .i64 0)))), none⟩]
def r16_3 : List SOper := [
  ⟨(some 12), .mv (.t 10), none⟩,
  ⟨(some 13), .bin .lss (.t 12) (.c (.one (.sc (.int .i64 16)))), none⟩]
def r16_5 : List SOper := [
  ⟨(some 16), .mv (.t 2), none⟩,
  ⟨(some 17), .bin .mul (.c (.one (.sc (.int .i64 256)))) (.t 16), none⟩,
  ⟨(some 18), .bin .add (.t 17) (.c (.one (.sc (.int .i64 32)))), none⟩,
  ⟨(some 19), .mv (.t 10), none⟩,
  ⟨(some 20), .bin .rem (.t 19) (.c (.one (.sc (.int .i64 4)))), none⟩,
  ⟨(some 21), .bin .mul (.c (.one (.sc (.int .i64 64)))) (.t 20), none⟩,
  ⟨(some 22), .bin .add (.t 18) (.t 21), none⟩,
  ⟨(some 23), .mv (.t 3), none⟩,
  ⟨(some 24), .bin .mul (.c (.one (.sc (.int .i64 256)))) (.t 23), none⟩,
  ⟨(some 25), .bin .add (.t 24) (.c (.one (.sc (.int .i64 32)))), none⟩,
  ⟨(some 26), .mv (.t 10), none⟩,
  ⟨(some 27), .bin .quo (.t 26) (.c (.one (.sc (.int .i64 4)))), none⟩,
  ⟨(some 28), .bin .mul (.c (.one (.sc (.int .i64 64)))) (.t 27), none⟩,
  ⟨(some 29), .bin .add (.t 25) (.t 28), none⟩,
  ⟨(some 30), .build [.sc (.int .i64 0), .sc (.int .i64 0)] [(0, 1, (.t 22)), (1, 1, (.t 29))], none⟩,
  ⟨(some 11), .alloc [.sc (.int .i64 0), .sc (.int .i64 0)], none⟩,
  ⟨none, .store 2 (.t 11) (.t 30), none⟩]
def r16_6 : List SOper := [
  ⟨(some 31), .mv (.t 0), none⟩,
  ⟨(some 32), .mv (.t 1), none⟩,
  ⟨(some 33), .loadA 2 (.t 11), none⟩,
  ⟨(some 34), .call .q 24 [(.t 31), (.t 32), (.t 33)], none⟩]
def r16_7 : List SOper := [
  ⟨(some 35), .mv (.t 9), none⟩,
  ⟨(some 36), .bin .add (.t 35) (.c (.one (.sc (.int .i64 1)))), none⟩,
  ⟨(some 9), .mv (.t 36), none⟩]
def r16_4 : List SOper := [
  ⟨(some 14), .mv (.t 10), none⟩,
  ⟨(some 15), .bin .add (.t 14) (.c (.one (.sc (.int .i64 1)))), none⟩,
  ⟨(some 10), .mv (.t 15), none⟩]
def l16_0 : SC := (.seq (.seq (.reg r16_3) (.cond (.t 13) .skip (.exit 0))) (.seq (.block 1 (.seq (.reg r16_5) (.seq (.reg r16_6) (.cond (.t 34) (.reg r16_7) .skip)))) (.reg r16_4)))
def r16_8 : List SOper := [
  ⟨(some 37), .mv (.t 9), none⟩,
  ⟨(some 8), .mv (.t 37), none⟩]
def c16 : SC := (.seq (.reg r16_0) (.seq (.reg r16_1) (.seq (.seq (.reg r16_2) (.block 0 (.loop l16_0))) (.seq (.reg r16_8) .ret))))
/-- limner/limnerref08.Count -/
def F16 : SFun := ⟨38, c16, [.tmp 8], none⟩

def r17_0 : List SOper := [
  ⟨(some 2), .mv (.c (.one (.sc (.int .i64 0)))), none⟩]
def r17_1 : List SOper := [
  ⟨(some 3), .mv (.c (.one (.sc (.int .i64 0)))), none⟩]
def r17_2 : List SOper := [
  ⟨(some 6), .mv (.t 0), none⟩,
  ⟨(some 7), .len (.t 6), none⟩,
  ⟨(some 8), .mv (.c (.one (.sc (.int .i64 0)))), none⟩]
def r17_3 : List SOper := [
  ⟨(some 9), .bin .lss (.t 8) (.t 7), none⟩]
def r17_4 : List SOper := [
  ⟨(some 10), .iadrS 1 (.t 6) (.t 8), none⟩,
  ⟨(some 11), .load1 (.t 10), none⟩,
  ⟨(some 5), .mv (.t 11), none⟩]
def r17_5 : List SOper := [
  ⟨(some 12), .mv (.t 3), none⟩,
  ⟨(some 13), .mv (.t 5), none⟩,
  ⟨(some 14), .conv .i64 (.t 13), none⟩,
  ⟨(some 15), .bin .add (.t 12) (.t 14), none⟩,
  ⟨(some 3), .mv (.t 15), none⟩]
def r17_6 : List SOper := [
  ⟨(some 16), .bin .add (.t 8) (.c (.one (.sc (.int .i64 1)))), none⟩,
  ⟨(some 8), .mv (.t 16), none⟩]
def l17_0 : SC := (.seq (.reg r17_3) (.seq (.cond (.t 9) .skip (.exit 0)) (.seq (.block 1 (.seq (.reg r17_4) (.reg r17_5))) (.reg r17_6))))
def r17_7 : List SOper := [
  ⟨(some 17), .mv (.t 3), none⟩,
  ⟨(some 2), .mv (.t 17), none⟩]
def c17 : SC := (.seq (.reg r17_0) (.seq (.reg r17_1) (.seq (.seq (.reg r17_2) (.block 0 (.loop l17_0))) (.seq (.reg r17_7) .ret))))
/-- limner/cover.Area -/
def F17 : SFun := ⟨18, c17, [.tmp 2], none⟩

def r18_0 : List SOper := [
  ⟨(some 1), .box (.t 0), none⟩,
  ⟨(some 2), .alloc [.sc (.int .i64 0), .sc (.int .i64 0), .sc (.int .i64 0), .sc (.int .i64 0)], none⟩]
def r18_1 : List SOper := [
  ⟨(some 3), .loadA 4 (.t 1), none⟩,
  ⟨(some 4), .call (.z 0) 33 [(.t 3)], none⟩,
  ⟨(some 5), .mv (.t 4), none⟩,
  ⟨(some 6), .fadr 0 (.t 1), (some (some 5, false))⟩,
  ⟨(some 7), .load1 (.t 6), (some (some 5, false))⟩,
  ⟨(some 8), .call (.z 0) 34 [(.t 7)], (some (some 5, false))⟩,
  ⟨(some 9), .un .not (.t 8), (some (some 5, false))⟩,
  ⟨(some 10), .pick (.t 5) (.c (.one (.sc (.bool true)))) (.t 9), none⟩,
  ⟨(some 11), .mv (.t 10), none⟩,
  ⟨(some 12), .fadr 1 (.t 1), (some (some 11, false))⟩,
  ⟨(some 13), .load1 (.t 12), (some (some 11, false))⟩,
  ⟨(some 14), .call (.z 0) 34 [(.t 13)], (some (some 11, false))⟩,
  ⟨(some 15), .un .not (.t 14), (some (some 11, false))⟩,
  ⟨(some 16), .pick (.t 11) (.c (.one (.sc (.bool true)))) (.t 15), none⟩,
  ⟨(some 17), .mv (.t 16), none⟩,
  ⟨(some 18), .fadr 2 (.t 1), (some (some 17, false))⟩,
  ⟨(some 19), .load1 (.t 18), (some (some 17, false))⟩,
  ⟨(some 20), .call (.z 0) 34 [(.t 19)], (some (some 17, false))⟩,
  ⟨(some 21), .un .not (.t 20), (some (some 17, false))⟩,
  ⟨(some 22), .pick (.t 17) (.c (.one (.sc (.bool true)))) (.t 21), none⟩,
  ⟨(some 23), .mv (.t 22), none⟩,
  ⟨(some 24), .fadr 3 (.t 1), (some (some 23, false))⟩,
  ⟨(some 25), .load1 (.t 24), (some (some 23, false))⟩,
  ⟨(some 26), .call (.z 0) 34 [(.t 25)], (some (some 23, false))⟩,
  ⟨(some 27), .un .not (.t 26), (some (some 23, false))⟩,
  ⟨(some 28), .pick (.t 23) (.c (.one (.sc (.bool true)))) (.t 27), none⟩]
def r18_2 : List SOper := [
  ⟨(some 29), .build [.sc (.int .i64 0), .sc (.int .i64 0), .sc (.int .i64 0), .sc (.int .i64 0)] [], none⟩,
  ⟨none, .store 4 (.t 2) (.t 29), none⟩]
def r18_3 : List SOper := [
  ⟨(some 30), .fadr 0 (.t 1), none⟩,
  ⟨(some 31), .load1 (.t 30), none⟩,
  ⟨(some 32), .call (.z 0) 35 [(.t 31)], none⟩,
  ⟨(some 33), .fadr 1 (.t 1), none⟩,
  ⟨(some 34), .load1 (.t 33), none⟩,
  ⟨(some 35), .call (.z 0) 35 [(.t 34)], none⟩,
  ⟨(some 36), .fadr 2 (.t 1), none⟩,
  ⟨(some 37), .load1 (.t 36), none⟩,
  ⟨(some 38), .call (.z 0) 36 [(.t 37)], none⟩,
  ⟨(some 39), .fadr 3 (.t 1), none⟩,
  ⟨(some 40), .load1 (.t 39), none⟩,
  ⟨(some 41), .call (.z 0) 36 [(.t 40)], none⟩,
  ⟨(some 42), .build [.sc (.int .i64 0), .sc (.int .i64 0), .sc (.int .i64 0), .sc (.int .i64 0)] [(0, 1, (.t 32)), (1, 1, (.t 35)), (2, 1, (.t 38)), (3, 1, (.t 41))], none⟩,
  ⟨none, .store 4 (.t 2) (.t 42), none⟩]
def c18 : SC := (.seq (.reg r18_0) (.seq (.seq (.reg r18_1) (.cond (.t 28) (.seq (.reg r18_2) .ret) .skip)) (.seq (.reg r18_3) .ret)))
/-- limner/cover.Pixels -/
def F18 : SFun := ⟨43, c18, [.cellA 2 4], none⟩

def r19_0 : List SOper := [
  ⟨(some 2), .alloc [.sc (.int .i64 0), .sc (.int .i64 0), .sc (.int .i64 0), .sc (.int .i64 0)], none⟩]
def r19_1 : List SOper := [
  ⟨(some 3), .alloc [.sc (.int .i64 0), .sc (.int .i64 0), .sc (.int .i64 0), .sc (.int .i64 0)], none⟩]
def r19_2 : List SOper := [
  ⟨(some 6), .mv (.t 0), none⟩,
  ⟨(some 7), .len (.t 6), none⟩,
  ⟨(some 8), .mv (.c (.one (.sc (.int .i64 0)))), none⟩]
def r19_3 : List SOper := [
  ⟨(some 9), .bin .lss (.t 8) (.t 7), none⟩]
def r19_4 : List SOper := [
  ⟨(some 10), .iadrS 2 (.t 6) (.t 8), none⟩,
  ⟨(some 11), .loadA 2 (.t 10), none⟩,
  ⟨(some 5), .alloc [.sc (.int .i64 0), .sc (.int .i64 0)], none⟩,
  ⟨none, .store 2 (.t 5) (.t 11), none⟩]
def r19_5 : List SOper := [
  ⟨(some 12), .loadA 4 (.t 3), none⟩,
  ⟨(some 13), .fadr 0 (.t 5), none⟩,
  ⟨(some 14), .load1 (.t 13), none⟩,
  ⟨(some 15), .fadr 1 (.t 5), none⟩,
  ⟨(some 16), .load1 (.t 15), none⟩,
  ⟨(some 17), .fadr 0 (.t 5), none⟩,
  ⟨(some 18), .load1 (.t 17), none⟩,
  ⟨(some 19), .bin .add (.t 18) (.c (.one (.sc (.int .i64 1)))), none⟩,
  ⟨(some 20), .fadr 1 (.t 5), none⟩,
  ⟨(some 21), .load1 (.t 20), none⟩,
  ⟨(some 22), .bin .add (.t 21) (.c (.one (.sc (.int .i64 1)))), none⟩,
  ⟨(some 23), .build [.sc (.int .i64 0), .sc (.int .i64 0), .sc (.int .i64 0), .sc (.int .i64 0)] [(0, 1, (.t 14)), (1, 1, (.t 16)), (2, 1, (.t 19)), (3, 1, (.t 22))], none⟩,
  ⟨(some 24), .call (.z 0) 37 [(.t 12), (.t 23)], none⟩,
  ⟨none, .store 4 (.t 3) (.t 24), none⟩]
def r19_6 : List SOper := [
  ⟨(some 25), .bin .add (.t 8) (.c (.one (.sc (.int .i64 1)))), none⟩,
  ⟨(some 8), .mv (.t 25), none⟩]
def l19_0 : SC := (.seq (.reg r19_3) (.seq (.cond (.t 9) .skip (.exit 0)) (.seq (.block 1 (.seq (.reg r19_4) (.reg r19_5))) (.reg r19_6))))
def r19_7 : List SOper := [
  ⟨(some 26), .loadA 4 (.t 3), none⟩,
  ⟨none, .store 4 (.t 2) (.t 26), none⟩]
def c19 : SC := (.seq (.reg r19_0) (.seq (.reg r19_1) (.seq (.seq (.reg r19_2) (.block 0 (.loop l19_0))) (.seq (.reg r19_7) .ret))))
/-- limner/geom.Bound -/
def F19 : SFun := ⟨27, c19, [.cellA 2 4], none⟩

def r20_0 : List SOper := [
  ⟨(some 2), .box (.t 0), none⟩,
  ⟨(some 3), .box (.t 1), none⟩,
  ⟨(some 4), .mv (.c (.one (.sc (.bool false)))), none⟩]
def r20_1 : List SOper := [
  ⟨(some 5), .fadr 0 (.t 2), none⟩,
  ⟨(some 6), .load1 (.t 5), none⟩,
  ⟨(some 7), .fadr 0 (.t 3), none⟩,
  ⟨(some 8), .load1 (.t 7), none⟩,
  ⟨(some 9), .bin .leq (.t 6) (.t 8), none⟩,
  ⟨(some 10), .mv (.t 9), none⟩,
  ⟨(some 11), .fadr 0 (.t 3), (some (some 10, true))⟩,
  ⟨(some 12), .load1 (.t 11), (some (some 10, true))⟩,
  ⟨(some 13), .fadr 2 (.t 2), (some (some 10, true))⟩,
  ⟨(some 14), .load1 (.t 13), (some (some 10, true))⟩,
  ⟨(some 15), .bin .lss (.t 12) (.t 14), (some (some 10, true))⟩,
  ⟨(some 16), .pick (.t 10) (.t 15) (.c (.one (.sc (.bool false)))), none⟩,
  ⟨(some 17), .mv (.t 16), none⟩,
  ⟨(some 18), .fadr 1 (.t 2), (some (some 17, true))⟩,
  ⟨(some 19), .load1 (.t 18), (some (some 17, true))⟩,
  ⟨(some 20), .fadr 1 (.t 3), (some (some 17, true))⟩,
  ⟨(some 21), .load1 (.t 20), (some (some 17, true))⟩,
  ⟨(some 22), .bin .leq (.t 19) (.t 21), (some (some 17, true))⟩,
  ⟨(some 23), .pick (.t 17) (.t 22) (.c (.one (.sc (.bool false)))), none⟩,
  ⟨(some 24), .mv (.t 23), none⟩,
  ⟨(some 25), .fadr 1 (.t 3), (some (some 24, true))⟩,
  ⟨(some 26), .load1 (.t 25), (some (some 24, true))⟩,
  ⟨(some 27), .fadr 3 (.t 2), (some (some 24, true))⟩,
  ⟨(some 28), .load1 (.t 27), (some (some 24, true))⟩,
  ⟨(some 29), .bin .lss (.t 26) (.t 28), (some (some 24, true))⟩,
  ⟨(some 30), .pick (.t 24) (.t 29) (.c (.one (.sc (.bool false)))), none⟩,
  ⟨(some 4), .mv (.t 30), none⟩]
def c20 : SC := (.seq (.reg r20_0) (.seq (.reg r20_1) .ret))
/-- (limner/geom.Box).Has -/
def F20 : SFun := ⟨31, c20, [.tmp 4], none⟩

def r21_0 : List SOper := [
  ⟨(some 4), .mv (.c (.one (.sc (.int .i64 0)))), none⟩]
def r21_1 : List SOper := [
  ⟨(some 6), .mv (.t 0), none⟩,
  ⟨(some 7), .mv (.t 1), none⟩,
  ⟨(some 8), .bin .quo (.t 6) (.t 7), none⟩,
  ⟨(some 5), .mv (.t 8), none⟩]
def r21_2 : List SOper := [
  ⟨(some 9), .mv (.t 5), none⟩,
  ⟨(some 10), .mv (.t 1), none⟩,
  ⟨(some 11), .bin .mul (.t 9) (.t 10), none⟩,
  ⟨(some 12), .mv (.t 0), none⟩,
  ⟨(some 13), .bin .gtr (.t 11) (.t 12), none⟩]
def r21_3 : List SOper := [
  ⟨(some 14), .mv (.t 5), none⟩,
  ⟨(some 15), .bin .sub (.t 14) (.c (.one (.sc (.int .i64 1)))), none⟩,
  ⟨(some 5), .mv (.t 15), none⟩]
def r21_4 : List SOper := [
  ⟨(some 16), .mv (.t 5), none⟩,
  ⟨(some 4), .mv (.t 16), none⟩]
def c21 : SC := (.seq (.reg r21_0) (.seq (.reg r21_1) (.seq (.seq (.reg r21_2) (.cond (.t 13) (.reg r21_3) .skip)) (.seq (.reg r21_4) .ret))))
/-- limner/limnerref01.Below -/
def F21 : SFun := ⟨17, c21, [.tmp 4], none⟩

def r22_0 : List SOper := [
  ⟨(some 2), .mv (.c (.one (.sc (.bool false)))), none⟩]
def r22_1 : List SOper := [
  ⟨(some 3), .mv (.t 0), none⟩,
  ⟨(some 4), .bin .geq (.t 3) (.c (.one (.sc (.int .i64 (-2147483648))))), none⟩,
  ⟨(some 5), .mv (.t 4), none⟩,
  ⟨(some 6), .mv (.t 0), (some (some 5, true))⟩,
  ⟨(some 7), .bin .leq (.t 6) (.c (.one (.sc (.int .i64 2147483648)))), (some (some 5, true))⟩,
  ⟨(some 8), .pick (.t 5) (.t 7) (.c (.one (.sc (.bool false)))), none⟩,
  ⟨(some 2), .mv (.t 8), none⟩]
def c22 : SC := (.seq (.reg r22_0) (.seq (.reg r22_1) .ret))
/-- limner/limnerref01.In -/
def F22 : SFun := ⟨9, c22, [.tmp 2], none⟩

def r23_0 : List SOper := [
  ⟨(some 5), .box (.t 2), none⟩,
  ⟨(some 6), .mv (.c (.one (.sc (.bool false)))), none⟩]
def r23_1 : List SOper := [
  ⟨(some 7), .mv (.c (.one (.sc (.int .i64 0)))), none⟩]
def r23_2 : List SOper := [
  ⟨(some 10), .mv (.t 0), none⟩,
  ⟨(some 11), .len (.t 10), none⟩,
  ⟨(some 12), .mv (.c (.one (.sc (.int .i64 0)))), none⟩]
def r23_3 : List SOper := [
  ⟨(some 13), .bin .lss (.t 12) (.t 11), none⟩]
def r23_4 : List SOper := [
  ⟨(some 14), .iadrS 1 (.t 10) (.t 12), none⟩,
  ⟨(some 15), .load1 (.t 14), none⟩,
  ⟨(some 9), .mv (.t 15), none⟩]
def r23_5 : List SOper := [
  ⟨(some 16), .mv (.t 7), none⟩,
  ⟨(some 17), .mv (.t 9), none⟩,
  ⟨(some 18), .loadA 2 (.t 5), none⟩,
  ⟨(some 19), .call .q 38 [(.t 17), (.t 18)], none⟩,
  ⟨(some 20), .bin .add (.t 16) (.t 19), none⟩,
  ⟨(some 7), .mv (.t 20), none⟩]
def r23_6 : List SOper := [
  ⟨(some 21), .bin .add (.t 12) (.c (.one (.sc (.int .i64 1)))), none⟩,
  ⟨(some 12), .mv (.t 21), none⟩]
def l23_0 : SC := (.seq (.reg r23_3) (.seq (.cond (.t 13) .skip (.exit 0)) (.seq (.block 1 (.seq (.reg r23_4) (.reg r23_5))) (.reg r23_6))))
def r23_7 : List SOper := [
  ⟨(some 22), .mv (.t 1), none⟩,
  ⟨(some 23), .mv (.t 7), none⟩,
  ⟨(some 24), .call (.z 0) 32 [(.t 22), (.t 23)], none⟩,
  ⟨(some 6), .mv (.t 24), none⟩]
def c23 : SC := (.seq (.reg r23_0) (.seq (.reg r23_1) (.seq (.seq (.reg r23_2) (.block 0 (.loop l23_0))) (.seq (.reg r23_7) .ret))))
/-- limner/cover.Inside -/
def F23 : SFun := ⟨25, c23, [.tmp 6], none⟩

def r24_0 : List SOper := [
  ⟨(some 5), .box (.t 2), none⟩,
  ⟨(some 6), .mv (.c (.one (.sc (.bool false)))), none⟩]
def r24_1 : List SOper := [
  ⟨(some 7), .mv (.c (.one (.sc (.int .i64 0)))), none⟩]
def r24_2 : List SOper := [
  ⟨(some 8), .mv (.c (.one (.sc (.int .i64 0)))), none⟩]
def r24_3 : List SOper := [
  ⟨(some 9), .mv (.t 8), none⟩,
  ⟨(some 10), .mv (.t 0), none⟩,
  ⟨(some 11), .len (.t 10), none⟩,
  ⟨(some 12), .bin .lss (.t 9) (.t 11), none⟩]
def r24_5 : List SOper := [
  ⟨(some 15), .mv (.t 7), none⟩,
  ⟨(some 16), .mv (.t 0), none⟩,
  ⟨(some 17), .mv (.t 8), none⟩,
  ⟨(some 18), .iadrS 1 (.t 16) (.t 17), none⟩,
  ⟨(some 19), .load1 (.t 18), none⟩,
  ⟨(some 20), .loadA 2 (.t 5), none⟩,
  ⟨(some 21), .call .q 39 [(.t 19), (.t 20)], none⟩,
  ⟨(some 22), .bin .add (.t 15) (.t 21), none⟩,
  ⟨(some 7), .mv (.t 22), none⟩]
def r24_4 : List SOper := [
  ⟨(some 13), .mv (.t 8), none⟩,
  ⟨(some 14), .bin .add (.t 13) (.c (.one (.sc (.int .i64 1)))), none⟩,
  ⟨(some 8), .mv (.t 14), none⟩]
def l24_0 : SC := (.seq (.seq (.reg r24_3) (.cond (.t 12) .skip (.exit 0))) (.seq (.block 1 (.reg r24_5)) (.reg r24_4)))
def r24_6 : List SOper := [
  ⟨(some 23), .mv (.t 1), none⟩,
  ⟨(some 24), .bin .eql (.t 23) (.c (.one (.sc (.int .i64 1)))), none⟩]
def r24_7 : List SOper := [
  ⟨(some 25), .mv (.t 7), none⟩,
  ⟨(some 26), .bin .neq (.t 25) (.c (.one (.sc (.int .i64 0)))), none⟩,
  ⟨(some 6), .mv (.t 26), none⟩]
def r24_8 : List SOper := [
  ⟨(some 27), .mv (.t 1), none⟩,
  ⟨(some 28), .bin .eql (.t 27) (.c (.one (.sc (.int .i64 2)))), none⟩,
  ⟨(some 29), .mv (.t 28), none⟩,
  ⟨(some 30), .mv (.t 7), (some (some 29, true))⟩,
  ⟨(some 31), .bin .rem (.t 30) (.c (.one (.sc (.int .i64 2)))), (some (some 29, true))⟩,
  ⟨(some 32), .bin .neq (.t 31) (.c (.one (.sc (.int .i64 0)))), (some (some 29, true))⟩,
  ⟨(some 33), .pick (.t 29) (.t 32) (.c (.one (.sc (.bool false)))), none⟩,
  ⟨(some 6), .mv (.t 33), none⟩]
def c24 : SC := (.seq (.reg r24_0) (.seq (.reg r24_1) (.seq (.seq (.reg r24_2) (.block 0 (.loop l24_0))) (.seq (.seq (.reg r24_6) (.cond (.t 24) (.seq (.reg r24_7) .ret) .skip)) (.seq (.reg r24_8) .ret)))))
/-- limner/limnerref08.Inside -/
def F24 : SFun := ⟨34, c24, [.tmp 6], none⟩

def r25_0 : List SOper := [
  ⟨(some 2), .mv (.c (.one (.sc (.bool false)))), none⟩]
def r25_1 : List SOper := [
  ⟨(some 3), .mv (.t 0), none⟩,
  ⟨(some 4), .call .q 26 [(.t 3), (.f 27)], none⟩,
  ⟨(some 2), .mv (.t 4), none⟩]
def c25 : SC := (.seq (.reg r25_0) (.seq (.reg r25_1) .ret))
/-- limner/cover.Mask$1 -/
def F25 : SFun := ⟨5, c25, [.tmp 2], none⟩

def r26_0 : List SOper := [
  ⟨(some 4), .mv (.c (.one (.sc (.bool false)))), none⟩]
def r26_1 : List SOper := [
  ⟨(some 5), .mv (.t 0), none⟩,
  ⟨(some 6), .mv (.t 1), none⟩,
  ⟨(some 7), .call .q 40 [(.t 5), (.t 6)], none⟩,
  ⟨(some 8), .bin .geq (.t 7) (.c (.one (.sc (.int .i64 0)))), none⟩,
  ⟨(some 4), .mv (.t 8), none⟩]
def c26 : SC := (.seq (.reg r26_0) (.seq (.reg r26_1) .ret))
/-- slices.ContainsFunc[[]limner/geom.Point,limner/geom.Point] -/
def F26 : SFun := ⟨9, c26, [.tmp 4], none⟩

def r27_0 : List SOper := [
  ⟨(some 1), .box (.t 0), none⟩,
  ⟨(some 2), .mv (.c (.one (.sc (.bool false)))), none⟩]
def r27_1 : List SOper := [
  ⟨(some 3), .loadA 2 (.t 1), none⟩,
  ⟨(some 4), .call (.z 0) 28 [(.t 3)], none⟩,
  ⟨(some 5), .un .not (.t 4), none⟩,
  ⟨(some 2), .mv (.t 5), none⟩]
def c27 : SC := (.seq (.reg r27_0) (.seq (.reg r27_1) .ret))
/-- limner/cover.Mask$1$1 -/
def F27 : SFun := ⟨6, c27, [.tmp 2], none⟩

def r28_0 : List SOper := [
  ⟨(some 1), .box (.t 0), none⟩,
  ⟨(some 2), .mv (.c (.one (.sc (.bool false)))), none⟩]
def r28_1 : List SOper := [
  ⟨(some 3), .fadr 0 (.t 1), none⟩,
  ⟨(some 4), .load1 (.t 3), none⟩,
  ⟨(some 5), .call (.z 0) 34 [(.t 4)], none⟩,
  ⟨(some 6), .mv (.t 5), none⟩,
  ⟨(some 7), .fadr 1 (.t 1), (some (some 6, true))⟩,
  ⟨(some 8), .load1 (.t 7), (some (some 6, true))⟩,
  ⟨(some 9), .call (.z 0) 34 [(.t 8)], (some (some 6, true))⟩,
  ⟨(some 10), .pick (.t 6) (.t 9) (.c (.one (.sc (.bool false)))), none⟩,
  ⟨(some 2), .mv (.t 10), none⟩]
def c28 : SC := (.seq (.reg r28_0) (.seq (.reg r28_1) .ret))
/-- (limner/geom.Point).In -/
def F28 : SFun := ⟨11, c28, [.tmp 2], none⟩

def r29_0 : List SOper := [
  ⟨(some 1), .box (.t 0), none⟩,
  ⟨(some 2), .mv (.c (.one (.sc (.bool false)))), none⟩]
def r29_1 : List SOper := [
  ⟨(some 3), .loadA 4 (.t 1), none⟩,
  ⟨(some 4), .call (.z 0) 33 [(.t 3)], none⟩,
  ⟨(some 5), .un .not (.t 4), none⟩,
  ⟨(some 6), .mv (.t 5), none⟩,
  ⟨(some 7), .fadr 0 (.t 1), (some (some 6, true))⟩,
  ⟨(some 8), .load1 (.t 7), (some (some 6, true))⟩,
  ⟨(some 9), .fadr 1 (.t 1), (some (some 6, true))⟩,
  ⟨(some 10), .load1 (.t 9), (some (some 6, true))⟩,
  ⟨(some 11), .mn [(.t 8), (.t 10)], (some (some 6, true))⟩,
  ⟨(some 12), .bin .geq (.t 11) (.c (.one (.sc (.int .i64 (-4194304))))), (some (some 6, true))⟩,
  ⟨(some 13), .pick (.t 6) (.t 12) (.c (.one (.sc (.bool false)))), none⟩,
  ⟨(some 14), .mv (.t 13), none⟩,
  ⟨(some 15), .fadr 2 (.t 1), (some (some 14, true))⟩,
  ⟨(some 16), .load1 (.t 15), (some (some 14, true))⟩,
  ⟨(some 17), .fadr 3 (.t 1), (some (some 14, true))⟩,
  ⟨(some 18), .load1 (.t 17), (some (some 14, true))⟩,
  ⟨(some 19), .mx [(.t 16), (.t 18)], (some (some 14, true))⟩,
  ⟨(some 20), .bin .leq (.t 19) (.c (.one (.sc (.int .i64 4194304)))), (some (some 14, true))⟩,
  ⟨(some 21), .pick (.t 14) (.t 20) (.c (.one (.sc (.bool false)))), none⟩,
  ⟨(some 22), .mv (.t 21), none⟩,
  ⟨(some 23), .fadr 2 (.t 1), (some (some 22, true))⟩,
  ⟨(some 24), .load1 (.t 23), (some (some 22, true))⟩,
  ⟨(some 25), .fadr 0 (.t 1), (some (some 22, true))⟩,
  ⟨(some 26), .load1 (.t 25), (some (some 22, true))⟩,
  ⟨(some 27), .bin .sub (.t 24) (.t 26), (some (some 22, true))⟩,
  ⟨(some 28), .bin .leq (.t 27) (.c (.one (.sc (.int .i64 256)))), (some (some 22, true))⟩,
  ⟨(some 29), .pick (.t 22) (.t 28) (.c (.one (.sc (.bool false)))), none⟩,
  ⟨(some 30), .mv (.t 29), none⟩,
  ⟨(some 31), .fadr 3 (.t 1), (some (some 30, true))⟩,
  ⟨(some 32), .load1 (.t 31), (some (some 30, true))⟩,
  ⟨(some 33), .fadr 1 (.t 1), (some (some 30, true))⟩,
  ⟨(some 34), .load1 (.t 33), (some (some 30, true))⟩,
  ⟨(some 35), .bin .sub (.t 32) (.t 34), (some (some 30, true))⟩,
  ⟨(some 36), .bin .leq (.t 35) (.c (.one (.sc (.int .i64 256)))), (some (some 30, true))⟩,
  ⟨(some 37), .pick (.t 30) (.t 36) (.c (.one (.sc (.bool false)))), none⟩,
  ⟨(some 2), .mv (.t 37), none⟩]
def c29 : SC := (.seq (.reg r29_0) (.seq (.reg r29_1) .ret))
/-- limner/cover.right -/
def F29 : SFun := ⟨38, c29, [.tmp 2], none⟩

def r30_0 : List SOper := [
  ⟨(some 4), .mv (.c (.one (.sc (.bool false)))), none⟩]
def r30_1 : List SOper := [
  ⟨(some 5), .mv (.t 0), none⟩,
  ⟨(some 6), .mv (.t 1), none⟩,
  ⟨(some 7), .call .q 41 [(.t 5), (.t 6)], none⟩,
  ⟨(some 8), .bin .geq (.t 7) (.c (.one (.sc (.int .i64 0)))), none⟩,
  ⟨(some 4), .mv (.t 8), none⟩]
def c30 : SC := (.seq (.reg r30_0) (.seq (.reg r30_1) .ret))
/-- slices.ContainsFunc[[][]limner/geom.Point,[]limner/geom.Point] -/
def F30 : SFun := ⟨9, c30, [.tmp 4], none⟩

def r31_0 : List SOper := [
  ⟨(some 4), .mv (.c (.one (.sc (.slice none 0 0)))), none⟩]
def r31_1 : List SOper := [
  ⟨(some 5), .mv (.c (.one (.sc (.slice none 0 0)))), none⟩]
def r31_2 : List SOper := [
  ⟨(some 13), .mv (.t 0), none⟩,
  ⟨(some 14), .len (.t 13), none⟩,
  ⟨(some 15), .mv (.c (.one (.sc (.int .i64 0)))), none⟩]
def r31_3 : List SOper := [
  ⟨(some 16), .bin .lss (.t 15) (.t 14), none⟩]
def r31_4 : List SOper := [
  ⟨(some 17), .iadrS 1 (.t 13) (.t 15), none⟩,
  ⟨(some 18), .load1 (.t 17), none⟩,
  ⟨(some 7), .mv (.t 18), none⟩]
def r31_5 : List SOper := [
  ⟨(some 19), .mv (.t 7), none⟩,
  ⟨(some 20), .len (.t 19), none⟩,
  ⟨(some 21), .mv (.c (.one (.sc (.int .i64 0)))), none⟩]
def r31_6 : List SOper := [
  ⟨(some 22), .bin .lss (.t 21) (.t 20), none⟩]
def r31_7 : List SOper := [
  ⟨(some 23), .mv (.t 21), none⟩,
  ⟨(some 24), .iadrS 2 (.t 19) (.t 21), none⟩,
  ⟨(some 25), .loadA 2 (.t 24), none⟩,
  ⟨(some 9), .alloc [.sc (.int .i64 0), .sc (.int .i64 0)], none⟩,
  ⟨(some 8), .mv (.t 23), none⟩,
  ⟨none, .store 2 (.t 9) (.t 25), none⟩]
def r31_8 : List SOper := [
  ⟨(some 26), .mv (.t 7), none⟩,
  ⟨(some 27), .mv (.t 7), none⟩,
  ⟨(some 28), .len (.t 27), none⟩,
  ⟨(some 29), .bin .sub (.t 28) (.c (.one (.sc (.int .i64 1)))), none⟩,
  ⟨(some 30), .iadrS 2 (.t 26) (.t 29), none⟩,
  ⟨(some 31), .loadA 2 (.t 30), none⟩,
  ⟨(some 10), .alloc [.sc (.int .i64 0), .sc (.int .i64 0)], none⟩,
  ⟨none, .store 2 (.t 10) (.t 31), none⟩]
def r31_9 : List SOper := [
  ⟨(some 32), .mv (.t 8), none⟩,
  ⟨(some 33), .bin .gtr (.t 32) (.c (.one (.sc (.int .i64 0)))), none⟩]
def r31_10 : List SOper := [
  ⟨(some 34), .mv (.t 7), none⟩,
  ⟨(some 35), .mv (.t 8), none⟩,
  ⟨(some 36), .bin .sub (.t 35) (.c (.one (.sc (.int .i64 1)))), none⟩,
  ⟨(some 37), .iadrS 2 (.t 34) (.t 36), none⟩,
  ⟨(some 38), .loadA 2 (.t 37), none⟩,
  ⟨none, .store 2 (.t 10) (.t 38), none⟩]
def r31_11 : List SOper := [
  ⟨(some 40), .loadA 2 (.t 10), none⟩,
  ⟨(some 41), .loadA 2 (.t 9), none⟩,
  ⟨(some 42), .mv (.t 1), none⟩,
  ⟨(some 43), .call (.z 0) 42 [(.t 40), (.t 41), (.t 42)], none⟩,
  ⟨(some 39), .mv (.t 43), none⟩,
  ⟨(some 44), .ext (.t 39) 0, none⟩,
  ⟨(some 45), .ext (.t 39) 1, none⟩,
  ⟨(some 11), .alloc [.sc (.int .i64 0), .sc (.int .i64 0)], none⟩,
  ⟨none, .store 2 (.t 11) (.t 44), none⟩,
  ⟨(some 12), .mv (.t 45), none⟩]
def r31_12 : List SOper := [
  ⟨(some 46), .mv (.t 12), none⟩]
def r31_13 : List SOper := [
  ⟨(some 47), .mv (.t 5), none⟩,
  ⟨(some 48), .loadA 2 (.t 11), none⟩,
  ⟨(some 49), .bslice [.sc (.int .i64 0), .sc (.int .i64 0)] 1 2 [(0, 2, (.t 48))], none⟩,
  ⟨(some 50), .app 2 16 (.t 47) (.t 49), none⟩,
  ⟨(some 5), .mv (.t 50), none⟩]
def r31_14 : List SOper := [
  ⟨(some 51), .bin .add (.t 21) (.c (.one (.sc (.int .i64 1)))), none⟩,
  ⟨(some 21), .mv (.t 51), none⟩]
def l31_0 : SC := (.seq (.reg r31_6) (.seq (.cond (.t 22) .skip (.exit 2)) (.seq (.block 3 (.seq (.reg r31_7) (.seq (.reg r31_8) (.seq (.seq (.reg r31_9) (.cond (.t 33) (.reg r31_10) .skip)) (.seq (.reg r31_11) (.seq (.reg r31_12) (.cond (.t 46) (.reg r31_13) .skip))))))) (.reg r31_14))))
def r31_15 : List SOper := [
  ⟨(some 52), .bin .add (.t 15) (.c (.one (.sc (.int .i64 1)))), none⟩,
  ⟨(some 15), .mv (.t 52), none⟩]
def l31_1 : SC := (.seq (.reg r31_3) (.seq (.cond (.t 16) .skip (.exit 0)) (.seq (.block 1 (.seq (.reg r31_4) (.seq (.reg r31_5) (.block 2 (.loop l31_0))))) (.reg r31_15))))
def r31_16 : List SOper := [
  ⟨(some 53), .mv (.t 5), none⟩,
  ⟨(some 54), .call .w 43 [(.t 53), (.f 44)], none⟩]
def r31_17 : List SOper := [
  ⟨(some 55), .mv (.t 5), none⟩,
  ⟨(some 4), .mv (.t 55), none⟩]
def c31 : SC := (.seq (.reg r31_0) (.seq (.reg r31_1) (.seq (.seq (.reg r31_2) (.block 0 (.loop l31_1))) (.seq (.reg r31_16) (.seq (.reg r31_17) .ret)))))
/-- limner/cover.row -/
def F31 : SFun := ⟨56, c31, [.tmp 4], none⟩

def r32_0 : List SOper := [
  ⟨(some 4), .mv (.c (.one (.sc (.bool false)))), none⟩]
def r32_1 : List SOper := [
  ⟨(some 5), .mv (.t 0), none⟩,
  ⟨(some 6), .bin .eql (.t 5) (.c (.one (.sc (.int .i64 1)))), none⟩,
  ⟨(some 7), .mv (.t 6), none⟩,
  ⟨(some 8), .mv (.t 1), (some (some 7, true))⟩,
  ⟨(some 9), .bin .neq (.t 8) (.c (.one (.sc (.int .i64 0)))), (some (some 7, true))⟩,
  ⟨(some 10), .pick (.t 7) (.t 9) (.c (.one (.sc (.bool false)))), none⟩,
  ⟨(some 11), .mv (.t 10), none⟩,
  ⟨(some 12), .mv (.t 0), (some (some 11, false))⟩,
  ⟨(some 13), .bin .eql (.t 12) (.c (.one (.sc (.int .i64 2)))), (some (some 11, false))⟩,
  ⟨(some 14), .mv (.t 13), (some (some 11, false))⟩,
  ⟨(some 15), .mv (.t 1), (some (some 14, true))⟩,
  ⟨(some 16), .bin .and (.t 15) (.c (.one (.sc (.int .i64 1)))), (some (some 14, true))⟩,
  ⟨(some 17), .bin .eql (.t 16) (.c (.one (.sc (.int .i64 1)))), (some (some 14, true))⟩,
  ⟨(some 18), .pick (.t 14) (.t 17) (.c (.one (.sc (.bool false)))), (some (some 11, false))⟩,
  ⟨(some 19), .pick (.t 11) (.c (.one (.sc (.bool true)))) (.t 18), none⟩,
  ⟨(some 4), .mv (.t 19), none⟩]
def c32 : SC := (.seq (.reg r32_0) (.seq (.reg r32_1) .ret))
/-- limner/cover.in -/
def F32 : SFun := ⟨20, c32, [.tmp 4], none⟩

def r33_0 : List SOper := [
  ⟨(some 1), .box (.t 0), none⟩,
  ⟨(some 2), .mv (.c (.one (.sc (.bool false)))), none⟩]
def r33_1 : List SOper := [
  ⟨(some 3), .fadr 0 (.t 1), none⟩,
  ⟨(some 4), .load1 (.t 3), none⟩,
  ⟨(some 5), .fadr 2 (.t 1), none⟩,
  ⟨(some 6), .load1 (.t 5), none⟩,
  ⟨(some 7), .bin .geq (.t 4) (.t 6), none⟩,
  ⟨(some 8), .mv (.t 7), none⟩,
  ⟨(some 9), .fadr 1 (.t 1), (some (some 8, false))⟩,
  ⟨(some 10), .load1 (.t 9), (some (some 8, false))⟩,
  ⟨(some 11), .fadr 3 (.t 1), (some (some 8, false))⟩,
  ⟨(some 12), .load1 (.t 11), (some (some 8, false))⟩,
  ⟨(some 13), .bin .geq (.t 10) (.t 12), (some (some 8, false))⟩,
  ⟨(some 14), .pick (.t 8) (.c (.one (.sc (.bool true)))) (.t 13), none⟩,
  ⟨(some 2), .mv (.t 14), none⟩]
def c33 : SC := (.seq (.reg r33_0) (.seq (.reg r33_1) .ret))
/-- (limner/geom.Box).Empty -/
def F33 : SFun := ⟨15, c33, [.tmp 2], none⟩

def r34_0 : List SOper := [
  ⟨(some 2), .mv (.c (.one (.sc (.bool false)))), none⟩]
def r34_1 : List SOper := [
  ⟨(some 3), .mv (.t 0), none⟩,
  ⟨(some 4), .bin .geq (.t 3) (.c (.one (.sc (.int .i64 (-2147483648))))), none⟩,
  ⟨(some 5), .mv (.t 4), none⟩,
  ⟨(some 6), .mv (.t 0), (some (some 5, true))⟩,
  ⟨(some 7), .bin .leq (.t 6) (.c (.one (.sc (.int .i64 2147483648)))), (some (some 5, true))⟩,
  ⟨(some 8), .pick (.t 5) (.t 7) (.c (.one (.sc (.bool false)))), none⟩,
  ⟨(some 2), .mv (.t 8), none⟩]
def c34 : SC := (.seq (.reg r34_0) (.seq (.reg r34_1) .ret))
/-- limner/fixed.In -/
def F34 : SFun := ⟨9, c34, [.tmp 2], none⟩

def r35_0 : List SOper := [
  ⟨(some 2), .mv (.c (.one (.sc (.int .i64 0)))), none⟩]
def r35_1 : List SOper := [
  ⟨(some 3), .mv (.t 0), none⟩,
  ⟨(some 4), .bin .shr (.t 3) (.c (.one (.sc (.int .u64 8)))), none⟩,
  ⟨(some 2), .mv (.t 4), none⟩]
def c35 : SC := (.seq (.reg r35_0) (.seq (.reg r35_1) .ret))
/-- limner/fixed.Floor -/
def F35 : SFun := ⟨5, c35, [.tmp 2], none⟩

def r36_0 : List SOper := [
  ⟨(some 2), .mv (.c (.one (.sc (.int .i64 0)))), none⟩]
def r36_1 : List SOper := [
  ⟨(some 4), .mv (.t 0), none⟩,
  ⟨(some 5), .bin .shr (.t 4) (.c (.one (.sc (.int .u64 8)))), none⟩,
  ⟨(some 3), .mv (.t 5), none⟩]
def r36_2 : List SOper := [
  ⟨(some 6), .mv (.t 0), none⟩,
  ⟨(some 7), .bin .and (.t 6) (.c (.one (.sc (.int .i64 255)))), none⟩,
  ⟨(some 8), .bin .neq (.t 7) (.c (.one (.sc (.int .i64 0)))), none⟩]
def r36_3 : List SOper := [
  ⟨(some 9), .mv (.t 3), none⟩,
  ⟨(some 10), .bin .add (.t 9) (.c (.one (.sc (.int .i64 1)))), none⟩,
  ⟨(some 3), .mv (.t 10), none⟩]
def r36_4 : List SOper := [
  ⟨(some 11), .mv (.t 3), none⟩,
  ⟨(some 2), .mv (.t 11), none⟩]
def c36 : SC := (.seq (.reg r36_0) (.seq (.reg r36_1) (.seq (.seq (.reg r36_2) (.cond (.t 8) (.reg r36_3) .skip)) (.seq (.reg r36_4) .ret))))
/-- limner/fixed.Ceil -/
def F36 : SFun := ⟨12, c36, [.tmp 2], none⟩

def r37_0 : List SOper := [
  ⟨(some 2), .box (.t 0), none⟩,
  ⟨(some 3), .box (.t 1), none⟩,
  ⟨(some 4), .alloc [.sc (.int .i64 0), .sc (.int .i64 0), .sc (.int .i64 0), .sc (.int .i64 0)], none⟩]
def r37_1 : List SOper := [
  ⟨(some 6), .loadA 4 (.t 2), none⟩,
  ⟨(some 7), .call (.z 0) 33 [(.t 6)], none⟩,
  ⟨(some 8), .mv (.t 7), none⟩,
  ⟨(some 9), .loadA 4 (.t 3), (some (some 8, true))⟩,
  ⟨(some 10), .call (.z 0) 33 [(.t 9)], (some (some 8, true))⟩,
  ⟨(some 11), .pick (.t 8) (.t 10) (.c (.one (.sc (.bool false)))), none⟩,
  ⟨(some 5), .mv (.t 11), none⟩]
def r37_2 : List SOper := [
  ⟨(some 12), .build [.sc (.int .i64 0), .sc (.int .i64 0), .sc (.int .i64 0), .sc (.int .i64 0)] [], none⟩,
  ⟨none, .store 4 (.t 4) (.t 12), none⟩]
def r37_3 : List SOper := [
  ⟨(some 14), .loadA 4 (.t 2), none⟩,
  ⟨(some 15), .call (.z 0) 33 [(.t 14)], none⟩,
  ⟨(some 13), .mv (.t 15), none⟩]
def r37_4 : List SOper := [
  ⟨(some 16), .loadA 4 (.t 3), none⟩,
  ⟨none, .store 4 (.t 4) (.t 16), none⟩]
def r37_5 : List SOper := [
  ⟨(some 18), .loadA 4 (.t 3), none⟩,
  ⟨(some 19), .call (.z 0) 33 [(.t 18)], none⟩,
  ⟨(some 17), .mv (.t 19), none⟩]
def r37_6 : List SOper := [
  ⟨(some 20), .loadA 4 (.t 2), none⟩,
  ⟨none, .store 4 (.t 4) (.t 20), none⟩]
def r37_7 : List SOper := [
  ⟨(some 21), .fadr 0 (.t 2), none⟩,
  ⟨(some 22), .load1 (.t 21), none⟩,
  ⟨(some 23), .fadr 0 (.t 3), none⟩,
  ⟨(some 24), .load1 (.t 23), none⟩,
  ⟨(some 25), .mn [(.t 22), (.t 24)], none⟩,
  ⟨(some 26), .fadr 1 (.t 2), none⟩,
  ⟨(some 27), .load1 (.t 26), none⟩,
  ⟨(some 28), .fadr 1 (.t 3), none⟩,
  ⟨(some 29), .load1 (.t 28), none⟩,
  ⟨(some 30), .mn [(.t 27), (.t 29)], none⟩,
  ⟨(some 31), .fadr 2 (.t 2), none⟩,
  ⟨(some 32), .load1 (.t 31), none⟩,
  ⟨(some 33), .fadr 2 (.t 3), none⟩,
  ⟨(some 34), .load1 (.t 33), none⟩,
  ⟨(some 35), .mx [(.t 32), (.t 34)], none⟩,
  ⟨(some 36), .fadr 3 (.t 2), none⟩,
  ⟨(some 37), .load1 (.t 36), none⟩,
  ⟨(some 38), .fadr 3 (.t 3), none⟩,
  ⟨(some 39), .load1 (.t 38), none⟩,
  ⟨(some 40), .mx [(.t 37), (.t 39)], none⟩,
  ⟨(some 41), .build [.sc (.int .i64 0), .sc (.int .i64 0), .sc (.int .i64 0), .sc (.int .i64 0)] [(0, 1, (.t 25)), (1, 1, (.t 30)), (2, 1, (.t 35)), (3, 1, (.t 40))], none⟩,
  ⟨none, .store 4 (.t 4) (.t 41), none⟩]
def c37 : SC := (.seq (.reg r37_0) (.seq (.block 0 (.seq (.reg r37_1) (.cond (.t 5) (.seq (.reg r37_2) .ret) (.seq (.reg r37_3) (.cond (.t 13) (.seq (.reg r37_4) .ret) (.seq (.reg r37_5) (.cond (.t 17) (.seq (.reg r37_6) .ret) .skip))))))) (.seq (.reg r37_7) .ret)))
/-- (limner/geom.Box).Join -/
def F37 : SFun := ⟨42, c37, [.cellA 4 4], none⟩

def r38_0 : List SOper := [
  ⟨(some 3), .box (.t 1), none⟩,
  ⟨(some 4), .mv (.c (.one (.sc (.int .i64 0)))), none⟩]
def r38_1 : List SOper := [
  ⟨(some 5), .mv (.c (.one (.sc (.int .i64 0)))), none⟩]
def r38_2 : List SOper := [
  ⟨(some 9), .mv (.t 0), none⟩,
  ⟨(some 10), .len (.t 9), none⟩,
  ⟨(some 11), .mv (.c (.one (.sc (.int .i64 0)))), none⟩]
def r38_3 : List SOper := [
  ⟨(some 12), .bin .lss (.t 11) (.t 10), none⟩]
def r38_4 : List SOper := [
  ⟨(some 13), .mv (.t 11), none⟩,
  ⟨(some 14), .iadrS 2 (.t 9) (.t 11), none⟩,
  ⟨(some 15), .loadA 2 (.t 14), none⟩,
  ⟨(some 7), .alloc [.sc (.int .i64 0), .sc (.int .i64 0)], none⟩,
  ⟨(some 6), .mv (.t 13), none⟩,
  ⟨none, .store 2 (.t 7) (.t 15), none⟩]
def r38_5 : List SOper := [
  ⟨(some 16), .mv (.t 0), none⟩,
  ⟨(some 17), .mv (.t 6), none⟩,
  ⟨(some 18), .mv (.t 0), none⟩,
  ⟨(some 19), .len (.t 18), none⟩,
  ⟨(some 20), .bin .add (.t 17) (.t 19), none⟩,
  ⟨(some 21), .bin .sub (.t 20) (.c (.one (.sc (.int .i64 1)))), none⟩,
  ⟨(some 22), .mv (.t 0), none⟩,
  ⟨(some 23), .len (.t 22), none⟩,
  ⟨(some 24), .bin .rem (.t 21) (.t 23), none⟩,
  ⟨(some 25), .iadrS 2 (.t 16) (.t 24), none⟩,
  ⟨(some 26), .loadA 2 (.t 25), none⟩,
  ⟨(some 8), .alloc [.sc (.int .i64 0), .sc (.int .i64 0)], none⟩,
  ⟨none, .store 2 (.t 8) (.t 26), none⟩]
def r38_6 : List SOper := [
  ⟨(some 28), .fadr 1 (.t 8), none⟩,
  ⟨(some 29), .load1 (.t 28), none⟩,
  ⟨(some 30), .fadr 1 (.t 3), none⟩,
  ⟨(some 31), .load1 (.t 30), none⟩,
  ⟨(some 32), .bin .leq (.t 29) (.t 31), none⟩,
  ⟨(some 33), .mv (.t 32), none⟩,
  ⟨(some 34), .fadr 1 (.t 3), (some (some 33, true))⟩,
  ⟨(some 35), .load1 (.t 34), (some (some 33, true))⟩,
  ⟨(some 36), .fadr 1 (.t 7), (some (some 33, true))⟩,
  ⟨(some 37), .load1 (.t 36), (some (some 33, true))⟩,
  ⟨(some 38), .bin .lss (.t 35) (.t 37), (some (some 33, true))⟩,
  ⟨(some 39), .pick (.t 33) (.t 38) (.c (.one (.sc (.bool false)))), none⟩,
  ⟨(some 40), .mv (.t 39), none⟩,
  ⟨(some 41), .loadA 2 (.t 8), (some (some 40, true))⟩,
  ⟨(some 42), .loadA 2 (.t 7), (some (some 40, true))⟩,
  ⟨(some 43), .loadA 2 (.t 3), (some (some 40, true))⟩,
  ⟨(some 44), .call (.z 0) 46 [(.t 41), (.t 42), (.t 43)], (some (some 40, true))⟩,
  ⟨(some 45), .bin .gtr (.t 44) (.c (.one (.sc (.int .i64 0)))), (some (some 40, true))⟩,
  ⟨(some 46), .pick (.t 40) (.t 45) (.c (.one (.sc (.bool false)))), none⟩,
  ⟨(some 27), .mv (.t 46), none⟩]
def r38_7 : List SOper := [
  ⟨(some 47), .mv (.t 5), none⟩,
  ⟨(some 48), .bin .add (.t 47) (.c (.one (.sc (.int .i64 1)))), none⟩,
  ⟨(some 5), .mv (.t 48), none⟩]
def r38_8 : List SOper := [
  ⟨(some 50), .fadr 1 (.t 7), none⟩,
  ⟨(some 51), .load1 (.t 50), none⟩,
  ⟨(some 52), .fadr 1 (.t 3), none⟩,
  ⟨(some 53), .load1 (.t 52), none⟩,
  ⟨(some 54), .bin .leq (.t 51) (.t 53), none⟩,
  ⟨(some 55), .mv (.t 54), none⟩,
  ⟨(some 56), .fadr 1 (.t 3), (some (some 55, true))⟩,
  ⟨(some 57), .load1 (.t 56), (some (some 55, true))⟩,
  ⟨(some 58), .fadr 1 (.t 8), (some (some 55, true))⟩,
  ⟨(some 59), .load1 (.t 58), (some (some 55, true))⟩,
  ⟨(some 60), .bin .lss (.t 57) (.t 59), (some (some 55, true))⟩,
  ⟨(some 61), .pick (.t 55) (.t 60) (.c (.one (.sc (.bool false)))), none⟩,
  ⟨(some 62), .mv (.t 61), none⟩,
  ⟨(some 63), .loadA 2 (.t 8), (some (some 62, true))⟩,
  ⟨(some 64), .loadA 2 (.t 7), (some (some 62, true))⟩,
  ⟨(some 65), .loadA 2 (.t 3), (some (some 62, true))⟩,
  ⟨(some 66), .call (.z 0) 46 [(.t 63), (.t 64), (.t 65)], (some (some 62, true))⟩,
  ⟨(some 67), .bin .lss (.t 66) (.c (.one (.sc (.int .i64 0)))), (some (some 62, true))⟩,
  ⟨(some 68), .pick (.t 62) (.t 67) (.c (.one (.sc (.bool false)))), none⟩,
  ⟨(some 49), .mv (.t 68), none⟩]
def r38_9 : List SOper := [
  ⟨(some 69), .mv (.t 5), none⟩,
  ⟨(some 70), .bin .sub (.t 69) (.c (.one (.sc (.int .i64 1)))), none⟩,
  ⟨(some 5), .mv (.t 70), none⟩]
def r38_10 : List SOper := [
  ⟨(some 71), .bin .add (.t 11) (.c (.one (.sc (.int .i64 1)))), none⟩,
  ⟨(some 11), .mv (.t 71), none⟩]
def l38_0 : SC := (.seq (.reg r38_3) (.seq (.cond (.t 12) .skip (.exit 0)) (.seq (.block 1 (.seq (.reg r38_4) (.seq (.reg r38_5) (.block 2 (.seq (.reg r38_6) (.cond (.t 27) (.reg r38_7) (.seq (.reg r38_8) (.cond (.t 49) (.reg r38_9) .skip)))))))) (.reg r38_10))))
def r38_11 : List SOper := [
  ⟨(some 72), .mv (.t 5), none⟩,
  ⟨(some 4), .mv (.t 72), none⟩]
def c38 : SC := (.seq (.reg r38_0) (.seq (.reg r38_1) (.seq (.seq (.reg r38_2) (.block 0 (.loop l38_0))) (.seq (.reg r38_11) .ret))))
/-- limner/geom.Winds -/
def F38 : SFun := ⟨73, c38, [.tmp 4], none⟩

def r39_0 : List SOper := [
  ⟨(some 3), .box (.t 1), none⟩,
  ⟨(some 4), .mv (.c (.one (.sc (.int .i64 0)))), none⟩]
def r39_1 : List SOper := [
  ⟨(some 5), .mv (.c (.one (.sc (.int .i64 0)))), none⟩]
def r39_2 : List SOper := [
  ⟨(some 6), .mv (.c (.one (.sc (.int .i64 0)))), none⟩]
def r39_3 : List SOper := [
  ⟨(some 9), .mv (.t 6), none⟩,
  ⟨(some 10), .mv (.t 0), none⟩,
  ⟨(some 11), .len (.t 10), none⟩,
  ⟨(some 12), .bin .lss (.t 9) (.t 11), none⟩]
def r39_5 : List SOper := [
  ⟨(some 15), .mv (.t 0), none⟩,
  ⟨(some 16), .mv (.t 6), none⟩,
  ⟨(some 17), .iadrS 2 (.t 15) (.t 16), none⟩,
  ⟨(some 18), .loadA 2 (.t 17), none⟩,
  ⟨(some 19), .mv (.t 0), none⟩,
  ⟨(some 20), .iadrS 2 (.t 19) (.c (.one (.sc (.int .i64 0)))), none⟩,
  ⟨(some 21), .loadA 2 (.t 20), none⟩,
  ⟨(some 7), .alloc [.sc (.int .i64 0), .sc (.int .i64 0)], none⟩,
  ⟨(some 8), .alloc [.sc (.int .i64 0), .sc (.int .i64 0)], none⟩,
  ⟨none, .store 2 (.t 7) (.t 18), none⟩,
  ⟨none, .store 2 (.t 8) (.t 21), none⟩]
def r39_6 : List SOper := [
  ⟨(some 22), .mv (.t 6), none⟩,
  ⟨(some 23), .bin .add (.t 22) (.c (.one (.sc (.int .i64 1)))), none⟩,
  ⟨(some 24), .mv (.t 0), none⟩,
  ⟨(some 25), .len (.t 24), none⟩,
  ⟨(some 26), .bin .lss (.t 23) (.t 25), none⟩]
def r39_7 : List SOper := [
  ⟨(some 27), .mv (.t 0), none⟩,
  ⟨(some 28), .mv (.t 6), none⟩,
  ⟨(some 29), .bin .add (.t 28) (.c (.one (.sc (.int .i64 1)))), none⟩,
  ⟨(some 30), .iadrS 2 (.t 27) (.t 29), none⟩,
  ⟨(some 31), .loadA 2 (.t 30), none⟩,
  ⟨none, .store 2 (.t 8) (.t 31), none⟩]
def r39_8 : List SOper := [
  ⟨(some 32), .fadr 1 (.t 7), none⟩,
  ⟨(some 33), .load1 (.t 32), none⟩,
  ⟨(some 34), .fadr 1 (.t 3), none⟩,
  ⟨(some 35), .load1 (.t 34), none⟩,
  ⟨(some 36), .bin .leq (.t 33) (.t 35), none⟩,
  ⟨(some 37), .mv (.t 36), none⟩,
  ⟨(some 38), .fadr 1 (.t 3), (some (some 37, true))⟩,
  ⟨(some 39), .load1 (.t 38), (some (some 37, true))⟩,
  ⟨(some 40), .fadr 1 (.t 8), (some (some 37, true))⟩,
  ⟨(some 41), .load1 (.t 40), (some (some 37, true))⟩,
  ⟨(some 42), .bin .lss (.t 39) (.t 41), (some (some 37, true))⟩,
  ⟨(some 43), .pick (.t 37) (.t 42) (.c (.one (.sc (.bool false)))), none⟩,
  ⟨(some 44), .mv (.t 43), none⟩,
  ⟨(some 45), .loadA 2 (.t 7), (some (some 44, true))⟩,
  ⟨(some 46), .loadA 2 (.t 8), (some (some 44, true))⟩,
  ⟨(some 47), .loadA 2 (.t 3), (some (some 44, true))⟩,
  ⟨(some 48), .call (.z 0) 47 [(.t 45), (.t 46), (.t 47)], (some (some 44, true))⟩,
  ⟨(some 49), .bin .gtr (.t 48) (.c (.one (.sc (.int .i64 0)))), (some (some 44, true))⟩,
  ⟨(some 50), .pick (.t 44) (.t 49) (.c (.one (.sc (.bool false)))), none⟩]
def r39_9 : List SOper := [
  ⟨(some 51), .mv (.t 5), none⟩,
  ⟨(some 52), .bin .add (.t 51) (.c (.one (.sc (.int .i64 1)))), none⟩,
  ⟨(some 5), .mv (.t 52), none⟩]
def r39_10 : List SOper := [
  ⟨(some 53), .fadr 1 (.t 8), none⟩,
  ⟨(some 54), .load1 (.t 53), none⟩,
  ⟨(some 55), .fadr 1 (.t 3), none⟩,
  ⟨(some 56), .load1 (.t 55), none⟩,
  ⟨(some 57), .bin .leq (.t 54) (.t 56), none⟩,
  ⟨(some 58), .mv (.t 57), none⟩,
  ⟨(some 59), .fadr 1 (.t 3), (some (some 58, true))⟩,
  ⟨(some 60), .load1 (.t 59), (some (some 58, true))⟩,
  ⟨(some 61), .fadr 1 (.t 7), (some (some 58, true))⟩,
  ⟨(some 62), .load1 (.t 61), (some (some 58, true))⟩,
  ⟨(some 63), .bin .lss (.t 60) (.t 62), (some (some 58, true))⟩,
  ⟨(some 64), .pick (.t 58) (.t 63) (.c (.one (.sc (.bool false)))), none⟩,
  ⟨(some 65), .mv (.t 64), none⟩,
  ⟨(some 66), .loadA 2 (.t 7), (some (some 65, true))⟩,
  ⟨(some 67), .loadA 2 (.t 8), (some (some 65, true))⟩,
  ⟨(some 68), .loadA 2 (.t 3), (some (some 65, true))⟩,
  ⟨(some 69), .call (.z 0) 47 [(.t 66), (.t 67), (.t 68)], (some (some 65, true))⟩,
  ⟨(some 70), .bin .lss (.t 69) (.c (.one (.sc (.int .i64 0)))), (some (some 65, true))⟩,
  ⟨(some 71), .pick (.t 65) (.t 70) (.c (.one (.sc (.bool false)))), none⟩]
def r39_11 : List SOper := [
  ⟨(some 72), .mv (.t 5), none⟩,
  ⟨(some 73), .bin .sub (.t 72) (.c (.one (.sc (.int .i64 1)))), none⟩,
  ⟨(some 5), .mv (.t 73), none⟩]
def r39_4 : List SOper := [
  ⟨(some 13), .mv (.t 6), none⟩,
  ⟨(some 14), .bin .add (.t 13) (.c (.one (.sc (.int .i64 1)))), none⟩,
  ⟨(some 6), .mv (.t 14), none⟩]
def l39_0 : SC := (.seq (.seq (.reg r39_3) (.cond (.t 12) .skip (.exit 0))) (.seq (.block 1 (.seq (.ureg [15, 16, 17, 18, 19, 20, 21] [(20, 7)] r39_5) (.seq (.seq (.reg r39_6) (.cond (.t 26) (.reg r39_7) .skip)) (.seq (.seq (.reg r39_8) (.cond (.t 50) (.reg r39_9) .skip)) (.seq (.reg r39_10) (.cond (.t 71) (.reg r39_11) .skip)))))) (.reg r39_4)))
def r39_12 : List SOper := [
  ⟨(some 74), .mv (.t 5), none⟩,
  ⟨(some 4), .mv (.t 74), none⟩]
def c39 : SC := (.seq (.reg r39_0) (.seq (.reg r39_1) (.seq (.seq (.reg r39_2) (.block 0 (.loop l39_0))) (.seq (.reg r39_12) .ret))))
/-- limner/limnerref03.Winds -/
def F39 : SFun := ⟨75, c39, [.tmp 4], none⟩

def r40_0 : List SOper := [
  ⟨(some 4), .mv (.c (.one (.sc (.int .i64 0)))), none⟩]
def r40_1 : List SOper := [
  ⟨(some 6), .mv (.t 0), none⟩,
  ⟨(some 7), .len (.t 6), none⟩,
  ⟨(some 8), .mv (.c (.one (.sc (.int .i64 0)))), none⟩]
def r40_2 : List SOper := [
  ⟨(some 9), .bin .lss (.t 8) (.t 7), none⟩]
def r40_3 : List SOper := [
  ⟨(some 10), .mv (.t 8), none⟩,
  ⟨(some 5), .mv (.t 10), none⟩]
def r40_4 : List SOper := [
  ⟨(some 11), .mv (.t 1), none⟩,
  ⟨(some 12), .mv (.t 0), none⟩,
  ⟨(some 13), .mv (.t 5), none⟩,
  ⟨(some 14), .iadrS 2 (.t 12) (.t 13), none⟩,
  ⟨(some 15), .loadA 2 (.t 14), none⟩,
  ⟨(some 16), .callv .q (.t 11) [(.t 15)], none⟩]
def r40_5 : List SOper := [
  ⟨(some 17), .mv (.t 5), none⟩,
  ⟨(some 4), .mv (.t 17), none⟩]
def r40_6 : List SOper := [
  ⟨(some 18), .bin .add (.t 8) (.c (.one (.sc (.int .i64 1)))), none⟩,
  ⟨(some 8), .mv (.t 18), none⟩]
def l40_0 : SC := (.seq (.reg r40_2) (.seq (.cond (.t 9) .skip (.exit 0)) (.seq (.block 1 (.seq (.reg r40_3) (.seq (.reg r40_4) (.cond (.t 16) (.seq (.reg r40_5) .ret) .skip)))) (.reg r40_6))))
def r40_7 : List SOper := [
  ⟨(some 4), .mv (.c (.one (.sc (.int .i64 (-1))))), none⟩]
def c40 : SC := (.seq (.reg r40_0) (.seq (.seq (.reg r40_1) (.block 0 (.loop l40_0))) (.seq (.reg r40_7) .ret)))
/-- slices.IndexFunc[[]limner/geom.Point,limner/geom.Point] -/
def F40 : SFun := ⟨19, c40, [.tmp 4], none⟩

def r41_0 : List SOper := [
  ⟨(some 4), .mv (.c (.one (.sc (.int .i64 0)))), none⟩]
def r41_1 : List SOper := [
  ⟨(some 6), .mv (.t 0), none⟩,
  ⟨(some 7), .len (.t 6), none⟩,
  ⟨(some 8), .mv (.c (.one (.sc (.int .i64 0)))), none⟩]
def r41_2 : List SOper := [
  ⟨(some 9), .bin .lss (.t 8) (.t 7), none⟩]
def r41_3 : List SOper := [
  ⟨(some 10), .mv (.t 8), none⟩,
  ⟨(some 5), .mv (.t 10), none⟩]
def r41_4 : List SOper := [
  ⟨(some 11), .mv (.t 1), none⟩,
  ⟨(some 12), .mv (.t 0), none⟩,
  ⟨(some 13), .mv (.t 5), none⟩,
  ⟨(some 14), .iadrS 1 (.t 12) (.t 13), none⟩,
  ⟨(some 15), .load1 (.t 14), none⟩,
  ⟨(some 16), .callv .q (.t 11) [(.t 15)], none⟩]
def r41_5 : List SOper := [
  ⟨(some 17), .mv (.t 5), none⟩,
  ⟨(some 4), .mv (.t 17), none⟩]
def r41_6 : List SOper := [
  ⟨(some 18), .bin .add (.t 8) (.c (.one (.sc (.int .i64 1)))), none⟩,
  ⟨(some 8), .mv (.t 18), none⟩]
def l41_0 : SC := (.seq (.reg r41_2) (.seq (.cond (.t 9) .skip (.exit 0)) (.seq (.block 1 (.seq (.reg r41_3) (.seq (.reg r41_4) (.cond (.t 16) (.seq (.reg r41_5) .ret) .skip)))) (.reg r41_6))))
def r41_7 : List SOper := [
  ⟨(some 4), .mv (.c (.one (.sc (.int .i64 (-1))))), none⟩]
def c41 : SC := (.seq (.reg r41_0) (.seq (.seq (.reg r41_1) (.block 0 (.loop l41_0))) (.seq (.reg r41_7) .ret)))
/-- slices.IndexFunc[[][]limner/geom.Point,[]limner/geom.Point] -/
def F41 : SFun := ⟨19, c41, [.tmp 4], none⟩

def r42_0 : List SOper := [
  ⟨(some 3), .box (.t 0), none⟩,
  ⟨(some 4), .box (.t 1), none⟩,
  ⟨(some 6), .alloc [.sc (.int .i64 0), .sc (.int .i64 0)], none⟩,
  ⟨(some 7), .mv (.c (.one (.sc (.bool false)))), none⟩]
def r42_1 : List SOper := [
  ⟨(some 8), .mv (.c (.one (.sc (.int .i64 1)))), none⟩]
def r42_2 : List SOper := [
  ⟨(some 12), .fadr 1 (.t 3), none⟩,
  ⟨(some 13), .load1 (.t 12), none⟩,
  ⟨(some 14), .fadr 1 (.t 4), none⟩,
  ⟨(some 15), .load1 (.t 14), none⟩,
  ⟨(some 16), .bin .gtr (.t 13) (.t 15), none⟩]
def r42_3 : List SOper := [
  ⟨(some 17), .loadA 2 (.t 4), none⟩,
  ⟨(some 18), .loadA 2 (.t 3), none⟩,
  ⟨none, .store 2 (.t 3) (.t 17), none⟩,
  ⟨none, .store 2 (.t 4) (.t 18), none⟩,
  ⟨(some 8), .mv (.c (.one (.sc (.int .i64 (-1))))), none⟩]
def r42_4 : List SOper := [
  ⟨(some 19), .mv (.t 2), none⟩,
  ⟨(some 20), .fadr 1 (.t 3), none⟩,
  ⟨(some 21), .load1 (.t 20), none⟩,
  ⟨(some 22), .bin .lss (.t 19) (.t 21), none⟩,
  ⟨(some 23), .mv (.t 22), none⟩,
  ⟨(some 24), .mv (.t 2), (some (some 23, false))⟩,
  ⟨(some 25), .fadr 1 (.t 4), (some (some 23, false))⟩,
  ⟨(some 26), .load1 (.t 25), (some (some 23, false))⟩,
  ⟨(some 27), .bin .geq (.t 24) (.t 26), (some (some 23, false))⟩,
  ⟨(some 28), .pick (.t 23) (.c (.one (.sc (.bool true)))) (.t 27), none⟩]
def r42_5 : List SOper := [
  ⟨(some 29), .build [.sc (.int .i64 0), .sc (.int .i64 0)] [], none⟩,
  ⟨none, .store 2 (.t 6) (.t 29), none⟩,
  ⟨(some 7), .mv (.c (.one (.sc (.bool false)))), none⟩]
def r42_6 : List SOper := [
  ⟨(some 31), .mv (.t 2), none⟩,
  ⟨(some 32), .fadr 1 (.t 3), none⟩,
  ⟨(some 33), .load1 (.t 32), none⟩,
  ⟨(some 34), .bin .sub (.t 31) (.t 33), none⟩,
  ⟨(some 35), .fadr 0 (.t 4), none⟩,
  ⟨(some 36), .load1 (.t 35), none⟩,
  ⟨(some 37), .fadr 0 (.t 3), none⟩,
  ⟨(some 38), .load1 (.t 37), none⟩,
  ⟨(some 39), .bin .sub (.t 36) (.t 38), none⟩,
  ⟨(some 40), .fadr 1 (.t 4), none⟩,
  ⟨(some 41), .load1 (.t 40), none⟩,
  ⟨(some 42), .fadr 1 (.t 3), none⟩,
  ⟨(some 43), .load1 (.t 42), none⟩,
  ⟨(some 44), .bin .sub (.t 41) (.t 43), none⟩,
  ⟨(some 45), .call (.z 0) 48 [(.t 34), (.t 39), (.t 44)], none⟩,
  ⟨(some 30), .mv (.t 45), none⟩,
  ⟨(some 46), .ext (.t 30) 0, none⟩,
  ⟨(some 47), .ext (.t 30) 1, none⟩,
  ⟨(some 48), .ext (.t 30) 2, none⟩,
  ⟨(some 9), .mv (.t 46), none⟩,
  ⟨(some 10), .mv (.t 47), none⟩,
  ⟨(some 11), .mv (.t 48), none⟩]
def r42_7 : List SOper := [
  ⟨(some 49), .mv (.t 10), none⟩,
  ⟨(some 50), .un .not (.t 49), none⟩]
def r42_8 : List SOper := [
  ⟨(some 51), .mv (.t 9), none⟩,
  ⟨(some 52), .bin .add (.t 51) (.c (.one (.sc (.int .i64 1)))), none⟩,
  ⟨(some 9), .mv (.t 52), none⟩]
def r42_9 : List SOper := [
  ⟨(some 53), .fadr 0 (.t 3), none⟩,
  ⟨(some 54), .load1 (.t 53), none⟩,
  ⟨(some 55), .mv (.t 9), none⟩,
  ⟨(some 56), .bin .add (.t 54) (.t 55), none⟩,
  ⟨(some 57), .mv (.t 8), none⟩,
  ⟨(some 58), .build [.sc (.int .i64 0), .sc (.int .i64 0)] [(0, 1, (.t 56)), (1, 1, (.t 57))], none⟩,
  ⟨none, .store 2 (.t 6) (.t 58), none⟩,
  ⟨(some 7), .mv (.c (.one (.sc (.bool true)))), none⟩]
def c42 : SC := (.seq (.reg r42_0) (.seq (.reg r42_1) (.seq (.seq (.reg r42_2) (.cond (.t 16) (.reg r42_3) .skip)) (.seq (.seq (.reg r42_4) (.cond (.t 28) (.seq (.reg r42_5) .ret) .skip)) (.seq (.reg r42_6) (.seq (.seq (.reg r42_7) (.cond (.t 50) (.reg r42_8) .skip)) (.seq (.reg r42_9) .ret)))))))
/-- limner/cover.edge -/
def F42 : SFun := ⟨59, c42, [.cellA 6 2, .tmp 7], none⟩

/-- slices.SortFunc[[]limner/cover.cross,limner/cover.cross] -/
def F43 : SFun := ⟨2, .skip, [], some (sortNat 44)⟩

def r44_0 : List SOper := [
  ⟨(some 2), .box (.t 0), none⟩,
  ⟨(some 3), .box (.t 1), none⟩,
  ⟨(some 4), .mv (.c (.one (.sc (.int .i64 0)))), none⟩]
def r44_1 : List SOper := [
  ⟨(some 5), .fadr 0 (.t 2), none⟩,
  ⟨(some 6), .load1 (.t 5), none⟩,
  ⟨(some 7), .fadr 0 (.t 3), none⟩,
  ⟨(some 8), .load1 (.t 7), none⟩,
  ⟨(some 9), .call (.z 0) 45 [(.t 6), (.t 8)], none⟩,
  ⟨(some 4), .mv (.t 9), none⟩]
def c44 : SC := (.seq (.reg r44_0) (.seq (.reg r44_1) .ret))
/-- limner/cover.row$1 -/
def F44 : SFun := ⟨10, c44, [.tmp 4], none⟩

def r45_0 : List SOper := [
  ⟨(some 4), .mv (.c (.one (.sc (.int .i64 0)))), none⟩]
def r45_1 : List SOper := [
  ⟨(some 7), .mv (.t 0), none⟩,
  ⟨(some 8), .call (.z 0) 51 [(.t 7)], none⟩,
  ⟨(some 5), .mv (.t 8), none⟩]
def r45_2 : List SOper := [
  ⟨(some 9), .mv (.t 1), none⟩,
  ⟨(some 10), .call (.z 0) 51 [(.t 9)], none⟩,
  ⟨(some 6), .mv (.t 10), none⟩]
def r45_3 : List SOper := [
  ⟨(some 11), .mv (.t 5), none⟩]
def r45_4 : List SOper := [
  ⟨(some 12), .mv (.t 6), none⟩]
def r45_5 : List SOper := [
  ⟨(some 4), .mv (.c (.one (.sc (.int .i64 0)))), none⟩]
def r45_6 : List SOper := [
  ⟨(some 4), .mv (.c (.one (.sc (.int .i64 (-1))))), none⟩]
def r45_7 : List SOper := [
  ⟨(some 13), .mv (.t 6), none⟩]
def r45_8 : List SOper := [
  ⟨(some 4), .mv (.c (.one (.sc (.int .i64 1)))), none⟩]
def r45_9 : List SOper := [
  ⟨(some 14), .mv (.t 0), none⟩,
  ⟨(some 15), .mv (.t 1), none⟩,
  ⟨(some 16), .bin .lss (.t 14) (.t 15), none⟩]
def r45_10 : List SOper := [
  ⟨(some 4), .mv (.c (.one (.sc (.int .i64 (-1))))), none⟩]
def r45_11 : List SOper := [
  ⟨(some 17), .mv (.t 0), none⟩,
  ⟨(some 18), .mv (.t 1), none⟩,
  ⟨(some 19), .bin .gtr (.t 17) (.t 18), none⟩]
def r45_12 : List SOper := [
  ⟨(some 4), .mv (.c (.one (.sc (.int .i64 1)))), none⟩]
def r45_13 : List SOper := [
  ⟨(some 4), .mv (.c (.one (.sc (.int .i64 0)))), none⟩]
def c45 : SC := (.seq (.reg r45_0) (.seq (.reg r45_1) (.seq (.reg r45_2) (.seq (.seq (.reg r45_3) (.cond (.t 11) (.seq (.seq (.reg r45_4) (.cond (.t 12) (.seq (.reg r45_5) .ret) .skip)) (.seq (.reg r45_6) .ret)) .skip)) (.seq (.seq (.reg r45_7) (.cond (.t 13) (.seq (.reg r45_8) .ret) .skip)) (.seq (.seq (.reg r45_9) (.cond (.t 16) (.seq (.reg r45_10) .ret) .skip)) (.seq (.seq (.reg r45_11) (.cond (.t 19) (.seq (.reg r45_12) .ret) .skip)) (.seq (.reg r45_13) .ret))))))))
/-- cmp.Compare[int] -/
def F45 : SFun := ⟨20, c45, [.tmp 4], none⟩

def r46_0 : List SOper := [
  ⟨(some 3), .box (.t 0), none⟩,
  ⟨(some 4), .box (.t 1), none⟩,
  ⟨(some 5), .box (.t 2), none⟩,
  ⟨(some 6), .mv (.c (.one (.sc (.int .i64 0)))), none⟩]
def r46_1 : List SOper := [
  ⟨(some 7), .fadr 0 (.t 4), none⟩,
  ⟨(some 8), .load1 (.t 7), none⟩,
  ⟨(some 9), .fadr 0 (.t 3), none⟩,
  ⟨(some 10), .load1 (.t 9), none⟩,
  ⟨(some 11), .bin .sub (.t 8) (.t 10), none⟩,
  ⟨(some 12), .fadr 1 (.t 5), none⟩,
  ⟨(some 13), .load1 (.t 12), none⟩,
  ⟨(some 14), .fadr 1 (.t 3), none⟩,
  ⟨(some 15), .load1 (.t 14), none⟩,
  ⟨(some 16), .bin .sub (.t 13) (.t 15), none⟩,
  ⟨(some 17), .call (.z 0) 52 [(.t 11), (.t 16)], none⟩,
  ⟨(some 18), .fadr 1 (.t 4), none⟩,
  ⟨(some 19), .load1 (.t 18), none⟩,
  ⟨(some 20), .fadr 1 (.t 3), none⟩,
  ⟨(some 21), .load1 (.t 20), none⟩,
  ⟨(some 22), .bin .sub (.t 19) (.t 21), none⟩,
  ⟨(some 23), .fadr 0 (.t 5), none⟩,
  ⟨(some 24), .load1 (.t 23), none⟩,
  ⟨(some 25), .fadr 0 (.t 3), none⟩,
  ⟨(some 26), .load1 (.t 25), none⟩,
  ⟨(some 27), .bin .sub (.t 24) (.t 26), none⟩,
  ⟨(some 28), .call (.z 0) 52 [(.t 22), (.t 27)], none⟩,
  ⟨(some 29), .call (.z 0) 53 [(.t 17), (.t 28)], none⟩,
  ⟨(some 6), .mv (.t 29), none⟩]
def c46 : SC := (.seq (.reg r46_0) (.seq (.reg r46_1) .ret))
/-- limner/geom.Side -/
def F46 : SFun := ⟨30, c46, [.tmp 6], none⟩

def r47_0 : List SOper := [
  ⟨(some 3), .box (.t 0), none⟩,
  ⟨(some 4), .box (.t 1), none⟩,
  ⟨(some 5), .box (.t 2), none⟩,
  ⟨(some 6), .mv (.c (.one (.sc (.int .i64 0)))), none⟩]
def r47_1 : List SOper := [
  ⟨(some 14), .fadr 0 (.t 4), none⟩,
  ⟨(some 15), .load1 (.t 14), none⟩,
  ⟨(some 16), .fadr 0 (.t 3), none⟩,
  ⟨(some 17), .load1 (.t 16), none⟩,
  ⟨(some 18), .bin .sub (.t 15) (.t 17), none⟩,
  ⟨(some 19), .fadr 1 (.t 5), none⟩,
  ⟨(some 20), .load1 (.t 19), none⟩,
  ⟨(some 21), .fadr 1 (.t 3), none⟩,
  ⟨(some 22), .load1 (.t 21), none⟩,
  ⟨(some 23), .bin .sub (.t 20) (.t 22), none⟩,
  ⟨(some 24), .call (.z 0) 54 [(.t 18), (.t 23)], none⟩,
  ⟨(some 13), .mv (.t 24), none⟩,
  ⟨(some 25), .ext (.t 13) 0, none⟩,
  ⟨(some 26), .ext (.t 13) 1, none⟩,
  ⟨(some 27), .ext (.t 13) 2, none⟩,
  ⟨(some 7), .mv (.t 25), none⟩,
  ⟨(some 8), .mv (.t 26), none⟩,
  ⟨(some 9), .mv (.t 27), none⟩]
def r47_2 : List SOper := [
  ⟨(some 29), .fadr 1 (.t 4), none⟩,
  ⟨(some 30), .load1 (.t 29), none⟩,
  ⟨(some 31), .fadr 1 (.t 3), none⟩,
  ⟨(some 32), .load1 (.t 31), none⟩,
  ⟨(some 33), .bin .sub (.t 30) (.t 32), none⟩,
  ⟨(some 34), .fadr 0 (.t 5), none⟩,
  ⟨(some 35), .load1 (.t 34), none⟩,
  ⟨(some 36), .fadr 0 (.t 3), none⟩,
  ⟨(some 37), .load1 (.t 36), none⟩,
  ⟨(some 38), .bin .sub (.t 35) (.t 37), none⟩,
  ⟨(some 39), .call (.z 0) 54 [(.t 33), (.t 38)], none⟩,
  ⟨(some 28), .mv (.t 39), none⟩,
  ⟨(some 40), .ext (.t 28) 0, none⟩,
  ⟨(some 41), .ext (.t 28) 1, none⟩,
  ⟨(some 42), .ext (.t 28) 2, none⟩,
  ⟨(some 10), .mv (.t 40), none⟩,
  ⟨(some 11), .mv (.t 41), none⟩,
  ⟨(some 12), .mv (.t 42), none⟩]
def r47_3 : List SOper := [
  ⟨(some 43), .mv (.t 7), none⟩,
  ⟨(some 44), .mv (.t 10), none⟩,
  ⟨(some 45), .bin .neq (.t 43) (.t 44), none⟩]
def r47_4 : List SOper := [
  ⟨(some 46), .mv (.t 7), none⟩,
  ⟨(some 47), .mv (.t 10), none⟩,
  ⟨(some 48), .bin .gtr (.t 46) (.t 47), none⟩]
def r47_5 : List SOper := [
  ⟨(some 6), .mv (.c (.one (.sc (.int .i64 1)))), none⟩]
def r47_6 : List SOper := [
  ⟨(some 6), .mv (.c (.one (.sc (.int .i64 (-1))))), none⟩]
def r47_7 : List SOper := [
  ⟨(some 49), .mv (.t 8), none⟩,
  ⟨(some 50), .mv (.t 11), none⟩,
  ⟨(some 51), .bin .eql (.t 49) (.t 50), none⟩,
  ⟨(some 52), .mv (.t 51), none⟩,
  ⟨(some 53), .mv (.t 9), (some (some 52, true))⟩,
  ⟨(some 54), .mv (.t 12), (some (some 52, true))⟩,
  ⟨(some 55), .bin .eql (.t 53) (.t 54), (some (some 52, true))⟩,
  ⟨(some 56), .pick (.t 52) (.t 55) (.c (.one (.sc (.bool false)))), none⟩]
def r47_8 : List SOper := [
  ⟨(some 6), .mv (.c (.one (.sc (.int .i64 0)))), none⟩]
def r47_9 : List SOper := [
  ⟨(some 57), .mv (.t 8), none⟩,
  ⟨(some 58), .mv (.t 11), none⟩,
  ⟨(some 59), .bin .gtr (.t 57) (.t 58), none⟩,
  ⟨(some 60), .mv (.t 59), none⟩,
  ⟨(some 61), .mv (.t 8), (some (some 60, false))⟩,
  ⟨(some 62), .mv (.t 11), (some (some 60, false))⟩,
  ⟨(some 63), .bin .eql (.t 61) (.t 62), (some (some 60, false))⟩,
  ⟨(some 64), .mv (.t 63), (some (some 60, false))⟩,
  ⟨(some 65), .mv (.t 9), (some (some 64, true))⟩,
  ⟨(some 66), .mv (.t 12), (some (some 64, true))⟩,
  ⟨(some 67), .bin .gtr (.t 65) (.t 66), (some (some 64, true))⟩,
  ⟨(some 68), .pick (.t 64) (.t 67) (.c (.one (.sc (.bool false)))), (some (some 60, false))⟩,
  ⟨(some 69), .pick (.t 60) (.c (.one (.sc (.bool true)))) (.t 68), none⟩]
def r47_10 : List SOper := [
  ⟨(some 70), .mv (.t 7), none⟩,
  ⟨(some 6), .mv (.t 70), none⟩]
def r47_11 : List SOper := [
  ⟨(some 71), .mv (.t 7), none⟩,
  ⟨(some 72), .un .neg (.t 71), none⟩,
  ⟨(some 6), .mv (.t 72), none⟩]
def c47 : SC := (.seq (.reg r47_0) (.seq (.reg r47_1) (.seq (.reg r47_2) (.seq (.seq (.reg r47_3) (.cond (.t 45) (.seq (.seq (.reg r47_4) (.cond (.t 48) (.seq (.reg r47_5) .ret) .skip)) (.seq (.reg r47_6) .ret)) .skip)) (.seq (.seq (.reg r47_7) (.cond (.t 56) (.seq (.reg r47_8) .ret) .skip)) (.seq (.seq (.reg r47_9) (.cond (.t 69) (.seq (.reg r47_10) .ret) .skip)) (.seq (.reg r47_11) .ret)))))))
/-- limner/limnerref03.Side -/
def F47 : SFun := ⟨73, c47, [.tmp 6], none⟩

def r48_0 : List SOper := [
  ⟨(some 6), .mv (.c (.one (.sc (.int .i64 0)))), none⟩,
  ⟨(some 7), .mv (.c (.one (.sc (.bool false)))), none⟩,
  ⟨(some 8), .mv (.c (.one (.sc (.int .i64 0)))), none⟩]
def r48_1 : List SOper := [
  ⟨(some 15), .mv (.t 2), none⟩,
  ⟨(some 16), .bin .eql (.t 15) (.c (.one (.sc (.int .i64 0)))), none⟩]
def r48_2 : List SOper := [
  ⟨(some 6), .mv (.c (.one (.sc (.int .i64 0)))), none⟩,
  ⟨(some 7), .mv (.c (.one (.sc (.bool false)))), none⟩,
  ⟨(some 8), .mv (.c (.one (.sc (.int .i64 11)))), none⟩]
def r48_3 : List SOper := [
  ⟨(some 18), .mv (.t 0), none⟩,
  ⟨(some 19), .call (.z 0) 56 [(.t 18)], none⟩,
  ⟨(some 20), .mv (.t 1), none⟩,
  ⟨(some 21), .call (.z 0) 56 [(.t 20)], none⟩,
  ⟨(some 22), .call (.z 0) 55 [(.t 19), (.t 21)], none⟩,
  ⟨(some 17), .mv (.t 22), none⟩,
  ⟨(some 23), .ext (.t 17) 0, none⟩,
  ⟨(some 24), .ext (.t 17) 1, none⟩,
  ⟨(some 9), .mv (.t 23), none⟩,
  ⟨(some 10), .mv (.t 24), none⟩]
def r48_4 : List SOper := [
  ⟨(some 25), .mv (.t 9), none⟩,
  ⟨(some 26), .mv (.t 2), none⟩,
  ⟨(some 27), .call (.z 0) 56 [(.t 26)], none⟩,
  ⟨(some 28), .bin .geq (.t 25) (.t 27), none⟩]
def r48_5 : List SOper := [
  ⟨(some 6), .mv (.c (.one (.sc (.int .i64 0)))), none⟩,
  ⟨(some 7), .mv (.c (.one (.sc (.bool false)))), none⟩,
  ⟨(some 8), .mv (.c (.one (.sc (.int .i64 10)))), none⟩]
def r48_6 : List SOper := [
  ⟨(some 30), .mv (.t 9), none⟩,
  ⟨(some 31), .mv (.t 10), none⟩,
  ⟨(some 32), .mv (.t 2), none⟩,
  ⟨(some 33), .call (.z 0) 56 [(.t 32)], none⟩,
  ⟨(some 34), .call (.z 0) 57 [(.t 30), (.t 31), (.t 33)], none⟩,
  ⟨(some 29), .mv (.t 34), none⟩,
  ⟨(some 35), .ext (.t 29) 0, none⟩,
  ⟨(some 36), .ext (.t 29) 1, none⟩,
  ⟨(some 11), .mv (.t 35), none⟩,
  ⟨(some 12), .mv (.t 36), none⟩]
def r48_7 : List SOper := [
  ⟨(some 37), .mv (.t 11), none⟩,
  ⟨(some 38), .build [.sc (.int .i64 0), .sc (.int .u64 0)] [(1, 1, (.t 37))], none⟩,
  ⟨(some 13), .alloc [.sc (.int .i64 0), .sc (.int .u64 0)], none⟩,
  ⟨none, .store 2 (.t 13) (.t 38), none⟩]
def r48_8 : List SOper := [
  ⟨(some 39), .mv (.t 0), none⟩,
  ⟨(some 40), .bin .lss (.t 39) (.c (.one (.sc (.int .i64 0)))), none⟩,
  ⟨(some 41), .mv (.t 1), none⟩,
  ⟨(some 42), .bin .lss (.t 41) (.c (.one (.sc (.int .i64 0)))), none⟩,
  ⟨(some 43), .beq true (.t 40) (.t 42), none⟩,
  ⟨(some 44), .mv (.t 2), none⟩,
  ⟨(some 45), .bin .lss (.t 44) (.c (.one (.sc (.int .i64 0)))), none⟩,
  ⟨(some 46), .beq true (.t 43) (.t 45), none⟩]
def r48_9 : List SOper := [
  ⟨(some 47), .mv (.t 12), none⟩,
  ⟨(some 48), .bin .gtr (.t 47) (.c (.one (.sc (.int .u64 0)))), none⟩]
def r48_10 : List SOper := [
  ⟨(some 49), .loadA 2 (.t 13), none⟩,
  ⟨(some 50), .call (.z 0) 59 [(.c (.one (.sc (.int .i64 1))))], none⟩,
  ⟨(some 51), .call (.z 0) 58 [(.t 49), (.t 50)], none⟩,
  ⟨none, .store 2 (.t 13) (.t 51), none⟩]
def r48_11 : List SOper := [
  ⟨(some 52), .loadA 2 (.t 13), none⟩,
  ⟨(some 53), .call (.z 0) 60 [(.t 52)], none⟩,
  ⟨none, .store 2 (.t 13) (.t 53), none⟩]
def r48_12 : List SOper := [
  ⟨(some 55), .loadA 2 (.t 13), none⟩,
  ⟨(some 56), .call (.z 0) 61 [(.t 55)], none⟩,
  ⟨(some 54), .mv (.t 56), none⟩,
  ⟨(some 57), .ext (.t 54) 0, none⟩,
  ⟨(some 58), .ext (.t 54) 1, none⟩,
  ⟨(some 6), .mv (.t 57), none⟩,
  ⟨(some 14), .mv (.t 58), none⟩]
def r48_13 : List SOper := [
  ⟨(some 59), .mv (.t 14), none⟩,
  ⟨(some 60), .un .not (.t 59), none⟩]
def r48_14 : List SOper := [
  ⟨(some 6), .mv (.c (.one (.sc (.int .i64 0)))), none⟩,
  ⟨(some 7), .mv (.c (.one (.sc (.bool false)))), none⟩,
  ⟨(some 8), .mv (.c (.one (.sc (.int .i64 10)))), none⟩]
def r48_15 : List SOper := [
  ⟨(some 61), .mv (.t 6), none⟩,
  ⟨(some 62), .mv (.t 12), none⟩,
  ⟨(some 63), .bin .eql (.t 62) (.c (.one (.sc (.int .u64 0)))), none⟩,
  ⟨(some 6), .mv (.t 61), none⟩,
  ⟨(some 7), .mv (.t 63), none⟩,
  ⟨(some 8), .mv (.c (.one (.sc (.int .i64 0)))), none⟩]
def c48 : SC := (.seq (.reg r48_0) (.seq (.seq (.reg r48_1) (.cond (.t 16) (.seq (.reg r48_2) .ret) .skip)) (.seq (.reg r48_3) (.seq (.seq (.reg r48_4) (.cond (.t 28) (.seq (.reg r48_5) .ret) .skip)) (.seq (.reg r48_6) (.seq (.reg r48_7) (.seq (.seq (.reg r48_8) (.cond (.t 46) (.seq (.seq (.reg r48_9) (.cond (.t 48) (.reg r48_10) .skip)) (.reg r48_11)) .skip)) (.seq (.reg r48_12) (.seq (.seq (.reg r48_13) (.cond (.t 60) (.seq (.reg r48_14) .ret) .skip)) (.seq (.reg r48_15) .ret))))))))))
/-- limner/wide.MulDiv -/
def F48 : SFun := ⟨64, c48, [.tmp 6, .tmp 7, .tmp 8], none⟩

def r51_0 : List SOper := [
  ⟨(some 2), .mv (.c (.one (.sc (.bool false)))), none⟩]
def r51_1 : List SOper := [
  ⟨(some 3), .mv (.t 0), none⟩,
  ⟨(some 4), .mv (.t 0), none⟩,
  ⟨(some 5), .bin .neq (.t 3) (.t 4), none⟩,
  ⟨(some 2), .mv (.t 5), none⟩]
def c51 : SC := (.seq (.reg r51_0) (.seq (.reg r51_1) .ret))
/-- cmp.isNaN[int] -/
def F51 : SFun := ⟨6, c51, [.tmp 2], none⟩

def r52_0 : List SOper := [
  ⟨(some 4), .alloc [.sc (.int .i64 0), .sc (.int .u64 0)], none⟩]
def r52_1 : List SOper := [
  ⟨(some 8), .mv (.t 0), none⟩,
  ⟨(some 9), .conv .u64 (.t 8), none⟩,
  ⟨(some 10), .mv (.t 1), none⟩,
  ⟨(some 11), .conv .u64 (.t 10), none⟩,
  ⟨(some 12), .call (.z 0) 55 [(.t 9), (.t 11)], none⟩,
  ⟨(some 7), .mv (.t 12), none⟩,
  ⟨(some 13), .ext (.t 7) 0, none⟩,
  ⟨(some 14), .ext (.t 7) 1, none⟩,
  ⟨(some 5), .mv (.t 13), none⟩,
  ⟨(some 6), .mv (.t 14), none⟩]
def r52_2 : List SOper := [
  ⟨(some 15), .mv (.t 0), none⟩,
  ⟨(some 16), .bin .lss (.t 15) (.c (.one (.sc (.int .i64 0)))), none⟩]
def r52_3 : List SOper := [
  ⟨(some 17), .mv (.t 5), none⟩,
  ⟨(some 18), .mv (.t 1), none⟩,
  ⟨(some 19), .conv .u64 (.t 18), none⟩,
  ⟨(some 20), .bin .sub (.t 17) (.t 19), none⟩,
  ⟨(some 5), .mv (.t 20), none⟩]
def r52_4 : List SOper := [
  ⟨(some 21), .mv (.t 1), none⟩,
  ⟨(some 22), .bin .lss (.t 21) (.c (.one (.sc (.int .i64 0)))), none⟩]
def r52_5 : List SOper := [
  ⟨(some 23), .mv (.t 5), none⟩,
  ⟨(some 24), .mv (.t 0), none⟩,
  ⟨(some 25), .conv .u64 (.t 24), none⟩,
  ⟨(some 26), .bin .sub (.t 23) (.t 25), none⟩,
  ⟨(some 5), .mv (.t 26), none⟩]
def r52_6 : List SOper := [
  ⟨(some 27), .mv (.t 5), none⟩,
  ⟨(some 28), .conv .i64 (.t 27), none⟩,
  ⟨(some 29), .mv (.t 6), none⟩,
  ⟨(some 30), .build [.sc (.int .i64 0), .sc (.int .u64 0)] [(0, 1, (.t 28)), (1, 1, (.t 29))], none⟩,
  ⟨none, .store 2 (.t 4) (.t 30), none⟩]
def c52 : SC := (.seq (.reg r52_0) (.seq (.reg r52_1) (.seq (.seq (.reg r52_2) (.cond (.t 16) (.reg r52_3) .skip)) (.seq (.seq (.reg r52_4) (.cond (.t 22) (.reg r52_5) .skip)) (.seq (.reg r52_6) .ret)))))
/-- limner/wide.Mul -/
def F52 : SFun := ⟨31, c52, [.cellA 4 2], none⟩

def r53_0 : List SOper := [
  ⟨(some 2), .box (.t 0), none⟩,
  ⟨(some 3), .box (.t 1), none⟩,
  ⟨(some 4), .mv (.c (.one (.sc (.int .i64 0)))), none⟩]
def r53_1 : List SOper := [
  ⟨(some 5), .fadr 0 (.t 2), none⟩,
  ⟨(some 6), .load1 (.t 5), none⟩,
  ⟨(some 7), .fadr 0 (.t 3), none⟩,
  ⟨(some 8), .load1 (.t 7), none⟩,
  ⟨(some 9), .call (.z 0) 73 [(.t 6), (.t 8)], none⟩,
  ⟨(some 10), .fadr 1 (.t 2), none⟩,
  ⟨(some 11), .load1 (.t 10), none⟩,
  ⟨(some 12), .fadr 1 (.t 3), none⟩,
  ⟨(some 13), .load1 (.t 12), none⟩,
  ⟨(some 14), .call (.z 0) 74 [(.t 11), (.t 13)], none⟩,
  ⟨(some 15), .bslice [.sc (.int .i64 0), .sc (.int .i64 0)] 2 1 [(0, 1, (.t 9)), (1, 1, (.t 14))], none⟩,
  ⟨(some 16), .call .q 72 [(.t 15)], none⟩,
  ⟨(some 4), .mv (.t 16), none⟩]
def c53 : SC := (.seq (.reg r53_0) (.seq (.reg r53_1) .ret))
/-- (limner/wide.Num).Cmp -/
def F53 : SFun := ⟨17, c53, [.tmp 4], none⟩

def r54_0 : List SOper := [
  ⟨(some 4), .mv (.c (.one (.sc (.int .i64 0)))), none⟩,
  ⟨(some 5), .mv (.c (.one (.sc (.int .i64 0)))), none⟩,
  ⟨(some 6), .mv (.c (.one (.sc (.int .i64 0)))), none⟩]
def r54_1 : List SOper := [
  ⟨(some 7), .mv (.c (.one (.sc (.int .i64 1)))), none⟩]
def r54_2 : List SOper := [
  ⟨(some 9), .mv (.t 0), none⟩,
  ⟨(some 10), .bin .lss (.t 9) (.c (.one (.sc (.int .i64 0)))), none⟩]
def r54_3 : List SOper := [
  ⟨(some 11), .mv (.t 0), none⟩,
  ⟨(some 12), .un .neg (.t 11), none⟩,
  ⟨(some 0), .mv (.t 12), none⟩]
def r54_4 : List SOper := [
  ⟨(some 13), .mv (.t 7), none⟩,
  ⟨(some 14), .un .neg (.t 13), none⟩,
  ⟨(some 7), .mv (.t 14), none⟩]
def r54_5 : List SOper := [
  ⟨(some 15), .mv (.t 1), none⟩,
  ⟨(some 16), .bin .lss (.t 15) (.c (.one (.sc (.int .i64 0)))), none⟩]
def r54_6 : List SOper := [
  ⟨(some 17), .mv (.t 1), none⟩,
  ⟨(some 18), .un .neg (.t 17), none⟩,
  ⟨(some 1), .mv (.t 18), none⟩]
def r54_7 : List SOper := [
  ⟨(some 19), .mv (.t 7), none⟩,
  ⟨(some 20), .un .neg (.t 19), none⟩,
  ⟨(some 7), .mv (.t 20), none⟩]
def r54_8 : List SOper := [
  ⟨(some 21), .mv (.t 0), none⟩,
  ⟨(some 22), .bin .eql (.t 21) (.c (.one (.sc (.int .i64 0)))), none⟩,
  ⟨(some 23), .mv (.t 22), none⟩,
  ⟨(some 24), .mv (.t 1), (some (some 23, false))⟩,
  ⟨(some 25), .bin .eql (.t 24) (.c (.one (.sc (.int .i64 0)))), (some (some 23, false))⟩,
  ⟨(some 26), .pick (.t 23) (.c (.one (.sc (.bool true)))) (.t 25), none⟩]
def r54_9 : List SOper := [
  ⟨(some 4), .mv (.c (.one (.sc (.int .i64 0)))), none⟩,
  ⟨(some 5), .mv (.c (.one (.sc (.int .i64 0)))), none⟩,
  ⟨(some 6), .mv (.c (.one (.sc (.int .i64 0)))), none⟩]
def r54_10 : List SOper := [
  ⟨(some 27), .mv (.t 0), none⟩,
  ⟨(some 28), .bin .rem (.t 27) (.c (.one (.sc (.int .i64 65536)))), none⟩,
  ⟨(some 29), .mv (.t 1), none⟩,
  ⟨(some 30), .bin .mul (.t 28) (.t 29), none⟩,
  ⟨(some 8), .mv (.t 30), none⟩]
def r54_11 : List SOper := [
  ⟨(some 31), .mv (.t 7), none⟩,
  ⟨(some 32), .mv (.t 0), none⟩,
  ⟨(some 33), .bin .quo (.t 32) (.c (.one (.sc (.int .i64 65536)))), none⟩,
  ⟨(some 34), .mv (.t 1), none⟩,
  ⟨(some 35), .bin .mul (.t 33) (.t 34), none⟩,
  ⟨(some 36), .mv (.t 8), none⟩,
  ⟨(some 37), .bin .quo (.t 36) (.c (.one (.sc (.int .i64 65536)))), none⟩,
  ⟨(some 38), .bin .add (.t 35) (.t 37), none⟩,
  ⟨(some 39), .mv (.t 8), none⟩,
  ⟨(some 40), .bin .rem (.t 39) (.c (.one (.sc (.int .i64 65536)))), none⟩,
  ⟨(some 4), .mv (.t 31), none⟩,
  ⟨(some 5), .mv (.t 38), none⟩,
  ⟨(some 6), .mv (.t 40), none⟩]
def c54 : SC := (.seq (.reg r54_0) (.seq (.reg r54_1) (.seq (.seq (.reg r54_2) (.cond (.t 10) (.seq (.reg r54_3) (.reg r54_4)) .skip)) (.seq (.seq (.reg r54_5) (.cond (.t 16) (.seq (.reg r54_6) (.reg r54_7)) .skip)) (.seq (.seq (.reg r54_8) (.cond (.t 26) (.seq (.reg r54_9) .ret) .skip)) (.seq (.reg r54_10) (.seq (.reg r54_11) .ret)))))))
/-- limner/limnerref03.product -/
def F54 : SFun := ⟨41, c54, [.tmp 4, .tmp 5, .tmp 6], none⟩

def r55_0 : List SOper := [
  ⟨(some 4), .mv (.c (.one (.sc (.int .u64 0)))), none⟩,
  ⟨(some 5), .mv (.c (.one (.sc (.int .u64 0)))), none⟩]
def r55_1 : List SOper := [
  ⟨(some 14), .mv (.t 0), none⟩,
  ⟨(some 15), .bin .and (.t 14) (.c (.one (.sc (.int .u64 4294967295)))), none⟩,
  ⟨(some 6), .mv (.t 15), none⟩]
def r55_2 : List SOper := [
  ⟨(some 16), .mv (.t 0), none⟩,
  ⟨(some 17), .bin .shr (.t 16) (.c (.one (.sc (.int .u64 32)))), none⟩,
  ⟨(some 7), .mv (.t 17), none⟩]
def r55_3 : List SOper := [
  ⟨(some 18), .mv (.t 1), none⟩,
  ⟨(some 19), .bin .and (.t 18) (.c (.one (.sc (.int .u64 4294967295)))), none⟩,
  ⟨(some 8), .mv (.t 19), none⟩]
def r55_4 : List SOper := [
  ⟨(some 20), .mv (.t 1), none⟩,
  ⟨(some 21), .bin .shr (.t 20) (.c (.one (.sc (.int .u64 32)))), none⟩,
  ⟨(some 9), .mv (.t 21), none⟩]
def r55_5 : List SOper := [
  ⟨(some 22), .mv (.t 6), none⟩,
  ⟨(some 23), .mv (.t 8), none⟩,
  ⟨(some 24), .bin .mul (.t 22) (.t 23), none⟩,
  ⟨(some 10), .mv (.t 24), none⟩]
def r55_6 : List SOper := [
  ⟨(some 25), .mv (.t 7), none⟩,
  ⟨(some 26), .mv (.t 8), none⟩,
  ⟨(some 27), .bin .mul (.t 25) (.t 26), none⟩,
  ⟨(some 28), .mv (.t 10), none⟩,
  ⟨(some 29), .bin .shr (.t 28) (.c (.one (.sc (.int .u64 32)))), none⟩,
  ⟨(some 30), .bin .add (.t 27) (.t 29), none⟩,
  ⟨(some 11), .mv (.t 30), none⟩]
def r55_7 : List SOper := [
  ⟨(some 31), .mv (.t 11), none⟩,
  ⟨(some 32), .bin .and (.t 31) (.c (.one (.sc (.int .u64 4294967295)))), none⟩,
  ⟨(some 12), .mv (.t 32), none⟩]
def r55_8 : List SOper := [
  ⟨(some 33), .mv (.t 11), none⟩,
  ⟨(some 34), .bin .shr (.t 33) (.c (.one (.sc (.int .u64 32)))), none⟩,
  ⟨(some 13), .mv (.t 34), none⟩]
def r55_9 : List SOper := [
  ⟨(some 35), .mv (.t 12), none⟩,
  ⟨(some 36), .mv (.t 6), none⟩,
  ⟨(some 37), .mv (.t 9), none⟩,
  ⟨(some 38), .bin .mul (.t 36) (.t 37), none⟩,
  ⟨(some 39), .bin .add (.t 35) (.t 38), none⟩,
  ⟨(some 12), .mv (.t 39), none⟩]
def r55_10 : List SOper := [
  ⟨(some 40), .mv (.t 7), none⟩,
  ⟨(some 41), .mv (.t 9), none⟩,
  ⟨(some 42), .bin .mul (.t 40) (.t 41), none⟩,
  ⟨(some 43), .mv (.t 13), none⟩,
  ⟨(some 44), .bin .add (.t 42) (.t 43), none⟩,
  ⟨(some 45), .mv (.t 12), none⟩,
  ⟨(some 46), .bin .shr (.t 45) (.c (.one (.sc (.int .u64 32)))), none⟩,
  ⟨(some 47), .bin .add (.t 44) (.t 46), none⟩,
  ⟨(some 4), .mv (.t 47), none⟩]
def r55_11 : List SOper := [
  ⟨(some 48), .mv (.t 0), none⟩,
  ⟨(some 49), .mv (.t 1), none⟩,
  ⟨(some 50), .bin .mul (.t 48) (.t 49), none⟩,
  ⟨(some 5), .mv (.t 50), none⟩]
def c55 : SC := (.seq (.reg r55_0) (.seq (.reg r55_1) (.seq (.reg r55_2) (.seq (.reg r55_3) (.seq (.reg r55_4) (.seq (.reg r55_5) (.seq (.reg r55_6) (.seq (.reg r55_7) (.seq (.reg r55_8) (.seq (.reg r55_9) (.seq (.reg r55_10) (.seq (.reg r55_11) .ret))))))))))))
/-- math/bits.Mul64 -/
def F55 : SFun := ⟨51, c55, [.tmp 4, .tmp 5], none⟩

def r56_0 : List SOper := [
  ⟨(some 2), .mv (.c (.one (.sc (.int .u64 0)))), none⟩]
def r56_1 : List SOper := [
  ⟨(some 3), .mv (.t 0), none⟩,
  ⟨(some 4), .bin .lss (.t 3) (.c (.one (.sc (.int .i64 0)))), none⟩]
def r56_2 : List SOper := [
  ⟨(some 5), .mv (.t 0), none⟩,
  ⟨(some 6), .conv .u64 (.t 5), none⟩,
  ⟨(some 7), .un .neg (.t 6), none⟩,
  ⟨(some 2), .mv (.t 7), none⟩]
def r56_3 : List SOper := [
  ⟨(some 8), .mv (.t 0), none⟩,
  ⟨(some 9), .conv .u64 (.t 8), none⟩,
  ⟨(some 2), .mv (.t 9), none⟩]
def c56 : SC := (.seq (.reg r56_0) (.seq (.seq (.reg r56_1) (.cond (.t 4) (.seq (.reg r56_2) .ret) .skip)) (.seq (.reg r56_3) .ret)))
/-- limner/wide.size -/
def F56 : SFun := ⟨10, c56, [.tmp 2], none⟩

def r57_0 : List SOper := [
  ⟨(some 6), .mv (.c (.one (.sc (.int .u64 0)))), none⟩,
  ⟨(some 7), .mv (.c (.one (.sc (.int .u64 0)))), none⟩]
def r57_1 : List SOper := [
  ⟨(some 19), .mv (.t 2), none⟩,
  ⟨(some 20), .bin .eql (.t 19) (.c (.one (.sc (.int .u64 0)))), none⟩]
def r57_2 : List SOper := [
  ⟨(some 21), .stuck, none⟩,
  ⟨none, .stuck, none⟩]
def r57_3 : List SOper := [
  ⟨(some 22), .mv (.t 2), none⟩,
  ⟨(some 23), .mv (.t 0), none⟩,
  ⟨(some 24), .bin .leq (.t 22) (.t 23), none⟩]
def r57_4 : List SOper := [
  ⟨(some 25), .stuck, none⟩,
  ⟨none, .stuck, none⟩]
def r57_5 : List SOper := [
  ⟨(some 26), .mv (.t 0), none⟩,
  ⟨(some 27), .bin .eql (.t 26) (.c (.one (.sc (.int .u64 0)))), none⟩]
def r57_6 : List SOper := [
  ⟨(some 28), .mv (.t 1), none⟩,
  ⟨(some 29), .mv (.t 2), none⟩,
  ⟨(some 30), .bin .quo (.t 28) (.t 29), none⟩,
  ⟨(some 31), .mv (.t 1), none⟩,
  ⟨(some 32), .mv (.t 2), none⟩,
  ⟨(some 33), .bin .rem (.t 31) (.t 32), none⟩,
  ⟨(some 6), .mv (.t 30), none⟩,
  ⟨(some 7), .mv (.t 33), none⟩]
def r57_7 : List SOper := [
  ⟨(some 34), .mv (.t 2), none⟩,
  ⟨(some 35), .call (.z 0) 75 [(.t 34)], none⟩,
  ⟨(some 36), .conv .u64 (.t 35), none⟩,
  ⟨(some 8), .mv (.t 36), none⟩]
def r57_8 : List SOper := [
  ⟨(some 37), .mv (.t 2), none⟩,
  ⟨(some 38), .mv (.t 8), none⟩,
  ⟨(some 39), .bin .shl (.t 37) (.t 38), none⟩,
  ⟨(some 2), .mv (.t 39), none⟩]
def r57_9 : List SOper := [
  ⟨(some 40), .mv (.t 2), none⟩,
  ⟨(some 41), .bin .shr (.t 40) (.c (.one (.sc (.int .u64 32)))), none⟩,
  ⟨(some 9), .mv (.t 41), none⟩]
def r57_10 : List SOper := [
  ⟨(some 42), .mv (.t 2), none⟩,
  ⟨(some 43), .bin .and (.t 42) (.c (.one (.sc (.int .u64 4294967295)))), none⟩,
  ⟨(some 10), .mv (.t 43), none⟩]
def r57_11 : List SOper := [
  ⟨(some 44), .mv (.t 0), none⟩,
  ⟨(some 45), .mv (.t 8), none⟩,
  ⟨(some 46), .bin .shl (.t 44) (.t 45), none⟩,
  ⟨(some 47), .mv (.t 1), none⟩,
  ⟨(some 48), .mv (.t 8), none⟩,
  ⟨(some 49), .bin .sub (.c (.one (.sc (.int .u64 64)))) (.t 48), none⟩,
  ⟨(some 50), .bin .shr (.t 47) (.t 49), none⟩,
  ⟨(some 51), .bin .or (.t 46) (.t 50), none⟩,
  ⟨(some 11), .mv (.t 51), none⟩]
def r57_12 : List SOper := [
  ⟨(some 52), .mv (.t 1), none⟩,
  ⟨(some 53), .mv (.t 8), none⟩,
  ⟨(some 54), .bin .shl (.t 52) (.t 53), none⟩,
  ⟨(some 12), .mv (.t 54), none⟩]
def r57_13 : List SOper := [
  ⟨(some 55), .mv (.t 12), none⟩,
  ⟨(some 56), .bin .shr (.t 55) (.c (.one (.sc (.int .u64 32)))), none⟩,
  ⟨(some 13), .mv (.t 56), none⟩]
def r57_14 : List SOper := [
  ⟨(some 57), .mv (.t 12), none⟩,
  ⟨(some 58), .bin .and (.t 57) (.c (.one (.sc (.int .u64 4294967295)))), none⟩,
  ⟨(some 14), .mv (.t 58), none⟩]
def r57_15 : List SOper := [
  ⟨(some 59), .mv (.t 11), none⟩,
  ⟨(some 60), .mv (.t 9), none⟩,
  ⟨(some 61), .bin .quo (.t 59) (.t 60), none⟩,
  ⟨(some 15), .mv (.t 61), none⟩]
def r57_16 : List SOper := [
  ⟨(some 62), .mv (.t 11), none⟩,
  ⟨(some 63), .mv (.t 15), none⟩,
  ⟨(some 64), .mv (.t 9), none⟩,
  ⟨(some 65), .bin .mul (.t 63) (.t 64), none⟩,
  ⟨(some 66), .bin .sub (.t 62) (.t 65), none⟩,
  ⟨(some 16), .mv (.t 66), none⟩]
def r57_17 : List SOper := [
  ⟨(some 67), .mv (.t 15), none⟩,
  ⟨(some 68), .bin .geq (.t 67) (.c (.one (.sc (.int .u64 4294967296)))), none⟩,
  ⟨(some 69), .mv (.t 68), none⟩,
  ⟨(some 70), .mv (.t 15), (some (some 69, false))⟩,
  ⟨(some 71), .mv (.t 10), (some (some 69, false))⟩,
  ⟨(some 72), .bin .mul (.t 70) (.t 71), (some (some 69, false))⟩,
  ⟨(some 73), .mv (.t 16), (some (some 69, false))⟩,
  ⟨(some 74), .bin .mul (.c (.one (.sc (.int .u64 4294967296)))) (.t 73), (some (some 69, false))⟩,
  ⟨(some 75), .mv (.t 13), (some (some 69, false))⟩,
  ⟨(some 76), .bin .add (.t 74) (.t 75), (some (some 69, false))⟩,
  ⟨(some 77), .bin .gtr (.t 72) (.t 76), (some (some 69, false))⟩,
  ⟨(some 78), .pick (.t 69) (.c (.one (.sc (.bool true)))) (.t 77), none⟩]
def r57_18 : List SOper := [
  ⟨(some 79), .mv (.t 15), none⟩,
  ⟨(some 80), .bin .sub (.t 79) (.c (.one (.sc (.int .u64 1)))), none⟩,
  ⟨(some 15), .mv (.t 80), none⟩]
def r57_19 : List SOper := [
  ⟨(some 81), .mv (.t 16), none⟩,
  ⟨(some 82), .mv (.t 9), none⟩,
  ⟨(some 83), .bin .add (.t 81) (.t 82), none⟩,
  ⟨(some 16), .mv (.t 83), none⟩]
def r57_20 : List SOper := [
  ⟨(some 84), .mv (.t 16), none⟩,
  ⟨(some 85), .bin .geq (.t 84) (.c (.one (.sc (.int .u64 4294967296)))), none⟩]
def l57_0 : SC := (.seq (.seq (.reg r57_17) (.cond (.t 78) .skip (.exit 0))) (.block 1 (.seq (.reg r57_18) (.seq (.reg r57_19) (.seq (.reg r57_20) (.cond (.t 85) (.exit 0) .skip))))))
def r57_21 : List SOper := [
  ⟨(some 86), .mv (.t 11), none⟩,
  ⟨(some 87), .bin .mul (.t 86) (.c (.one (.sc (.int .u64 4294967296)))), none⟩,
  ⟨(some 88), .mv (.t 13), none⟩,
  ⟨(some 89), .bin .add (.t 87) (.t 88), none⟩,
  ⟨(some 90), .mv (.t 15), none⟩,
  ⟨(some 91), .mv (.t 2), none⟩,
  ⟨(some 92), .bin .mul (.t 90) (.t 91), none⟩,
  ⟨(some 93), .bin .sub (.t 89) (.t 92), none⟩,
  ⟨(some 17), .mv (.t 93), none⟩]
def r57_22 : List SOper := [
  ⟨(some 94), .mv (.t 17), none⟩,
  ⟨(some 95), .mv (.t 9), none⟩,
  ⟨(some 96), .bin .quo (.t 94) (.t 95), none⟩,
  ⟨(some 18), .mv (.t 96), none⟩]
def r57_23 : List SOper := [
  ⟨(some 97), .mv (.t 17), none⟩,
  ⟨(some 98), .mv (.t 18), none⟩,
  ⟨(some 99), .mv (.t 9), none⟩,
  ⟨(some 100), .bin .mul (.t 98) (.t 99), none⟩,
  ⟨(some 101), .bin .sub (.t 97) (.t 100), none⟩,
  ⟨(some 16), .mv (.t 101), none⟩]
def r57_24 : List SOper := [
  ⟨(some 102), .mv (.t 18), none⟩,
  ⟨(some 103), .bin .geq (.t 102) (.c (.one (.sc (.int .u64 4294967296)))), none⟩,
  ⟨(some 104), .mv (.t 103), none⟩,
  ⟨(some 105), .mv (.t 18), (some (some 104, false))⟩,
  ⟨(some 106), .mv (.t 10), (some (some 104, false))⟩,
  ⟨(some 107), .bin .mul (.t 105) (.t 106), (some (some 104, false))⟩,
  ⟨(some 108), .mv (.t 16), (some (some 104, false))⟩,
  ⟨(some 109), .bin .mul (.c (.one (.sc (.int .u64 4294967296)))) (.t 108), (some (some 104, false))⟩,
  ⟨(some 110), .mv (.t 14), (some (some 104, false))⟩,
  ⟨(some 111), .bin .add (.t 109) (.t 110), (some (some 104, false))⟩,
  ⟨(some 112), .bin .gtr (.t 107) (.t 111), (some (some 104, false))⟩,
  ⟨(some 113), .pick (.t 104) (.c (.one (.sc (.bool true)))) (.t 112), none⟩]
def r57_25 : List SOper := [
  ⟨(some 114), .mv (.t 18), none⟩,
  ⟨(some 115), .bin .sub (.t 114) (.c (.one (.sc (.int .u64 1)))), none⟩,
  ⟨(some 18), .mv (.t 115), none⟩]
def r57_26 : List SOper := [
  ⟨(some 116), .mv (.t 16), none⟩,
  ⟨(some 117), .mv (.t 9), none⟩,
  ⟨(some 118), .bin .add (.t 116) (.t 117), none⟩,
  ⟨(some 16), .mv (.t 118), none⟩]
def r57_27 : List SOper := [
  ⟨(some 119), .mv (.t 16), none⟩,
  ⟨(some 120), .bin .geq (.t 119) (.c (.one (.sc (.int .u64 4294967296)))), none⟩]
def l57_1 : SC := (.seq (.seq (.reg r57_24) (.cond (.t 113) .skip (.exit 2))) (.block 3 (.seq (.reg r57_25) (.seq (.reg r57_26) (.seq (.reg r57_27) (.cond (.t 120) (.exit 2) .skip))))))
def r57_28 : List SOper := [
  ⟨(some 121), .mv (.t 15), none⟩,
  ⟨(some 122), .bin .mul (.t 121) (.c (.one (.sc (.int .u64 4294967296)))), none⟩,
  ⟨(some 123), .mv (.t 18), none⟩,
  ⟨(some 124), .bin .add (.t 122) (.t 123), none⟩,
  ⟨(some 125), .mv (.t 17), none⟩,
  ⟨(some 126), .bin .mul (.t 125) (.c (.one (.sc (.int .u64 4294967296)))), none⟩,
  ⟨(some 127), .mv (.t 14), none⟩,
  ⟨(some 128), .bin .add (.t 126) (.t 127), none⟩,
  ⟨(some 129), .mv (.t 18), none⟩,
  ⟨(some 130), .mv (.t 2), none⟩,
  ⟨(some 131), .bin .mul (.t 129) (.t 130), none⟩,
  ⟨(some 132), .bin .sub (.t 128) (.t 131), none⟩,
  ⟨(some 133), .mv (.t 8), none⟩,
  ⟨(some 134), .bin .shr (.t 132) (.t 133), none⟩,
  ⟨(some 6), .mv (.t 124), none⟩,
  ⟨(some 7), .mv (.t 134), none⟩]
def c57 : SC := (.seq (.reg r57_0) (.seq (.seq (.reg r57_1) (.cond (.t 20) (.reg r57_2) .skip)) (.seq (.seq (.reg r57_3) (.cond (.t 24) (.reg r57_4) .skip)) (.seq (.seq (.reg r57_5) (.cond (.t 27) (.seq (.reg r57_6) .ret) .skip)) (.seq (.reg r57_7) (.seq (.reg r57_8) (.seq (.reg r57_9) (.seq (.reg r57_10) (.seq (.reg r57_11) (.seq (.reg r57_12) (.seq (.reg r57_13) (.seq (.reg r57_14) (.seq (.reg r57_15) (.seq (.reg r57_16) (.seq (.block 0 (.loop l57_0)) (.seq (.reg r57_21) (.seq (.reg r57_22) (.seq (.reg r57_23) (.seq (.block 2 (.loop l57_1)) (.seq (.reg r57_28) .ret))))))))))))))))))))
/-- math/bits.Div64 -/
def F57 : SFun := ⟨135, c57, [.tmp 6, .tmp 7], none⟩

def r58_0 : List SOper := [
  ⟨(some 2), .box (.t 0), none⟩,
  ⟨(some 3), .box (.t 1), none⟩,
  ⟨(some 4), .alloc [.sc (.int .i64 0), .sc (.int .u64 0)], none⟩]
def r58_1 : List SOper := [
  ⟨(some 10), .fadr 1 (.t 2), none⟩,
  ⟨(some 11), .load1 (.t 10), none⟩,
  ⟨(some 12), .fadr 1 (.t 3), none⟩,
  ⟨(some 13), .load1 (.t 12), none⟩,
  ⟨(some 14), .carry false [(.t 11), (.t 13), (.c (.one (.sc (.int .u64 0))))], none⟩,
  ⟨(some 9), .mv (.t 14), none⟩,
  ⟨(some 15), .ext (.t 9) 0, none⟩,
  ⟨(some 16), .ext (.t 9) 1, none⟩,
  ⟨(some 5), .mv (.t 15), none⟩,
  ⟨(some 6), .mv (.t 16), none⟩]
def r58_2 : List SOper := [
  ⟨(some 18), .fadr 0 (.t 2), none⟩,
  ⟨(some 19), .load1 (.t 18), none⟩,
  ⟨(some 20), .conv .u64 (.t 19), none⟩,
  ⟨(some 21), .fadr 0 (.t 3), none⟩,
  ⟨(some 22), .load1 (.t 21), none⟩,
  ⟨(some 23), .conv .u64 (.t 22), none⟩,
  ⟨(some 24), .mv (.t 6), none⟩,
  ⟨(some 25), .carry false [(.t 20), (.t 23), (.t 24)], none⟩,
  ⟨(some 17), .mv (.t 25), none⟩,
  ⟨(some 26), .ext (.t 17) 0, none⟩,
  ⟨(some 27), .ext (.t 17) 1, none⟩,
  ⟨(some 7), .mv (.t 26), none⟩,
  ⟨(some 8), .mv (.t 27), none⟩]
def r58_3 : List SOper := [
  ⟨(some 28), .mv (.t 7), none⟩,
  ⟨(some 29), .conv .i64 (.t 28), none⟩,
  ⟨(some 30), .mv (.t 5), none⟩,
  ⟨(some 31), .build [.sc (.int .i64 0), .sc (.int .u64 0)] [(0, 1, (.t 29)), (1, 1, (.t 30))], none⟩,
  ⟨none, .store 2 (.t 4) (.t 31), none⟩]
def c58 : SC := (.seq (.reg r58_0) (.seq (.reg r58_1) (.seq (.reg r58_2) (.seq (.reg r58_3) .ret))))
/-- (limner/wide.Num).Add -/
def F58 : SFun := ⟨32, c58, [.cellA 4 2], none⟩

def r59_0 : List SOper := [
  ⟨(some 2), .alloc [.sc (.int .i64 0), .sc (.int .u64 0)], none⟩]
def r59_1 : List SOper := [
  ⟨(some 3), .mv (.t 0), none⟩,
  ⟨(some 4), .bin .shr (.t 3) (.c (.one (.sc (.int .u64 63)))), none⟩,
  ⟨(some 5), .mv (.t 0), none⟩,
  ⟨(some 6), .conv .u64 (.t 5), none⟩,
  ⟨(some 7), .build [.sc (.int .i64 0), .sc (.int .u64 0)] [(0, 1, (.t 4)), (1, 1, (.t 6))], none⟩,
  ⟨none, .store 2 (.t 2) (.t 7), none⟩]
def c59 : SC := (.seq (.reg r59_0) (.seq (.reg r59_1) .ret))
/-- limner/wide.Of -/
def F59 : SFun := ⟨8, c59, [.cellA 2 2], none⟩

def r60_0 : List SOper := [
  ⟨(some 1), .box (.t 0), none⟩,
  ⟨(some 2), .alloc [.sc (.int .i64 0), .sc (.int .u64 0)], none⟩]
def r60_1 : List SOper := [
  ⟨(some 3), .build [.sc (.int .i64 0), .sc (.int .u64 0)] [], none⟩,
  ⟨(some 4), .loadA 2 (.t 1), none⟩,
  ⟨(some 5), .call (.z 0) 77 [(.t 3), (.t 4)], none⟩,
  ⟨none, .store 2 (.t 2) (.t 5), none⟩]
def c60 : SC := (.seq (.reg r60_0) (.seq (.reg r60_1) .ret))
/-- (limner/wide.Num).Neg -/
def F60 : SFun := ⟨6, c60, [.cellA 2 2], none⟩

def r61_0 : List SOper := [
  ⟨(some 1), .box (.t 0), none⟩,
  ⟨(some 2), .mv (.c (.one (.sc (.int .i64 0)))), none⟩,
  ⟨(some 3), .mv (.c (.one (.sc (.bool false)))), none⟩]
def r61_1 : List SOper := [
  ⟨(some 5), .fadr 1 (.t 1), none⟩,
  ⟨(some 6), .load1 (.t 5), none⟩,
  ⟨(some 7), .conv .i64 (.t 6), none⟩,
  ⟨(some 4), .mv (.t 7), none⟩]
def r61_2 : List SOper := [
  ⟨(some 8), .loadA 2 (.t 1), none⟩,
  ⟨(some 9), .mv (.t 4), none⟩,
  ⟨(some 10), .call (.z 0) 59 [(.t 9)], none⟩,
  ⟨(some 11), .eqv [.i, .i] false (.t 8) (.t 10), none⟩]
def r61_3 : List SOper := [
  ⟨(some 12), .mv (.t 4), none⟩,
  ⟨(some 2), .mv (.t 12), none⟩,
  ⟨(some 3), .mv (.c (.one (.sc (.bool true)))), none⟩]
def r61_4 : List SOper := [
  ⟨(some 2), .mv (.c (.one (.sc (.int .i64 0)))), none⟩,
  ⟨(some 3), .mv (.c (.one (.sc (.bool false)))), none⟩]
def c61 : SC := (.seq (.reg r61_0) (.seq (.seq (.reg r61_1) (.seq (.reg r61_2) (.cond (.t 11) (.seq (.reg r61_3) .ret) .skip))) (.seq (.reg r61_4) .ret)))
/-- (limner/wide.Num).Int -/
def F61 : SFun := ⟨13, c61, [.tmp 2, .tmp 3], none⟩

def r71_0 : List SOper := [
  ⟨(some 2), .mv (.c (.one (.sc (.int .i64 0)))), none⟩]
def r71_1 : List SOper := [
  ⟨(some 3), .mv (.t 0), none⟩,
  ⟨(some 4), .bin .geq (.t 3) (.c (.one (.sc (.int .u64 4294967296)))), none⟩]
def r71_2 : List SOper := [
  ⟨(some 5), .mv (.t 0), none⟩,
  ⟨(some 6), .bin .shr (.t 5) (.c (.one (.sc (.int .u64 32)))), none⟩,
  ⟨(some 0), .mv (.t 6), none⟩]
def r71_3 : List SOper := [
  ⟨(some 2), .mv (.c (.one (.sc (.int .i64 32)))), none⟩]
def r71_4 : List SOper := [
  ⟨(some 7), .mv (.t 0), none⟩,
  ⟨(some 8), .bin .geq (.t 7) (.c (.one (.sc (.int .u64 65536)))), none⟩]
def r71_5 : List SOper := [
  ⟨(some 9), .mv (.t 0), none⟩,
  ⟨(some 10), .bin .shr (.t 9) (.c (.one (.sc (.int .u64 16)))), none⟩,
  ⟨(some 0), .mv (.t 10), none⟩]
def r71_6 : List SOper := [
  ⟨(some 11), .mv (.t 2), none⟩,
  ⟨(some 12), .bin .add (.t 11) (.c (.one (.sc (.int .i64 16)))), none⟩,
  ⟨(some 2), .mv (.t 12), none⟩]
def r71_7 : List SOper := [
  ⟨(some 13), .mv (.t 0), none⟩,
  ⟨(some 14), .bin .geq (.t 13) (.c (.one (.sc (.int .u64 256)))), none⟩]
def r71_8 : List SOper := [
  ⟨(some 15), .mv (.t 0), none⟩,
  ⟨(some 16), .bin .shr (.t 15) (.c (.one (.sc (.int .u64 8)))), none⟩,
  ⟨(some 0), .mv (.t 16), none⟩]
def r71_9 : List SOper := [
  ⟨(some 17), .mv (.t 2), none⟩,
  ⟨(some 18), .bin .add (.t 17) (.c (.one (.sc (.int .i64 8)))), none⟩,
  ⟨(some 2), .mv (.t 18), none⟩]
def r71_10 : List SOper := [
  ⟨(some 19), .mv (.t 2), none⟩,
  ⟨(some 20), .mv (.t 0), none⟩,
  ⟨(some 21), .conv .u8 (.t 20), none⟩,
  ⟨(some 22), .istr bytesA (.t 21), none⟩,
  ⟨(some 23), .conv .i64 (.t 22), none⟩,
  ⟨(some 24), .bin .add (.t 19) (.t 23), none⟩,
  ⟨(some 2), .mv (.t 24), none⟩]
def c71 : SC := (.seq (.reg r71_0) (.seq (.seq (.reg r71_1) (.cond (.t 4) (.seq (.reg r71_2) (.reg r71_3)) .skip)) (.seq (.seq (.reg r71_4) (.cond (.t 8) (.seq (.reg r71_5) (.reg r71_6)) .skip)) (.seq (.seq (.reg r71_7) (.cond (.t 14) (.seq (.reg r71_8) (.reg r71_9)) .skip)) (.seq (.reg r71_10) .ret)))))
/-- math/bits.Len64 -/
def F71 : SFun := ⟨25, c71, [.tmp 2], none⟩

def r72_0 : List SOper := [
  ⟨(some 2), .mv (.c (.one (.sc (.int .i64 0)))), none⟩]
def r72_1 : List SOper := [
  ⟨(some 3), .mv (.c (.one (.sc (.int .i64 0)))), none⟩]
def r72_2 : List SOper := [
  ⟨(some 6), .mv (.t 0), none⟩,
  ⟨(some 7), .len (.t 6), none⟩,
  ⟨(some 8), .mv (.c (.one (.sc (.int .i64 0)))), none⟩]
def r72_3 : List SOper := [
  ⟨(some 9), .bin .lss (.t 8) (.t 7), none⟩]
def r72_4 : List SOper := [
  ⟨(some 10), .iadrS 1 (.t 6) (.t 8), none⟩,
  ⟨(some 11), .load1 (.t 10), none⟩,
  ⟨(some 5), .mv (.t 11), none⟩]
def r72_5 : List SOper := [
  ⟨(some 12), .mv (.t 5), none⟩,
  ⟨(some 13), .mv (.t 3), none⟩,
  ⟨(some 14), .bin .neq (.t 12) (.t 13), none⟩]
def r72_6 : List SOper := [
  ⟨(some 15), .mv (.t 5), none⟩,
  ⟨(some 2), .mv (.t 15), none⟩]
def r72_7 : List SOper := [
  ⟨(some 16), .bin .add (.t 8) (.c (.one (.sc (.int .i64 1)))), none⟩,
  ⟨(some 8), .mv (.t 16), none⟩]
def l72_0 : SC := (.seq (.reg r72_3) (.seq (.cond (.t 9) .skip (.exit 0)) (.seq (.block 1 (.seq (.reg r72_4) (.seq (.reg r72_5) (.cond (.t 14) (.seq (.reg r72_6) .ret) .skip)))) (.reg r72_7))))
def r72_8 : List SOper := [
  ⟨(some 17), .mv (.t 3), none⟩,
  ⟨(some 2), .mv (.t 17), none⟩]
def c72 : SC := (.seq (.reg r72_0) (.seq (.reg r72_1) (.seq (.seq (.reg r72_2) (.block 0 (.loop l72_0))) (.seq (.reg r72_8) .ret))))
/-- cmp.Or[int] -/
def F72 : SFun := ⟨18, c72, [.tmp 2], none⟩

def r73_0 : List SOper := [
  ⟨(some 4), .mv (.c (.one (.sc (.int .i64 0)))), none⟩]
def r73_1 : List SOper := [
  ⟨(some 7), .mv (.t 0), none⟩,
  ⟨(some 8), .call (.z 0) 83 [(.t 7)], none⟩,
  ⟨(some 5), .mv (.t 8), none⟩]
def r73_2 : List SOper := [
  ⟨(some 9), .mv (.t 1), none⟩,
  ⟨(some 10), .call (.z 0) 83 [(.t 9)], none⟩,
  ⟨(some 6), .mv (.t 10), none⟩]
def r73_3 : List SOper := [
  ⟨(some 11), .mv (.t 5), none⟩]
def r73_4 : List SOper := [
  ⟨(some 12), .mv (.t 6), none⟩]
def r73_5 : List SOper := [
  ⟨(some 4), .mv (.c (.one (.sc (.int .i64 0)))), none⟩]
def r73_6 : List SOper := [
  ⟨(some 4), .mv (.c (.one (.sc (.int .i64 (-1))))), none⟩]
def r73_7 : List SOper := [
  ⟨(some 13), .mv (.t 6), none⟩]
def r73_8 : List SOper := [
  ⟨(some 4), .mv (.c (.one (.sc (.int .i64 1)))), none⟩]
def r73_9 : List SOper := [
  ⟨(some 14), .mv (.t 0), none⟩,
  ⟨(some 15), .mv (.t 1), none⟩,
  ⟨(some 16), .bin .lss (.t 14) (.t 15), none⟩]
def r73_10 : List SOper := [
  ⟨(some 4), .mv (.c (.one (.sc (.int .i64 (-1))))), none⟩]
def r73_11 : List SOper := [
  ⟨(some 17), .mv (.t 0), none⟩,
  ⟨(some 18), .mv (.t 1), none⟩,
  ⟨(some 19), .bin .gtr (.t 17) (.t 18), none⟩]
def r73_12 : List SOper := [
  ⟨(some 4), .mv (.c (.one (.sc (.int .i64 1)))), none⟩]
def r73_13 : List SOper := [
  ⟨(some 4), .mv (.c (.one (.sc (.int .i64 0)))), none⟩]
def c73 : SC := (.seq (.reg r73_0) (.seq (.reg r73_1) (.seq (.reg r73_2) (.seq (.seq (.reg r73_3) (.cond (.t 11) (.seq (.seq (.reg r73_4) (.cond (.t 12) (.seq (.reg r73_5) .ret) .skip)) (.seq (.reg r73_6) .ret)) .skip)) (.seq (.seq (.reg r73_7) (.cond (.t 13) (.seq (.reg r73_8) .ret) .skip)) (.seq (.seq (.reg r73_9) (.cond (.t 16) (.seq (.reg r73_10) .ret) .skip)) (.seq (.seq (.reg r73_11) (.cond (.t 19) (.seq (.reg r73_12) .ret) .skip)) (.seq (.reg r73_13) .ret))))))))
/-- cmp.Compare[int64] -/
def F73 : SFun := ⟨20, c73, [.tmp 4], none⟩

def r74_0 : List SOper := [
  ⟨(some 4), .mv (.c (.one (.sc (.int .i64 0)))), none⟩]
def r74_1 : List SOper := [
  ⟨(some 7), .mv (.t 0), none⟩,
  ⟨(some 8), .call (.z 0) 84 [(.t 7)], none⟩,
  ⟨(some 5), .mv (.t 8), none⟩]
def r74_2 : List SOper := [
  ⟨(some 9), .mv (.t 1), none⟩,
  ⟨(some 10), .call (.z 0) 84 [(.t 9)], none⟩,
  ⟨(some 6), .mv (.t 10), none⟩]
def r74_3 : List SOper := [
  ⟨(some 11), .mv (.t 5), none⟩]
def r74_4 : List SOper := [
  ⟨(some 12), .mv (.t 6), none⟩]
def r74_5 : List SOper := [
  ⟨(some 4), .mv (.c (.one (.sc (.int .i64 0)))), none⟩]
def r74_6 : List SOper := [
  ⟨(some 4), .mv (.c (.one (.sc (.int .i64 (-1))))), none⟩]
def r74_7 : List SOper := [
  ⟨(some 13), .mv (.t 6), none⟩]
def r74_8 : List SOper := [
  ⟨(some 4), .mv (.c (.one (.sc (.int .i64 1)))), none⟩]
def r74_9 : List SOper := [
  ⟨(some 14), .mv (.t 0), none⟩,
  ⟨(some 15), .mv (.t 1), none⟩,
  ⟨(some 16), .bin .lss (.t 14) (.t 15), none⟩]
def r74_10 : List SOper := [
  ⟨(some 4), .mv (.c (.one (.sc (.int .i64 (-1))))), none⟩]
def r74_11 : List SOper := [
  ⟨(some 17), .mv (.t 0), none⟩,
  ⟨(some 18), .mv (.t 1), none⟩,
  ⟨(some 19), .bin .gtr (.t 17) (.t 18), none⟩]
def r74_12 : List SOper := [
  ⟨(some 4), .mv (.c (.one (.sc (.int .i64 1)))), none⟩]
def r74_13 : List SOper := [
  ⟨(some 4), .mv (.c (.one (.sc (.int .i64 0)))), none⟩]
def c74 : SC := (.seq (.reg r74_0) (.seq (.reg r74_1) (.seq (.reg r74_2) (.seq (.seq (.reg r74_3) (.cond (.t 11) (.seq (.seq (.reg r74_4) (.cond (.t 12) (.seq (.reg r74_5) .ret) .skip)) (.seq (.reg r74_6) .ret)) .skip)) (.seq (.seq (.reg r74_7) (.cond (.t 13) (.seq (.reg r74_8) .ret) .skip)) (.seq (.seq (.reg r74_9) (.cond (.t 16) (.seq (.reg r74_10) .ret) .skip)) (.seq (.seq (.reg r74_11) (.cond (.t 19) (.seq (.reg r74_12) .ret) .skip)) (.seq (.reg r74_13) .ret))))))))
/-- cmp.Compare[uint64] -/
def F74 : SFun := ⟨20, c74, [.tmp 4], none⟩

def r75_0 : List SOper := [
  ⟨(some 2), .mv (.c (.one (.sc (.int .i64 0)))), none⟩]
def r75_1 : List SOper := [
  ⟨(some 3), .mv (.t 0), none⟩,
  ⟨(some 4), .call (.z 0) 71 [(.t 3)], none⟩,
  ⟨(some 5), .bin .sub (.c (.one (.sc (.int .i64 64)))) (.t 4), none⟩,
  ⟨(some 2), .mv (.t 5), none⟩]
def c75 : SC := (.seq (.reg r75_0) (.seq (.reg r75_1) .ret))
/-- math/bits.LeadingZeros64 -/
def F75 : SFun := ⟨6, c75, [.tmp 2], none⟩

def r77_0 : List SOper := [
  ⟨(some 2), .box (.t 0), none⟩,
  ⟨(some 3), .box (.t 1), none⟩,
  ⟨(some 4), .alloc [.sc (.int .i64 0), .sc (.int .u64 0)], none⟩]
def r77_1 : List SOper := [
  ⟨(some 10), .fadr 1 (.t 2), none⟩,
  ⟨(some 11), .load1 (.t 10), none⟩,
  ⟨(some 12), .fadr 1 (.t 3), none⟩,
  ⟨(some 13), .load1 (.t 12), none⟩,
  ⟨(some 14), .carry true [(.t 11), (.t 13), (.c (.one (.sc (.int .u64 0))))], none⟩,
  ⟨(some 9), .mv (.t 14), none⟩,
  ⟨(some 15), .ext (.t 9) 0, none⟩,
  ⟨(some 16), .ext (.t 9) 1, none⟩,
  ⟨(some 5), .mv (.t 15), none⟩,
  ⟨(some 6), .mv (.t 16), none⟩]
def r77_2 : List SOper := [
  ⟨(some 18), .fadr 0 (.t 2), none⟩,
  ⟨(some 19), .load1 (.t 18), none⟩,
  ⟨(some 20), .conv .u64 (.t 19), none⟩,
  ⟨(some 21), .fadr 0 (.t 3), none⟩,
  ⟨(some 22), .load1 (.t 21), none⟩,
  ⟨(some 23), .conv .u64 (.t 22), none⟩,
  ⟨(some 24), .mv (.t 6), none⟩,
  ⟨(some 25), .carry true [(.t 20), (.t 23), (.t 24)], none⟩,
  ⟨(some 17), .mv (.t 25), none⟩,
  ⟨(some 26), .ext (.t 17) 0, none⟩,
  ⟨(some 27), .ext (.t 17) 1, none⟩,
  ⟨(some 7), .mv (.t 26), none⟩,
  ⟨(some 8), .mv (.t 27), none⟩]
def r77_3 : List SOper := [
  ⟨(some 28), .mv (.t 7), none⟩,
  ⟨(some 29), .conv .i64 (.t 28), none⟩,
  ⟨(some 30), .mv (.t 5), none⟩,
  ⟨(some 31), .build [.sc (.int .i64 0), .sc (.int .u64 0)] [(0, 1, (.t 29)), (1, 1, (.t 30))], none⟩,
  ⟨none, .store 2 (.t 4) (.t 31), none⟩]
def c77 : SC := (.seq (.reg r77_0) (.seq (.reg r77_1) (.seq (.reg r77_2) (.seq (.reg r77_3) .ret))))
/-- (limner/wide.Num).Sub -/
def F77 : SFun := ⟨32, c77, [.cellA 4 2], none⟩

def r83_0 : List SOper := [
  ⟨(some 2), .mv (.c (.one (.sc (.bool false)))), none⟩]
def r83_1 : List SOper := [
  ⟨(some 3), .mv (.t 0), none⟩,
  ⟨(some 4), .mv (.t 0), none⟩,
  ⟨(some 5), .bin .neq (.t 3) (.t 4), none⟩,
  ⟨(some 2), .mv (.t 5), none⟩]
def c83 : SC := (.seq (.reg r83_0) (.seq (.reg r83_1) .ret))
/-- cmp.isNaN[int64] -/
def F83 : SFun := ⟨6, c83, [.tmp 2], none⟩

def r84_0 : List SOper := [
  ⟨(some 2), .mv (.c (.one (.sc (.bool false)))), none⟩]
def r84_1 : List SOper := [
  ⟨(some 3), .mv (.t 0), none⟩,
  ⟨(some 4), .mv (.t 0), none⟩,
  ⟨(some 5), .bin .neq (.t 3) (.t 4), none⟩,
  ⟨(some 2), .mv (.t 5), none⟩]
def c84 : SC := (.seq (.reg r84_0) (.seq (.reg r84_1) .ret))
/-- cmp.isNaN[uint64] -/
def F84 : SFun := ⟨6, c84, [.tmp 2], none⟩

def TA : Nat → Option SFun
  | 3 => some F3
  | 4 => some F4
  | 5 => some F5
  | 6 => some F6
  | 7 => some F7
  | 8 => some F8
  | 9 => some F9
  | 10 => some F10
  | 11 => some F11
  | 12 => some F12
  | 13 => some F13
  | 14 => some F14
  | 15 => some F15
  | 16 => some F16
  | 17 => some F17
  | 18 => some F18
  | 19 => some F19
  | 20 => some F20
  | 21 => some F21
  | 22 => some F22
  | 23 => some F23
  | 24 => some F24
  | 25 => some F25
  | 26 => some F26
  | 27 => some F27
  | 28 => some F28
  | 29 => some F29
  | 30 => some F30
  | 31 => some F31
  | 32 => some F32
  | 33 => some F33
  | 34 => some F34
  | 35 => some F35
  | 36 => some F36
  | 37 => some F37
  | 38 => some F38
  | 39 => some F39
  | 40 => some F40
  | 41 => some F41
  | 42 => some F42
  | 43 => some F43
  | 44 => some F44
  | 45 => some F45
  | 46 => some F46
  | 47 => some F47
  | 48 => some F48
  | 51 => some F51
  | 52 => some F52
  | 53 => some F53
  | 54 => some F54
  | 55 => some F55
  | 56 => some F56
  | 57 => some F57
  | 58 => some F58
  | 59 => some F59
  | 60 => some F60
  | 61 => some F61
  | 71 => some F71
  | 72 => some F72
  | 73 => some F73
  | 74 => some F74
  | 75 => some F75
  | 77 => some F77
  | 83 => some F83
  | 84 => some F84
  | _ => none
def mdA : Nat → Mode
  | 10 => (.z 0)
  | 11 => (.z 0)
  | 12 => .k
  | 14 => .k
  | 15 => (.z 0)
  | 18 => (.z 0)
  | 20 => (.z 0)
  | 21 => (.z 0)
  | 22 => (.z 0)
  | 27 => (.z 0)
  | 28 => (.z 0)
  | 29 => (.z 0)
  | 31 => .k
  | 32 => (.z 0)
  | 33 => (.z 0)
  | 34 => (.z 0)
  | 35 => (.z 0)
  | 36 => (.z 0)
  | 37 => (.z 0)
  | 42 => (.z 0)
  | 43 => .w
  | 44 => (.z 0)
  | 45 => (.z 0)
  | 46 => (.z 0)
  | 47 => (.z 0)
  | 48 => (.z 0)
  | 51 => (.z 0)
  | 52 => (.z 0)
  | 53 => (.z 0)
  | 54 => (.z 0)
  | 55 => (.z 0)
  | 56 => (.z 0)
  | 57 => (.z 0)
  | 58 => (.z 0)
  | 59 => (.z 0)
  | 60 => (.z 0)
  | 61 => (.z 0)
  | 71 => (.z 0)
  | 73 => (.z 0)
  | 74 => (.z 0)
  | 75 => (.z 0)
  | 77 => (.z 0)
  | 83 => (.z 0)
  | 84 => (.z 0)
  | _ => .q
def q3 : Nat → List (List Nat) × List (Nat × Nat)
  | 11 => ([[], [0], [0, 1], [0, 1, 2], [0, 1, 2, 3], [0, 1, 2, 3, 4], [0, 1, 2, 3, 4, 5], [0, 1, 2, 3, 4, 5, 6], [0, 1, 2, 3, 4, 5, 6], [0, 1, 2, 3, 4, 5, 6, 7, 8], [0, 1, 2, 3, 4, 5, 6], [0, 1, 2, 3, 4, 5, 6, 7, 8, 9, 10], [0, 1, 2, 3, 4, 5, 6, 7, 8, 9, 10, 11], [0, 1, 2, 3, 4, 5, 6], [0, 1, 2, 3, 4, 5, 6, 13], [0, 1, 2, 3, 4, 5, 6, 7, 8, 9, 10, 11, 12, 13, 14], [0, 1, 2, 3, 4, 5, 6, 7, 8, 9, 10, 11, 12, 13, 14, 15]], [])
  | 21 => ([[], [], [], [1, 2], [], [], [4, 5], [], [7], [4, 5, 6, 7, 8], [0, 1, 2, 3, 4, 5, 6, 7, 8, 9], [0, 1, 2, 3, 4, 5, 6, 7, 8, 9, 10], [], [], [], [14], [13, 14, 15], [], [17], [], [19], [17, 18, 19, 20], [12, 13, 14, 15, 16, 17, 18, 19, 20, 21], [12, 13, 14, 15, 16, 17, 18, 19, 20, 21, 22], [0, 1, 2, 3, 4, 5, 6, 7, 8, 9, 10, 11, 12, 13, 14, 15, 16, 17, 18, 19, 20, 21, 22, 23], [0, 1, 2, 3, 4, 5, 6, 7, 8, 9, 10, 11, 12, 13, 14, 15, 16, 17, 18, 19, 20, 21, 22, 23, 24], [0, 1, 2, 3, 4, 5, 6, 7, 8, 9, 10, 11, 12, 13, 14, 15, 16, 17, 18, 19, 20, 21, 22, 23, 24, 25], [0, 1, 2, 3, 4, 5, 6, 7, 8, 9, 10, 11, 12, 13, 14, 15, 16, 17, 18, 19, 20, 21, 22, 23, 24, 25], [0, 1, 2, 3, 4, 5, 6, 7, 8, 9, 10, 11, 12, 13, 14, 15, 16, 17, 18, 19, 20, 21, 22, 23, 24, 25], [0, 1, 2, 3, 4, 5, 6, 7, 8, 9, 10, 11, 12, 13, 14, 15, 16, 17, 18, 19, 20, 21, 22, 23, 24, 25, 27, 28], [0, 1, 2, 3, 4, 5, 6, 7, 8, 9, 10, 11, 12, 13, 14, 15, 16, 17, 18, 19, 20, 21, 22, 23, 24, 25], [0, 1, 2, 3, 4, 5, 6, 7, 8, 9, 10, 11, 12, 13, 14, 15, 16, 17, 18, 19, 20, 21, 22, 23, 24, 25, 30], [0, 1, 2, 3, 4, 5, 6, 7, 8, 9, 10, 11, 12, 13, 14, 15, 16, 17, 18, 19, 20, 21, 22, 23, 24, 25, 27, 28, 29, 30, 31], [0, 1, 2, 3, 4, 5, 6, 7, 8, 9, 10, 11, 12, 13, 14, 15, 16, 17, 18, 19, 20, 21, 22, 23, 24, 25], [0, 1, 2, 3, 4, 5, 6, 7, 8, 9, 10, 11, 12, 13, 14, 15, 16, 17, 18, 19, 20, 21, 22, 23, 24, 25, 33], [0, 1, 2, 3, 4, 5, 6, 7, 8, 9, 10, 11, 12, 13, 14, 15, 16, 17, 18, 19, 20, 21, 22, 23, 24, 25], [0, 1, 2, 3, 4, 5, 6, 7, 8, 9, 10, 11, 12, 13, 14, 15, 16, 17, 18, 19, 20, 21, 22, 23, 24, 25, 33, 34, 35], [0, 1, 2, 3, 4, 5, 6, 7, 8, 9, 10, 11, 12, 13, 14, 15, 16, 17, 18, 19, 20, 21, 22, 23, 24, 25, 26, 27, 28, 29, 30, 31, 32, 33, 34, 35, 36], [0, 1, 2, 3, 4, 5, 6, 7, 8, 9, 10, 11, 12, 13, 14, 15, 16, 17, 18, 19, 20, 21, 22, 23, 24, 25, 26, 27, 28, 29, 30, 31, 32, 33, 34, 35, 36, 37], [0, 1, 2, 3, 4, 5, 6, 7, 8, 9, 10, 11, 12, 13, 14, 15, 16, 17, 18, 19, 20, 21, 22, 23, 24, 25], [0, 1, 2, 3, 4, 5, 6, 7, 8, 9, 10, 11, 12, 13, 14, 15, 16, 17, 18, 19, 20, 21, 22, 23, 24, 25], [0, 1, 2, 3, 4, 5, 6, 7, 8, 9, 10, 11, 12, 13, 14, 15, 16, 17, 18, 19, 20, 21, 22, 23, 24, 25], [0, 1, 2, 3, 4, 5, 6, 7, 8, 9, 10, 11, 12, 13, 14, 15, 16, 17, 18, 19, 20, 21, 22, 23, 24, 25], [0, 1, 2, 3, 4, 5, 6, 7, 8, 9, 10, 11, 12, 13, 14, 15, 16, 17, 18, 19, 20, 21, 22, 23, 24, 25, 42], [0, 1, 2, 3, 4, 5, 6, 7, 8, 9, 10, 11, 12, 13, 14, 15, 16, 17, 18, 19, 20, 21, 22, 23, 24, 25, 41, 42, 43], [0, 1, 2, 3, 4, 5, 6, 7, 8, 9, 10, 11, 12, 13, 14, 15, 16, 17, 18, 19, 20, 21, 22, 23, 24, 25, 40, 41, 42, 43, 44], [0, 1, 2, 3, 4, 5, 6, 7, 8, 9, 10, 11, 12, 13, 14, 15, 16, 17, 18, 19, 20, 21, 22, 23, 24, 25], [0, 1, 2, 3, 4, 5, 6, 7, 8, 9, 10, 11, 12, 13, 14, 15, 16, 17, 18, 19, 20, 21, 22, 23, 24, 25, 46], [0, 1, 2, 3, 4, 5, 6, 7, 8, 9, 10, 11, 12, 13, 14, 15, 16, 17, 18, 19, 20, 21, 22, 23, 24, 25], [0, 1, 2, 3, 4, 5, 6, 7, 8, 9, 10, 11, 12, 13, 14, 15, 16, 17, 18, 19, 20, 21, 22, 23, 24, 25], [0, 1, 2, 3, 4, 5, 6, 7, 8, 9, 10, 11, 12, 13, 14, 15, 16, 17, 18, 19, 20, 21, 22, 23, 24, 25, 49], [0, 1, 2, 3, 4, 5, 6, 7, 8, 9, 10, 11, 12, 13, 14, 15, 16, 17, 18, 19, 20, 21, 22, 23, 24, 25, 48, 49, 50], [0, 1, 2, 3, 4, 5, 6, 7, 8, 9, 10, 11, 12, 13, 14, 15, 16, 17, 18, 19, 20, 21, 22, 23, 24, 25, 46, 47, 48, 49, 50, 51], [0, 1, 2, 3, 4, 5, 6, 7, 8, 9, 10, 11, 12, 13, 14, 15, 16, 17, 18, 19, 20, 21, 22, 23, 24, 25, 39, 40, 41, 42, 43, 44, 45, 46, 47, 48, 49, 50, 51, 52], [0, 1, 2, 3, 4, 5, 6, 7, 8, 9, 10, 11, 12, 13, 14, 15, 16, 17, 18, 19, 20, 21, 22, 23, 24, 25, 39, 40, 41, 42, 43, 44, 45, 46, 47, 48, 49, 50, 51, 52, 53], [0, 1, 2, 3, 4, 5, 6, 7, 8, 9, 10, 11, 12, 13, 14, 15, 16, 17, 18, 19, 20, 21, 22, 23, 24, 25, 26, 27, 28, 29, 30, 31, 32, 33, 34, 35, 36, 37, 38, 39, 40, 41, 42, 43, 44, 45, 46, 47, 48, 49, 50, 51, 52, 53, 54], [0, 1, 2, 3, 4, 5, 6, 7, 8, 9, 10, 11, 12, 13, 14, 15, 16, 17, 18, 19, 20, 21, 22, 23, 24, 25, 26, 27, 28, 29, 30, 31, 32, 33, 34, 35, 36, 37, 38, 39, 40, 41, 42, 43, 44, 45, 46, 47, 48, 49, 50, 51, 52, 53, 54, 55]], [])
  | _ => ([], [])
theorem ok3 : slimF Try.prog 0 mdA q3 none Try.f3 = some F3 := by kernel_rfl
def q4 : Nat → List (List Nat) × List (Nat × Nat)
  | _ => ([], [])
theorem ok4 : slimF Try.prog 0 mdA q4 none Try.f4 = some F4 := by kernel_rfl
def q5 : Nat → List (List Nat) × List (Nat × Nat)
  | 13 => ([[], [], [0, 1], [0, 1, 2], [], [], [4, 5], [4, 5, 6], [], [], [8, 9], [8, 9, 10], [4, 5, 6, 7, 8, 9, 10, 11], [0, 1, 2, 3, 4, 5, 6, 7, 8, 9, 10, 11, 12], [0, 1, 2, 3, 4, 5, 6, 7, 8, 9, 10, 11, 12, 13], [0, 1, 2, 3, 4, 5, 6, 7, 8, 9, 10, 11, 12, 13, 14], [0, 1, 2, 3, 4, 5, 6, 7, 8, 9, 10, 11, 12, 13, 14], [0, 1, 2, 3, 4, 5, 6, 7, 8, 9, 10, 11, 12, 13, 14, 15, 16], [0, 1, 2, 3, 4, 5, 6, 7, 8, 9, 10, 11, 12, 13, 14, 15, 16, 17], [0, 1, 2, 3, 4, 5, 6, 7, 8, 9, 10, 11, 12, 13, 14, 15, 16, 17, 18], [0, 1, 2, 3, 4, 5, 6, 7, 8, 9, 10, 11, 12, 13, 14, 15, 16, 17, 18, 19], [0, 1, 2, 3, 4, 5, 6, 7, 8, 9, 10, 11, 12, 13, 14, 15, 16, 17, 18, 19, 20], [0, 1, 2, 3, 4, 5, 6, 7, 8, 9, 10, 11, 12, 13, 14, 15, 16, 17, 18, 19, 20, 21], [0, 1, 2, 3, 4, 5, 6, 7, 8, 9, 10, 11, 12, 13, 14, 15, 16, 17, 18, 19, 20, 21], [0, 1, 2, 3, 4, 5, 6, 7, 8, 9, 10, 11, 12, 13, 14, 15, 16, 17, 18, 19, 20, 21, 22, 23], [0, 1, 2, 3, 4, 5, 6, 7, 8, 9, 10, 11, 12, 13, 14, 15, 16, 17, 18, 19, 20, 21, 22, 23, 24], [0, 1, 2, 3, 4, 5, 6, 7, 8, 9, 10, 11, 12, 13, 14, 15, 16, 17, 18, 19, 20, 21, 22, 23, 24, 25], [0, 1, 2, 3, 4, 5, 6, 7, 8, 9, 10, 11, 12, 13, 14, 15, 16, 17, 18, 19, 20, 21, 22, 23, 24, 25, 26]], [])
  | _ => ([], [])
theorem ok5 : slimF Try.prog 0 mdA q5 none Try.f5 = some F5 := by kernel_rfl
def q6 : Nat → List (List Nat) × List (Nat × Nat)
  | 16 => ([[], [], [0, 1], [0, 1, 2], [0, 1, 2, 3], [], [], [], [], [5, 6, 7, 8], [0, 1, 2, 3, 4, 5, 6, 7, 8, 9]], [])
  | _ => ([], [])
theorem ok6 : slimF Try.prog 0 mdA q6 none Try.f6 = some F6 := by kernel_rfl
def q7 : Nat → List (List Nat) × List (Nat × Nat)
  | 1 => ([[], [0], [], [2], [], [4], [], [6], [0, 1], [0, 1, 2, 3, 8], [0, 1, 2, 3, 4, 5, 8, 9], [0, 1, 2, 3, 4, 5, 6, 7, 8, 9, 10]], [])
  | 14 => ([[], [0], [0, 1], [0, 1, 2], [0, 1, 2, 3], [0, 1, 2, 3, 4], [0, 1, 2, 3, 4, 5], [0, 1, 2, 3, 4, 5, 6], [0, 1, 2, 3, 4, 5, 6, 7], [0, 1, 2, 3, 4, 5, 6, 7, 8], [0, 1, 2, 3, 4, 5, 6, 7, 8], [0, 1, 2, 3, 4, 5, 6, 7, 8, 9, 10], [0, 1, 2, 3, 4, 5, 6, 7, 8, 9, 10, 11], [0, 1, 2, 3, 4, 5, 6, 7, 8, 9, 10, 11, 12], [0, 1, 2, 3, 4, 5, 6, 7, 8, 9, 10, 11, 12, 13], [0, 1, 2, 3, 4, 5, 6, 7, 8, 9, 10, 11, 12, 13], [0, 1, 2, 3, 4, 5, 6, 7, 8, 9, 10, 11, 12, 13, 15], [0, 1, 2, 3, 4, 5, 6, 7, 8, 9, 10, 11, 12, 13, 15, 16], [0, 1, 2, 3, 4, 5, 6, 7, 8, 9, 10, 11, 12, 13], [0, 1, 2, 3, 4, 5, 6, 7, 8, 9, 10, 11, 12, 13, 18], [0, 1, 2, 3, 4, 5, 6, 7, 8, 9, 10, 11, 12, 13, 15, 16, 17, 18, 19], [0, 1, 2, 3, 4, 5, 6, 7, 8, 9, 10, 11, 12, 13, 15, 16, 17, 18, 19, 20], [0, 1, 2, 3, 4, 5, 6, 7, 8, 9, 10, 11, 12, 13, 14, 15, 16, 17, 18, 19, 20, 21], [0, 1, 2, 3, 4, 5, 6, 7, 8, 9, 10, 11, 12, 13, 14, 15, 16, 17, 18, 19, 20, 21, 22], [0, 1, 2, 3, 4, 5, 6, 7, 8, 9, 10, 11, 12, 13, 14, 15, 16, 17, 18, 19, 20, 21, 22, 23]], [])
  | 20 => ([[], [0], [0, 1], [0, 1, 2], [0, 1, 2, 3], [0, 1, 2, 3, 4], [0, 1, 2, 3, 4, 5], [0, 1, 2, 3, 4, 5, 6], [0, 1, 2, 3, 4, 5, 6, 7], [0, 1, 2, 3, 4, 5, 6, 7, 8], [0, 1, 2, 3, 4, 5, 6, 7, 8], [0, 1, 2, 3, 4, 5, 6, 7, 8, 9, 10], [0, 1, 2, 3, 4, 5, 6, 7, 8, 9, 10, 11], [0, 1, 2, 3, 4, 5, 6, 7, 8, 9, 10, 11, 12], [0, 1, 2, 3, 4, 5, 6, 7, 8, 9, 10, 11, 12, 13], [0, 1, 2, 3, 4, 5, 6, 7, 8, 9, 10, 11, 12, 13], [0, 1, 2, 3, 4, 5, 6, 7, 8, 9, 10, 11, 12, 13], [0, 1, 2, 3, 4, 5, 6, 7, 8, 9, 10, 11, 12, 13, 15, 16], [0, 1, 2, 3, 4, 5, 6, 7, 8, 9, 10, 11, 12, 13, 14, 15, 16, 17], [0, 1, 2, 3, 4, 5, 6, 7, 8, 9, 10, 11, 12, 13, 14, 15, 16, 17, 18], [0, 1, 2, 3, 4, 5, 6, 7, 8, 9, 10, 11, 12, 13, 14, 15, 16, 17, 18, 19], [0, 1, 2, 3, 4, 5, 6, 7, 8, 9, 10, 11, 12, 13, 14, 15, 16, 17, 18, 19, 20], [0, 1, 2, 3, 4, 5, 6, 7, 8, 9, 10, 11, 12, 13, 14, 15, 16, 17, 18, 19, 20, 21], [0, 1, 2, 3, 4, 5, 6, 7, 8, 9, 10, 11, 12, 13, 14, 15, 16, 17, 18, 19, 20, 21, 22], [0, 1, 2, 3, 4, 5, 6, 7, 8, 9, 10, 11, 12, 13, 14, 15, 16, 17, 18, 19, 20, 21, 22, 23]], [])
  | _ => ([], [])
theorem ok7 : slimF Try.prog 0 mdA q7 none Try.f7 = some F7 := by kernel_rfl
def q8 : Nat → List (List Nat) × List (Nat × Nat)
  | 3 => ([[], [], [], [0, 1, 2], [], [0, 1, 2, 3, 4], [], [], [7], [], [9], [7, 8, 9, 10], [0, 1, 2, 3, 4, 5, 6, 7, 8, 9, 10, 11], [0, 1, 2, 3, 4, 5, 6, 7, 8, 9, 10, 11, 12], [0, 1, 2, 3, 4, 5, 6, 7, 8, 9, 10, 11, 12, 13], [0, 1, 2, 3, 4, 5, 6, 7, 8, 9, 10, 11, 12, 13, 14], [0, 1, 2, 3, 4, 5, 6, 7, 8, 9, 10, 11, 12, 13, 14, 15], [0, 1, 2, 3, 4, 5, 6, 7, 8, 9, 10, 11, 12, 13, 14, 15, 16]], [])
  | _ => ([], [])
theorem ok8 : slimF Try.prog 0 mdA q8 none Try.f8 = some F8 := by kernel_rfl
def q9 : Nat → List (List Nat) × List (Nat × Nat)
  | _ => ([], [])
theorem ok9 : slimF Try.prog 0 mdA q9 none Try.f9 = some F9 := by kernel_rfl
def q10 : Nat → List (List Nat) × List (Nat × Nat)
  | _ => ([], [])
theorem ok10 : slimF Try.prog 0 mdA q10 none Try.f10 = some F10 := by kernel_rfl
def q11 : Nat → List (List Nat) × List (Nat × Nat)
  | _ => ([], [])
theorem ok11 : slimF Try.prog 0 mdA q11 none Try.f11 = some F11 := by kernel_rfl
def q12 : Nat → List (List Nat) × List (Nat × Nat)
  | _ => ([], [])
theorem ok12 : slimF Try.prog 0 mdA q12 none Try.f12 = some F12 := by kernel_rfl
def q13 : Nat → List (List Nat) × List (Nat × Nat)
  | _ => ([], [])
theorem ok13 : slimF Try.prog 0 mdA q13 none Try.f13 = some F13 := by kernel_rfl
def q14 : Nat → List (List Nat) × List (Nat × Nat)
  | _ => ([], [])
theorem ok14 : slimF Try.prog 0 mdA q14 none Try.f14 = some F14 := by kernel_rfl
def q15 : Nat → List (List Nat) × List (Nat × Nat)
  | _ => ([], [])
theorem ok15 : slimF Try.prog 0 mdA q15 none Try.f15 = some F15 := by kernel_rfl
def q16 : Nat → List (List Nat) × List (Nat × Nat)
  | _ => ([], [])
theorem ok16 : slimF Try.prog 0 mdA q16 none Try.f16 = some F16 := by kernel_rfl
def q17 : Nat → List (List Nat) × List (Nat × Nat)
  | _ => ([], [])
theorem ok17 : slimF Try.prog 0 mdA q17 none Try.f17 = some F17 := by kernel_rfl
def q18 : Nat → List (List Nat) × List (Nat × Nat)
  | 3 => ([[], [0], [0, 1], [], [3], [0, 1, 2, 3, 4], [], [6], [0, 1, 2, 3, 4, 5, 6, 7], [], [9], [0, 1, 2, 3, 4, 5, 6, 7, 8, 9, 10], [0, 1, 2, 3, 4, 5, 6, 7, 8, 9, 10, 11], [0, 1, 2, 3, 4, 5, 6, 7, 8, 9, 10, 11, 12]], [])
  | _ => ([], [])
theorem ok18 : slimF Try.prog 0 mdA q18 none Try.f18 = some F18 := by kernel_rfl
def q19 : Nat → List (List Nat) × List (Nat × Nat)
  | _ => ([], [])
theorem ok19 : slimF Try.prog 0 mdA q19 none Try.f19 = some F19 := by kernel_rfl
def q20 : Nat → List (List Nat) × List (Nat × Nat)
  | _ => ([], [])
theorem ok20 : slimF Try.prog 0 mdA q20 none Try.f20 = some F20 := by kernel_rfl
def q21 : Nat → List (List Nat) × List (Nat × Nat)
  | _ => ([], [])
theorem ok21 : slimF Try.prog 0 mdA q21 none Try.f21 = some F21 := by kernel_rfl
def q22 : Nat → List (List Nat) × List (Nat × Nat)
  | _ => ([], [])
theorem ok22 : slimF Try.prog 0 mdA q22 none Try.f22 = some F22 := by kernel_rfl
def q23 : Nat → List (List Nat) × List (Nat × Nat)
  | _ => ([], [])
theorem ok23 : slimF Try.prog 0 mdA q23 none Try.f23 = some F23 := by kernel_rfl
def q24 : Nat → List (List Nat) × List (Nat × Nat)
  | 5 => ([[], [], [], [1, 2], [1, 2, 3], [], [1, 2, 3, 4, 5], [0, 1, 2, 3, 4, 5, 6], [0, 1, 2, 3, 4, 5, 6, 7]], [])
  | _ => ([], [])
theorem ok24 : slimF Try.prog 0 mdA q24 none Try.f24 = some F24 := by kernel_rfl
def q25 : Nat → List (List Nat) × List (Nat × Nat)
  | _ => ([], [])
theorem ok25 : slimF Try.prog 0 mdA q25 none Try.f25 = some F25 := by kernel_rfl
def q26 : Nat → List (List Nat) × List (Nat × Nat)
  | _ => ([], [])
theorem ok26 : slimF Try.prog 0 mdA q26 none Try.f26 = some F26 := by kernel_rfl
def q27 : Nat → List (List Nat) × List (Nat × Nat)
  | _ => ([], [])
theorem ok27 : slimF Try.prog 0 mdA q27 none Try.f27 = some F27 := by kernel_rfl
def q28 : Nat → List (List Nat) × List (Nat × Nat)
  | _ => ([], [])
theorem ok28 : slimF Try.prog 0 mdA q28 none Try.f28 = some F28 := by kernel_rfl
def q29 : Nat → List (List Nat) × List (Nat × Nat)
  | _ => ([], [])
theorem ok29 : slimF Try.prog 0 mdA q29 none Try.f29 = some F29 := by kernel_rfl
def q30 : Nat → List (List Nat) × List (Nat × Nat)
  | _ => ([], [])
theorem ok30 : slimF Try.prog 0 mdA q30 none Try.f30 = some F30 := by kernel_rfl
def q31 : Nat → List (List Nat) × List (Nat × Nat)
  | _ => ([], [])
theorem ok31 : slimF Try.prog 0 mdA q31 none Try.f31 = some F31 := by kernel_rfl
def q32 : Nat → List (List Nat) × List (Nat × Nat)
  | _ => ([], [])
theorem ok32 : slimF Try.prog 0 mdA q32 none Try.f32 = some F32 := by kernel_rfl
def q33 : Nat → List (List Nat) × List (Nat × Nat)
  | _ => ([], [])
theorem ok33 : slimF Try.prog 0 mdA q33 none Try.f33 = some F33 := by kernel_rfl
def q34 : Nat → List (List Nat) × List (Nat × Nat)
  | _ => ([], [])
theorem ok34 : slimF Try.prog 0 mdA q34 none Try.f34 = some F34 := by kernel_rfl
def q35 : Nat → List (List Nat) × List (Nat × Nat)
  | _ => ([], [])
theorem ok35 : slimF Try.prog 0 mdA q35 none Try.f35 = some F35 := by kernel_rfl
def q36 : Nat → List (List Nat) × List (Nat × Nat)
  | _ => ([], [])
theorem ok36 : slimF Try.prog 0 mdA q36 none Try.f36 = some F36 := by kernel_rfl
def q37 : Nat → List (List Nat) × List (Nat × Nat)
  | _ => ([], [])
theorem ok37 : slimF Try.prog 0 mdA q37 none Try.f37 = some F37 := by kernel_rfl
def q38 : Nat → List (List Nat) × List (Nat × Nat)
  | _ => ([], [])
theorem ok38 : slimF Try.prog 0 mdA q38 none Try.f38 = some F38 := by kernel_rfl
def q39 : Nat → List (List Nat) × List (Nat × Nat)
  | 5 => ([[], [], [0, 1], [0, 1, 2], [], [4], [4, 5], [], [], [0, 1, 2, 3, 7, 8], [0, 1, 2, 3, 4, 5, 6, 7, 8, 9]], [(20, 7)])
  | _ => ([], [])
theorem ok39 : slimF Try.prog 0 mdA q39 none Try.f39 = some F39 := by kernel_rfl
def q40 : Nat → List (List Nat) × List (Nat × Nat)
  | _ => ([], [])
theorem ok40 : slimF Try.prog 0 mdA q40 none Try.f40 = some F40 := by kernel_rfl
def q41 : Nat → List (List Nat) × List (Nat × Nat)
  | _ => ([], [])
theorem ok41 : slimF Try.prog 0 mdA q41 none Try.f41 = some F41 := by kernel_rfl
def q42 : Nat → List (List Nat) × List (Nat × Nat)
  | _ => ([], [])
theorem ok42 : slimF Try.prog 0 mdA q42 none Try.f42 = some F42 := by kernel_rfl
def q43 : Nat → List (List Nat) × List (Nat × Nat) := fun _ => ([], [])
def q44 : Nat → List (List Nat) × List (Nat × Nat)
  | _ => ([], [])
theorem ok44 : slimF Try.prog 0 mdA q44 none Try.f44 = some F44 := by kernel_rfl
def q45 : Nat → List (List Nat) × List (Nat × Nat)
  | _ => ([], [])
theorem ok45 : slimF Try.prog 0 mdA q45 none Try.f45 = some F45 := by kernel_rfl
def q46 : Nat → List (List Nat) × List (Nat × Nat)
  | 1 => ([[], [0], [], [2], [0, 1, 2, 3], [], [5], [], [7], [5, 6, 7, 8], [0, 1, 2, 3, 4, 5, 6, 7, 8, 9], [], [11], [], [13], [11, 12, 13, 14], [], [16], [], [18], [16, 17, 18, 19], [0, 1, 2, 3, 4, 5, 6, 7, 8, 9, 10, 11, 12, 13, 14, 15, 16, 17, 18, 19, 20], [0, 1, 2, 3, 4, 5, 6, 7, 8, 9, 10, 11, 12, 13, 14, 15, 16, 17, 18, 19, 20, 21], [0, 1, 2, 3, 4, 5, 6, 7, 8, 9, 10, 11, 12, 13, 14, 15, 16, 17, 18, 19, 20, 21, 22]], [])
  | _ => ([], [])
theorem ok46 : slimF Try.prog 0 mdA q46 none Try.f46 = some F46 := by kernel_rfl
def q47 : Nat → List (List Nat) × List (Nat × Nat)
  | _ => ([], [])
theorem ok47 : slimF Try.prog 0 mdA q47 none Try.f47 = some F47 := by kernel_rfl
def q48 : Nat → List (List Nat) × List (Nat × Nat)
  | 10 => ([[], [], [0, 1], [0, 1, 2]], [])
  | _ => ([], [])
theorem ok48 : slimF Try.prog 0 mdA q48 none Try.f48 = some F48 := by kernel_rfl
def q51 : Nat → List (List Nat) × List (Nat × Nat)
  | _ => ([], [])
theorem ok51 : slimF Try.prog 0 mdA q51 none Try.f51 = some F51 := by kernel_rfl
def q52 : Nat → List (List Nat) × List (Nat × Nat)
  | _ => ([], [])
theorem ok52 : slimF Try.prog 0 mdA q52 none Try.f52 = some F52 := by kernel_rfl
def q53 : Nat → List (List Nat) × List (Nat × Nat)
  | 1 => ([[], [0], [], [2], [0, 1, 2, 3], [], [5], [], [7], [0, 1, 2, 3, 4, 5, 6, 7, 8], [0, 1, 2, 3, 4, 5, 6, 7, 8, 9], [0, 1, 2, 3, 4, 5, 6, 7, 8, 9, 10], [0, 1, 2, 3, 4, 5, 6, 7, 8, 9, 10, 11]], [])
  | _ => ([], [])
theorem ok53 : slimF Try.prog 0 mdA q53 none Try.f53 = some F53 := by kernel_rfl
def q54 : Nat → List (List Nat) × List (Nat × Nat)
  | _ => ([], [])
theorem ok54 : slimF Try.prog 0 mdA q54 none Try.f54 = some F54 := by kernel_rfl
def q55 : Nat → List (List Nat) × List (Nat × Nat)
  | _ => ([], [])
theorem ok55 : slimF Try.prog 0 mdA q55 none Try.f55 = some F55 := by kernel_rfl
def q56 : Nat → List (List Nat) × List (Nat × Nat)
  | _ => ([], [])
theorem ok56 : slimF Try.prog 0 mdA q56 none Try.f56 = some F56 := by kernel_rfl
def q57 : Nat → List (List Nat) × List (Nat × Nat)
  | 6 => ([[], [], [0, 1], [], [], [3, 4], [0, 1, 2], [0, 1, 2, 3, 4, 5, 6]], [])
  | _ => ([], [])
theorem ok57 : slimF Try.prog 0 mdA q57 none Try.f57 = some F57 := by kernel_rfl
def q58 : Nat → List (List Nat) × List (Nat × Nat)
  | _ => ([], [])
theorem ok58 : slimF Try.prog 0 mdA q58 none Try.f58 = some F58 := by kernel_rfl
def q59 : Nat → List (List Nat) × List (Nat × Nat)
  | _ => ([], [])
theorem ok59 : slimF Try.prog 0 mdA q59 none Try.f59 = some F59 := by kernel_rfl
def q60 : Nat → List (List Nat) × List (Nat × Nat)
  | _ => ([], [])
theorem ok60 : slimF Try.prog 0 mdA q60 none Try.f60 = some F60 := by kernel_rfl
def q61 : Nat → List (List Nat) × List (Nat × Nat)
  | 2 => ([[], [], [1], [0, 1, 2]], [])
  | _ => ([], [])
theorem ok61 : slimF Try.prog 0 mdA q61 none Try.f61 = some F61 := by kernel_rfl
def q71 : Nat → List (List Nat) × List (Nat × Nat)
  | _ => ([], [])
theorem ok71 : slimF Try.prog 0 mdA q71 none Try.f71 = some F71 := by kernel_rfl
def q72 : Nat → List (List Nat) × List (Nat × Nat)
  | _ => ([], [])
theorem ok72 : slimF Try.prog 0 mdA q72 none Try.f72 = some F72 := by kernel_rfl
def q73 : Nat → List (List Nat) × List (Nat × Nat)
  | _ => ([], [])
theorem ok73 : slimF Try.prog 0 mdA q73 none Try.f73 = some F73 := by kernel_rfl
def q74 : Nat → List (List Nat) × List (Nat × Nat)
  | _ => ([], [])
theorem ok74 : slimF Try.prog 0 mdA q74 none Try.f74 = some F74 := by kernel_rfl
def q75 : Nat → List (List Nat) × List (Nat × Nat)
  | _ => ([], [])
theorem ok75 : slimF Try.prog 0 mdA q75 none Try.f75 = some F75 := by kernel_rfl
def q77 : Nat → List (List Nat) × List (Nat × Nat)
  | _ => ([], [])
theorem ok77 : slimF Try.prog 0 mdA q77 none Try.f77 = some F77 := by kernel_rfl
def q83 : Nat → List (List Nat) × List (Nat × Nat)
  | _ => ([], [])
theorem ok83 : slimF Try.prog 0 mdA q83 none Try.f83 = some F83 := by kernel_rfl
def q84 : Nat → List (List Nat) × List (Nat × Nat)
  | _ => ([], [])
theorem ok84 : slimF Try.prog 0 mdA q84 none Try.f84 = some F84 := by kernel_rfl
def qA : Nat → Nat → List (List Nat) × List (Nat × Nat)
  | 3 => q3
  | 4 => q4
  | 5 => q5
  | 6 => q6
  | 7 => q7
  | 8 => q8
  | 9 => q9
  | 10 => q10
  | 11 => q11
  | 12 => q12
  | 13 => q13
  | 14 => q14
  | 15 => q15
  | 16 => q16
  | 17 => q17
  | 18 => q18
  | 19 => q19
  | 20 => q20
  | 21 => q21
  | 22 => q22
  | 23 => q23
  | 24 => q24
  | 25 => q25
  | 26 => q26
  | 27 => q27
  | 28 => q28
  | 29 => q29
  | 30 => q30
  | 31 => q31
  | 32 => q32
  | 33 => q33
  | 34 => q34
  | 35 => q35
  | 36 => q36
  | 37 => q37
  | 38 => q38
  | 39 => q39
  | 40 => q40
  | 41 => q41
  | 42 => q42
  | 43 => q43
  | 44 => q44
  | 45 => q45
  | 46 => q46
  | 47 => q47
  | 48 => q48
  | 51 => q51
  | 52 => q52
  | 53 => q53
  | 54 => q54
  | 55 => q55
  | 56 => q56
  | 57 => q57
  | 58 => q58
  | 59 => q59
  | 60 => q60
  | 61 => q61
  | 71 => q71
  | 72 => q72
  | 73 => q73
  | 74 => q74
  | 75 => q75
  | 77 => q77
  | 83 => q83
  | 84 => q84
  | _ => fun _ => ([], [])
theorem TA_ok (h43 : NatOK Try.prog 0 43 (sortNat 44)) : ∀ f sf, TA f = some sf → FunOK Try.prog 0 mdA (qA f) none f sf := by
  intro f sf h
  unfold TA at h
  split at h
  · cases h; exact Or.inl ⟨Try.f3, Try.func3, ok3⟩
  · cases h; exact Or.inl ⟨Try.f4, Try.func4, ok4⟩
  · cases h; exact Or.inl ⟨Try.f5, Try.func5, ok5⟩
  · cases h; exact Or.inl ⟨Try.f6, Try.func6, ok6⟩
  · cases h; exact Or.inl ⟨Try.f7, Try.func7, ok7⟩
  · cases h; exact Or.inl ⟨Try.f8, Try.func8, ok8⟩
  · cases h; exact Or.inl ⟨Try.f9, Try.func9, ok9⟩
  · cases h; exact Or.inl ⟨Try.f10, Try.func10, ok10⟩
  · cases h; exact Or.inl ⟨Try.f11, Try.func11, ok11⟩
  · cases h; exact Or.inl ⟨Try.f12, Try.func12, ok12⟩
  · cases h; exact Or.inl ⟨Try.f13, Try.func13, ok13⟩
  · cases h; exact Or.inl ⟨Try.f14, Try.func14, ok14⟩
  · cases h; exact Or.inl ⟨Try.f15, Try.func15, ok15⟩
  · cases h; exact Or.inl ⟨Try.f16, Try.func16, ok16⟩
  · cases h; exact Or.inl ⟨Try.f17, Try.func17, ok17⟩
  · cases h; exact Or.inl ⟨Try.f18, Try.func18, ok18⟩
  · cases h; exact Or.inl ⟨Try.f19, Try.func19, ok19⟩
  · cases h; exact Or.inl ⟨Try.f20, Try.func20, ok20⟩
  · cases h; exact Or.inl ⟨Try.f21, Try.func21, ok21⟩
  · cases h; exact Or.inl ⟨Try.f22, Try.func22, ok22⟩
  · cases h; exact Or.inl ⟨Try.f23, Try.func23, ok23⟩
  · cases h; exact Or.inl ⟨Try.f24, Try.func24, ok24⟩
  · cases h; exact Or.inl ⟨Try.f25, Try.func25, ok25⟩
  · cases h; exact Or.inl ⟨Try.f26, Try.func26, ok26⟩
  · cases h; exact Or.inl ⟨Try.f27, Try.func27, ok27⟩
  · cases h; exact Or.inl ⟨Try.f28, Try.func28, ok28⟩
  · cases h; exact Or.inl ⟨Try.f29, Try.func29, ok29⟩
  · cases h; exact Or.inl ⟨Try.f30, Try.func30, ok30⟩
  · cases h; exact Or.inl ⟨Try.f31, Try.func31, ok31⟩
  · cases h; exact Or.inl ⟨Try.f32, Try.func32, ok32⟩
  · cases h; exact Or.inl ⟨Try.f33, Try.func33, ok33⟩
  · cases h; exact Or.inl ⟨Try.f34, Try.func34, ok34⟩
  · cases h; exact Or.inl ⟨Try.f35, Try.func35, ok35⟩
  · cases h; exact Or.inl ⟨Try.f36, Try.func36, ok36⟩
  · cases h; exact Or.inl ⟨Try.f37, Try.func37, ok37⟩
  · cases h; exact Or.inl ⟨Try.f38, Try.func38, ok38⟩
  · cases h; exact Or.inl ⟨Try.f39, Try.func39, ok39⟩
  · cases h; exact Or.inl ⟨Try.f40, Try.func40, ok40⟩
  · cases h; exact Or.inl ⟨Try.f41, Try.func41, ok41⟩
  · cases h; exact Or.inl ⟨Try.f42, Try.func42, ok42⟩
  · cases h; exact Or.inr ⟨_, rfl, h43⟩
  · cases h; exact Or.inl ⟨Try.f44, Try.func44, ok44⟩
  · cases h; exact Or.inl ⟨Try.f45, Try.func45, ok45⟩
  · cases h; exact Or.inl ⟨Try.f46, Try.func46, ok46⟩
  · cases h; exact Or.inl ⟨Try.f47, Try.func47, ok47⟩
  · cases h; exact Or.inl ⟨Try.f48, Try.func48, ok48⟩
  · cases h; exact Or.inl ⟨Try.f51, Try.func51, ok51⟩
  · cases h; exact Or.inl ⟨Try.f52, Try.func52, ok52⟩
  · cases h; exact Or.inl ⟨Try.f53, Try.func53, ok53⟩
  · cases h; exact Or.inl ⟨Try.f54, Try.func54, ok54⟩
  · cases h; exact Or.inl ⟨Try.f55, Try.func55, ok55⟩
  · cases h; exact Or.inl ⟨Try.f56, Try.func56, ok56⟩
  · cases h; exact Or.inl ⟨Try.f57, Try.func57, ok57⟩
  · cases h; exact Or.inl ⟨Try.f58, Try.func58, ok58⟩
  · cases h; exact Or.inl ⟨Try.f59, Try.func59, ok59⟩
  · cases h; exact Or.inl ⟨Try.f60, Try.func60, ok60⟩
  · cases h; exact Or.inl ⟨Try.f61, Try.func61, ok61⟩
  · cases h; exact Or.inl ⟨Try.f71, Try.func71, ok71⟩
  · cases h; exact Or.inl ⟨Try.f72, Try.func72, ok72⟩
  · cases h; exact Or.inl ⟨Try.f73, Try.func73, ok73⟩
  · cases h; exact Or.inl ⟨Try.f74, Try.func74, ok74⟩
  · cases h; exact Or.inl ⟨Try.f75, Try.func75, ok75⟩
  · cases h; exact Or.inl ⟨Try.f77, Try.func77, ok77⟩
  · cases h; exact Or.inl ⟨Try.f83, Try.func83, ok83⟩
  · cases h; exact Or.inl ⟨Try.f84, Try.func84, ok84⟩
  · cases h
end Go.Proofs.Ytkdbnmohpanpfaa.Sy
