/- A part of the proof of the law MeasureParts: that it answers true for every input, and that the input reads behind the call as before (no condition). -/
import Derived.Test.YtcnlgmajkclgjaaMeasurePartsG6
set_option linter.all false
set_option linter.unusedSectionVars false
set_option linter.unusedVariables false
set_option linter.unusedSimpArgs false
namespace Go.Sv
open Go Go.Proofs
def x22 : XC := (.seq (.ops 3 [
    (0, ⟨(some 2), none, .box (.t 0)⟩),
    (1, ⟨(some 3), none, .box (.t 1)⟩),
    (2, ⟨(some 4), none, .mv (.k (.d (.val (.bool false))))⟩)] (some [2, 3])) (.seq (.ops 12 [
    (5, ⟨(some 14), none, .load (some 8) (.t 3)⟩),
    (4, ⟨(some 13), none, .load (some 8) (.t 2)⟩),
    (0, ⟨(some 9), none, .load (some 8) (.t 2)⟩),
    (1, ⟨(some 10), none, .load (some 8) (.t 3)⟩),
    (2, ⟨(some 11), none, .mkrow [(.int .i64 0), (.int .u64 0), (.int .u64 0), (.int .u64 0), (.int .u64 0), (.int .i64 0), (.int .i64 0), (.slice none 0 0)] 2 8 [(0, 8, (.t 9)), (8, 8, (.t 10))]⟩),
    (3, ⟨(some 12), none, .build [(.int .i64 0), (.int .u64 0), (.int .u64 0), (.int .u64 0), (.int .u64 0), (.int .i64 0), (.int .i64 0), (.slice none 0 0)] [(0, 1, (.k (.d (.val (.int .i64 4))))), (7, 1, (.t 11))]⟩),
    (8, ⟨(some 5), none, .alloc [(.int .i64 0), (.int .u64 0), (.int .u64 0), (.int .u64 0), (.int .u64 0), (.int .i64 0), (.int .i64 0), (.slice none 0 0)]⟩),
    (9, ⟨(some 6), none, .alloc [(.int .i64 0), (.int .u64 0), (.int .u64 0), (.int .u64 0), (.int .u64 0), (.int .i64 0), (.int .i64 0), (.slice none 0 0)]⟩),
    (10, ⟨none, none, .storeA 8 (.t 5) (.t 12) [2, 3]⟩),
    (6, ⟨(some 15), none, .mkrow [(.int .i64 0), (.int .u64 0), (.int .u64 0), (.int .u64 0), (.int .u64 0), (.int .i64 0), (.int .i64 0), (.slice none 0 0)] 2 8 [(0, 8, (.t 13)), (8, 8, (.t 14))]⟩),
    (7, ⟨(some 16), none, .build [(.int .i64 0), (.int .u64 0), (.int .u64 0), (.int .u64 0), (.int .u64 0), (.int .i64 0), (.int .i64 0), (.slice none 0 0)] [(0, 1, (.k (.d (.val (.int .i64 3))))), (7, 1, (.t 15))]⟩),
    (11, ⟨none, none, .store 8 (.t 6) (.t 16)⟩)] (some [2, 3, 5, 6])) (.seq (.seq (.ops 17 [
    (0, ⟨(some 17), none, .call 64 [] none false⟩),
    (1, ⟨(some 18), none, .un .not (.t 17)⟩),
    (2, ⟨(some 19), none, .mv (.t 18)⟩),
    (3, ⟨(some 20), (some (19, false)), .load (some 8) (.t 5)⟩),
    (4, ⟨(some 21), (some (19, false)), .call 45 [(.t 20)] none false⟩),
    (5, ⟨(some 22), (some (19, false)), .un .not (.t 21)⟩),
    (6, ⟨(some 23), none, .pick (.t 19) (.k (.d (.val (.bool true)))) (.t 22)⟩),
    (7, ⟨(some 24), none, .mv (.t 23)⟩),
    (8, ⟨(some 25), (some (24, false)), .load (some 8) (.t 5)⟩),
    (9, ⟨(some 26), (some (24, false)), .call 32 [(.t 25)] none false⟩),
    (10, ⟨(some 27), (some (24, false)), .un .not (.t 26)⟩),
    (11, ⟨(some 28), none, .pick (.t 24) (.k (.d (.val (.bool true)))) (.t 27)⟩),
    (12, ⟨(some 29), none, .mv (.t 28)⟩),
    (13, ⟨(some 30), (some (29, false)), .load (some 8) (.t 6)⟩),
    (14, ⟨(some 31), (some (29, false)), .call 32 [(.t 30)] none false⟩),
    (15, ⟨(some 32), (some (29, false)), .un .not (.t 31)⟩),
    (16, ⟨(some 33), none, .pick (.t 29) (.k (.d (.val (.bool true)))) (.t 32)⟩)] (some [2, 3, 5, 6, 33])) (.cond (.t 33) (.seq (.ops 2 [
    (0, ⟨(some 34), none, .call 64 [] none false⟩),
    (1, ⟨(some 4), none, .mv (.t 34)⟩)] (some [4])) .ret) .skip)) (.seq (.ops 7 [
    (0, ⟨(some 35), none, .load (some 8) (.t 2)⟩),
    (1, ⟨(some 36), none, .call 70 [(.t 35)] none false⟩),
    (2, ⟨(some 37), none, .load (some 8) (.t 3)⟩),
    (3, ⟨(some 38), none, .call 70 [(.t 37)] none false⟩),
    (4, ⟨(some 39), none, .call 73 [(.t 36), (.t 38)] none false⟩),
    (5, ⟨(some 7), none, .alloc [(.int .u64 0), (.int .u64 0), (.int .u64 0), (.int .u64 0)]⟩),
    (6, ⟨none, none, .store 4 (.t 7) (.t 39)⟩)] (some [2, 3, 5, 6, 7])) (.seq (.ops 4 [
    (0, ⟨(some 40), none, .load (some 8) (.t 2)⟩),
    (1, ⟨(some 41), none, .call 70 [(.t 40)] none false⟩),
    (2, ⟨(some 8), none, .alloc [(.int .u64 0), (.int .u64 0), (.int .u64 0), (.int .u64 0)]⟩),
    (3, ⟨none, none, .store 4 (.t 8) (.t 41)⟩)] (some [2, 3, 5, 6, 7, 8])) (.seq (.seq (.ops 2 [
    (0, ⟨(some 42), none, .load (some 8) (.t 2)⟩),
    (1, ⟨(some 43), none, .call 69 [(.t 42)] none false⟩)] (some [2, 3, 5, 6, 7, 8, 43])) (.cond (.t 43) (.ops 2 [
    (0, ⟨(some 44), none, .load (some 4) (.t 7)⟩),
    (1, ⟨none, none, .store 4 (.t 8) (.t 44)⟩)] (some [2, 3, 5, 6, 7, 8])) .skip)) (.seq (.seq (.ops 6 [
    (0, ⟨(some 45), none, .load (some 8) (.t 2)⟩),
    (1, ⟨(some 46), none, .call 71 [(.t 45)] none false⟩),
    (2, ⟨(some 47), none, .mv (.t 46)⟩),
    (3, ⟨(some 48), (some (47, false)), .load (some 8) (.t 3)⟩),
    (4, ⟨(some 49), (some (47, false)), .call 71 [(.t 48)] none false⟩),
    (5, ⟨(some 50), none, .pick (.t 47) (.k (.d (.val (.bool true)))) (.t 49)⟩)] (some [2, 3, 5, 6, 7, 8, 50])) (.cond (.t 50) (.ops 2 [
    (0, ⟨(some 51), none, .build [(.int .u64 0), (.int .u64 0), (.int .u64 0), (.int .u64 0)] []⟩),
    (1, ⟨none, none, .store 4 (.t 8) (.t 51)⟩)] (some [2, 3, 5, 6, 7, 8])) .skip)) (.seq (.ops 49 [
    (0, ⟨(some 52), none, .load (some 8) (.t 5)⟩),
    (1, ⟨(some 53), none, .call 70 [(.t 52)] none false⟩),
    (2, ⟨(some 54), none, .load (some 4) (.t 7)⟩),
    (3, ⟨(some 55), none, .eqAgg 4 false (.t 53) (.t 54)⟩),
    (4, ⟨(some 56), none, .mv (.t 55)⟩),
    (5, ⟨(some 57), (some (56, true)), .load (some 8) (.t 6)⟩),
    (6, ⟨(some 58), (some (56, true)), .call 70 [(.t 57)] none false⟩),
    (7, ⟨(some 59), (some (56, true)), .load (some 4) (.t 8)⟩),
    (8, ⟨(some 60), (some (56, true)), .eqAgg 4 false (.t 58) (.t 59)⟩),
    (9, ⟨(some 61), none, .pick (.t 56) (.t 60) (.k (.d (.val (.bool false))))⟩),
    (10, ⟨(some 62), none, .mv (.t 61)⟩),
    (11, ⟨(some 63), (some (62, true)), .load (some 8) (.t 5)⟩),
    (12, ⟨(some 64), (some (62, true)), .call 69 [(.t 63)] none false⟩),
    (13, ⟨(some 65), (some (62, true)), .load (some 8) (.t 2)⟩),
    (14, ⟨(some 66), (some (62, true)), .call 69 [(.t 65)] none false⟩),
    (15, ⟨(some 67), (some (62, true)), .mv (.t 66)⟩),
    (16, ⟨(some 68), (some (67, false)), .load (some 8) (.t 3)⟩),
    (17, ⟨(some 69), (some (67, false)), .call 69 [(.t 68)] none false⟩),
    (18, ⟨(some 70), (some (62, true)), .pick (.t 67) (.k (.d (.val (.bool true)))) (.t 69)⟩),
    (19, ⟨(some 71), (some (62, true)), .beq false (.t 64) (.t 70)⟩),
    (20, ⟨(some 72), none, .pick (.t 62) (.t 71) (.k (.d (.val (.bool false))))⟩),
    (21, ⟨(some 73), none, .mv (.t 72)⟩),
    (22, ⟨(some 74), (some (73, true)), .load (some 8) (.t 6)⟩),
    (23, ⟨(some 75), (some (73, true)), .call 69 [(.t 74)] none false⟩),
    (24, ⟨(some 76), (some (73, true)), .load (some 8) (.t 2)⟩),
    (25, ⟨(some 77), (some (73, true)), .call 69 [(.t 76)] none false⟩),
    (26, ⟨(some 78), (some (73, true)), .mv (.t 77)⟩),
    (27, ⟨(some 79), (some (78, true)), .load (some 8) (.t 3)⟩),
    (28, ⟨(some 80), (some (78, true)), .call 69 [(.t 79)] none false⟩),
    (29, ⟨(some 81), (some (73, true)), .pick (.t 78) (.t 80) (.k (.d (.val (.bool false))))⟩),
    (30, ⟨(some 82), (some (73, true)), .beq false (.t 75) (.t 81)⟩),
    (31, ⟨(some 83), none, .pick (.t 73) (.t 82) (.k (.d (.val (.bool false))))⟩),
    (32, ⟨(some 84), none, .mv (.t 83)⟩),
    (33, ⟨(some 85), (some (84, true)), .load (some 8) (.t 5)⟩),
    (34, ⟨(some 86), (some (84, true)), .call 68 [(.t 85)] none false⟩),
    (35, ⟨(some 87), (some (84, true)), .load (some 8) (.t 6)⟩),
    (36, ⟨(some 88), (some (84, true)), .call 68 [(.t 87)] none false⟩),
    (37, ⟨(some 89), (some (84, true)), .arith .eql (.t 86) (.t 88)⟩),
    (38, ⟨(some 90), none, .pick (.t 84) (.t 89) (.k (.d (.val (.bool false))))⟩),
    (39, ⟨(some 91), none, .mv (.t 90)⟩),
    (40, ⟨(some 92), (some (91, true)), .load (some 4) (.t 7)⟩),
    (41, ⟨(some 93), (some (91, true)), .call 74 [(.t 92)] none false⟩),
    (42, ⟨(some 94), (some (91, true)), .lenS (.t 93)⟩),
    (43, ⟨(some 95), (some (91, true)), .load (some 4) (.t 8)⟩),
    (44, ⟨(some 96), (some (91, true)), .call 74 [(.t 95)] none false⟩),
    (45, ⟨(some 97), (some (91, true)), .lenS (.t 96)⟩),
    (46, ⟨(some 98), (some (91, true)), .arith .geq (.t 94) (.t 97)⟩),
    (47, ⟨(some 99), none, .pick (.t 91) (.t 98) (.k (.d (.val (.bool false))))⟩),
    (48, ⟨(some 4), none, .mv (.t 99)⟩)] (some [4])) .ret))))))))
def md22 : FuncId → Option Nat × Bool
  | _ => (none, false)
def od22 : Nat → List (List Nat) × List Nat × Option (List Nat)
  | 0 => ([], [], some [2, 3])
  | 1 => ([[], [], [0, 1], [0, 1, 2], [], [], [4, 5], [4, 5, 6], [], [], [0, 1, 2, 3, 8, 9], [0, 1, 2, 3, 4, 5, 6, 7, 8, 9, 10]], [5, 4, 0, 1, 2, 3, 8, 9, 10, 6, 7, 11], some [2, 3, 5, 6])
  | 2 => ([], [], some [2, 3, 5, 6, 33])
  | 3 => ([], [], some [4])
  | 4 => ([[], [0], [], [0, 1, 2], [0, 1, 2, 3], [], [0, 1, 2, 3, 4, 5]], [0, 1, 2, 3, 4, 5, 6], some [2, 3, 5, 6, 7])
  | 5 => ([], [], some [2, 3, 5, 6, 7, 8])
  | 6 => ([], [], some [2, 3, 5, 6, 7, 8, 43])
  | 7 => ([], [], some [2, 3, 5, 6, 7, 8])
  | 8 => ([], [], some [2, 3, 5, 6, 7, 8, 50])
  | 9 => ([], [], some [2, 3, 5, 6, 7, 8])
  | 10 => ([[], [0], [], [0, 1, 2], [0, 1, 2, 3], [0, 1, 2, 3, 4], [0, 1, 2, 3, 4, 5], [0, 1, 2, 3, 4], [0, 1, 2, 3, 4, 5, 6, 7], [0, 1, 2, 3, 4, 5, 6, 7, 8], [0, 1, 2, 3, 4, 5, 6, 7, 8, 9], [0, 1, 2, 3, 4, 5, 6, 7, 8, 9, 10], [0, 1, 2, 3, 4, 5, 6, 7, 8, 9, 10, 11], [0, 1, 2, 3, 4, 5, 6, 7, 8, 9, 10], [0, 1, 2, 3, 4, 5, 6, 7, 8, 9, 10, 11, 12, 13], [0, 1, 2, 3, 4, 5, 6, 7, 8, 9, 10, 11, 12, 13, 14], [0, 1, 2, 3, 4, 5, 6, 7, 8, 9, 10, 11, 12, 13, 14, 15], [0, 1, 2, 3, 4, 5, 6, 7, 8, 9, 10, 11, 12, 13, 14, 15, 16], [0, 1, 2, 3, 4, 5, 6, 7, 8, 9, 10, 11, 12, 13, 14, 15, 16, 17], [0, 1, 2, 3, 4, 5, 6, 7, 8, 9, 10, 11, 12, 13, 14, 15, 16, 17, 18], [0, 1, 2, 3, 4, 5, 6, 7, 8, 9, 10, 11, 12, 13, 14, 15, 16, 17, 18, 19], [0, 1, 2, 3, 4, 5, 6, 7, 8, 9, 10, 11, 12, 13, 14, 15, 16, 17, 18, 19, 20], [0, 1, 2, 3, 4, 5, 6, 7, 8, 9, 10, 11, 12, 13, 14, 15, 16, 17, 18, 19, 20, 21], [0, 1, 2, 3, 4, 5, 6, 7, 8, 9, 10, 11, 12, 13, 14, 15, 16, 17, 18, 19, 20, 21, 22], [0, 1, 2, 3, 4, 5, 6, 7, 8, 9, 10, 11, 12, 13, 14, 15, 16, 17, 18, 19, 20, 21], [0, 1, 2, 3, 4, 5, 6, 7, 8, 9, 10, 11, 12, 13, 14, 15, 16, 17, 18, 19, 20, 21, 22, 23, 24], [0, 1, 2, 3, 4, 5, 6, 7, 8, 9, 10, 11, 12, 13, 14, 15, 16, 17, 18, 19, 20, 21, 22, 23, 24, 25], [0, 1, 2, 3, 4, 5, 6, 7, 8, 9, 10, 11, 12, 13, 14, 15, 16, 17, 18, 19, 20, 21, 22, 23, 24, 25, 26], [0, 1, 2, 3, 4, 5, 6, 7, 8, 9, 10, 11, 12, 13, 14, 15, 16, 17, 18, 19, 20, 21, 22, 23, 24, 25, 26, 27], [0, 1, 2, 3, 4, 5, 6, 7, 8, 9, 10, 11, 12, 13, 14, 15, 16, 17, 18, 19, 20, 21, 22, 23, 24, 25, 26, 27, 28], [0, 1, 2, 3, 4, 5, 6, 7, 8, 9, 10, 11, 12, 13, 14, 15, 16, 17, 18, 19, 20, 21, 22, 23, 24, 25, 26, 27, 28, 29], [0, 1, 2, 3, 4, 5, 6, 7, 8, 9, 10, 11, 12, 13, 14, 15, 16, 17, 18, 19, 20, 21, 22, 23, 24, 25, 26, 27, 28, 29, 30], [0, 1, 2, 3, 4, 5, 6, 7, 8, 9, 10, 11, 12, 13, 14, 15, 16, 17, 18, 19, 20, 21, 22, 23, 24, 25, 26, 27, 28, 29, 30, 31], [0, 1, 2, 3, 4, 5, 6, 7, 8, 9, 10, 11, 12, 13, 14, 15, 16, 17, 18, 19, 20, 21, 22, 23, 24, 25, 26, 27, 28, 29, 30, 31, 32], [0, 1, 2, 3, 4, 5, 6, 7, 8, 9, 10, 11, 12, 13, 14, 15, 16, 17, 18, 19, 20, 21, 22, 23, 24, 25, 26, 27, 28, 29, 30, 31, 32, 33], [0, 1, 2, 3, 4, 5, 6, 7, 8, 9, 10, 11, 12, 13, 14, 15, 16, 17, 18, 19, 20, 21, 22, 23, 24, 25, 26, 27, 28, 29, 30, 31, 32], [0, 1, 2, 3, 4, 5, 6, 7, 8, 9, 10, 11, 12, 13, 14, 15, 16, 17, 18, 19, 20, 21, 22, 23, 24, 25, 26, 27, 28, 29, 30, 31, 32, 33, 34, 35], [0, 1, 2, 3, 4, 5, 6, 7, 8, 9, 10, 11, 12, 13, 14, 15, 16, 17, 18, 19, 20, 21, 22, 23, 24, 25, 26, 27, 28, 29, 30, 31, 32, 33, 34, 35, 36], [0, 1, 2, 3, 4, 5, 6, 7, 8, 9, 10, 11, 12, 13, 14, 15, 16, 17, 18, 19, 20, 21, 22, 23, 24, 25, 26, 27, 28, 29, 30, 31, 32, 33, 34, 35, 36, 37], [0, 1, 2, 3, 4, 5, 6, 7, 8, 9, 10, 11, 12, 13, 14, 15, 16, 17, 18, 19, 20, 21, 22, 23, 24, 25, 26, 27, 28, 29, 30, 31, 32, 33, 34, 35, 36, 37, 38], [0, 1, 2, 3, 4, 5, 6, 7, 8, 9, 10, 11, 12, 13, 14, 15, 16, 17, 18, 19, 20, 21, 22, 23, 24, 25, 26, 27, 28, 29, 30, 31, 32, 33, 34, 35, 36, 37, 38, 39], [0, 1, 2, 3, 4, 5, 6, 7, 8, 9, 10, 11, 12, 13, 14, 15, 16, 17, 18, 19, 20, 21, 22, 23, 24, 25, 26, 27, 28, 29, 30, 31, 32, 33, 34, 35, 36, 37, 38, 39, 40], [0, 1, 2, 3, 4, 5, 6, 7, 8, 9, 10, 11, 12, 13, 14, 15, 16, 17, 18, 19, 20, 21, 22, 23, 24, 25, 26, 27, 28, 29, 30, 31, 32, 33, 34, 35, 36, 37, 38, 39, 40, 41], [0, 1, 2, 3, 4, 5, 6, 7, 8, 9, 10, 11, 12, 13, 14, 15, 16, 17, 18, 19, 20, 21, 22, 23, 24, 25, 26, 27, 28, 29, 30, 31, 32, 33, 34, 35, 36, 37, 38, 39], [0, 1, 2, 3, 4, 5, 6, 7, 8, 9, 10, 11, 12, 13, 14, 15, 16, 17, 18, 19, 20, 21, 22, 23, 24, 25, 26, 27, 28, 29, 30, 31, 32, 33, 34, 35, 36, 37, 38, 39, 40, 41, 43], [0, 1, 2, 3, 4, 5, 6, 7, 8, 9, 10, 11, 12, 13, 14, 15, 16, 17, 18, 19, 20, 21, 22, 23, 24, 25, 26, 27, 28, 29, 30, 31, 32, 33, 34, 35, 36, 37, 38, 39, 40, 41, 43, 44], [0, 1, 2, 3, 4, 5, 6, 7, 8, 9, 10, 11, 12, 13, 14, 15, 16, 17, 18, 19, 20, 21, 22, 23, 24, 25, 26, 27, 28, 29, 30, 31, 32, 33, 34, 35, 36, 37, 38, 39, 40, 41, 42, 43, 44, 45], [0, 1, 2, 3, 4, 5, 6, 7, 8, 9, 10, 11, 12, 13, 14, 15, 16, 17, 18, 19, 20, 21, 22, 23, 24, 25, 26, 27, 28, 29, 30, 31, 32, 33, 34, 35, 36, 37, 38, 39, 40, 41, 42, 43, 44, 45, 46], [0, 1, 2, 3, 4, 5, 6, 7, 8, 9, 10, 11, 12, 13, 14, 15, 16, 17, 18, 19, 20, 21, 22, 23, 24, 25, 26, 27, 28, 29, 30, 31, 32, 33, 34, 35, 36, 37, 38, 39, 40, 41, 42, 43, 44, 45, 46, 47]], [0, 1, 2, 3, 4, 5, 6, 7, 8, 9, 10, 11, 12, 13, 14, 15, 16, 17, 18, 19, 20, 21, 22, 23, 24, 25, 26, 27, 28, 29, 30, 31, 32, 33, 34, 35, 36, 37, 38, 39, 40, 41, 42, 43, 44, 45, 46, 47, 48], some [4])
  | _ => ([], [], none)
theorem b22 {ags : List AV} {row : Option (List DV)} {r : AV} {row' nw : Option (List DV)} (hal : ags.length ≤ 100) (hrow : row'.isSome = true → row.isSome = true) (h : xwp Try.prog x22 (retK [.tmp 4] row.isSome r row' nw) (St.init ags row)) : Good Try.prog 22 ags row r row' nw :=
  good_of_body' (md := md22) (od := od22) Try.f22 (by kernel_rfl) (by kernel_rfl) (by kernel_rfl) (by kernel_rfl) (by kernel_rfl) hal hrow h

set_option maxRecDepth 100000
set_option maxHeartbeats 4000000
attribute [local irreducible] W E R KP thenK blockK retK Good xwp aRun
theorem conv2 {C : Heap} {id : Nat} {kk : Int} {t u : T} (hC : C id = some ((encL [t, u]).map AV.d)) : convAs C (fun _ => false) [.agg [.i kk, .d (.val (.int .u64 0)), .d (.val (.int .u64 0)), .d (.val (.int .u64 0)), .d (.val (.int .u64 0)), .i 0, .i 0, .slL id 0 2 8]] = some ([nodeA (.node kk 0 0 0 0 0 0 [t, u])], [id]) := by
  have h := conv_rowN (C := C) (ex := fun _ => false) (id := id) (m := 2) (L := [t, u]) hC rfl rfl
  have h2 : ∀ x : Value, convC C (fun _ => false) 9 (.d (.val x)) = some ((DV.val x).norm, []) := fun x => rfl
  simp only [convAs, convA, mapO, h2, h, Option.map_some, Option.bind_some]
  rfl
theorem wide_two (t u : T) : wideT (altT t u) = wideT (catT t u) := by
  simp only [altT, catT, wideT, wideL, wideQ, show ¬ (4 : Int) = 5 by omega, show ¬ (3 : Int) = 5 by omega, if_false]
theorem w22_true_gnv_false_true {gnv : Bool} {k a b c d mn mx k2 a2 b2 c2 d2 mn2 mx2 : Int} {subs subs2 : List T} {fa fb fc fd ga gb gc gd o0 o1 o2 o3 wd : Int} {lO lW : List Nat}
    (haw : Good Try.prog 64 [] none (.b true) none none) (h45 : Good Try.prog 45 [nodeA (altT (.node k a b c d mn mx subs) (.node k2 a2 b2 c2 d2 mn2 mx2 subs2))] none (.b true) none none) (h32 : Good Try.prog 32 [nodeA (altT (.node k a b c d mn mx subs) (.node k2 a2 b2 c2 d2 mn2 mx2 subs2))] none (.b true) none none) (h32c : Good Try.prog 32 [nodeA (catT (.node k a b c d mn mx subs) (.node k2 a2 b2 c2 d2 mn2 mx2 subs2))] none (.b true) none none)
    (h70t : Good Try.prog 70 [.agg [.i k, .d (.val (.int .u64 a)), .d (.val (.int .u64 b)), .d (.val (.int .u64 c)), .d (.val (.int .u64 d)), .i mn, .i mx, .d (.sl (encL subs) subs.length)]] none (.agg [.d (.val (.int .u64 fa)), .d (.val (.int .u64 fb)), .d (.val (.int .u64 fc)), .d (.val (.int .u64 fd))]) none none) (h70u : Good Try.prog 70 [.agg [.i k2, .d (.val (.int .u64 a2)), .d (.val (.int .u64 b2)), .d (.val (.int .u64 c2)), .d (.val (.int .u64 d2)), .i mn2, .i mx2, .d (.sl (encL subs2) subs2.length)]] none (.agg [.d (.val (.int .u64 ga)), .d (.val (.int .u64 gb)), .d (.val (.int .u64 gc)), .d (.val (.int .u64 gd))]) none none) (h73 : Good Try.prog 73 [.agg [.d (.val (.int .u64 fa)), .d (.val (.int .u64 fb)), .d (.val (.int .u64 fc)), .d (.val (.int .u64 fd))], .agg [.d (.val (.int .u64 ga)), .d (.val (.int .u64 gb)), .d (.val (.int .u64 gc)), .d (.val (.int .u64 gd))]] none (.agg [.d (.val (.int .u64 o0)), .d (.val (.int .u64 o1)), .d (.val (.int .u64 o2)), .d (.val (.int .u64 o3))]) none none)
    (h70a : Good Try.prog 70 [nodeA (altT (.node k a b c d mn mx subs) (.node k2 a2 b2 c2 d2 mn2 mx2 subs2))] none (.agg [.d (.val (.int .u64 o0)), .d (.val (.int .u64 o1)), .d (.val (.int .u64 o2)), .d (.val (.int .u64 o3))]) none none) (h70c : Good Try.prog 70 [nodeA (catT (.node k a b c d mn mx subs) (.node k2 a2 b2 c2 d2 mn2 mx2 subs2))] none (.agg [.d (.val (.int .u64 0)), .d (.val (.int .u64 0)), .d (.val (.int .u64 0)), .d (.val (.int .u64 0))]) none none)
    (h69t : Good Try.prog 69 [.agg [.i k, .d (.val (.int .u64 a)), .d (.val (.int .u64 b)), .d (.val (.int .u64 c)), .d (.val (.int .u64 d)), .i mn, .i mx, .d (.sl (encL subs) subs.length)]] none (.b false) none none) (h69u : Good Try.prog 69 [.agg [.i k2, .d (.val (.int .u64 a2)), .d (.val (.int .u64 b2)), .d (.val (.int .u64 c2)), .d (.val (.int .u64 d2)), .i mn2, .i mx2, .d (.sl (encL subs2) subs2.length)]] none (.b true) none none) (h69a : Good Try.prog 69 [nodeA (altT (.node k a b c d mn mx subs) (.node k2 a2 b2 c2 d2 mn2 mx2 subs2))] none (.b (false || true)) none none) (h69c : Good Try.prog 69 [nodeA (catT (.node k a b c d mn mx subs) (.node k2 a2 b2 c2 d2 mn2 mx2 subs2))] none (.b (false && true)) none none)
    (h71t : Good Try.prog 71 [.agg [.i k, .d (.val (.int .u64 a)), .d (.val (.int .u64 b)), .d (.val (.int .u64 c)), .d (.val (.int .u64 d)), .i mn, .i mx, .d (.sl (encL subs) subs.length)]] none (.b true) none none) (h71u : Good Try.prog 71 [.agg [.i k2, .d (.val (.int .u64 a2)), .d (.val (.int .u64 b2)), .d (.val (.int .u64 c2)), .d (.val (.int .u64 d2)), .i mn2, .i mx2, .d (.sl (encL subs2) subs2.length)]] none (.b gnv) none none)
    (h68a : Good Try.prog 68 [nodeA (altT (.node k a b c d mn mx subs) (.node k2 a2 b2 c2 d2 mn2 mx2 subs2))] none (.i wd) none none) (h68c : Good Try.prog 68 [nodeA (catT (.node k a b c d mn mx subs) (.node k2 a2 b2 c2 d2 mn2 mx2 subs2))] none (.i wd) none none)
    (h74o : Good Try.prog 74 [.agg [.d (.val (.int .u64 o0)), .d (.val (.int .u64 o1)), .d (.val (.int .u64 o2)), .d (.val (.int .u64 o3))]] none (.d (.sl (encI (encJ lO)) lO.length)) none none) (h74w : Good Try.prog 74 [.agg [.d (.val (.int .u64 0)), .d (.val (.int .u64 0)), .d (.val (.int .u64 0)), .d (.val (.int .u64 0))]] none (.d (.sl (encI (encJ lW)) lW.length)) none none)
    (hww : (wd == wd) = true) (hge : decide ((lO.length : Int) ≥ (lW.length : Int)) = true) : Good Try.prog 22 [.agg [.i k, .d (.val (.int .u64 a)), .d (.val (.int .u64 b)), .d (.val (.int .u64 c)), .d (.val (.int .u64 d)), .i mn, .i mx, .d (.sl (encL subs) subs.length)], .agg [.i k2, .d (.val (.int .u64 a2)), .d (.val (.int .u64 b2)), .d (.val (.int .u64 c2)), .d (.val (.int .u64 d2)), .i mn2, .i mx2, .d (.sl (encL subs2) subs2.length)]] none (.b true) none none := by
  refine b22 (by simp) (by simp) (w_init ?_)
  unfold x22
  repeat' (first
    | (apply r_mvV; rfl)
    | (apply r_mvP; rfl)
    | (apply r_mvPL; rfl)
    | (apply r_mvS; rfl)
    | (apply r_mvSL; rfl)
    | (apply r_mvA; rfl)
    | (apply r_mvT; rfl)
    | (apply r_mvF; rfl)
    | (apply r_mvD; rfl)
    | (apply r_ldL (v := .agg [.i k, .d (.val (.int .u64 a)), .d (.val (.int .u64 b)), .d (.val (.int .u64 c)), .d (.val (.int .u64 d)), .i mn, .i mx, .d (.sl (encL subs) subs.length)]); rfl; rfl; rfl)
    | (apply r_ldL (v := .agg [.i k2, .d (.val (.int .u64 a2)), .d (.val (.int .u64 b2)), .d (.val (.int .u64 c2)), .d (.val (.int .u64 d2)), .i mn2, .i mx2, .d (.sl (encL subs2) subs2.length)]); rfl; rfl; rfl)
    | (apply r_ldL (v := .agg [.i 4, .d (.val (.int .u64 0)), .d (.val (.int .u64 0)), .d (.val (.int .u64 0)), .d (.val (.int .u64 0)), .i 0, .i 0, .slL 6 0 2 8]); rfl; rfl; rfl)
    | (apply r_ldL (v := .agg [.i 3, .d (.val (.int .u64 0)), .d (.val (.int .u64 0)), .d (.val (.int .u64 0)), .d (.val (.int .u64 0)), .i 0, .i 0, .slL 10 0 2 8]); rfl; rfl; rfl)
    | (apply r_n (v := .slL 6 0 2 8) (r := [.i k, .d (.val (.int .u64 a)), .d (.val (.int .u64 b)), .d (.val (.int .u64 c)), .d (.val (.int .u64 d)), .i mn, .i mx, .d (.sl (encL subs) subs.length), .i k2, .d (.val (.int .u64 a2)), .d (.val (.int .u64 b2)), .d (.val (.int .u64 c2)), .d (.val (.int .u64 d2)), .i mn2, .i mx2, .d (.sl (encL subs2) subs2.length)]); rfl)
    | (apply r_n (v := .slL 10 0 2 8) (r := [.i k, .d (.val (.int .u64 a)), .d (.val (.int .u64 b)), .d (.val (.int .u64 c)), .d (.val (.int .u64 d)), .i mn, .i mx, .d (.sl (encL subs) subs.length), .i k2, .d (.val (.int .u64 a2)), .d (.val (.int .u64 b2)), .d (.val (.int .u64 c2)), .d (.val (.int .u64 d2)), .i mn2, .i mx2, .d (.sl (encL subs2) subs2.length)]); rfl)
    | (apply r_p (v := .agg [.i 4, .d (.val (.int .u64 0)), .d (.val (.int .u64 0)), .d (.val (.int .u64 0)), .d (.val (.int .u64 0)), .i 0, .i 0, .slL 6 0 2 8]); rfl)
    | (apply r_p (v := .agg [.i 3, .d (.val (.int .u64 0)), .d (.val (.int .u64 0)), .d (.val (.int .u64 0)), .d (.val (.int .u64 0)), .i 0, .i 0, .slL 10 0 2 8]); rfl)
    | (apply r_callA (f := 64) (ags := []); rfl; rfl; exact haw)
    | (apply r_call (f := 45) (bs := [nodeA (altT (.node k a b c d mn mx subs) (.node k2 a2 b2 c2 d2 mn2 mx2 subs2))]) (us := [6]); rfl; exact conv2 rfl; exact h45; rfl)
    | (apply r_call (f := 32) (bs := [nodeA (altT (.node k a b c d mn mx subs) (.node k2 a2 b2 c2 d2 mn2 mx2 subs2))]) (us := [6]); rfl; exact conv2 rfl; exact h32; rfl)
    | (apply r_call (f := 32) (bs := [nodeA (catT (.node k a b c d mn mx subs) (.node k2 a2 b2 c2 d2 mn2 mx2 subs2))]) (us := [10]); rfl; exact conv2 rfl; exact h32c; rfl)
    | (apply r_callA (f := 70) (ags := [.agg [.i k, .d (.val (.int .u64 a)), .d (.val (.int .u64 b)), .d (.val (.int .u64 c)), .d (.val (.int .u64 d)), .i mn, .i mx, .d (.sl (encL subs) subs.length)]]); rfl; rfl; exact h70t)
    | (apply r_callA (f := 70) (ags := [.agg [.i k2, .d (.val (.int .u64 a2)), .d (.val (.int .u64 b2)), .d (.val (.int .u64 c2)), .d (.val (.int .u64 d2)), .i mn2, .i mx2, .d (.sl (encL subs2) subs2.length)]]); rfl; rfl; exact h70u)
    | (apply r_callA (f := 73); rfl; rfl; exact h73)
    | (apply r_call (f := 70) (bs := [nodeA (altT (.node k a b c d mn mx subs) (.node k2 a2 b2 c2 d2 mn2 mx2 subs2))]) (us := [6]); rfl; exact conv2 rfl; exact h70a; rfl)
    | (apply r_call (f := 70) (bs := [nodeA (catT (.node k a b c d mn mx subs) (.node k2 a2 b2 c2 d2 mn2 mx2 subs2))]) (us := [10]); rfl; exact conv2 rfl; exact h70c; rfl)
    | (apply r_callA (f := 69) (ags := [.agg [.i k, .d (.val (.int .u64 a)), .d (.val (.int .u64 b)), .d (.val (.int .u64 c)), .d (.val (.int .u64 d)), .i mn, .i mx, .d (.sl (encL subs) subs.length)]]); rfl; rfl; exact h69t)
    | (apply r_callA (f := 69) (ags := [.agg [.i k2, .d (.val (.int .u64 a2)), .d (.val (.int .u64 b2)), .d (.val (.int .u64 c2)), .d (.val (.int .u64 d2)), .i mn2, .i mx2, .d (.sl (encL subs2) subs2.length)]]); rfl; rfl; exact h69u)
    | (apply r_call (f := 69) (bs := [nodeA (altT (.node k a b c d mn mx subs) (.node k2 a2 b2 c2 d2 mn2 mx2 subs2))]) (us := [6]); rfl; exact conv2 rfl; exact h69a; rfl)
    | (apply r_call (f := 69) (bs := [nodeA (catT (.node k a b c d mn mx subs) (.node k2 a2 b2 c2 d2 mn2 mx2 subs2))]) (us := [10]); rfl; exact conv2 rfl; exact h69c; rfl)
    | (apply r_callA (f := 71) (ags := [.agg [.i k, .d (.val (.int .u64 a)), .d (.val (.int .u64 b)), .d (.val (.int .u64 c)), .d (.val (.int .u64 d)), .i mn, .i mx, .d (.sl (encL subs) subs.length)]]); rfl; rfl; exact h71t)
    | (apply r_callA (f := 71) (ags := [.agg [.i k2, .d (.val (.int .u64 a2)), .d (.val (.int .u64 b2)), .d (.val (.int .u64 c2)), .d (.val (.int .u64 d2)), .i mn2, .i mx2, .d (.sl (encL subs2) subs2.length)]]); rfl; rfl; exact h71u)
    | (apply r_call (f := 68) (bs := [nodeA (altT (.node k a b c d mn mx subs) (.node k2 a2 b2 c2 d2 mn2 mx2 subs2))]) (us := [6]); rfl; exact conv2 rfl; exact h68a; rfl)
    | (apply r_call (f := 68) (bs := [nodeA (catT (.node k a b c d mn mx subs) (.node k2 a2 b2 c2 d2 mn2 mx2 subs2))]) (us := [10]); rfl; exact conv2 rfl; exact h68c; rfl)
    | (apply r_ldL (v := .agg [.d (.val (.int .u64 o0)), .d (.val (.int .u64 o1)), .d (.val (.int .u64 o2)), .d (.val (.int .u64 o3))]); rfl; rfl; rfl)
    | (apply r_ldL (v := .agg [.d (.val (.int .u64 0)), .d (.val (.int .u64 0)), .d (.val (.int .u64 0)), .d (.val (.int .u64 0))]); rfl; rfl; rfl)
    | (apply r_callA (f := 74) (ags := [.agg [.d (.val (.int .u64 o0)), .d (.val (.int .u64 o1)), .d (.val (.int .u64 o2)), .d (.val (.int .u64 o3))]]); rfl; rfl; exact h74o)
    | (apply r_callA (f := 74) (ags := [.agg [.d (.val (.int .u64 0)), .d (.val (.int .u64 0)), .d (.val (.int .u64 0)), .d (.val (.int .u64 0))]]); rfl; rfl; exact h74w)
    | (apply r_eqX (r := true); rfl; rfl; simp)
    | (apply r_p (v := .agg [.d (.val (.int .u64 0)), .d (.val (.int .u64 0)), .d (.val (.int .u64 0)), .d (.val (.int .u64 0))]); rfl)
    | (apply r_p (v := .b true); exact congrArg (fun z => some (AV.b z)) hww)
    | (apply r_p (v := .b true); exact congrArg (fun z => some (AV.b z)) hge)
    | (apply r_ldL; rfl; rfl; rfl)
    | (apply r_eql; rfl; rfl; (first | (apply decide_eq_true; omega) | (apply decide_eq_false; omega) | rfl))
    | (apply r_geq; rfl; rfl; (first | (apply decide_eq_true; omega) | (apply decide_eq_false; omega) | rfl))
    | (apply r_not; rfl; rfl)
    | (apply r_beq; rfl; rfl; rfl)
    | (apply r_pickT; rfl)
    | (apply r_pickF; rfl)
    | (apply r_lenD; rfl)
    | (apply r_lenL; rfl)
    | (apply r_len0; rfl)
    | (apply r_gT; rfl)
    | (apply r_gF'; rfl; rfl)
    | (apply r_gN'; rfl)
    | ((apply r_gS (o := default); rfl) <;> (intro h; try simp only [decide_eq_true_eq, decide_eq_false_iff_not, Bool.not_eq_true, Bool.not_eq_false] at h))
    | (apply r_alloc; ((conv => lhs; simp only [Nat.reduceAdd]) <;> rfl); rfl)
    | (apply r_box; ((conv => lhs; simp only [Nat.reduceAdd]) <;> rfl); rfl; rfl; rfl)
    | (apply r_avS; rfl)
    | (apply r_stL; rfl; rfl; rfl; rfl; (first | rfl | (simp only [z_nil, z_add] <;> rfl)); rfl; rfl)
    | (apply r_p; rfl)
    | (apply r_nilK)
    | (apply r_nil)
    | (apply k_V; rfl)
    | (apply k_P; rfl)
    | (apply k_PL; rfl)
    | (apply k_S; rfl)
    | (apply k_SL; rfl)
    | (apply k_A; rfl)
    | (apply k_T; rfl)
    | (apply k_F; rfl)
    | (apply k_D; rfl; rotate_left; rfl)
    | (apply k_nil)
    | (apply e_ret (vs := [.d (.val _)]); rfl)
    | (apply e_ret; rfl)
    | (apply e_ret' (vs := [.d (.val _)]); rfl)
    | (apply e_ret'; rfl)
    | (apply w_seq)
    | (apply w_ops; ((conv => lhs; simp only [Nat.reduceAdd]) <;> rfl))
    | (apply w_condT; rfl)
    | (apply w_condF; rfl)
    | ((apply w_condS; rfl) <;> (intro h; try simp only [decide_eq_true_eq, decide_eq_false_iff_not, Bool.not_eq_true, Bool.not_eq_false] at h))
    | (apply e_thenN)
    | (apply w_block)
    | (apply e_thenR)
    | (apply e_thenX)
    | (apply e_blkN)
    | (apply e_blkR)
    | (apply e_blkE)
    | (apply w_exit)
    | (apply w_ret)
    | (apply w_skip)
    | (apply e_blkE'; rfl))
  exact retB rfl
theorem w22_true_gnv_false_false {gnv : Bool} {k a b c d mn mx k2 a2 b2 c2 d2 mn2 mx2 : Int} {subs subs2 : List T} {fa fb fc fd ga gb gc gd o0 o1 o2 o3 wd : Int} {lO lW : List Nat}
    (haw : Good Try.prog 64 [] none (.b true) none none) (h45 : Good Try.prog 45 [nodeA (altT (.node k a b c d mn mx subs) (.node k2 a2 b2 c2 d2 mn2 mx2 subs2))] none (.b true) none none) (h32 : Good Try.prog 32 [nodeA (altT (.node k a b c d mn mx subs) (.node k2 a2 b2 c2 d2 mn2 mx2 subs2))] none (.b true) none none) (h32c : Good Try.prog 32 [nodeA (catT (.node k a b c d mn mx subs) (.node k2 a2 b2 c2 d2 mn2 mx2 subs2))] none (.b true) none none)
    (h70t : Good Try.prog 70 [.agg [.i k, .d (.val (.int .u64 a)), .d (.val (.int .u64 b)), .d (.val (.int .u64 c)), .d (.val (.int .u64 d)), .i mn, .i mx, .d (.sl (encL subs) subs.length)]] none (.agg [.d (.val (.int .u64 fa)), .d (.val (.int .u64 fb)), .d (.val (.int .u64 fc)), .d (.val (.int .u64 fd))]) none none) (h70u : Good Try.prog 70 [.agg [.i k2, .d (.val (.int .u64 a2)), .d (.val (.int .u64 b2)), .d (.val (.int .u64 c2)), .d (.val (.int .u64 d2)), .i mn2, .i mx2, .d (.sl (encL subs2) subs2.length)]] none (.agg [.d (.val (.int .u64 ga)), .d (.val (.int .u64 gb)), .d (.val (.int .u64 gc)), .d (.val (.int .u64 gd))]) none none) (h73 : Good Try.prog 73 [.agg [.d (.val (.int .u64 fa)), .d (.val (.int .u64 fb)), .d (.val (.int .u64 fc)), .d (.val (.int .u64 fd))], .agg [.d (.val (.int .u64 ga)), .d (.val (.int .u64 gb)), .d (.val (.int .u64 gc)), .d (.val (.int .u64 gd))]] none (.agg [.d (.val (.int .u64 o0)), .d (.val (.int .u64 o1)), .d (.val (.int .u64 o2)), .d (.val (.int .u64 o3))]) none none)
    (h70a : Good Try.prog 70 [nodeA (altT (.node k a b c d mn mx subs) (.node k2 a2 b2 c2 d2 mn2 mx2 subs2))] none (.agg [.d (.val (.int .u64 o0)), .d (.val (.int .u64 o1)), .d (.val (.int .u64 o2)), .d (.val (.int .u64 o3))]) none none) (h70c : Good Try.prog 70 [nodeA (catT (.node k a b c d mn mx subs) (.node k2 a2 b2 c2 d2 mn2 mx2 subs2))] none (.agg [.d (.val (.int .u64 0)), .d (.val (.int .u64 0)), .d (.val (.int .u64 0)), .d (.val (.int .u64 0))]) none none)
    (h69t : Good Try.prog 69 [.agg [.i k, .d (.val (.int .u64 a)), .d (.val (.int .u64 b)), .d (.val (.int .u64 c)), .d (.val (.int .u64 d)), .i mn, .i mx, .d (.sl (encL subs) subs.length)]] none (.b false) none none) (h69u : Good Try.prog 69 [.agg [.i k2, .d (.val (.int .u64 a2)), .d (.val (.int .u64 b2)), .d (.val (.int .u64 c2)), .d (.val (.int .u64 d2)), .i mn2, .i mx2, .d (.sl (encL subs2) subs2.length)]] none (.b false) none none) (h69a : Good Try.prog 69 [nodeA (altT (.node k a b c d mn mx subs) (.node k2 a2 b2 c2 d2 mn2 mx2 subs2))] none (.b (false || false)) none none) (h69c : Good Try.prog 69 [nodeA (catT (.node k a b c d mn mx subs) (.node k2 a2 b2 c2 d2 mn2 mx2 subs2))] none (.b (false && false)) none none)
    (h71t : Good Try.prog 71 [.agg [.i k, .d (.val (.int .u64 a)), .d (.val (.int .u64 b)), .d (.val (.int .u64 c)), .d (.val (.int .u64 d)), .i mn, .i mx, .d (.sl (encL subs) subs.length)]] none (.b true) none none) (h71u : Good Try.prog 71 [.agg [.i k2, .d (.val (.int .u64 a2)), .d (.val (.int .u64 b2)), .d (.val (.int .u64 c2)), .d (.val (.int .u64 d2)), .i mn2, .i mx2, .d (.sl (encL subs2) subs2.length)]] none (.b gnv) none none)
    (h68a : Good Try.prog 68 [nodeA (altT (.node k a b c d mn mx subs) (.node k2 a2 b2 c2 d2 mn2 mx2 subs2))] none (.i wd) none none) (h68c : Good Try.prog 68 [nodeA (catT (.node k a b c d mn mx subs) (.node k2 a2 b2 c2 d2 mn2 mx2 subs2))] none (.i wd) none none)
    (h74o : Good Try.prog 74 [.agg [.d (.val (.int .u64 o0)), .d (.val (.int .u64 o1)), .d (.val (.int .u64 o2)), .d (.val (.int .u64 o3))]] none (.d (.sl (encI (encJ lO)) lO.length)) none none) (h74w : Good Try.prog 74 [.agg [.d (.val (.int .u64 0)), .d (.val (.int .u64 0)), .d (.val (.int .u64 0)), .d (.val (.int .u64 0))]] none (.d (.sl (encI (encJ lW)) lW.length)) none none)
    (hww : (wd == wd) = true) (hge : decide ((lO.length : Int) ≥ (lW.length : Int)) = true) : Good Try.prog 22 [.agg [.i k, .d (.val (.int .u64 a)), .d (.val (.int .u64 b)), .d (.val (.int .u64 c)), .d (.val (.int .u64 d)), .i mn, .i mx, .d (.sl (encL subs) subs.length)], .agg [.i k2, .d (.val (.int .u64 a2)), .d (.val (.int .u64 b2)), .d (.val (.int .u64 c2)), .d (.val (.int .u64 d2)), .i mn2, .i mx2, .d (.sl (encL subs2) subs2.length)]] none (.b true) none none := by
  refine b22 (by simp) (by simp) (w_init ?_)
  unfold x22
  repeat' (first
    | (apply r_mvV; rfl)
    | (apply r_mvP; rfl)
    | (apply r_mvPL; rfl)
    | (apply r_mvS; rfl)
    | (apply r_mvSL; rfl)
    | (apply r_mvA; rfl)
    | (apply r_mvT; rfl)
    | (apply r_mvF; rfl)
    | (apply r_mvD; rfl)
    | (apply r_ldL (v := .agg [.i k, .d (.val (.int .u64 a)), .d (.val (.int .u64 b)), .d (.val (.int .u64 c)), .d (.val (.int .u64 d)), .i mn, .i mx, .d (.sl (encL subs) subs.length)]); rfl; rfl; rfl)
    | (apply r_ldL (v := .agg [.i k2, .d (.val (.int .u64 a2)), .d (.val (.int .u64 b2)), .d (.val (.int .u64 c2)), .d (.val (.int .u64 d2)), .i mn2, .i mx2, .d (.sl (encL subs2) subs2.length)]); rfl; rfl; rfl)
    | (apply r_ldL (v := .agg [.i 4, .d (.val (.int .u64 0)), .d (.val (.int .u64 0)), .d (.val (.int .u64 0)), .d (.val (.int .u64 0)), .i 0, .i 0, .slL 6 0 2 8]); rfl; rfl; rfl)
    | (apply r_ldL (v := .agg [.i 3, .d (.val (.int .u64 0)), .d (.val (.int .u64 0)), .d (.val (.int .u64 0)), .d (.val (.int .u64 0)), .i 0, .i 0, .slL 10 0 2 8]); rfl; rfl; rfl)
    | (apply r_n (v := .slL 6 0 2 8) (r := [.i k, .d (.val (.int .u64 a)), .d (.val (.int .u64 b)), .d (.val (.int .u64 c)), .d (.val (.int .u64 d)), .i mn, .i mx, .d (.sl (encL subs) subs.length), .i k2, .d (.val (.int .u64 a2)), .d (.val (.int .u64 b2)), .d (.val (.int .u64 c2)), .d (.val (.int .u64 d2)), .i mn2, .i mx2, .d (.sl (encL subs2) subs2.length)]); rfl)
    | (apply r_n (v := .slL 10 0 2 8) (r := [.i k, .d (.val (.int .u64 a)), .d (.val (.int .u64 b)), .d (.val (.int .u64 c)), .d (.val (.int .u64 d)), .i mn, .i mx, .d (.sl (encL subs) subs.length), .i k2, .d (.val (.int .u64 a2)), .d (.val (.int .u64 b2)), .d (.val (.int .u64 c2)), .d (.val (.int .u64 d2)), .i mn2, .i mx2, .d (.sl (encL subs2) subs2.length)]); rfl)
    | (apply r_p (v := .agg [.i 4, .d (.val (.int .u64 0)), .d (.val (.int .u64 0)), .d (.val (.int .u64 0)), .d (.val (.int .u64 0)), .i 0, .i 0, .slL 6 0 2 8]); rfl)
    | (apply r_p (v := .agg [.i 3, .d (.val (.int .u64 0)), .d (.val (.int .u64 0)), .d (.val (.int .u64 0)), .d (.val (.int .u64 0)), .i 0, .i 0, .slL 10 0 2 8]); rfl)
    | (apply r_callA (f := 64) (ags := []); rfl; rfl; exact haw)
    | (apply r_call (f := 45) (bs := [nodeA (altT (.node k a b c d mn mx subs) (.node k2 a2 b2 c2 d2 mn2 mx2 subs2))]) (us := [6]); rfl; exact conv2 rfl; exact h45; rfl)
    | (apply r_call (f := 32) (bs := [nodeA (altT (.node k a b c d mn mx subs) (.node k2 a2 b2 c2 d2 mn2 mx2 subs2))]) (us := [6]); rfl; exact conv2 rfl; exact h32; rfl)
    | (apply r_call (f := 32) (bs := [nodeA (catT (.node k a b c d mn mx subs) (.node k2 a2 b2 c2 d2 mn2 mx2 subs2))]) (us := [10]); rfl; exact conv2 rfl; exact h32c; rfl)
    | (apply r_callA (f := 70) (ags := [.agg [.i k, .d (.val (.int .u64 a)), .d (.val (.int .u64 b)), .d (.val (.int .u64 c)), .d (.val (.int .u64 d)), .i mn, .i mx, .d (.sl (encL subs) subs.length)]]); rfl; rfl; exact h70t)
    | (apply r_callA (f := 70) (ags := [.agg [.i k2, .d (.val (.int .u64 a2)), .d (.val (.int .u64 b2)), .d (.val (.int .u64 c2)), .d (.val (.int .u64 d2)), .i mn2, .i mx2, .d (.sl (encL subs2) subs2.length)]]); rfl; rfl; exact h70u)
    | (apply r_callA (f := 73); rfl; rfl; exact h73)
    | (apply r_call (f := 70) (bs := [nodeA (altT (.node k a b c d mn mx subs) (.node k2 a2 b2 c2 d2 mn2 mx2 subs2))]) (us := [6]); rfl; exact conv2 rfl; exact h70a; rfl)
    | (apply r_call (f := 70) (bs := [nodeA (catT (.node k a b c d mn mx subs) (.node k2 a2 b2 c2 d2 mn2 mx2 subs2))]) (us := [10]); rfl; exact conv2 rfl; exact h70c; rfl)
    | (apply r_callA (f := 69) (ags := [.agg [.i k, .d (.val (.int .u64 a)), .d (.val (.int .u64 b)), .d (.val (.int .u64 c)), .d (.val (.int .u64 d)), .i mn, .i mx, .d (.sl (encL subs) subs.length)]]); rfl; rfl; exact h69t)
    | (apply r_callA (f := 69) (ags := [.agg [.i k2, .d (.val (.int .u64 a2)), .d (.val (.int .u64 b2)), .d (.val (.int .u64 c2)), .d (.val (.int .u64 d2)), .i mn2, .i mx2, .d (.sl (encL subs2) subs2.length)]]); rfl; rfl; exact h69u)
    | (apply r_call (f := 69) (bs := [nodeA (altT (.node k a b c d mn mx subs) (.node k2 a2 b2 c2 d2 mn2 mx2 subs2))]) (us := [6]); rfl; exact conv2 rfl; exact h69a; rfl)
    | (apply r_call (f := 69) (bs := [nodeA (catT (.node k a b c d mn mx subs) (.node k2 a2 b2 c2 d2 mn2 mx2 subs2))]) (us := [10]); rfl; exact conv2 rfl; exact h69c; rfl)
    | (apply r_callA (f := 71) (ags := [.agg [.i k, .d (.val (.int .u64 a)), .d (.val (.int .u64 b)), .d (.val (.int .u64 c)), .d (.val (.int .u64 d)), .i mn, .i mx, .d (.sl (encL subs) subs.length)]]); rfl; rfl; exact h71t)
    | (apply r_callA (f := 71) (ags := [.agg [.i k2, .d (.val (.int .u64 a2)), .d (.val (.int .u64 b2)), .d (.val (.int .u64 c2)), .d (.val (.int .u64 d2)), .i mn2, .i mx2, .d (.sl (encL subs2) subs2.length)]]); rfl; rfl; exact h71u)
    | (apply r_call (f := 68) (bs := [nodeA (altT (.node k a b c d mn mx subs) (.node k2 a2 b2 c2 d2 mn2 mx2 subs2))]) (us := [6]); rfl; exact conv2 rfl; exact h68a; rfl)
    | (apply r_call (f := 68) (bs := [nodeA (catT (.node k a b c d mn mx subs) (.node k2 a2 b2 c2 d2 mn2 mx2 subs2))]) (us := [10]); rfl; exact conv2 rfl; exact h68c; rfl)
    | (apply r_ldL (v := .agg [.d (.val (.int .u64 o0)), .d (.val (.int .u64 o1)), .d (.val (.int .u64 o2)), .d (.val (.int .u64 o3))]); rfl; rfl; rfl)
    | (apply r_ldL (v := .agg [.d (.val (.int .u64 0)), .d (.val (.int .u64 0)), .d (.val (.int .u64 0)), .d (.val (.int .u64 0))]); rfl; rfl; rfl)
    | (apply r_callA (f := 74) (ags := [.agg [.d (.val (.int .u64 o0)), .d (.val (.int .u64 o1)), .d (.val (.int .u64 o2)), .d (.val (.int .u64 o3))]]); rfl; rfl; exact h74o)
    | (apply r_callA (f := 74) (ags := [.agg [.d (.val (.int .u64 0)), .d (.val (.int .u64 0)), .d (.val (.int .u64 0)), .d (.val (.int .u64 0))]]); rfl; rfl; exact h74w)
    | (apply r_eqX (r := true); rfl; rfl; simp)
    | (apply r_p (v := .agg [.d (.val (.int .u64 0)), .d (.val (.int .u64 0)), .d (.val (.int .u64 0)), .d (.val (.int .u64 0))]); rfl)
    | (apply r_p (v := .b true); exact congrArg (fun z => some (AV.b z)) hww)
    | (apply r_p (v := .b true); exact congrArg (fun z => some (AV.b z)) hge)
    | (apply r_ldL; rfl; rfl; rfl)
    | (apply r_eql; rfl; rfl; (first | (apply decide_eq_true; omega) | (apply decide_eq_false; omega) | rfl))
    | (apply r_geq; rfl; rfl; (first | (apply decide_eq_true; omega) | (apply decide_eq_false; omega) | rfl))
    | (apply r_not; rfl; rfl)
    | (apply r_beq; rfl; rfl; rfl)
    | (apply r_pickT; rfl)
    | (apply r_pickF; rfl)
    | (apply r_lenD; rfl)
    | (apply r_lenL; rfl)
    | (apply r_len0; rfl)
    | (apply r_gT; rfl)
    | (apply r_gF'; rfl; rfl)
    | (apply r_gN'; rfl)
    | ((apply r_gS (o := default); rfl) <;> (intro h; try simp only [decide_eq_true_eq, decide_eq_false_iff_not, Bool.not_eq_true, Bool.not_eq_false] at h))
    | (apply r_alloc; ((conv => lhs; simp only [Nat.reduceAdd]) <;> rfl); rfl)
    | (apply r_box; ((conv => lhs; simp only [Nat.reduceAdd]) <;> rfl); rfl; rfl; rfl)
    | (apply r_avS; rfl)
    | (apply r_stL; rfl; rfl; rfl; rfl; (first | rfl | (simp only [z_nil, z_add] <;> rfl)); rfl; rfl)
    | (apply r_p; rfl)
    | (apply r_nilK)
    | (apply r_nil)
    | (apply k_V; rfl)
    | (apply k_P; rfl)
    | (apply k_PL; rfl)
    | (apply k_S; rfl)
    | (apply k_SL; rfl)
    | (apply k_A; rfl)
    | (apply k_T; rfl)
    | (apply k_F; rfl)
    | (apply k_D; rfl; rotate_left; rfl)
    | (apply k_nil)
    | (apply e_ret (vs := [.d (.val _)]); rfl)
    | (apply e_ret; rfl)
    | (apply e_ret' (vs := [.d (.val _)]); rfl)
    | (apply e_ret'; rfl)
    | (apply w_seq)
    | (apply w_ops; ((conv => lhs; simp only [Nat.reduceAdd]) <;> rfl))
    | (apply w_condT; rfl)
    | (apply w_condF; rfl)
    | ((apply w_condS; rfl) <;> (intro h; try simp only [decide_eq_true_eq, decide_eq_false_iff_not, Bool.not_eq_true, Bool.not_eq_false] at h))
    | (apply e_thenN)
    | (apply w_block)
    | (apply e_thenR)
    | (apply e_thenX)
    | (apply e_blkN)
    | (apply e_blkR)
    | (apply e_blkE)
    | (apply w_exit)
    | (apply w_ret)
    | (apply w_skip)
    | (apply e_blkE'; rfl))
  exact retB rfl
theorem w22_false_true_true_false {k a b c d mn mx k2 a2 b2 c2 d2 mn2 mx2 : Int} {subs subs2 : List T} {fa fb fc fd ga gb gc gd o0 o1 o2 o3 wd : Int} {lO lW : List Nat}
    (haw : Good Try.prog 64 [] none (.b true) none none) (h45 : Good Try.prog 45 [nodeA (altT (.node k a b c d mn mx subs) (.node k2 a2 b2 c2 d2 mn2 mx2 subs2))] none (.b true) none none) (h32 : Good Try.prog 32 [nodeA (altT (.node k a b c d mn mx subs) (.node k2 a2 b2 c2 d2 mn2 mx2 subs2))] none (.b true) none none) (h32c : Good Try.prog 32 [nodeA (catT (.node k a b c d mn mx subs) (.node k2 a2 b2 c2 d2 mn2 mx2 subs2))] none (.b true) none none)
    (h70t : Good Try.prog 70 [.agg [.i k, .d (.val (.int .u64 a)), .d (.val (.int .u64 b)), .d (.val (.int .u64 c)), .d (.val (.int .u64 d)), .i mn, .i mx, .d (.sl (encL subs) subs.length)]] none (.agg [.d (.val (.int .u64 fa)), .d (.val (.int .u64 fb)), .d (.val (.int .u64 fc)), .d (.val (.int .u64 fd))]) none none) (h70u : Good Try.prog 70 [.agg [.i k2, .d (.val (.int .u64 a2)), .d (.val (.int .u64 b2)), .d (.val (.int .u64 c2)), .d (.val (.int .u64 d2)), .i mn2, .i mx2, .d (.sl (encL subs2) subs2.length)]] none (.agg [.d (.val (.int .u64 ga)), .d (.val (.int .u64 gb)), .d (.val (.int .u64 gc)), .d (.val (.int .u64 gd))]) none none) (h73 : Good Try.prog 73 [.agg [.d (.val (.int .u64 fa)), .d (.val (.int .u64 fb)), .d (.val (.int .u64 fc)), .d (.val (.int .u64 fd))], .agg [.d (.val (.int .u64 ga)), .d (.val (.int .u64 gb)), .d (.val (.int .u64 gc)), .d (.val (.int .u64 gd))]] none (.agg [.d (.val (.int .u64 o0)), .d (.val (.int .u64 o1)), .d (.val (.int .u64 o2)), .d (.val (.int .u64 o3))]) none none)
    (h70a : Good Try.prog 70 [nodeA (altT (.node k a b c d mn mx subs) (.node k2 a2 b2 c2 d2 mn2 mx2 subs2))] none (.agg [.d (.val (.int .u64 o0)), .d (.val (.int .u64 o1)), .d (.val (.int .u64 o2)), .d (.val (.int .u64 o3))]) none none) (h70c : Good Try.prog 70 [nodeA (catT (.node k a b c d mn mx subs) (.node k2 a2 b2 c2 d2 mn2 mx2 subs2))] none (.agg [.d (.val (.int .u64 0)), .d (.val (.int .u64 0)), .d (.val (.int .u64 0)), .d (.val (.int .u64 0))]) none none)
    (h69t : Good Try.prog 69 [.agg [.i k, .d (.val (.int .u64 a)), .d (.val (.int .u64 b)), .d (.val (.int .u64 c)), .d (.val (.int .u64 d)), .i mn, .i mx, .d (.sl (encL subs) subs.length)]] none (.b true) none none) (h69u : Good Try.prog 69 [.agg [.i k2, .d (.val (.int .u64 a2)), .d (.val (.int .u64 b2)), .d (.val (.int .u64 c2)), .d (.val (.int .u64 d2)), .i mn2, .i mx2, .d (.sl (encL subs2) subs2.length)]] none (.b false) none none) (h69a : Good Try.prog 69 [nodeA (altT (.node k a b c d mn mx subs) (.node k2 a2 b2 c2 d2 mn2 mx2 subs2))] none (.b (true || false)) none none) (h69c : Good Try.prog 69 [nodeA (catT (.node k a b c d mn mx subs) (.node k2 a2 b2 c2 d2 mn2 mx2 subs2))] none (.b (true && false)) none none)
    (h71t : Good Try.prog 71 [.agg [.i k, .d (.val (.int .u64 a)), .d (.val (.int .u64 b)), .d (.val (.int .u64 c)), .d (.val (.int .u64 d)), .i mn, .i mx, .d (.sl (encL subs) subs.length)]] none (.b false) none none) (h71u : Good Try.prog 71 [.agg [.i k2, .d (.val (.int .u64 a2)), .d (.val (.int .u64 b2)), .d (.val (.int .u64 c2)), .d (.val (.int .u64 d2)), .i mn2, .i mx2, .d (.sl (encL subs2) subs2.length)]] none (.b true) none none)
    (h68a : Good Try.prog 68 [nodeA (altT (.node k a b c d mn mx subs) (.node k2 a2 b2 c2 d2 mn2 mx2 subs2))] none (.i wd) none none) (h68c : Good Try.prog 68 [nodeA (catT (.node k a b c d mn mx subs) (.node k2 a2 b2 c2 d2 mn2 mx2 subs2))] none (.i wd) none none)
    (h74o : Good Try.prog 74 [.agg [.d (.val (.int .u64 o0)), .d (.val (.int .u64 o1)), .d (.val (.int .u64 o2)), .d (.val (.int .u64 o3))]] none (.d (.sl (encI (encJ lO)) lO.length)) none none) (h74w : Good Try.prog 74 [.agg [.d (.val (.int .u64 0)), .d (.val (.int .u64 0)), .d (.val (.int .u64 0)), .d (.val (.int .u64 0))]] none (.d (.sl (encI (encJ lW)) lW.length)) none none)
    (hww : (wd == wd) = true) (hge : decide ((lO.length : Int) ≥ (lW.length : Int)) = true) : Good Try.prog 22 [.agg [.i k, .d (.val (.int .u64 a)), .d (.val (.int .u64 b)), .d (.val (.int .u64 c)), .d (.val (.int .u64 d)), .i mn, .i mx, .d (.sl (encL subs) subs.length)], .agg [.i k2, .d (.val (.int .u64 a2)), .d (.val (.int .u64 b2)), .d (.val (.int .u64 c2)), .d (.val (.int .u64 d2)), .i mn2, .i mx2, .d (.sl (encL subs2) subs2.length)]] none (.b true) none none := by
  refine b22 (by simp) (by simp) (w_init ?_)
  unfold x22
  repeat' (first
    | (apply r_mvV; rfl)
    | (apply r_mvP; rfl)
    | (apply r_mvPL; rfl)
    | (apply r_mvS; rfl)
    | (apply r_mvSL; rfl)
    | (apply r_mvA; rfl)
    | (apply r_mvT; rfl)
    | (apply r_mvF; rfl)
    | (apply r_mvD; rfl)
    | (apply r_ldL (v := .agg [.i k, .d (.val (.int .u64 a)), .d (.val (.int .u64 b)), .d (.val (.int .u64 c)), .d (.val (.int .u64 d)), .i mn, .i mx, .d (.sl (encL subs) subs.length)]); rfl; rfl; rfl)
    | (apply r_ldL (v := .agg [.i k2, .d (.val (.int .u64 a2)), .d (.val (.int .u64 b2)), .d (.val (.int .u64 c2)), .d (.val (.int .u64 d2)), .i mn2, .i mx2, .d (.sl (encL subs2) subs2.length)]); rfl; rfl; rfl)
    | (apply r_ldL (v := .agg [.i 4, .d (.val (.int .u64 0)), .d (.val (.int .u64 0)), .d (.val (.int .u64 0)), .d (.val (.int .u64 0)), .i 0, .i 0, .slL 6 0 2 8]); rfl; rfl; rfl)
    | (apply r_ldL (v := .agg [.i 3, .d (.val (.int .u64 0)), .d (.val (.int .u64 0)), .d (.val (.int .u64 0)), .d (.val (.int .u64 0)), .i 0, .i 0, .slL 10 0 2 8]); rfl; rfl; rfl)
    | (apply r_n (v := .slL 6 0 2 8) (r := [.i k, .d (.val (.int .u64 a)), .d (.val (.int .u64 b)), .d (.val (.int .u64 c)), .d (.val (.int .u64 d)), .i mn, .i mx, .d (.sl (encL subs) subs.length), .i k2, .d (.val (.int .u64 a2)), .d (.val (.int .u64 b2)), .d (.val (.int .u64 c2)), .d (.val (.int .u64 d2)), .i mn2, .i mx2, .d (.sl (encL subs2) subs2.length)]); rfl)
    | (apply r_n (v := .slL 10 0 2 8) (r := [.i k, .d (.val (.int .u64 a)), .d (.val (.int .u64 b)), .d (.val (.int .u64 c)), .d (.val (.int .u64 d)), .i mn, .i mx, .d (.sl (encL subs) subs.length), .i k2, .d (.val (.int .u64 a2)), .d (.val (.int .u64 b2)), .d (.val (.int .u64 c2)), .d (.val (.int .u64 d2)), .i mn2, .i mx2, .d (.sl (encL subs2) subs2.length)]); rfl)
    | (apply r_p (v := .agg [.i 4, .d (.val (.int .u64 0)), .d (.val (.int .u64 0)), .d (.val (.int .u64 0)), .d (.val (.int .u64 0)), .i 0, .i 0, .slL 6 0 2 8]); rfl)
    | (apply r_p (v := .agg [.i 3, .d (.val (.int .u64 0)), .d (.val (.int .u64 0)), .d (.val (.int .u64 0)), .d (.val (.int .u64 0)), .i 0, .i 0, .slL 10 0 2 8]); rfl)
    | (apply r_callA (f := 64) (ags := []); rfl; rfl; exact haw)
    | (apply r_call (f := 45) (bs := [nodeA (altT (.node k a b c d mn mx subs) (.node k2 a2 b2 c2 d2 mn2 mx2 subs2))]) (us := [6]); rfl; exact conv2 rfl; exact h45; rfl)
    | (apply r_call (f := 32) (bs := [nodeA (altT (.node k a b c d mn mx subs) (.node k2 a2 b2 c2 d2 mn2 mx2 subs2))]) (us := [6]); rfl; exact conv2 rfl; exact h32; rfl)
    | (apply r_call (f := 32) (bs := [nodeA (catT (.node k a b c d mn mx subs) (.node k2 a2 b2 c2 d2 mn2 mx2 subs2))]) (us := [10]); rfl; exact conv2 rfl; exact h32c; rfl)
    | (apply r_callA (f := 70) (ags := [.agg [.i k, .d (.val (.int .u64 a)), .d (.val (.int .u64 b)), .d (.val (.int .u64 c)), .d (.val (.int .u64 d)), .i mn, .i mx, .d (.sl (encL subs) subs.length)]]); rfl; rfl; exact h70t)
    | (apply r_callA (f := 70) (ags := [.agg [.i k2, .d (.val (.int .u64 a2)), .d (.val (.int .u64 b2)), .d (.val (.int .u64 c2)), .d (.val (.int .u64 d2)), .i mn2, .i mx2, .d (.sl (encL subs2) subs2.length)]]); rfl; rfl; exact h70u)
    | (apply r_callA (f := 73); rfl; rfl; exact h73)
    | (apply r_call (f := 70) (bs := [nodeA (altT (.node k a b c d mn mx subs) (.node k2 a2 b2 c2 d2 mn2 mx2 subs2))]) (us := [6]); rfl; exact conv2 rfl; exact h70a; rfl)
    | (apply r_call (f := 70) (bs := [nodeA (catT (.node k a b c d mn mx subs) (.node k2 a2 b2 c2 d2 mn2 mx2 subs2))]) (us := [10]); rfl; exact conv2 rfl; exact h70c; rfl)
    | (apply r_callA (f := 69) (ags := [.agg [.i k, .d (.val (.int .u64 a)), .d (.val (.int .u64 b)), .d (.val (.int .u64 c)), .d (.val (.int .u64 d)), .i mn, .i mx, .d (.sl (encL subs) subs.length)]]); rfl; rfl; exact h69t)
    | (apply r_callA (f := 69) (ags := [.agg [.i k2, .d (.val (.int .u64 a2)), .d (.val (.int .u64 b2)), .d (.val (.int .u64 c2)), .d (.val (.int .u64 d2)), .i mn2, .i mx2, .d (.sl (encL subs2) subs2.length)]]); rfl; rfl; exact h69u)
    | (apply r_call (f := 69) (bs := [nodeA (altT (.node k a b c d mn mx subs) (.node k2 a2 b2 c2 d2 mn2 mx2 subs2))]) (us := [6]); rfl; exact conv2 rfl; exact h69a; rfl)
    | (apply r_call (f := 69) (bs := [nodeA (catT (.node k a b c d mn mx subs) (.node k2 a2 b2 c2 d2 mn2 mx2 subs2))]) (us := [10]); rfl; exact conv2 rfl; exact h69c; rfl)
    | (apply r_callA (f := 71) (ags := [.agg [.i k, .d (.val (.int .u64 a)), .d (.val (.int .u64 b)), .d (.val (.int .u64 c)), .d (.val (.int .u64 d)), .i mn, .i mx, .d (.sl (encL subs) subs.length)]]); rfl; rfl; exact h71t)
    | (apply r_callA (f := 71) (ags := [.agg [.i k2, .d (.val (.int .u64 a2)), .d (.val (.int .u64 b2)), .d (.val (.int .u64 c2)), .d (.val (.int .u64 d2)), .i mn2, .i mx2, .d (.sl (encL subs2) subs2.length)]]); rfl; rfl; exact h71u)
    | (apply r_call (f := 68) (bs := [nodeA (altT (.node k a b c d mn mx subs) (.node k2 a2 b2 c2 d2 mn2 mx2 subs2))]) (us := [6]); rfl; exact conv2 rfl; exact h68a; rfl)
    | (apply r_call (f := 68) (bs := [nodeA (catT (.node k a b c d mn mx subs) (.node k2 a2 b2 c2 d2 mn2 mx2 subs2))]) (us := [10]); rfl; exact conv2 rfl; exact h68c; rfl)
    | (apply r_ldL (v := .agg [.d (.val (.int .u64 o0)), .d (.val (.int .u64 o1)), .d (.val (.int .u64 o2)), .d (.val (.int .u64 o3))]); rfl; rfl; rfl)
    | (apply r_ldL (v := .agg [.d (.val (.int .u64 0)), .d (.val (.int .u64 0)), .d (.val (.int .u64 0)), .d (.val (.int .u64 0))]); rfl; rfl; rfl)
    | (apply r_callA (f := 74) (ags := [.agg [.d (.val (.int .u64 o0)), .d (.val (.int .u64 o1)), .d (.val (.int .u64 o2)), .d (.val (.int .u64 o3))]]); rfl; rfl; exact h74o)
    | (apply r_callA (f := 74) (ags := [.agg [.d (.val (.int .u64 0)), .d (.val (.int .u64 0)), .d (.val (.int .u64 0)), .d (.val (.int .u64 0))]]); rfl; rfl; exact h74w)
    | (apply r_eqX (r := true); rfl; rfl; simp)
    | (apply r_p (v := .agg [.d (.val (.int .u64 0)), .d (.val (.int .u64 0)), .d (.val (.int .u64 0)), .d (.val (.int .u64 0))]); rfl)
    | (apply r_p (v := .b true); exact congrArg (fun z => some (AV.b z)) hww)
    | (apply r_p (v := .b true); exact congrArg (fun z => some (AV.b z)) hge)
    | (apply r_ldL; rfl; rfl; rfl)
    | (apply r_eql; rfl; rfl; (first | (apply decide_eq_true; omega) | (apply decide_eq_false; omega) | rfl))
    | (apply r_geq; rfl; rfl; (first | (apply decide_eq_true; omega) | (apply decide_eq_false; omega) | rfl))
    | (apply r_not; rfl; rfl)
    | (apply r_beq; rfl; rfl; rfl)
    | (apply r_pickT; rfl)
    | (apply r_pickF; rfl)
    | (apply r_lenD; rfl)
    | (apply r_lenL; rfl)
    | (apply r_len0; rfl)
    | (apply r_gT; rfl)
    | (apply r_gF'; rfl; rfl)
    | (apply r_gN'; rfl)
    | ((apply r_gS (o := default); rfl) <;> (intro h; try simp only [decide_eq_true_eq, decide_eq_false_iff_not, Bool.not_eq_true, Bool.not_eq_false] at h))
    | (apply r_alloc; ((conv => lhs; simp only [Nat.reduceAdd]) <;> rfl); rfl)
    | (apply r_box; ((conv => lhs; simp only [Nat.reduceAdd]) <;> rfl); rfl; rfl; rfl)
    | (apply r_avS; rfl)
    | (apply r_stL; rfl; rfl; rfl; rfl; (first | rfl | (simp only [z_nil, z_add] <;> rfl)); rfl; rfl)
    | (apply r_p; rfl)
    | (apply r_nilK)
    | (apply r_nil)
    | (apply k_V; rfl)
    | (apply k_P; rfl)
    | (apply k_PL; rfl)
    | (apply k_S; rfl)
    | (apply k_SL; rfl)
    | (apply k_A; rfl)
    | (apply k_T; rfl)
    | (apply k_F; rfl)
    | (apply k_D; rfl; rotate_left; rfl)
    | (apply k_nil)
    | (apply e_ret (vs := [.d (.val _)]); rfl)
    | (apply e_ret; rfl)
    | (apply e_ret' (vs := [.d (.val _)]); rfl)
    | (apply e_ret'; rfl)
    | (apply w_seq)
    | (apply w_ops; ((conv => lhs; simp only [Nat.reduceAdd]) <;> rfl))
    | (apply w_condT; rfl)
    | (apply w_condF; rfl)
    | ((apply w_condS; rfl) <;> (intro h; try simp only [decide_eq_true_eq, decide_eq_false_iff_not, Bool.not_eq_true, Bool.not_eq_false] at h))
    | (apply e_thenN)
    | (apply w_block)
    | (apply e_thenR)
    | (apply e_thenX)
    | (apply e_blkN)
    | (apply e_blkR)
    | (apply e_blkE)
    | (apply w_exit)
    | (apply w_ret)
    | (apply w_skip)
    | (apply e_blkE'; rfl))
  exact retB rfl
theorem w22_false_true_false_false {k a b c d mn mx k2 a2 b2 c2 d2 mn2 mx2 : Int} {subs subs2 : List T} {fa fb fc fd ga gb gc gd o0 o1 o2 o3 wd : Int} {lO lW : List Nat}
    (haw : Good Try.prog 64 [] none (.b true) none none) (h45 : Good Try.prog 45 [nodeA (altT (.node k a b c d mn mx subs) (.node k2 a2 b2 c2 d2 mn2 mx2 subs2))] none (.b true) none none) (h32 : Good Try.prog 32 [nodeA (altT (.node k a b c d mn mx subs) (.node k2 a2 b2 c2 d2 mn2 mx2 subs2))] none (.b true) none none) (h32c : Good Try.prog 32 [nodeA (catT (.node k a b c d mn mx subs) (.node k2 a2 b2 c2 d2 mn2 mx2 subs2))] none (.b true) none none)
    (h70t : Good Try.prog 70 [.agg [.i k, .d (.val (.int .u64 a)), .d (.val (.int .u64 b)), .d (.val (.int .u64 c)), .d (.val (.int .u64 d)), .i mn, .i mx, .d (.sl (encL subs) subs.length)]] none (.agg [.d (.val (.int .u64 fa)), .d (.val (.int .u64 fb)), .d (.val (.int .u64 fc)), .d (.val (.int .u64 fd))]) none none) (h70u : Good Try.prog 70 [.agg [.i k2, .d (.val (.int .u64 a2)), .d (.val (.int .u64 b2)), .d (.val (.int .u64 c2)), .d (.val (.int .u64 d2)), .i mn2, .i mx2, .d (.sl (encL subs2) subs2.length)]] none (.agg [.d (.val (.int .u64 ga)), .d (.val (.int .u64 gb)), .d (.val (.int .u64 gc)), .d (.val (.int .u64 gd))]) none none) (h73 : Good Try.prog 73 [.agg [.d (.val (.int .u64 fa)), .d (.val (.int .u64 fb)), .d (.val (.int .u64 fc)), .d (.val (.int .u64 fd))], .agg [.d (.val (.int .u64 ga)), .d (.val (.int .u64 gb)), .d (.val (.int .u64 gc)), .d (.val (.int .u64 gd))]] none (.agg [.d (.val (.int .u64 o0)), .d (.val (.int .u64 o1)), .d (.val (.int .u64 o2)), .d (.val (.int .u64 o3))]) none none)
    (h70a : Good Try.prog 70 [nodeA (altT (.node k a b c d mn mx subs) (.node k2 a2 b2 c2 d2 mn2 mx2 subs2))] none (.agg [.d (.val (.int .u64 o0)), .d (.val (.int .u64 o1)), .d (.val (.int .u64 o2)), .d (.val (.int .u64 o3))]) none none) (h70c : Good Try.prog 70 [nodeA (catT (.node k a b c d mn mx subs) (.node k2 a2 b2 c2 d2 mn2 mx2 subs2))] none (.agg [.d (.val (.int .u64 0)), .d (.val (.int .u64 0)), .d (.val (.int .u64 0)), .d (.val (.int .u64 0))]) none none)
    (h69t : Good Try.prog 69 [.agg [.i k, .d (.val (.int .u64 a)), .d (.val (.int .u64 b)), .d (.val (.int .u64 c)), .d (.val (.int .u64 d)), .i mn, .i mx, .d (.sl (encL subs) subs.length)]] none (.b false) none none) (h69u : Good Try.prog 69 [.agg [.i k2, .d (.val (.int .u64 a2)), .d (.val (.int .u64 b2)), .d (.val (.int .u64 c2)), .d (.val (.int .u64 d2)), .i mn2, .i mx2, .d (.sl (encL subs2) subs2.length)]] none (.b false) none none) (h69a : Good Try.prog 69 [nodeA (altT (.node k a b c d mn mx subs) (.node k2 a2 b2 c2 d2 mn2 mx2 subs2))] none (.b (false || false)) none none) (h69c : Good Try.prog 69 [nodeA (catT (.node k a b c d mn mx subs) (.node k2 a2 b2 c2 d2 mn2 mx2 subs2))] none (.b (false && false)) none none)
    (h71t : Good Try.prog 71 [.agg [.i k, .d (.val (.int .u64 a)), .d (.val (.int .u64 b)), .d (.val (.int .u64 c)), .d (.val (.int .u64 d)), .i mn, .i mx, .d (.sl (encL subs) subs.length)]] none (.b false) none none) (h71u : Good Try.prog 71 [.agg [.i k2, .d (.val (.int .u64 a2)), .d (.val (.int .u64 b2)), .d (.val (.int .u64 c2)), .d (.val (.int .u64 d2)), .i mn2, .i mx2, .d (.sl (encL subs2) subs2.length)]] none (.b true) none none)
    (h68a : Good Try.prog 68 [nodeA (altT (.node k a b c d mn mx subs) (.node k2 a2 b2 c2 d2 mn2 mx2 subs2))] none (.i wd) none none) (h68c : Good Try.prog 68 [nodeA (catT (.node k a b c d mn mx subs) (.node k2 a2 b2 c2 d2 mn2 mx2 subs2))] none (.i wd) none none)
    (h74o : Good Try.prog 74 [.agg [.d (.val (.int .u64 o0)), .d (.val (.int .u64 o1)), .d (.val (.int .u64 o2)), .d (.val (.int .u64 o3))]] none (.d (.sl (encI (encJ lO)) lO.length)) none none) (h74w : Good Try.prog 74 [.agg [.d (.val (.int .u64 0)), .d (.val (.int .u64 0)), .d (.val (.int .u64 0)), .d (.val (.int .u64 0))]] none (.d (.sl (encI (encJ lW)) lW.length)) none none)
    (hww : (wd == wd) = true) (hge : decide ((lO.length : Int) ≥ (lW.length : Int)) = true) : Good Try.prog 22 [.agg [.i k, .d (.val (.int .u64 a)), .d (.val (.int .u64 b)), .d (.val (.int .u64 c)), .d (.val (.int .u64 d)), .i mn, .i mx, .d (.sl (encL subs) subs.length)], .agg [.i k2, .d (.val (.int .u64 a2)), .d (.val (.int .u64 b2)), .d (.val (.int .u64 c2)), .d (.val (.int .u64 d2)), .i mn2, .i mx2, .d (.sl (encL subs2) subs2.length)]] none (.b true) none none := by
  refine b22 (by simp) (by simp) (w_init ?_)
  unfold x22
  repeat' (first
    | (apply r_mvV; rfl)
    | (apply r_mvP; rfl)
    | (apply r_mvPL; rfl)
    | (apply r_mvS; rfl)
    | (apply r_mvSL; rfl)
    | (apply r_mvA; rfl)
    | (apply r_mvT; rfl)
    | (apply r_mvF; rfl)
    | (apply r_mvD; rfl)
    | (apply r_ldL (v := .agg [.i k, .d (.val (.int .u64 a)), .d (.val (.int .u64 b)), .d (.val (.int .u64 c)), .d (.val (.int .u64 d)), .i mn, .i mx, .d (.sl (encL subs) subs.length)]); rfl; rfl; rfl)
    | (apply r_ldL (v := .agg [.i k2, .d (.val (.int .u64 a2)), .d (.val (.int .u64 b2)), .d (.val (.int .u64 c2)), .d (.val (.int .u64 d2)), .i mn2, .i mx2, .d (.sl (encL subs2) subs2.length)]); rfl; rfl; rfl)
    | (apply r_ldL (v := .agg [.i 4, .d (.val (.int .u64 0)), .d (.val (.int .u64 0)), .d (.val (.int .u64 0)), .d (.val (.int .u64 0)), .i 0, .i 0, .slL 6 0 2 8]); rfl; rfl; rfl)
    | (apply r_ldL (v := .agg [.i 3, .d (.val (.int .u64 0)), .d (.val (.int .u64 0)), .d (.val (.int .u64 0)), .d (.val (.int .u64 0)), .i 0, .i 0, .slL 10 0 2 8]); rfl; rfl; rfl)
    | (apply r_n (v := .slL 6 0 2 8) (r := [.i k, .d (.val (.int .u64 a)), .d (.val (.int .u64 b)), .d (.val (.int .u64 c)), .d (.val (.int .u64 d)), .i mn, .i mx, .d (.sl (encL subs) subs.length), .i k2, .d (.val (.int .u64 a2)), .d (.val (.int .u64 b2)), .d (.val (.int .u64 c2)), .d (.val (.int .u64 d2)), .i mn2, .i mx2, .d (.sl (encL subs2) subs2.length)]); rfl)
    | (apply r_n (v := .slL 10 0 2 8) (r := [.i k, .d (.val (.int .u64 a)), .d (.val (.int .u64 b)), .d (.val (.int .u64 c)), .d (.val (.int .u64 d)), .i mn, .i mx, .d (.sl (encL subs) subs.length), .i k2, .d (.val (.int .u64 a2)), .d (.val (.int .u64 b2)), .d (.val (.int .u64 c2)), .d (.val (.int .u64 d2)), .i mn2, .i mx2, .d (.sl (encL subs2) subs2.length)]); rfl)
    | (apply r_p (v := .agg [.i 4, .d (.val (.int .u64 0)), .d (.val (.int .u64 0)), .d (.val (.int .u64 0)), .d (.val (.int .u64 0)), .i 0, .i 0, .slL 6 0 2 8]); rfl)
    | (apply r_p (v := .agg [.i 3, .d (.val (.int .u64 0)), .d (.val (.int .u64 0)), .d (.val (.int .u64 0)), .d (.val (.int .u64 0)), .i 0, .i 0, .slL 10 0 2 8]); rfl)
    | (apply r_callA (f := 64) (ags := []); rfl; rfl; exact haw)
    | (apply r_call (f := 45) (bs := [nodeA (altT (.node k a b c d mn mx subs) (.node k2 a2 b2 c2 d2 mn2 mx2 subs2))]) (us := [6]); rfl; exact conv2 rfl; exact h45; rfl)
    | (apply r_call (f := 32) (bs := [nodeA (altT (.node k a b c d mn mx subs) (.node k2 a2 b2 c2 d2 mn2 mx2 subs2))]) (us := [6]); rfl; exact conv2 rfl; exact h32; rfl)
    | (apply r_call (f := 32) (bs := [nodeA (catT (.node k a b c d mn mx subs) (.node k2 a2 b2 c2 d2 mn2 mx2 subs2))]) (us := [10]); rfl; exact conv2 rfl; exact h32c; rfl)
    | (apply r_callA (f := 70) (ags := [.agg [.i k, .d (.val (.int .u64 a)), .d (.val (.int .u64 b)), .d (.val (.int .u64 c)), .d (.val (.int .u64 d)), .i mn, .i mx, .d (.sl (encL subs) subs.length)]]); rfl; rfl; exact h70t)
    | (apply r_callA (f := 70) (ags := [.agg [.i k2, .d (.val (.int .u64 a2)), .d (.val (.int .u64 b2)), .d (.val (.int .u64 c2)), .d (.val (.int .u64 d2)), .i mn2, .i mx2, .d (.sl (encL subs2) subs2.length)]]); rfl; rfl; exact h70u)
    | (apply r_callA (f := 73); rfl; rfl; exact h73)
    | (apply r_call (f := 70) (bs := [nodeA (altT (.node k a b c d mn mx subs) (.node k2 a2 b2 c2 d2 mn2 mx2 subs2))]) (us := [6]); rfl; exact conv2 rfl; exact h70a; rfl)
    | (apply r_call (f := 70) (bs := [nodeA (catT (.node k a b c d mn mx subs) (.node k2 a2 b2 c2 d2 mn2 mx2 subs2))]) (us := [10]); rfl; exact conv2 rfl; exact h70c; rfl)
    | (apply r_callA (f := 69) (ags := [.agg [.i k, .d (.val (.int .u64 a)), .d (.val (.int .u64 b)), .d (.val (.int .u64 c)), .d (.val (.int .u64 d)), .i mn, .i mx, .d (.sl (encL subs) subs.length)]]); rfl; rfl; exact h69t)
    | (apply r_callA (f := 69) (ags := [.agg [.i k2, .d (.val (.int .u64 a2)), .d (.val (.int .u64 b2)), .d (.val (.int .u64 c2)), .d (.val (.int .u64 d2)), .i mn2, .i mx2, .d (.sl (encL subs2) subs2.length)]]); rfl; rfl; exact h69u)
    | (apply r_call (f := 69) (bs := [nodeA (altT (.node k a b c d mn mx subs) (.node k2 a2 b2 c2 d2 mn2 mx2 subs2))]) (us := [6]); rfl; exact conv2 rfl; exact h69a; rfl)
    | (apply r_call (f := 69) (bs := [nodeA (catT (.node k a b c d mn mx subs) (.node k2 a2 b2 c2 d2 mn2 mx2 subs2))]) (us := [10]); rfl; exact conv2 rfl; exact h69c; rfl)
    | (apply r_callA (f := 71) (ags := [.agg [.i k, .d (.val (.int .u64 a)), .d (.val (.int .u64 b)), .d (.val (.int .u64 c)), .d (.val (.int .u64 d)), .i mn, .i mx, .d (.sl (encL subs) subs.length)]]); rfl; rfl; exact h71t)
    | (apply r_callA (f := 71) (ags := [.agg [.i k2, .d (.val (.int .u64 a2)), .d (.val (.int .u64 b2)), .d (.val (.int .u64 c2)), .d (.val (.int .u64 d2)), .i mn2, .i mx2, .d (.sl (encL subs2) subs2.length)]]); rfl; rfl; exact h71u)
    | (apply r_call (f := 68) (bs := [nodeA (altT (.node k a b c d mn mx subs) (.node k2 a2 b2 c2 d2 mn2 mx2 subs2))]) (us := [6]); rfl; exact conv2 rfl; exact h68a; rfl)
    | (apply r_call (f := 68) (bs := [nodeA (catT (.node k a b c d mn mx subs) (.node k2 a2 b2 c2 d2 mn2 mx2 subs2))]) (us := [10]); rfl; exact conv2 rfl; exact h68c; rfl)
    | (apply r_ldL (v := .agg [.d (.val (.int .u64 o0)), .d (.val (.int .u64 o1)), .d (.val (.int .u64 o2)), .d (.val (.int .u64 o3))]); rfl; rfl; rfl)
    | (apply r_ldL (v := .agg [.d (.val (.int .u64 0)), .d (.val (.int .u64 0)), .d (.val (.int .u64 0)), .d (.val (.int .u64 0))]); rfl; rfl; rfl)
    | (apply r_callA (f := 74) (ags := [.agg [.d (.val (.int .u64 o0)), .d (.val (.int .u64 o1)), .d (.val (.int .u64 o2)), .d (.val (.int .u64 o3))]]); rfl; rfl; exact h74o)
    | (apply r_callA (f := 74) (ags := [.agg [.d (.val (.int .u64 0)), .d (.val (.int .u64 0)), .d (.val (.int .u64 0)), .d (.val (.int .u64 0))]]); rfl; rfl; exact h74w)
    | (apply r_eqX (r := true); rfl; rfl; simp)
    | (apply r_p (v := .agg [.d (.val (.int .u64 0)), .d (.val (.int .u64 0)), .d (.val (.int .u64 0)), .d (.val (.int .u64 0))]); rfl)
    | (apply r_p (v := .b true); exact congrArg (fun z => some (AV.b z)) hww)
    | (apply r_p (v := .b true); exact congrArg (fun z => some (AV.b z)) hge)
    | (apply r_ldL; rfl; rfl; rfl)
    | (apply r_eql; rfl; rfl; (first | (apply decide_eq_true; omega) | (apply decide_eq_false; omega) | rfl))
    | (apply r_geq; rfl; rfl; (first | (apply decide_eq_true; omega) | (apply decide_eq_false; omega) | rfl))
    | (apply r_not; rfl; rfl)
    | (apply r_beq; rfl; rfl; rfl)
    | (apply r_pickT; rfl)
    | (apply r_pickF; rfl)
    | (apply r_lenD; rfl)
    | (apply r_lenL; rfl)
    | (apply r_len0; rfl)
    | (apply r_gT; rfl)
    | (apply r_gF'; rfl; rfl)
    | (apply r_gN'; rfl)
    | ((apply r_gS (o := default); rfl) <;> (intro h; try simp only [decide_eq_true_eq, decide_eq_false_iff_not, Bool.not_eq_true, Bool.not_eq_false] at h))
    | (apply r_alloc; ((conv => lhs; simp only [Nat.reduceAdd]) <;> rfl); rfl)
    | (apply r_box; ((conv => lhs; simp only [Nat.reduceAdd]) <;> rfl); rfl; rfl; rfl)
    | (apply r_avS; rfl)
    | (apply r_stL; rfl; rfl; rfl; rfl; (first | rfl | (simp only [z_nil, z_add] <;> rfl)); rfl; rfl)
    | (apply r_p; rfl)
    | (apply r_nilK)
    | (apply r_nil)
    | (apply k_V; rfl)
    | (apply k_P; rfl)
    | (apply k_PL; rfl)
    | (apply k_S; rfl)
    | (apply k_SL; rfl)
    | (apply k_A; rfl)
    | (apply k_T; rfl)
    | (apply k_F; rfl)
    | (apply k_D; rfl; rotate_left; rfl)
    | (apply k_nil)
    | (apply e_ret (vs := [.d (.val _)]); rfl)
    | (apply e_ret; rfl)
    | (apply e_ret' (vs := [.d (.val _)]); rfl)
    | (apply e_ret'; rfl)
    | (apply w_seq)
    | (apply w_ops; ((conv => lhs; simp only [Nat.reduceAdd]) <;> rfl))
    | (apply w_condT; rfl)
    | (apply w_condF; rfl)
    | ((apply w_condS; rfl) <;> (intro h; try simp only [decide_eq_true_eq, decide_eq_false_iff_not, Bool.not_eq_true, Bool.not_eq_false] at h))
    | (apply e_thenN)
    | (apply w_block)
    | (apply e_thenR)
    | (apply e_thenX)
    | (apply e_blkN)
    | (apply e_blkR)
    | (apply e_blkE)
    | (apply w_exit)
    | (apply w_ret)
    | (apply w_skip)
    | (apply e_blkE'; rfl))
  exact retB rfl
theorem w22_false_false_true_true {k a b c d mn mx k2 a2 b2 c2 d2 mn2 mx2 : Int} {subs subs2 : List T} {fa fb fc fd ga gb gc gd o0 o1 o2 o3 wd : Int} {lO lW : List Nat}
    (haw : Good Try.prog 64 [] none (.b true) none none) (h45 : Good Try.prog 45 [nodeA (altT (.node k a b c d mn mx subs) (.node k2 a2 b2 c2 d2 mn2 mx2 subs2))] none (.b true) none none) (h32 : Good Try.prog 32 [nodeA (altT (.node k a b c d mn mx subs) (.node k2 a2 b2 c2 d2 mn2 mx2 subs2))] none (.b true) none none) (h32c : Good Try.prog 32 [nodeA (catT (.node k a b c d mn mx subs) (.node k2 a2 b2 c2 d2 mn2 mx2 subs2))] none (.b true) none none)
    (h70t : Good Try.prog 70 [.agg [.i k, .d (.val (.int .u64 a)), .d (.val (.int .u64 b)), .d (.val (.int .u64 c)), .d (.val (.int .u64 d)), .i mn, .i mx, .d (.sl (encL subs) subs.length)]] none (.agg [.d (.val (.int .u64 fa)), .d (.val (.int .u64 fb)), .d (.val (.int .u64 fc)), .d (.val (.int .u64 fd))]) none none) (h70u : Good Try.prog 70 [.agg [.i k2, .d (.val (.int .u64 a2)), .d (.val (.int .u64 b2)), .d (.val (.int .u64 c2)), .d (.val (.int .u64 d2)), .i mn2, .i mx2, .d (.sl (encL subs2) subs2.length)]] none (.agg [.d (.val (.int .u64 ga)), .d (.val (.int .u64 gb)), .d (.val (.int .u64 gc)), .d (.val (.int .u64 gd))]) none none) (h73 : Good Try.prog 73 [.agg [.d (.val (.int .u64 fa)), .d (.val (.int .u64 fb)), .d (.val (.int .u64 fc)), .d (.val (.int .u64 fd))], .agg [.d (.val (.int .u64 ga)), .d (.val (.int .u64 gb)), .d (.val (.int .u64 gc)), .d (.val (.int .u64 gd))]] none (.agg [.d (.val (.int .u64 o0)), .d (.val (.int .u64 o1)), .d (.val (.int .u64 o2)), .d (.val (.int .u64 o3))]) none none)
    (h70a : Good Try.prog 70 [nodeA (altT (.node k a b c d mn mx subs) (.node k2 a2 b2 c2 d2 mn2 mx2 subs2))] none (.agg [.d (.val (.int .u64 o0)), .d (.val (.int .u64 o1)), .d (.val (.int .u64 o2)), .d (.val (.int .u64 o3))]) none none) (h70c : Good Try.prog 70 [nodeA (catT (.node k a b c d mn mx subs) (.node k2 a2 b2 c2 d2 mn2 mx2 subs2))] none (.agg [.d (.val (.int .u64 o0)), .d (.val (.int .u64 o1)), .d (.val (.int .u64 o2)), .d (.val (.int .u64 o3))]) none none)
    (h69t : Good Try.prog 69 [.agg [.i k, .d (.val (.int .u64 a)), .d (.val (.int .u64 b)), .d (.val (.int .u64 c)), .d (.val (.int .u64 d)), .i mn, .i mx, .d (.sl (encL subs) subs.length)]] none (.b true) none none) (h69u : Good Try.prog 69 [.agg [.i k2, .d (.val (.int .u64 a2)), .d (.val (.int .u64 b2)), .d (.val (.int .u64 c2)), .d (.val (.int .u64 d2)), .i mn2, .i mx2, .d (.sl (encL subs2) subs2.length)]] none (.b true) none none) (h69a : Good Try.prog 69 [nodeA (altT (.node k a b c d mn mx subs) (.node k2 a2 b2 c2 d2 mn2 mx2 subs2))] none (.b (true || true)) none none) (h69c : Good Try.prog 69 [nodeA (catT (.node k a b c d mn mx subs) (.node k2 a2 b2 c2 d2 mn2 mx2 subs2))] none (.b (true && true)) none none)
    (h71t : Good Try.prog 71 [.agg [.i k, .d (.val (.int .u64 a)), .d (.val (.int .u64 b)), .d (.val (.int .u64 c)), .d (.val (.int .u64 d)), .i mn, .i mx, .d (.sl (encL subs) subs.length)]] none (.b false) none none) (h71u : Good Try.prog 71 [.agg [.i k2, .d (.val (.int .u64 a2)), .d (.val (.int .u64 b2)), .d (.val (.int .u64 c2)), .d (.val (.int .u64 d2)), .i mn2, .i mx2, .d (.sl (encL subs2) subs2.length)]] none (.b false) none none)
    (h68a : Good Try.prog 68 [nodeA (altT (.node k a b c d mn mx subs) (.node k2 a2 b2 c2 d2 mn2 mx2 subs2))] none (.i wd) none none) (h68c : Good Try.prog 68 [nodeA (catT (.node k a b c d mn mx subs) (.node k2 a2 b2 c2 d2 mn2 mx2 subs2))] none (.i wd) none none)
    (h74o : Good Try.prog 74 [.agg [.d (.val (.int .u64 o0)), .d (.val (.int .u64 o1)), .d (.val (.int .u64 o2)), .d (.val (.int .u64 o3))]] none (.d (.sl (encI (encJ lO)) lO.length)) none none) (h74w : Good Try.prog 74 [.agg [.d (.val (.int .u64 o0)), .d (.val (.int .u64 o1)), .d (.val (.int .u64 o2)), .d (.val (.int .u64 o3))]] none (.d (.sl (encI (encJ lW)) lW.length)) none none)
    (hww : (wd == wd) = true) (hge : decide ((lO.length : Int) ≥ (lW.length : Int)) = true) : Good Try.prog 22 [.agg [.i k, .d (.val (.int .u64 a)), .d (.val (.int .u64 b)), .d (.val (.int .u64 c)), .d (.val (.int .u64 d)), .i mn, .i mx, .d (.sl (encL subs) subs.length)], .agg [.i k2, .d (.val (.int .u64 a2)), .d (.val (.int .u64 b2)), .d (.val (.int .u64 c2)), .d (.val (.int .u64 d2)), .i mn2, .i mx2, .d (.sl (encL subs2) subs2.length)]] none (.b true) none none := by
  refine b22 (by simp) (by simp) (w_init ?_)
  unfold x22
  repeat' (first
    | (apply r_mvV; rfl)
    | (apply r_mvP; rfl)
    | (apply r_mvPL; rfl)
    | (apply r_mvS; rfl)
    | (apply r_mvSL; rfl)
    | (apply r_mvA; rfl)
    | (apply r_mvT; rfl)
    | (apply r_mvF; rfl)
    | (apply r_mvD; rfl)
    | (apply r_ldL (v := .agg [.i k, .d (.val (.int .u64 a)), .d (.val (.int .u64 b)), .d (.val (.int .u64 c)), .d (.val (.int .u64 d)), .i mn, .i mx, .d (.sl (encL subs) subs.length)]); rfl; rfl; rfl)
    | (apply r_ldL (v := .agg [.i k2, .d (.val (.int .u64 a2)), .d (.val (.int .u64 b2)), .d (.val (.int .u64 c2)), .d (.val (.int .u64 d2)), .i mn2, .i mx2, .d (.sl (encL subs2) subs2.length)]); rfl; rfl; rfl)
    | (apply r_ldL (v := .agg [.i 4, .d (.val (.int .u64 0)), .d (.val (.int .u64 0)), .d (.val (.int .u64 0)), .d (.val (.int .u64 0)), .i 0, .i 0, .slL 6 0 2 8]); rfl; rfl; rfl)
    | (apply r_ldL (v := .agg [.i 3, .d (.val (.int .u64 0)), .d (.val (.int .u64 0)), .d (.val (.int .u64 0)), .d (.val (.int .u64 0)), .i 0, .i 0, .slL 10 0 2 8]); rfl; rfl; rfl)
    | (apply r_n (v := .slL 6 0 2 8) (r := [.i k, .d (.val (.int .u64 a)), .d (.val (.int .u64 b)), .d (.val (.int .u64 c)), .d (.val (.int .u64 d)), .i mn, .i mx, .d (.sl (encL subs) subs.length), .i k2, .d (.val (.int .u64 a2)), .d (.val (.int .u64 b2)), .d (.val (.int .u64 c2)), .d (.val (.int .u64 d2)), .i mn2, .i mx2, .d (.sl (encL subs2) subs2.length)]); rfl)
    | (apply r_n (v := .slL 10 0 2 8) (r := [.i k, .d (.val (.int .u64 a)), .d (.val (.int .u64 b)), .d (.val (.int .u64 c)), .d (.val (.int .u64 d)), .i mn, .i mx, .d (.sl (encL subs) subs.length), .i k2, .d (.val (.int .u64 a2)), .d (.val (.int .u64 b2)), .d (.val (.int .u64 c2)), .d (.val (.int .u64 d2)), .i mn2, .i mx2, .d (.sl (encL subs2) subs2.length)]); rfl)
    | (apply r_p (v := .agg [.i 4, .d (.val (.int .u64 0)), .d (.val (.int .u64 0)), .d (.val (.int .u64 0)), .d (.val (.int .u64 0)), .i 0, .i 0, .slL 6 0 2 8]); rfl)
    | (apply r_p (v := .agg [.i 3, .d (.val (.int .u64 0)), .d (.val (.int .u64 0)), .d (.val (.int .u64 0)), .d (.val (.int .u64 0)), .i 0, .i 0, .slL 10 0 2 8]); rfl)
    | (apply r_callA (f := 64) (ags := []); rfl; rfl; exact haw)
    | (apply r_call (f := 45) (bs := [nodeA (altT (.node k a b c d mn mx subs) (.node k2 a2 b2 c2 d2 mn2 mx2 subs2))]) (us := [6]); rfl; exact conv2 rfl; exact h45; rfl)
    | (apply r_call (f := 32) (bs := [nodeA (altT (.node k a b c d mn mx subs) (.node k2 a2 b2 c2 d2 mn2 mx2 subs2))]) (us := [6]); rfl; exact conv2 rfl; exact h32; rfl)
    | (apply r_call (f := 32) (bs := [nodeA (catT (.node k a b c d mn mx subs) (.node k2 a2 b2 c2 d2 mn2 mx2 subs2))]) (us := [10]); rfl; exact conv2 rfl; exact h32c; rfl)
    | (apply r_callA (f := 70) (ags := [.agg [.i k, .d (.val (.int .u64 a)), .d (.val (.int .u64 b)), .d (.val (.int .u64 c)), .d (.val (.int .u64 d)), .i mn, .i mx, .d (.sl (encL subs) subs.length)]]); rfl; rfl; exact h70t)
    | (apply r_callA (f := 70) (ags := [.agg [.i k2, .d (.val (.int .u64 a2)), .d (.val (.int .u64 b2)), .d (.val (.int .u64 c2)), .d (.val (.int .u64 d2)), .i mn2, .i mx2, .d (.sl (encL subs2) subs2.length)]]); rfl; rfl; exact h70u)
    | (apply r_callA (f := 73); rfl; rfl; exact h73)
    | (apply r_call (f := 70) (bs := [nodeA (altT (.node k a b c d mn mx subs) (.node k2 a2 b2 c2 d2 mn2 mx2 subs2))]) (us := [6]); rfl; exact conv2 rfl; exact h70a; rfl)
    | (apply r_call (f := 70) (bs := [nodeA (catT (.node k a b c d mn mx subs) (.node k2 a2 b2 c2 d2 mn2 mx2 subs2))]) (us := [10]); rfl; exact conv2 rfl; exact h70c; rfl)
    | (apply r_callA (f := 69) (ags := [.agg [.i k, .d (.val (.int .u64 a)), .d (.val (.int .u64 b)), .d (.val (.int .u64 c)), .d (.val (.int .u64 d)), .i mn, .i mx, .d (.sl (encL subs) subs.length)]]); rfl; rfl; exact h69t)
    | (apply r_callA (f := 69) (ags := [.agg [.i k2, .d (.val (.int .u64 a2)), .d (.val (.int .u64 b2)), .d (.val (.int .u64 c2)), .d (.val (.int .u64 d2)), .i mn2, .i mx2, .d (.sl (encL subs2) subs2.length)]]); rfl; rfl; exact h69u)
    | (apply r_call (f := 69) (bs := [nodeA (altT (.node k a b c d mn mx subs) (.node k2 a2 b2 c2 d2 mn2 mx2 subs2))]) (us := [6]); rfl; exact conv2 rfl; exact h69a; rfl)
    | (apply r_call (f := 69) (bs := [nodeA (catT (.node k a b c d mn mx subs) (.node k2 a2 b2 c2 d2 mn2 mx2 subs2))]) (us := [10]); rfl; exact conv2 rfl; exact h69c; rfl)
    | (apply r_callA (f := 71) (ags := [.agg [.i k, .d (.val (.int .u64 a)), .d (.val (.int .u64 b)), .d (.val (.int .u64 c)), .d (.val (.int .u64 d)), .i mn, .i mx, .d (.sl (encL subs) subs.length)]]); rfl; rfl; exact h71t)
    | (apply r_callA (f := 71) (ags := [.agg [.i k2, .d (.val (.int .u64 a2)), .d (.val (.int .u64 b2)), .d (.val (.int .u64 c2)), .d (.val (.int .u64 d2)), .i mn2, .i mx2, .d (.sl (encL subs2) subs2.length)]]); rfl; rfl; exact h71u)
    | (apply r_call (f := 68) (bs := [nodeA (altT (.node k a b c d mn mx subs) (.node k2 a2 b2 c2 d2 mn2 mx2 subs2))]) (us := [6]); rfl; exact conv2 rfl; exact h68a; rfl)
    | (apply r_call (f := 68) (bs := [nodeA (catT (.node k a b c d mn mx subs) (.node k2 a2 b2 c2 d2 mn2 mx2 subs2))]) (us := [10]); rfl; exact conv2 rfl; exact h68c; rfl)
    | (apply r_ldL (v := .agg [.d (.val (.int .u64 o0)), .d (.val (.int .u64 o1)), .d (.val (.int .u64 o2)), .d (.val (.int .u64 o3))]); rfl; rfl; rfl)
    | (apply r_ldL (v := .agg [.d (.val (.int .u64 o0)), .d (.val (.int .u64 o1)), .d (.val (.int .u64 o2)), .d (.val (.int .u64 o3))]); rfl; rfl; rfl)
    | (apply r_callA (f := 74) (ags := [.agg [.d (.val (.int .u64 o0)), .d (.val (.int .u64 o1)), .d (.val (.int .u64 o2)), .d (.val (.int .u64 o3))]]); rfl; rfl; exact h74o)
    | (apply r_callA (f := 74) (ags := [.agg [.d (.val (.int .u64 o0)), .d (.val (.int .u64 o1)), .d (.val (.int .u64 o2)), .d (.val (.int .u64 o3))]]); rfl; rfl; exact h74w)
    | (apply r_eqX (r := true); rfl; rfl; simp)
    | (apply r_p (v := .agg [.d (.val (.int .u64 0)), .d (.val (.int .u64 0)), .d (.val (.int .u64 0)), .d (.val (.int .u64 0))]); rfl)
    | (apply r_p (v := .b true); exact congrArg (fun z => some (AV.b z)) hww)
    | (apply r_p (v := .b true); exact congrArg (fun z => some (AV.b z)) hge)
    | (apply r_ldL; rfl; rfl; rfl)
    | (apply r_eql; rfl; rfl; (first | (apply decide_eq_true; omega) | (apply decide_eq_false; omega) | rfl))
    | (apply r_geq; rfl; rfl; (first | (apply decide_eq_true; omega) | (apply decide_eq_false; omega) | rfl))
    | (apply r_not; rfl; rfl)
    | (apply r_beq; rfl; rfl; rfl)
    | (apply r_pickT; rfl)
    | (apply r_pickF; rfl)
    | (apply r_lenD; rfl)
    | (apply r_lenL; rfl)
    | (apply r_len0; rfl)
    | (apply r_gT; rfl)
    | (apply r_gF'; rfl; rfl)
    | (apply r_gN'; rfl)
    | ((apply r_gS (o := default); rfl) <;> (intro h; try simp only [decide_eq_true_eq, decide_eq_false_iff_not, Bool.not_eq_true, Bool.not_eq_false] at h))
    | (apply r_alloc; ((conv => lhs; simp only [Nat.reduceAdd]) <;> rfl); rfl)
    | (apply r_box; ((conv => lhs; simp only [Nat.reduceAdd]) <;> rfl); rfl; rfl; rfl)
    | (apply r_avS; rfl)
    | (apply r_stL; rfl; rfl; rfl; rfl; (first | rfl | (simp only [z_nil, z_add] <;> rfl)); rfl; rfl)
    | (apply r_p; rfl)
    | (apply r_nilK)
    | (apply r_nil)
    | (apply k_V; rfl)
    | (apply k_P; rfl)
    | (apply k_PL; rfl)
    | (apply k_S; rfl)
    | (apply k_SL; rfl)
    | (apply k_A; rfl)
    | (apply k_T; rfl)
    | (apply k_F; rfl)
    | (apply k_D; rfl; rotate_left; rfl)
    | (apply k_nil)
    | (apply e_ret (vs := [.d (.val _)]); rfl)
    | (apply e_ret; rfl)
    | (apply e_ret' (vs := [.d (.val _)]); rfl)
    | (apply e_ret'; rfl)
    | (apply w_seq)
    | (apply w_ops; ((conv => lhs; simp only [Nat.reduceAdd]) <;> rfl))
    | (apply w_condT; rfl)
    | (apply w_condF; rfl)
    | ((apply w_condS; rfl) <;> (intro h; try simp only [decide_eq_true_eq, decide_eq_false_iff_not, Bool.not_eq_true, Bool.not_eq_false] at h))
    | (apply e_thenN)
    | (apply w_block)
    | (apply e_thenR)
    | (apply e_thenX)
    | (apply e_blkN)
    | (apply e_blkR)
    | (apply e_blkE)
    | (apply w_exit)
    | (apply w_ret)
    | (apply w_skip)
    | (apply e_blkE'; rfl))
  exact retB rfl
theorem w22_false_false_true_false {k a b c d mn mx k2 a2 b2 c2 d2 mn2 mx2 : Int} {subs subs2 : List T} {fa fb fc fd ga gb gc gd o0 o1 o2 o3 wd : Int} {lO lW : List Nat}
    (haw : Good Try.prog 64 [] none (.b true) none none) (h45 : Good Try.prog 45 [nodeA (altT (.node k a b c d mn mx subs) (.node k2 a2 b2 c2 d2 mn2 mx2 subs2))] none (.b true) none none) (h32 : Good Try.prog 32 [nodeA (altT (.node k a b c d mn mx subs) (.node k2 a2 b2 c2 d2 mn2 mx2 subs2))] none (.b true) none none) (h32c : Good Try.prog 32 [nodeA (catT (.node k a b c d mn mx subs) (.node k2 a2 b2 c2 d2 mn2 mx2 subs2))] none (.b true) none none)
    (h70t : Good Try.prog 70 [.agg [.i k, .d (.val (.int .u64 a)), .d (.val (.int .u64 b)), .d (.val (.int .u64 c)), .d (.val (.int .u64 d)), .i mn, .i mx, .d (.sl (encL subs) subs.length)]] none (.agg [.d (.val (.int .u64 fa)), .d (.val (.int .u64 fb)), .d (.val (.int .u64 fc)), .d (.val (.int .u64 fd))]) none none) (h70u : Good Try.prog 70 [.agg [.i k2, .d (.val (.int .u64 a2)), .d (.val (.int .u64 b2)), .d (.val (.int .u64 c2)), .d (.val (.int .u64 d2)), .i mn2, .i mx2, .d (.sl (encL subs2) subs2.length)]] none (.agg [.d (.val (.int .u64 ga)), .d (.val (.int .u64 gb)), .d (.val (.int .u64 gc)), .d (.val (.int .u64 gd))]) none none) (h73 : Good Try.prog 73 [.agg [.d (.val (.int .u64 fa)), .d (.val (.int .u64 fb)), .d (.val (.int .u64 fc)), .d (.val (.int .u64 fd))], .agg [.d (.val (.int .u64 ga)), .d (.val (.int .u64 gb)), .d (.val (.int .u64 gc)), .d (.val (.int .u64 gd))]] none (.agg [.d (.val (.int .u64 o0)), .d (.val (.int .u64 o1)), .d (.val (.int .u64 o2)), .d (.val (.int .u64 o3))]) none none)
    (h70a : Good Try.prog 70 [nodeA (altT (.node k a b c d mn mx subs) (.node k2 a2 b2 c2 d2 mn2 mx2 subs2))] none (.agg [.d (.val (.int .u64 o0)), .d (.val (.int .u64 o1)), .d (.val (.int .u64 o2)), .d (.val (.int .u64 o3))]) none none) (h70c : Good Try.prog 70 [nodeA (catT (.node k a b c d mn mx subs) (.node k2 a2 b2 c2 d2 mn2 mx2 subs2))] none (.agg [.d (.val (.int .u64 o0)), .d (.val (.int .u64 o1)), .d (.val (.int .u64 o2)), .d (.val (.int .u64 o3))]) none none)
    (h69t : Good Try.prog 69 [.agg [.i k, .d (.val (.int .u64 a)), .d (.val (.int .u64 b)), .d (.val (.int .u64 c)), .d (.val (.int .u64 d)), .i mn, .i mx, .d (.sl (encL subs) subs.length)]] none (.b true) none none) (h69u : Good Try.prog 69 [.agg [.i k2, .d (.val (.int .u64 a2)), .d (.val (.int .u64 b2)), .d (.val (.int .u64 c2)), .d (.val (.int .u64 d2)), .i mn2, .i mx2, .d (.sl (encL subs2) subs2.length)]] none (.b false) none none) (h69a : Good Try.prog 69 [nodeA (altT (.node k a b c d mn mx subs) (.node k2 a2 b2 c2 d2 mn2 mx2 subs2))] none (.b (true || false)) none none) (h69c : Good Try.prog 69 [nodeA (catT (.node k a b c d mn mx subs) (.node k2 a2 b2 c2 d2 mn2 mx2 subs2))] none (.b (true && false)) none none)
    (h71t : Good Try.prog 71 [.agg [.i k, .d (.val (.int .u64 a)), .d (.val (.int .u64 b)), .d (.val (.int .u64 c)), .d (.val (.int .u64 d)), .i mn, .i mx, .d (.sl (encL subs) subs.length)]] none (.b false) none none) (h71u : Good Try.prog 71 [.agg [.i k2, .d (.val (.int .u64 a2)), .d (.val (.int .u64 b2)), .d (.val (.int .u64 c2)), .d (.val (.int .u64 d2)), .i mn2, .i mx2, .d (.sl (encL subs2) subs2.length)]] none (.b false) none none)
    (h68a : Good Try.prog 68 [nodeA (altT (.node k a b c d mn mx subs) (.node k2 a2 b2 c2 d2 mn2 mx2 subs2))] none (.i wd) none none) (h68c : Good Try.prog 68 [nodeA (catT (.node k a b c d mn mx subs) (.node k2 a2 b2 c2 d2 mn2 mx2 subs2))] none (.i wd) none none)
    (h74o : Good Try.prog 74 [.agg [.d (.val (.int .u64 o0)), .d (.val (.int .u64 o1)), .d (.val (.int .u64 o2)), .d (.val (.int .u64 o3))]] none (.d (.sl (encI (encJ lO)) lO.length)) none none) (h74w : Good Try.prog 74 [.agg [.d (.val (.int .u64 o0)), .d (.val (.int .u64 o1)), .d (.val (.int .u64 o2)), .d (.val (.int .u64 o3))]] none (.d (.sl (encI (encJ lW)) lW.length)) none none)
    (hww : (wd == wd) = true) (hge : decide ((lO.length : Int) ≥ (lW.length : Int)) = true) : Good Try.prog 22 [.agg [.i k, .d (.val (.int .u64 a)), .d (.val (.int .u64 b)), .d (.val (.int .u64 c)), .d (.val (.int .u64 d)), .i mn, .i mx, .d (.sl (encL subs) subs.length)], .agg [.i k2, .d (.val (.int .u64 a2)), .d (.val (.int .u64 b2)), .d (.val (.int .u64 c2)), .d (.val (.int .u64 d2)), .i mn2, .i mx2, .d (.sl (encL subs2) subs2.length)]] none (.b true) none none := by
  refine b22 (by simp) (by simp) (w_init ?_)
  unfold x22
  repeat' (first
    | (apply r_mvV; rfl)
    | (apply r_mvP; rfl)
    | (apply r_mvPL; rfl)
    | (apply r_mvS; rfl)
    | (apply r_mvSL; rfl)
    | (apply r_mvA; rfl)
    | (apply r_mvT; rfl)
    | (apply r_mvF; rfl)
    | (apply r_mvD; rfl)
    | (apply r_ldL (v := .agg [.i k, .d (.val (.int .u64 a)), .d (.val (.int .u64 b)), .d (.val (.int .u64 c)), .d (.val (.int .u64 d)), .i mn, .i mx, .d (.sl (encL subs) subs.length)]); rfl; rfl; rfl)
    | (apply r_ldL (v := .agg [.i k2, .d (.val (.int .u64 a2)), .d (.val (.int .u64 b2)), .d (.val (.int .u64 c2)), .d (.val (.int .u64 d2)), .i mn2, .i mx2, .d (.sl (encL subs2) subs2.length)]); rfl; rfl; rfl)
    | (apply r_ldL (v := .agg [.i 4, .d (.val (.int .u64 0)), .d (.val (.int .u64 0)), .d (.val (.int .u64 0)), .d (.val (.int .u64 0)), .i 0, .i 0, .slL 6 0 2 8]); rfl; rfl; rfl)
    | (apply r_ldL (v := .agg [.i 3, .d (.val (.int .u64 0)), .d (.val (.int .u64 0)), .d (.val (.int .u64 0)), .d (.val (.int .u64 0)), .i 0, .i 0, .slL 10 0 2 8]); rfl; rfl; rfl)
    | (apply r_n (v := .slL 6 0 2 8) (r := [.i k, .d (.val (.int .u64 a)), .d (.val (.int .u64 b)), .d (.val (.int .u64 c)), .d (.val (.int .u64 d)), .i mn, .i mx, .d (.sl (encL subs) subs.length), .i k2, .d (.val (.int .u64 a2)), .d (.val (.int .u64 b2)), .d (.val (.int .u64 c2)), .d (.val (.int .u64 d2)), .i mn2, .i mx2, .d (.sl (encL subs2) subs2.length)]); rfl)
    | (apply r_n (v := .slL 10 0 2 8) (r := [.i k, .d (.val (.int .u64 a)), .d (.val (.int .u64 b)), .d (.val (.int .u64 c)), .d (.val (.int .u64 d)), .i mn, .i mx, .d (.sl (encL subs) subs.length), .i k2, .d (.val (.int .u64 a2)), .d (.val (.int .u64 b2)), .d (.val (.int .u64 c2)), .d (.val (.int .u64 d2)), .i mn2, .i mx2, .d (.sl (encL subs2) subs2.length)]); rfl)
    | (apply r_p (v := .agg [.i 4, .d (.val (.int .u64 0)), .d (.val (.int .u64 0)), .d (.val (.int .u64 0)), .d (.val (.int .u64 0)), .i 0, .i 0, .slL 6 0 2 8]); rfl)
    | (apply r_p (v := .agg [.i 3, .d (.val (.int .u64 0)), .d (.val (.int .u64 0)), .d (.val (.int .u64 0)), .d (.val (.int .u64 0)), .i 0, .i 0, .slL 10 0 2 8]); rfl)
    | (apply r_callA (f := 64) (ags := []); rfl; rfl; exact haw)
    | (apply r_call (f := 45) (bs := [nodeA (altT (.node k a b c d mn mx subs) (.node k2 a2 b2 c2 d2 mn2 mx2 subs2))]) (us := [6]); rfl; exact conv2 rfl; exact h45; rfl)
    | (apply r_call (f := 32) (bs := [nodeA (altT (.node k a b c d mn mx subs) (.node k2 a2 b2 c2 d2 mn2 mx2 subs2))]) (us := [6]); rfl; exact conv2 rfl; exact h32; rfl)
    | (apply r_call (f := 32) (bs := [nodeA (catT (.node k a b c d mn mx subs) (.node k2 a2 b2 c2 d2 mn2 mx2 subs2))]) (us := [10]); rfl; exact conv2 rfl; exact h32c; rfl)
    | (apply r_callA (f := 70) (ags := [.agg [.i k, .d (.val (.int .u64 a)), .d (.val (.int .u64 b)), .d (.val (.int .u64 c)), .d (.val (.int .u64 d)), .i mn, .i mx, .d (.sl (encL subs) subs.length)]]); rfl; rfl; exact h70t)
    | (apply r_callA (f := 70) (ags := [.agg [.i k2, .d (.val (.int .u64 a2)), .d (.val (.int .u64 b2)), .d (.val (.int .u64 c2)), .d (.val (.int .u64 d2)), .i mn2, .i mx2, .d (.sl (encL subs2) subs2.length)]]); rfl; rfl; exact h70u)
    | (apply r_callA (f := 73); rfl; rfl; exact h73)
    | (apply r_call (f := 70) (bs := [nodeA (altT (.node k a b c d mn mx subs) (.node k2 a2 b2 c2 d2 mn2 mx2 subs2))]) (us := [6]); rfl; exact conv2 rfl; exact h70a; rfl)
    | (apply r_call (f := 70) (bs := [nodeA (catT (.node k a b c d mn mx subs) (.node k2 a2 b2 c2 d2 mn2 mx2 subs2))]) (us := [10]); rfl; exact conv2 rfl; exact h70c; rfl)
    | (apply r_callA (f := 69) (ags := [.agg [.i k, .d (.val (.int .u64 a)), .d (.val (.int .u64 b)), .d (.val (.int .u64 c)), .d (.val (.int .u64 d)), .i mn, .i mx, .d (.sl (encL subs) subs.length)]]); rfl; rfl; exact h69t)
    | (apply r_callA (f := 69) (ags := [.agg [.i k2, .d (.val (.int .u64 a2)), .d (.val (.int .u64 b2)), .d (.val (.int .u64 c2)), .d (.val (.int .u64 d2)), .i mn2, .i mx2, .d (.sl (encL subs2) subs2.length)]]); rfl; rfl; exact h69u)
    | (apply r_call (f := 69) (bs := [nodeA (altT (.node k a b c d mn mx subs) (.node k2 a2 b2 c2 d2 mn2 mx2 subs2))]) (us := [6]); rfl; exact conv2 rfl; exact h69a; rfl)
    | (apply r_call (f := 69) (bs := [nodeA (catT (.node k a b c d mn mx subs) (.node k2 a2 b2 c2 d2 mn2 mx2 subs2))]) (us := [10]); rfl; exact conv2 rfl; exact h69c; rfl)
    | (apply r_callA (f := 71) (ags := [.agg [.i k, .d (.val (.int .u64 a)), .d (.val (.int .u64 b)), .d (.val (.int .u64 c)), .d (.val (.int .u64 d)), .i mn, .i mx, .d (.sl (encL subs) subs.length)]]); rfl; rfl; exact h71t)
    | (apply r_callA (f := 71) (ags := [.agg [.i k2, .d (.val (.int .u64 a2)), .d (.val (.int .u64 b2)), .d (.val (.int .u64 c2)), .d (.val (.int .u64 d2)), .i mn2, .i mx2, .d (.sl (encL subs2) subs2.length)]]); rfl; rfl; exact h71u)
    | (apply r_call (f := 68) (bs := [nodeA (altT (.node k a b c d mn mx subs) (.node k2 a2 b2 c2 d2 mn2 mx2 subs2))]) (us := [6]); rfl; exact conv2 rfl; exact h68a; rfl)
    | (apply r_call (f := 68) (bs := [nodeA (catT (.node k a b c d mn mx subs) (.node k2 a2 b2 c2 d2 mn2 mx2 subs2))]) (us := [10]); rfl; exact conv2 rfl; exact h68c; rfl)
    | (apply r_ldL (v := .agg [.d (.val (.int .u64 o0)), .d (.val (.int .u64 o1)), .d (.val (.int .u64 o2)), .d (.val (.int .u64 o3))]); rfl; rfl; rfl)
    | (apply r_ldL (v := .agg [.d (.val (.int .u64 o0)), .d (.val (.int .u64 o1)), .d (.val (.int .u64 o2)), .d (.val (.int .u64 o3))]); rfl; rfl; rfl)
    | (apply r_callA (f := 74) (ags := [.agg [.d (.val (.int .u64 o0)), .d (.val (.int .u64 o1)), .d (.val (.int .u64 o2)), .d (.val (.int .u64 o3))]]); rfl; rfl; exact h74o)
    | (apply r_callA (f := 74) (ags := [.agg [.d (.val (.int .u64 o0)), .d (.val (.int .u64 o1)), .d (.val (.int .u64 o2)), .d (.val (.int .u64 o3))]]); rfl; rfl; exact h74w)
    | (apply r_eqX (r := true); rfl; rfl; simp)
    | (apply r_p (v := .agg [.d (.val (.int .u64 0)), .d (.val (.int .u64 0)), .d (.val (.int .u64 0)), .d (.val (.int .u64 0))]); rfl)
    | (apply r_p (v := .b true); exact congrArg (fun z => some (AV.b z)) hww)
    | (apply r_p (v := .b true); exact congrArg (fun z => some (AV.b z)) hge)
    | (apply r_ldL; rfl; rfl; rfl)
    | (apply r_eql; rfl; rfl; (first | (apply decide_eq_true; omega) | (apply decide_eq_false; omega) | rfl))
    | (apply r_geq; rfl; rfl; (first | (apply decide_eq_true; omega) | (apply decide_eq_false; omega) | rfl))
    | (apply r_not; rfl; rfl)
    | (apply r_beq; rfl; rfl; rfl)
    | (apply r_pickT; rfl)
    | (apply r_pickF; rfl)
    | (apply r_lenD; rfl)
    | (apply r_lenL; rfl)
    | (apply r_len0; rfl)
    | (apply r_gT; rfl)
    | (apply r_gF'; rfl; rfl)
    | (apply r_gN'; rfl)
    | ((apply r_gS (o := default); rfl) <;> (intro h; try simp only [decide_eq_true_eq, decide_eq_false_iff_not, Bool.not_eq_true, Bool.not_eq_false] at h))
    | (apply r_alloc; ((conv => lhs; simp only [Nat.reduceAdd]) <;> rfl); rfl)
    | (apply r_box; ((conv => lhs; simp only [Nat.reduceAdd]) <;> rfl); rfl; rfl; rfl)
    | (apply r_avS; rfl)
    | (apply r_stL; rfl; rfl; rfl; rfl; (first | rfl | (simp only [z_nil, z_add] <;> rfl)); rfl; rfl)
    | (apply r_p; rfl)
    | (apply r_nilK)
    | (apply r_nil)
    | (apply k_V; rfl)
    | (apply k_P; rfl)
    | (apply k_PL; rfl)
    | (apply k_S; rfl)
    | (apply k_SL; rfl)
    | (apply k_A; rfl)
    | (apply k_T; rfl)
    | (apply k_F; rfl)
    | (apply k_D; rfl; rotate_left; rfl)
    | (apply k_nil)
    | (apply e_ret (vs := [.d (.val _)]); rfl)
    | (apply e_ret; rfl)
    | (apply e_ret' (vs := [.d (.val _)]); rfl)
    | (apply e_ret'; rfl)
    | (apply w_seq)
    | (apply w_ops; ((conv => lhs; simp only [Nat.reduceAdd]) <;> rfl))
    | (apply w_condT; rfl)
    | (apply w_condF; rfl)
    | ((apply w_condS; rfl) <;> (intro h; try simp only [decide_eq_true_eq, decide_eq_false_iff_not, Bool.not_eq_true, Bool.not_eq_false] at h))
    | (apply e_thenN)
    | (apply w_block)
    | (apply e_thenR)
    | (apply e_thenX)
    | (apply e_blkN)
    | (apply e_blkR)
    | (apply e_blkE)
    | (apply w_exit)
    | (apply w_ret)
    | (apply w_skip)
    | (apply e_blkE'; rfl))
  exact retB rfl
theorem w22_false_false_false_true {k a b c d mn mx k2 a2 b2 c2 d2 mn2 mx2 : Int} {subs subs2 : List T} {fa fb fc fd ga gb gc gd o0 o1 o2 o3 wd : Int} {lO lW : List Nat}
    (haw : Good Try.prog 64 [] none (.b true) none none) (h45 : Good Try.prog 45 [nodeA (altT (.node k a b c d mn mx subs) (.node k2 a2 b2 c2 d2 mn2 mx2 subs2))] none (.b true) none none) (h32 : Good Try.prog 32 [nodeA (altT (.node k a b c d mn mx subs) (.node k2 a2 b2 c2 d2 mn2 mx2 subs2))] none (.b true) none none) (h32c : Good Try.prog 32 [nodeA (catT (.node k a b c d mn mx subs) (.node k2 a2 b2 c2 d2 mn2 mx2 subs2))] none (.b true) none none)
    (h70t : Good Try.prog 70 [.agg [.i k, .d (.val (.int .u64 a)), .d (.val (.int .u64 b)), .d (.val (.int .u64 c)), .d (.val (.int .u64 d)), .i mn, .i mx, .d (.sl (encL subs) subs.length)]] none (.agg [.d (.val (.int .u64 fa)), .d (.val (.int .u64 fb)), .d (.val (.int .u64 fc)), .d (.val (.int .u64 fd))]) none none) (h70u : Good Try.prog 70 [.agg [.i k2, .d (.val (.int .u64 a2)), .d (.val (.int .u64 b2)), .d (.val (.int .u64 c2)), .d (.val (.int .u64 d2)), .i mn2, .i mx2, .d (.sl (encL subs2) subs2.length)]] none (.agg [.d (.val (.int .u64 ga)), .d (.val (.int .u64 gb)), .d (.val (.int .u64 gc)), .d (.val (.int .u64 gd))]) none none) (h73 : Good Try.prog 73 [.agg [.d (.val (.int .u64 fa)), .d (.val (.int .u64 fb)), .d (.val (.int .u64 fc)), .d (.val (.int .u64 fd))], .agg [.d (.val (.int .u64 ga)), .d (.val (.int .u64 gb)), .d (.val (.int .u64 gc)), .d (.val (.int .u64 gd))]] none (.agg [.d (.val (.int .u64 o0)), .d (.val (.int .u64 o1)), .d (.val (.int .u64 o2)), .d (.val (.int .u64 o3))]) none none)
    (h70a : Good Try.prog 70 [nodeA (altT (.node k a b c d mn mx subs) (.node k2 a2 b2 c2 d2 mn2 mx2 subs2))] none (.agg [.d (.val (.int .u64 o0)), .d (.val (.int .u64 o1)), .d (.val (.int .u64 o2)), .d (.val (.int .u64 o3))]) none none) (h70c : Good Try.prog 70 [nodeA (catT (.node k a b c d mn mx subs) (.node k2 a2 b2 c2 d2 mn2 mx2 subs2))] none (.agg [.d (.val (.int .u64 fa)), .d (.val (.int .u64 fb)), .d (.val (.int .u64 fc)), .d (.val (.int .u64 fd))]) none none)
    (h69t : Good Try.prog 69 [.agg [.i k, .d (.val (.int .u64 a)), .d (.val (.int .u64 b)), .d (.val (.int .u64 c)), .d (.val (.int .u64 d)), .i mn, .i mx, .d (.sl (encL subs) subs.length)]] none (.b false) none none) (h69u : Good Try.prog 69 [.agg [.i k2, .d (.val (.int .u64 a2)), .d (.val (.int .u64 b2)), .d (.val (.int .u64 c2)), .d (.val (.int .u64 d2)), .i mn2, .i mx2, .d (.sl (encL subs2) subs2.length)]] none (.b true) none none) (h69a : Good Try.prog 69 [nodeA (altT (.node k a b c d mn mx subs) (.node k2 a2 b2 c2 d2 mn2 mx2 subs2))] none (.b (false || true)) none none) (h69c : Good Try.prog 69 [nodeA (catT (.node k a b c d mn mx subs) (.node k2 a2 b2 c2 d2 mn2 mx2 subs2))] none (.b (false && true)) none none)
    (h71t : Good Try.prog 71 [.agg [.i k, .d (.val (.int .u64 a)), .d (.val (.int .u64 b)), .d (.val (.int .u64 c)), .d (.val (.int .u64 d)), .i mn, .i mx, .d (.sl (encL subs) subs.length)]] none (.b false) none none) (h71u : Good Try.prog 71 [.agg [.i k2, .d (.val (.int .u64 a2)), .d (.val (.int .u64 b2)), .d (.val (.int .u64 c2)), .d (.val (.int .u64 d2)), .i mn2, .i mx2, .d (.sl (encL subs2) subs2.length)]] none (.b false) none none)
    (h68a : Good Try.prog 68 [nodeA (altT (.node k a b c d mn mx subs) (.node k2 a2 b2 c2 d2 mn2 mx2 subs2))] none (.i wd) none none) (h68c : Good Try.prog 68 [nodeA (catT (.node k a b c d mn mx subs) (.node k2 a2 b2 c2 d2 mn2 mx2 subs2))] none (.i wd) none none)
    (h74o : Good Try.prog 74 [.agg [.d (.val (.int .u64 o0)), .d (.val (.int .u64 o1)), .d (.val (.int .u64 o2)), .d (.val (.int .u64 o3))]] none (.d (.sl (encI (encJ lO)) lO.length)) none none) (h74w : Good Try.prog 74 [.agg [.d (.val (.int .u64 fa)), .d (.val (.int .u64 fb)), .d (.val (.int .u64 fc)), .d (.val (.int .u64 fd))]] none (.d (.sl (encI (encJ lW)) lW.length)) none none)
    (hww : (wd == wd) = true) (hge : decide ((lO.length : Int) ≥ (lW.length : Int)) = true) : Good Try.prog 22 [.agg [.i k, .d (.val (.int .u64 a)), .d (.val (.int .u64 b)), .d (.val (.int .u64 c)), .d (.val (.int .u64 d)), .i mn, .i mx, .d (.sl (encL subs) subs.length)], .agg [.i k2, .d (.val (.int .u64 a2)), .d (.val (.int .u64 b2)), .d (.val (.int .u64 c2)), .d (.val (.int .u64 d2)), .i mn2, .i mx2, .d (.sl (encL subs2) subs2.length)]] none (.b true) none none := by
  refine b22 (by simp) (by simp) (w_init ?_)
  unfold x22
  repeat' (first
    | (apply r_mvV; rfl)
    | (apply r_mvP; rfl)
    | (apply r_mvPL; rfl)
    | (apply r_mvS; rfl)
    | (apply r_mvSL; rfl)
    | (apply r_mvA; rfl)
    | (apply r_mvT; rfl)
    | (apply r_mvF; rfl)
    | (apply r_mvD; rfl)
    | (apply r_ldL (v := .agg [.i k, .d (.val (.int .u64 a)), .d (.val (.int .u64 b)), .d (.val (.int .u64 c)), .d (.val (.int .u64 d)), .i mn, .i mx, .d (.sl (encL subs) subs.length)]); rfl; rfl; rfl)
    | (apply r_ldL (v := .agg [.i k2, .d (.val (.int .u64 a2)), .d (.val (.int .u64 b2)), .d (.val (.int .u64 c2)), .d (.val (.int .u64 d2)), .i mn2, .i mx2, .d (.sl (encL subs2) subs2.length)]); rfl; rfl; rfl)
    | (apply r_ldL (v := .agg [.i 4, .d (.val (.int .u64 0)), .d (.val (.int .u64 0)), .d (.val (.int .u64 0)), .d (.val (.int .u64 0)), .i 0, .i 0, .slL 6 0 2 8]); rfl; rfl; rfl)
    | (apply r_ldL (v := .agg [.i 3, .d (.val (.int .u64 0)), .d (.val (.int .u64 0)), .d (.val (.int .u64 0)), .d (.val (.int .u64 0)), .i 0, .i 0, .slL 10 0 2 8]); rfl; rfl; rfl)
    | (apply r_n (v := .slL 6 0 2 8) (r := [.i k, .d (.val (.int .u64 a)), .d (.val (.int .u64 b)), .d (.val (.int .u64 c)), .d (.val (.int .u64 d)), .i mn, .i mx, .d (.sl (encL subs) subs.length), .i k2, .d (.val (.int .u64 a2)), .d (.val (.int .u64 b2)), .d (.val (.int .u64 c2)), .d (.val (.int .u64 d2)), .i mn2, .i mx2, .d (.sl (encL subs2) subs2.length)]); rfl)
    | (apply r_n (v := .slL 10 0 2 8) (r := [.i k, .d (.val (.int .u64 a)), .d (.val (.int .u64 b)), .d (.val (.int .u64 c)), .d (.val (.int .u64 d)), .i mn, .i mx, .d (.sl (encL subs) subs.length), .i k2, .d (.val (.int .u64 a2)), .d (.val (.int .u64 b2)), .d (.val (.int .u64 c2)), .d (.val (.int .u64 d2)), .i mn2, .i mx2, .d (.sl (encL subs2) subs2.length)]); rfl)
    | (apply r_p (v := .agg [.i 4, .d (.val (.int .u64 0)), .d (.val (.int .u64 0)), .d (.val (.int .u64 0)), .d (.val (.int .u64 0)), .i 0, .i 0, .slL 6 0 2 8]); rfl)
    | (apply r_p (v := .agg [.i 3, .d (.val (.int .u64 0)), .d (.val (.int .u64 0)), .d (.val (.int .u64 0)), .d (.val (.int .u64 0)), .i 0, .i 0, .slL 10 0 2 8]); rfl)
    | (apply r_callA (f := 64) (ags := []); rfl; rfl; exact haw)
    | (apply r_call (f := 45) (bs := [nodeA (altT (.node k a b c d mn mx subs) (.node k2 a2 b2 c2 d2 mn2 mx2 subs2))]) (us := [6]); rfl; exact conv2 rfl; exact h45; rfl)
    | (apply r_call (f := 32) (bs := [nodeA (altT (.node k a b c d mn mx subs) (.node k2 a2 b2 c2 d2 mn2 mx2 subs2))]) (us := [6]); rfl; exact conv2 rfl; exact h32; rfl)
    | (apply r_call (f := 32) (bs := [nodeA (catT (.node k a b c d mn mx subs) (.node k2 a2 b2 c2 d2 mn2 mx2 subs2))]) (us := [10]); rfl; exact conv2 rfl; exact h32c; rfl)
    | (apply r_callA (f := 70) (ags := [.agg [.i k, .d (.val (.int .u64 a)), .d (.val (.int .u64 b)), .d (.val (.int .u64 c)), .d (.val (.int .u64 d)), .i mn, .i mx, .d (.sl (encL subs) subs.length)]]); rfl; rfl; exact h70t)
    | (apply r_callA (f := 70) (ags := [.agg [.i k2, .d (.val (.int .u64 a2)), .d (.val (.int .u64 b2)), .d (.val (.int .u64 c2)), .d (.val (.int .u64 d2)), .i mn2, .i mx2, .d (.sl (encL subs2) subs2.length)]]); rfl; rfl; exact h70u)
    | (apply r_callA (f := 73); rfl; rfl; exact h73)
    | (apply r_call (f := 70) (bs := [nodeA (altT (.node k a b c d mn mx subs) (.node k2 a2 b2 c2 d2 mn2 mx2 subs2))]) (us := [6]); rfl; exact conv2 rfl; exact h70a; rfl)
    | (apply r_call (f := 70) (bs := [nodeA (catT (.node k a b c d mn mx subs) (.node k2 a2 b2 c2 d2 mn2 mx2 subs2))]) (us := [10]); rfl; exact conv2 rfl; exact h70c; rfl)
    | (apply r_callA (f := 69) (ags := [.agg [.i k, .d (.val (.int .u64 a)), .d (.val (.int .u64 b)), .d (.val (.int .u64 c)), .d (.val (.int .u64 d)), .i mn, .i mx, .d (.sl (encL subs) subs.length)]]); rfl; rfl; exact h69t)
    | (apply r_callA (f := 69) (ags := [.agg [.i k2, .d (.val (.int .u64 a2)), .d (.val (.int .u64 b2)), .d (.val (.int .u64 c2)), .d (.val (.int .u64 d2)), .i mn2, .i mx2, .d (.sl (encL subs2) subs2.length)]]); rfl; rfl; exact h69u)
    | (apply r_call (f := 69) (bs := [nodeA (altT (.node k a b c d mn mx subs) (.node k2 a2 b2 c2 d2 mn2 mx2 subs2))]) (us := [6]); rfl; exact conv2 rfl; exact h69a; rfl)
    | (apply r_call (f := 69) (bs := [nodeA (catT (.node k a b c d mn mx subs) (.node k2 a2 b2 c2 d2 mn2 mx2 subs2))]) (us := [10]); rfl; exact conv2 rfl; exact h69c; rfl)
    | (apply r_callA (f := 71) (ags := [.agg [.i k, .d (.val (.int .u64 a)), .d (.val (.int .u64 b)), .d (.val (.int .u64 c)), .d (.val (.int .u64 d)), .i mn, .i mx, .d (.sl (encL subs) subs.length)]]); rfl; rfl; exact h71t)
    | (apply r_callA (f := 71) (ags := [.agg [.i k2, .d (.val (.int .u64 a2)), .d (.val (.int .u64 b2)), .d (.val (.int .u64 c2)), .d (.val (.int .u64 d2)), .i mn2, .i mx2, .d (.sl (encL subs2) subs2.length)]]); rfl; rfl; exact h71u)
    | (apply r_call (f := 68) (bs := [nodeA (altT (.node k a b c d mn mx subs) (.node k2 a2 b2 c2 d2 mn2 mx2 subs2))]) (us := [6]); rfl; exact conv2 rfl; exact h68a; rfl)
    | (apply r_call (f := 68) (bs := [nodeA (catT (.node k a b c d mn mx subs) (.node k2 a2 b2 c2 d2 mn2 mx2 subs2))]) (us := [10]); rfl; exact conv2 rfl; exact h68c; rfl)
    | (apply r_ldL (v := .agg [.d (.val (.int .u64 o0)), .d (.val (.int .u64 o1)), .d (.val (.int .u64 o2)), .d (.val (.int .u64 o3))]); rfl; rfl; rfl)
    | (apply r_ldL (v := .agg [.d (.val (.int .u64 fa)), .d (.val (.int .u64 fb)), .d (.val (.int .u64 fc)), .d (.val (.int .u64 fd))]); rfl; rfl; rfl)
    | (apply r_callA (f := 74) (ags := [.agg [.d (.val (.int .u64 o0)), .d (.val (.int .u64 o1)), .d (.val (.int .u64 o2)), .d (.val (.int .u64 o3))]]); rfl; rfl; exact h74o)
    | (apply r_callA (f := 74) (ags := [.agg [.d (.val (.int .u64 fa)), .d (.val (.int .u64 fb)), .d (.val (.int .u64 fc)), .d (.val (.int .u64 fd))]]); rfl; rfl; exact h74w)
    | (apply r_eqX (r := true); rfl; rfl; simp)
    | (apply r_p (v := .agg [.d (.val (.int .u64 0)), .d (.val (.int .u64 0)), .d (.val (.int .u64 0)), .d (.val (.int .u64 0))]); rfl)
    | (apply r_p (v := .b true); exact congrArg (fun z => some (AV.b z)) hww)
    | (apply r_p (v := .b true); exact congrArg (fun z => some (AV.b z)) hge)
    | (apply r_ldL; rfl; rfl; rfl)
    | (apply r_eql; rfl; rfl; (first | (apply decide_eq_true; omega) | (apply decide_eq_false; omega) | rfl))
    | (apply r_geq; rfl; rfl; (first | (apply decide_eq_true; omega) | (apply decide_eq_false; omega) | rfl))
    | (apply r_not; rfl; rfl)
    | (apply r_beq; rfl; rfl; rfl)
    | (apply r_pickT; rfl)
    | (apply r_pickF; rfl)
    | (apply r_lenD; rfl)
    | (apply r_lenL; rfl)
    | (apply r_len0; rfl)
    | (apply r_gT; rfl)
    | (apply r_gF'; rfl; rfl)
    | (apply r_gN'; rfl)
    | ((apply r_gS (o := default); rfl) <;> (intro h; try simp only [decide_eq_true_eq, decide_eq_false_iff_not, Bool.not_eq_true, Bool.not_eq_false] at h))
    | (apply r_alloc; ((conv => lhs; simp only [Nat.reduceAdd]) <;> rfl); rfl)
    | (apply r_box; ((conv => lhs; simp only [Nat.reduceAdd]) <;> rfl); rfl; rfl; rfl)
    | (apply r_avS; rfl)
    | (apply r_stL; rfl; rfl; rfl; rfl; (first | rfl | (simp only [z_nil, z_add] <;> rfl)); rfl; rfl)
    | (apply r_p; rfl)
    | (apply r_nilK)
    | (apply r_nil)
    | (apply k_V; rfl)
    | (apply k_P; rfl)
    | (apply k_PL; rfl)
    | (apply k_S; rfl)
    | (apply k_SL; rfl)
    | (apply k_A; rfl)
    | (apply k_T; rfl)
    | (apply k_F; rfl)
    | (apply k_D; rfl; rotate_left; rfl)
    | (apply k_nil)
    | (apply e_ret (vs := [.d (.val _)]); rfl)
    | (apply e_ret; rfl)
    | (apply e_ret' (vs := [.d (.val _)]); rfl)
    | (apply e_ret'; rfl)
    | (apply w_seq)
    | (apply w_ops; ((conv => lhs; simp only [Nat.reduceAdd]) <;> rfl))
    | (apply w_condT; rfl)
    | (apply w_condF; rfl)
    | ((apply w_condS; rfl) <;> (intro h; try simp only [decide_eq_true_eq, decide_eq_false_iff_not, Bool.not_eq_true, Bool.not_eq_false] at h))
    | (apply e_thenN)
    | (apply w_block)
    | (apply e_thenR)
    | (apply e_thenX)
    | (apply e_blkN)
    | (apply e_blkR)
    | (apply e_blkE)
    | (apply w_exit)
    | (apply w_ret)
    | (apply w_skip)
    | (apply e_blkE'; rfl))
  exact retB rfl
theorem w22_false_false_false_false {k a b c d mn mx k2 a2 b2 c2 d2 mn2 mx2 : Int} {subs subs2 : List T} {fa fb fc fd ga gb gc gd o0 o1 o2 o3 wd : Int} {lO lW : List Nat}
    (haw : Good Try.prog 64 [] none (.b true) none none) (h45 : Good Try.prog 45 [nodeA (altT (.node k a b c d mn mx subs) (.node k2 a2 b2 c2 d2 mn2 mx2 subs2))] none (.b true) none none) (h32 : Good Try.prog 32 [nodeA (altT (.node k a b c d mn mx subs) (.node k2 a2 b2 c2 d2 mn2 mx2 subs2))] none (.b true) none none) (h32c : Good Try.prog 32 [nodeA (catT (.node k a b c d mn mx subs) (.node k2 a2 b2 c2 d2 mn2 mx2 subs2))] none (.b true) none none)
    (h70t : Good Try.prog 70 [.agg [.i k, .d (.val (.int .u64 a)), .d (.val (.int .u64 b)), .d (.val (.int .u64 c)), .d (.val (.int .u64 d)), .i mn, .i mx, .d (.sl (encL subs) subs.length)]] none (.agg [.d (.val (.int .u64 fa)), .d (.val (.int .u64 fb)), .d (.val (.int .u64 fc)), .d (.val (.int .u64 fd))]) none none) (h70u : Good Try.prog 70 [.agg [.i k2, .d (.val (.int .u64 a2)), .d (.val (.int .u64 b2)), .d (.val (.int .u64 c2)), .d (.val (.int .u64 d2)), .i mn2, .i mx2, .d (.sl (encL subs2) subs2.length)]] none (.agg [.d (.val (.int .u64 ga)), .d (.val (.int .u64 gb)), .d (.val (.int .u64 gc)), .d (.val (.int .u64 gd))]) none none) (h73 : Good Try.prog 73 [.agg [.d (.val (.int .u64 fa)), .d (.val (.int .u64 fb)), .d (.val (.int .u64 fc)), .d (.val (.int .u64 fd))], .agg [.d (.val (.int .u64 ga)), .d (.val (.int .u64 gb)), .d (.val (.int .u64 gc)), .d (.val (.int .u64 gd))]] none (.agg [.d (.val (.int .u64 o0)), .d (.val (.int .u64 o1)), .d (.val (.int .u64 o2)), .d (.val (.int .u64 o3))]) none none)
    (h70a : Good Try.prog 70 [nodeA (altT (.node k a b c d mn mx subs) (.node k2 a2 b2 c2 d2 mn2 mx2 subs2))] none (.agg [.d (.val (.int .u64 o0)), .d (.val (.int .u64 o1)), .d (.val (.int .u64 o2)), .d (.val (.int .u64 o3))]) none none) (h70c : Good Try.prog 70 [nodeA (catT (.node k a b c d mn mx subs) (.node k2 a2 b2 c2 d2 mn2 mx2 subs2))] none (.agg [.d (.val (.int .u64 fa)), .d (.val (.int .u64 fb)), .d (.val (.int .u64 fc)), .d (.val (.int .u64 fd))]) none none)
    (h69t : Good Try.prog 69 [.agg [.i k, .d (.val (.int .u64 a)), .d (.val (.int .u64 b)), .d (.val (.int .u64 c)), .d (.val (.int .u64 d)), .i mn, .i mx, .d (.sl (encL subs) subs.length)]] none (.b false) none none) (h69u : Good Try.prog 69 [.agg [.i k2, .d (.val (.int .u64 a2)), .d (.val (.int .u64 b2)), .d (.val (.int .u64 c2)), .d (.val (.int .u64 d2)), .i mn2, .i mx2, .d (.sl (encL subs2) subs2.length)]] none (.b false) none none) (h69a : Good Try.prog 69 [nodeA (altT (.node k a b c d mn mx subs) (.node k2 a2 b2 c2 d2 mn2 mx2 subs2))] none (.b (false || false)) none none) (h69c : Good Try.prog 69 [nodeA (catT (.node k a b c d mn mx subs) (.node k2 a2 b2 c2 d2 mn2 mx2 subs2))] none (.b (false && false)) none none)
    (h71t : Good Try.prog 71 [.agg [.i k, .d (.val (.int .u64 a)), .d (.val (.int .u64 b)), .d (.val (.int .u64 c)), .d (.val (.int .u64 d)), .i mn, .i mx, .d (.sl (encL subs) subs.length)]] none (.b false) none none) (h71u : Good Try.prog 71 [.agg [.i k2, .d (.val (.int .u64 a2)), .d (.val (.int .u64 b2)), .d (.val (.int .u64 c2)), .d (.val (.int .u64 d2)), .i mn2, .i mx2, .d (.sl (encL subs2) subs2.length)]] none (.b false) none none)
    (h68a : Good Try.prog 68 [nodeA (altT (.node k a b c d mn mx subs) (.node k2 a2 b2 c2 d2 mn2 mx2 subs2))] none (.i wd) none none) (h68c : Good Try.prog 68 [nodeA (catT (.node k a b c d mn mx subs) (.node k2 a2 b2 c2 d2 mn2 mx2 subs2))] none (.i wd) none none)
    (h74o : Good Try.prog 74 [.agg [.d (.val (.int .u64 o0)), .d (.val (.int .u64 o1)), .d (.val (.int .u64 o2)), .d (.val (.int .u64 o3))]] none (.d (.sl (encI (encJ lO)) lO.length)) none none) (h74w : Good Try.prog 74 [.agg [.d (.val (.int .u64 fa)), .d (.val (.int .u64 fb)), .d (.val (.int .u64 fc)), .d (.val (.int .u64 fd))]] none (.d (.sl (encI (encJ lW)) lW.length)) none none)
    (hww : (wd == wd) = true) (hge : decide ((lO.length : Int) ≥ (lW.length : Int)) = true) : Good Try.prog 22 [.agg [.i k, .d (.val (.int .u64 a)), .d (.val (.int .u64 b)), .d (.val (.int .u64 c)), .d (.val (.int .u64 d)), .i mn, .i mx, .d (.sl (encL subs) subs.length)], .agg [.i k2, .d (.val (.int .u64 a2)), .d (.val (.int .u64 b2)), .d (.val (.int .u64 c2)), .d (.val (.int .u64 d2)), .i mn2, .i mx2, .d (.sl (encL subs2) subs2.length)]] none (.b true) none none := by
  refine b22 (by simp) (by simp) (w_init ?_)
  unfold x22
  repeat' (first
    | (apply r_mvV; rfl)
    | (apply r_mvP; rfl)
    | (apply r_mvPL; rfl)
    | (apply r_mvS; rfl)
    | (apply r_mvSL; rfl)
    | (apply r_mvA; rfl)
    | (apply r_mvT; rfl)
    | (apply r_mvF; rfl)
    | (apply r_mvD; rfl)
    | (apply r_ldL (v := .agg [.i k, .d (.val (.int .u64 a)), .d (.val (.int .u64 b)), .d (.val (.int .u64 c)), .d (.val (.int .u64 d)), .i mn, .i mx, .d (.sl (encL subs) subs.length)]); rfl; rfl; rfl)
    | (apply r_ldL (v := .agg [.i k2, .d (.val (.int .u64 a2)), .d (.val (.int .u64 b2)), .d (.val (.int .u64 c2)), .d (.val (.int .u64 d2)), .i mn2, .i mx2, .d (.sl (encL subs2) subs2.length)]); rfl; rfl; rfl)
    | (apply r_ldL (v := .agg [.i 4, .d (.val (.int .u64 0)), .d (.val (.int .u64 0)), .d (.val (.int .u64 0)), .d (.val (.int .u64 0)), .i 0, .i 0, .slL 6 0 2 8]); rfl; rfl; rfl)
    | (apply r_ldL (v := .agg [.i 3, .d (.val (.int .u64 0)), .d (.val (.int .u64 0)), .d (.val (.int .u64 0)), .d (.val (.int .u64 0)), .i 0, .i 0, .slL 10 0 2 8]); rfl; rfl; rfl)
    | (apply r_n (v := .slL 6 0 2 8) (r := [.i k, .d (.val (.int .u64 a)), .d (.val (.int .u64 b)), .d (.val (.int .u64 c)), .d (.val (.int .u64 d)), .i mn, .i mx, .d (.sl (encL subs) subs.length), .i k2, .d (.val (.int .u64 a2)), .d (.val (.int .u64 b2)), .d (.val (.int .u64 c2)), .d (.val (.int .u64 d2)), .i mn2, .i mx2, .d (.sl (encL subs2) subs2.length)]); rfl)
    | (apply r_n (v := .slL 10 0 2 8) (r := [.i k, .d (.val (.int .u64 a)), .d (.val (.int .u64 b)), .d (.val (.int .u64 c)), .d (.val (.int .u64 d)), .i mn, .i mx, .d (.sl (encL subs) subs.length), .i k2, .d (.val (.int .u64 a2)), .d (.val (.int .u64 b2)), .d (.val (.int .u64 c2)), .d (.val (.int .u64 d2)), .i mn2, .i mx2, .d (.sl (encL subs2) subs2.length)]); rfl)
    | (apply r_p (v := .agg [.i 4, .d (.val (.int .u64 0)), .d (.val (.int .u64 0)), .d (.val (.int .u64 0)), .d (.val (.int .u64 0)), .i 0, .i 0, .slL 6 0 2 8]); rfl)
    | (apply r_p (v := .agg [.i 3, .d (.val (.int .u64 0)), .d (.val (.int .u64 0)), .d (.val (.int .u64 0)), .d (.val (.int .u64 0)), .i 0, .i 0, .slL 10 0 2 8]); rfl)
    | (apply r_callA (f := 64) (ags := []); rfl; rfl; exact haw)
    | (apply r_call (f := 45) (bs := [nodeA (altT (.node k a b c d mn mx subs) (.node k2 a2 b2 c2 d2 mn2 mx2 subs2))]) (us := [6]); rfl; exact conv2 rfl; exact h45; rfl)
    | (apply r_call (f := 32) (bs := [nodeA (altT (.node k a b c d mn mx subs) (.node k2 a2 b2 c2 d2 mn2 mx2 subs2))]) (us := [6]); rfl; exact conv2 rfl; exact h32; rfl)
    | (apply r_call (f := 32) (bs := [nodeA (catT (.node k a b c d mn mx subs) (.node k2 a2 b2 c2 d2 mn2 mx2 subs2))]) (us := [10]); rfl; exact conv2 rfl; exact h32c; rfl)
    | (apply r_callA (f := 70) (ags := [.agg [.i k, .d (.val (.int .u64 a)), .d (.val (.int .u64 b)), .d (.val (.int .u64 c)), .d (.val (.int .u64 d)), .i mn, .i mx, .d (.sl (encL subs) subs.length)]]); rfl; rfl; exact h70t)
    | (apply r_callA (f := 70) (ags := [.agg [.i k2, .d (.val (.int .u64 a2)), .d (.val (.int .u64 b2)), .d (.val (.int .u64 c2)), .d (.val (.int .u64 d2)), .i mn2, .i mx2, .d (.sl (encL subs2) subs2.length)]]); rfl; rfl; exact h70u)
    | (apply r_callA (f := 73); rfl; rfl; exact h73)
    | (apply r_call (f := 70) (bs := [nodeA (altT (.node k a b c d mn mx subs) (.node k2 a2 b2 c2 d2 mn2 mx2 subs2))]) (us := [6]); rfl; exact conv2 rfl; exact h70a; rfl)
    | (apply r_call (f := 70) (bs := [nodeA (catT (.node k a b c d mn mx subs) (.node k2 a2 b2 c2 d2 mn2 mx2 subs2))]) (us := [10]); rfl; exact conv2 rfl; exact h70c; rfl)
    | (apply r_callA (f := 69) (ags := [.agg [.i k, .d (.val (.int .u64 a)), .d (.val (.int .u64 b)), .d (.val (.int .u64 c)), .d (.val (.int .u64 d)), .i mn, .i mx, .d (.sl (encL subs) subs.length)]]); rfl; rfl; exact h69t)
    | (apply r_callA (f := 69) (ags := [.agg [.i k2, .d (.val (.int .u64 a2)), .d (.val (.int .u64 b2)), .d (.val (.int .u64 c2)), .d (.val (.int .u64 d2)), .i mn2, .i mx2, .d (.sl (encL subs2) subs2.length)]]); rfl; rfl; exact h69u)
    | (apply r_call (f := 69) (bs := [nodeA (altT (.node k a b c d mn mx subs) (.node k2 a2 b2 c2 d2 mn2 mx2 subs2))]) (us := [6]); rfl; exact conv2 rfl; exact h69a; rfl)
    | (apply r_call (f := 69) (bs := [nodeA (catT (.node k a b c d mn mx subs) (.node k2 a2 b2 c2 d2 mn2 mx2 subs2))]) (us := [10]); rfl; exact conv2 rfl; exact h69c; rfl)
    | (apply r_callA (f := 71) (ags := [.agg [.i k, .d (.val (.int .u64 a)), .d (.val (.int .u64 b)), .d (.val (.int .u64 c)), .d (.val (.int .u64 d)), .i mn, .i mx, .d (.sl (encL subs) subs.length)]]); rfl; rfl; exact h71t)
    | (apply r_callA (f := 71) (ags := [.agg [.i k2, .d (.val (.int .u64 a2)), .d (.val (.int .u64 b2)), .d (.val (.int .u64 c2)), .d (.val (.int .u64 d2)), .i mn2, .i mx2, .d (.sl (encL subs2) subs2.length)]]); rfl; rfl; exact h71u)
    | (apply r_call (f := 68) (bs := [nodeA (altT (.node k a b c d mn mx subs) (.node k2 a2 b2 c2 d2 mn2 mx2 subs2))]) (us := [6]); rfl; exact conv2 rfl; exact h68a; rfl)
    | (apply r_call (f := 68) (bs := [nodeA (catT (.node k a b c d mn mx subs) (.node k2 a2 b2 c2 d2 mn2 mx2 subs2))]) (us := [10]); rfl; exact conv2 rfl; exact h68c; rfl)
    | (apply r_ldL (v := .agg [.d (.val (.int .u64 o0)), .d (.val (.int .u64 o1)), .d (.val (.int .u64 o2)), .d (.val (.int .u64 o3))]); rfl; rfl; rfl)
    | (apply r_ldL (v := .agg [.d (.val (.int .u64 fa)), .d (.val (.int .u64 fb)), .d (.val (.int .u64 fc)), .d (.val (.int .u64 fd))]); rfl; rfl; rfl)
    | (apply r_callA (f := 74) (ags := [.agg [.d (.val (.int .u64 o0)), .d (.val (.int .u64 o1)), .d (.val (.int .u64 o2)), .d (.val (.int .u64 o3))]]); rfl; rfl; exact h74o)
    | (apply r_callA (f := 74) (ags := [.agg [.d (.val (.int .u64 fa)), .d (.val (.int .u64 fb)), .d (.val (.int .u64 fc)), .d (.val (.int .u64 fd))]]); rfl; rfl; exact h74w)
    | (apply r_eqX (r := true); rfl; rfl; simp)
    | (apply r_p (v := .agg [.d (.val (.int .u64 0)), .d (.val (.int .u64 0)), .d (.val (.int .u64 0)), .d (.val (.int .u64 0))]); rfl)
    | (apply r_p (v := .b true); exact congrArg (fun z => some (AV.b z)) hww)
    | (apply r_p (v := .b true); exact congrArg (fun z => some (AV.b z)) hge)
    | (apply r_ldL; rfl; rfl; rfl)
    | (apply r_eql; rfl; rfl; (first | (apply decide_eq_true; omega) | (apply decide_eq_false; omega) | rfl))
    | (apply r_geq; rfl; rfl; (first | (apply decide_eq_true; omega) | (apply decide_eq_false; omega) | rfl))
    | (apply r_not; rfl; rfl)
    | (apply r_beq; rfl; rfl; rfl)
    | (apply r_pickT; rfl)
    | (apply r_pickF; rfl)
    | (apply r_lenD; rfl)
    | (apply r_lenL; rfl)
    | (apply r_len0; rfl)
    | (apply r_gT; rfl)
    | (apply r_gF'; rfl; rfl)
    | (apply r_gN'; rfl)
    | ((apply r_gS (o := default); rfl) <;> (intro h; try simp only [decide_eq_true_eq, decide_eq_false_iff_not, Bool.not_eq_true, Bool.not_eq_false] at h))
    | (apply r_alloc; ((conv => lhs; simp only [Nat.reduceAdd]) <;> rfl); rfl)
    | (apply r_box; ((conv => lhs; simp only [Nat.reduceAdd]) <;> rfl); rfl; rfl; rfl)
    | (apply r_avS; rfl)
    | (apply r_stL; rfl; rfl; rfl; rfl; (first | rfl | (simp only [z_nil, z_add] <;> rfl)); rfl; rfl)
    | (apply r_p; rfl)
    | (apply r_nilK)
    | (apply r_nil)
    | (apply k_V; rfl)
    | (apply k_P; rfl)
    | (apply k_PL; rfl)
    | (apply k_S; rfl)
    | (apply k_SL; rfl)
    | (apply k_A; rfl)
    | (apply k_T; rfl)
    | (apply k_F; rfl)
    | (apply k_D; rfl; rotate_left; rfl)
    | (apply k_nil)
    | (apply e_ret (vs := [.d (.val _)]); rfl)
    | (apply e_ret; rfl)
    | (apply e_ret' (vs := [.d (.val _)]); rfl)
    | (apply e_ret'; rfl)
    | (apply w_seq)
    | (apply w_ops; ((conv => lhs; simp only [Nat.reduceAdd]) <;> rfl))
    | (apply w_condT; rfl)
    | (apply w_condF; rfl)
    | ((apply w_condS; rfl) <;> (intro h; try simp only [decide_eq_true_eq, decide_eq_false_iff_not, Bool.not_eq_true, Bool.not_eq_false] at h))
    | (apply e_thenN)
    | (apply w_block)
    | (apply e_thenR)
    | (apply e_thenX)
    | (apply e_blkN)
    | (apply e_blkR)
    | (apply e_blkE)
    | (apply w_exit)
    | (apply w_ret)
    | (apply w_skip)
    | (apply e_blkE'; rfl))
  exact retB rfl
theorem law22 (t u : T) (ht : inT t) (hu : inT u) : Good Try.prog 22 [nodeA t, nodeA u] none (.b true) none none := by
  have haw := awake64_good
  have z : inW 0 := by unfold inW; omega
  have o : okW 0 := by unfold okW; omega
  have k3 : inW 3 := by unfold inW; omega
  have k4 : inW 4 := by unfold inW; omega
  have hina : inT (altT t u) := by simp only [altT, inT, inL, z, o, k4, ht, hu, and_self]
  have hinc : inT (catT t u) := by simp only [catT, inT, inL, z, o, k3, ht, hu, and_self]
  have h45 := few_good (altT t u)
  clear z o k3 k4
  by_cases hf : sizeT (altT t u) 601 ≤ 200
  case neg =>
    rw [show decide (sizeT (altT t u) 601 ≤ 200) = false by simp [hf]] at h45
    clear ht hu hf hina hinc
    obtain ⟨k, a, b, c, d, mn, mx, subs⟩ := t
    obtain ⟨k2, a2, b2, c2, d2, mn2, mx2, subs2⟩ := u
    have e0 : nodeA (.node k a b c d mn mx subs) = .agg [.i k, .d (.val (.int .u64 a)), .d (.val (.int .u64 b)), .d (.val (.int .u64 c)), .d (.val (.int .u64 d)), .i mn, .i mx, .d (.sl (encL subs) subs.length)] := rfl
    have e1 : nodeA (.node k2 a2 b2 c2 d2 mn2 mx2 subs2) = .agg [.i k2, .d (.val (.int .u64 a2)), .d (.val (.int .u64 b2)), .d (.val (.int .u64 c2)), .d (.val (.int .u64 d2)), .i mn2, .i mx2, .d (.sl (encL subs2) subs2.length)] := rfl
    rw [e0, e1]
    refine b22 (by simp) (by simp) (w_init ?_)
    unfold x22
    repeat' (first
    | (apply r_mvV; rfl)
    | (apply r_mvP; rfl)
    | (apply r_mvPL; rfl)
    | (apply r_mvS; rfl)
    | (apply r_mvSL; rfl)
    | (apply r_mvA; rfl)
    | (apply r_mvT; rfl)
    | (apply r_mvF; rfl)
    | (apply r_mvD; rfl)
    | (apply r_ldL (v := .agg [.i k, .d (.val (.int .u64 a)), .d (.val (.int .u64 b)), .d (.val (.int .u64 c)), .d (.val (.int .u64 d)), .i mn, .i mx, .d (.sl (encL subs) subs.length)]); rfl; rfl; rfl)
    | (apply r_ldL (v := .agg [.i k2, .d (.val (.int .u64 a2)), .d (.val (.int .u64 b2)), .d (.val (.int .u64 c2)), .d (.val (.int .u64 d2)), .i mn2, .i mx2, .d (.sl (encL subs2) subs2.length)]); rfl; rfl; rfl)
    | (apply r_ldL (v := .agg [.i 4, .d (.val (.int .u64 0)), .d (.val (.int .u64 0)), .d (.val (.int .u64 0)), .d (.val (.int .u64 0)), .i 0, .i 0, .slL 6 0 2 8]); rfl; rfl; rfl)
    | (apply r_ldL (v := .agg [.i 3, .d (.val (.int .u64 0)), .d (.val (.int .u64 0)), .d (.val (.int .u64 0)), .d (.val (.int .u64 0)), .i 0, .i 0, .slL 10 0 2 8]); rfl; rfl; rfl)
    | (apply r_n (v := .slL 6 0 2 8) (r := [.i k, .d (.val (.int .u64 a)), .d (.val (.int .u64 b)), .d (.val (.int .u64 c)), .d (.val (.int .u64 d)), .i mn, .i mx, .d (.sl (encL subs) subs.length), .i k2, .d (.val (.int .u64 a2)), .d (.val (.int .u64 b2)), .d (.val (.int .u64 c2)), .d (.val (.int .u64 d2)), .i mn2, .i mx2, .d (.sl (encL subs2) subs2.length)]); rfl)
    | (apply r_n (v := .slL 10 0 2 8) (r := [.i k, .d (.val (.int .u64 a)), .d (.val (.int .u64 b)), .d (.val (.int .u64 c)), .d (.val (.int .u64 d)), .i mn, .i mx, .d (.sl (encL subs) subs.length), .i k2, .d (.val (.int .u64 a2)), .d (.val (.int .u64 b2)), .d (.val (.int .u64 c2)), .d (.val (.int .u64 d2)), .i mn2, .i mx2, .d (.sl (encL subs2) subs2.length)]); rfl)
    | (apply r_p (v := .agg [.i 4, .d (.val (.int .u64 0)), .d (.val (.int .u64 0)), .d (.val (.int .u64 0)), .d (.val (.int .u64 0)), .i 0, .i 0, .slL 6 0 2 8]); rfl)
    | (apply r_p (v := .agg [.i 3, .d (.val (.int .u64 0)), .d (.val (.int .u64 0)), .d (.val (.int .u64 0)), .d (.val (.int .u64 0)), .i 0, .i 0, .slL 10 0 2 8]); rfl)
    | (apply r_callA (f := 64) (ags := []); rfl; rfl; exact haw)
    | (apply r_call (f := 45) (bs := [nodeA (altT (.node k a b c d mn mx subs) (.node k2 a2 b2 c2 d2 mn2 mx2 subs2))]) (us := [6]); rfl; exact conv2 rfl; exact h45; rfl)
    | (apply r_ldL; rfl; rfl; rfl)
    | (apply r_eql; rfl; rfl; (first | (apply decide_eq_true; omega) | (apply decide_eq_false; omega) | rfl))
    | (apply r_geq; rfl; rfl; (first | (apply decide_eq_true; omega) | (apply decide_eq_false; omega) | rfl))
    | (apply r_not; rfl; rfl)
    | (apply r_beq; rfl; rfl; rfl)
    | (apply r_pickT; rfl)
    | (apply r_pickF; rfl)
    | (apply r_lenD; rfl)
    | (apply r_lenL; rfl)
    | (apply r_len0; rfl)
    | (apply r_gT; rfl)
    | (apply r_gF'; rfl; rfl)
    | (apply r_gN'; rfl)
    | ((apply r_gS (o := default); rfl) <;> (intro h; try simp only [decide_eq_true_eq, decide_eq_false_iff_not, Bool.not_eq_true, Bool.not_eq_false] at h))
    | (apply r_alloc; ((conv => lhs; simp only [Nat.reduceAdd]) <;> rfl); rfl)
    | (apply r_box; ((conv => lhs; simp only [Nat.reduceAdd]) <;> rfl); rfl; rfl; rfl)
    | (apply r_avS; rfl)
    | (apply r_stL; rfl; rfl; rfl; rfl; (first | rfl | (simp only [z_nil, z_add] <;> rfl)); rfl; rfl)
    | (apply r_p; rfl)
    | (apply r_nilK)
    | (apply r_nil)
    | (apply k_V; rfl)
    | (apply k_P; rfl)
    | (apply k_PL; rfl)
    | (apply k_S; rfl)
    | (apply k_SL; rfl)
    | (apply k_A; rfl)
    | (apply k_T; rfl)
    | (apply k_F; rfl)
    | (apply k_D; rfl; rotate_left; rfl)
    | (apply k_nil)
    | (apply e_ret (vs := [.d (.val _)]); rfl)
    | (apply e_ret; rfl)
    | (apply e_ret' (vs := [.d (.val _)]); rfl)
    | (apply e_ret'; rfl)
    | (apply w_seq)
    | (apply w_ops; ((conv => lhs; simp only [Nat.reduceAdd]) <;> rfl))
    | (apply w_condT; rfl)
    | (apply w_condF; rfl)
    | ((apply w_condS; rfl) <;> (intro h; try simp only [decide_eq_true_eq, decide_eq_false_iff_not, Bool.not_eq_true, Bool.not_eq_false] at h))
    | (apply e_thenN)
    | (apply w_block)
    | (apply e_thenR)
    | (apply e_thenX)
    | (apply e_blkN)
    | (apply e_blkR)
    | (apply e_blkE)
    | (apply w_exit)
    | (apply w_ret)
    | (apply w_skip)
    | (apply e_blkE'; rfl))
    exact retB rfl
  have hc := few_cnt hf
  rw [show decide (sizeT (altT t u) 601 ≤ 200) = true by simp [hf]] at h45
  have hcc : (catT t u).cnt ≤ 200 := by
    have : (catT t u).cnt = (altT t u).cnt := by simp [catT, altT, T.cnt, cntL]
    omega
  have h32 := right8_good (altT t u) (by omega)
  have h32c := right8_good (catT t u) (by omega)
  by_cases hr : rightT (altT t u) = true
  case neg =>
    have hr : rightT (altT t u) = false := by simpa using hr
    rw [hr] at h32
    clear ht hu hina hinc hr hf hc hcc h32c
    obtain ⟨k, a, b, c, d, mn, mx, subs⟩ := t
    obtain ⟨k2, a2, b2, c2, d2, mn2, mx2, subs2⟩ := u
    have e0 : nodeA (.node k a b c d mn mx subs) = .agg [.i k, .d (.val (.int .u64 a)), .d (.val (.int .u64 b)), .d (.val (.int .u64 c)), .d (.val (.int .u64 d)), .i mn, .i mx, .d (.sl (encL subs) subs.length)] := rfl
    have e1 : nodeA (.node k2 a2 b2 c2 d2 mn2 mx2 subs2) = .agg [.i k2, .d (.val (.int .u64 a2)), .d (.val (.int .u64 b2)), .d (.val (.int .u64 c2)), .d (.val (.int .u64 d2)), .i mn2, .i mx2, .d (.sl (encL subs2) subs2.length)] := rfl
    rw [e0, e1]
    refine b22 (by simp) (by simp) (w_init ?_)
    unfold x22
    repeat' (first
    | (apply r_mvV; rfl)
    | (apply r_mvP; rfl)
    | (apply r_mvPL; rfl)
    | (apply r_mvS; rfl)
    | (apply r_mvSL; rfl)
    | (apply r_mvA; rfl)
    | (apply r_mvT; rfl)
    | (apply r_mvF; rfl)
    | (apply r_mvD; rfl)
    | (apply r_ldL (v := .agg [.i k, .d (.val (.int .u64 a)), .d (.val (.int .u64 b)), .d (.val (.int .u64 c)), .d (.val (.int .u64 d)), .i mn, .i mx, .d (.sl (encL subs) subs.length)]); rfl; rfl; rfl)
    | (apply r_ldL (v := .agg [.i k2, .d (.val (.int .u64 a2)), .d (.val (.int .u64 b2)), .d (.val (.int .u64 c2)), .d (.val (.int .u64 d2)), .i mn2, .i mx2, .d (.sl (encL subs2) subs2.length)]); rfl; rfl; rfl)
    | (apply r_ldL (v := .agg [.i 4, .d (.val (.int .u64 0)), .d (.val (.int .u64 0)), .d (.val (.int .u64 0)), .d (.val (.int .u64 0)), .i 0, .i 0, .slL 6 0 2 8]); rfl; rfl; rfl)
    | (apply r_ldL (v := .agg [.i 3, .d (.val (.int .u64 0)), .d (.val (.int .u64 0)), .d (.val (.int .u64 0)), .d (.val (.int .u64 0)), .i 0, .i 0, .slL 10 0 2 8]); rfl; rfl; rfl)
    | (apply r_n (v := .slL 6 0 2 8) (r := [.i k, .d (.val (.int .u64 a)), .d (.val (.int .u64 b)), .d (.val (.int .u64 c)), .d (.val (.int .u64 d)), .i mn, .i mx, .d (.sl (encL subs) subs.length), .i k2, .d (.val (.int .u64 a2)), .d (.val (.int .u64 b2)), .d (.val (.int .u64 c2)), .d (.val (.int .u64 d2)), .i mn2, .i mx2, .d (.sl (encL subs2) subs2.length)]); rfl)
    | (apply r_n (v := .slL 10 0 2 8) (r := [.i k, .d (.val (.int .u64 a)), .d (.val (.int .u64 b)), .d (.val (.int .u64 c)), .d (.val (.int .u64 d)), .i mn, .i mx, .d (.sl (encL subs) subs.length), .i k2, .d (.val (.int .u64 a2)), .d (.val (.int .u64 b2)), .d (.val (.int .u64 c2)), .d (.val (.int .u64 d2)), .i mn2, .i mx2, .d (.sl (encL subs2) subs2.length)]); rfl)
    | (apply r_p (v := .agg [.i 4, .d (.val (.int .u64 0)), .d (.val (.int .u64 0)), .d (.val (.int .u64 0)), .d (.val (.int .u64 0)), .i 0, .i 0, .slL 6 0 2 8]); rfl)
    | (apply r_p (v := .agg [.i 3, .d (.val (.int .u64 0)), .d (.val (.int .u64 0)), .d (.val (.int .u64 0)), .d (.val (.int .u64 0)), .i 0, .i 0, .slL 10 0 2 8]); rfl)
    | (apply r_callA (f := 64) (ags := []); rfl; rfl; exact haw)
    | (apply r_call (f := 45) (bs := [nodeA (altT (.node k a b c d mn mx subs) (.node k2 a2 b2 c2 d2 mn2 mx2 subs2))]) (us := [6]); rfl; exact conv2 rfl; exact h45; rfl)
    | (apply r_call (f := 32) (bs := [nodeA (altT (.node k a b c d mn mx subs) (.node k2 a2 b2 c2 d2 mn2 mx2 subs2))]) (us := [6]); rfl; exact conv2 rfl; exact h32; rfl)
    | (apply r_ldL; rfl; rfl; rfl)
    | (apply r_eql; rfl; rfl; (first | (apply decide_eq_true; omega) | (apply decide_eq_false; omega) | rfl))
    | (apply r_geq; rfl; rfl; (first | (apply decide_eq_true; omega) | (apply decide_eq_false; omega) | rfl))
    | (apply r_not; rfl; rfl)
    | (apply r_beq; rfl; rfl; rfl)
    | (apply r_pickT; rfl)
    | (apply r_pickF; rfl)
    | (apply r_lenD; rfl)
    | (apply r_lenL; rfl)
    | (apply r_len0; rfl)
    | (apply r_gT; rfl)
    | (apply r_gF'; rfl; rfl)
    | (apply r_gN'; rfl)
    | ((apply r_gS (o := default); rfl) <;> (intro h; try simp only [decide_eq_true_eq, decide_eq_false_iff_not, Bool.not_eq_true, Bool.not_eq_false] at h))
    | (apply r_alloc; ((conv => lhs; simp only [Nat.reduceAdd]) <;> rfl); rfl)
    | (apply r_box; ((conv => lhs; simp only [Nat.reduceAdd]) <;> rfl); rfl; rfl; rfl)
    | (apply r_avS; rfl)
    | (apply r_stL; rfl; rfl; rfl; rfl; (first | rfl | (simp only [z_nil, z_add] <;> rfl)); rfl; rfl)
    | (apply r_p; rfl)
    | (apply r_nilK)
    | (apply r_nil)
    | (apply k_V; rfl)
    | (apply k_P; rfl)
    | (apply k_PL; rfl)
    | (apply k_S; rfl)
    | (apply k_SL; rfl)
    | (apply k_A; rfl)
    | (apply k_T; rfl)
    | (apply k_F; rfl)
    | (apply k_D; rfl; rotate_left; rfl)
    | (apply k_nil)
    | (apply e_ret (vs := [.d (.val _)]); rfl)
    | (apply e_ret; rfl)
    | (apply e_ret' (vs := [.d (.val _)]); rfl)
    | (apply e_ret'; rfl)
    | (apply w_seq)
    | (apply w_ops; ((conv => lhs; simp only [Nat.reduceAdd]) <;> rfl))
    | (apply w_condT; rfl)
    | (apply w_condF; rfl)
    | ((apply w_condS; rfl) <;> (intro h; try simp only [decide_eq_true_eq, decide_eq_false_iff_not, Bool.not_eq_true, Bool.not_eq_false] at h))
    | (apply e_thenN)
    | (apply w_block)
    | (apply e_thenR)
    | (apply e_thenX)
    | (apply e_blkN)
    | (apply e_blkR)
    | (apply e_blkE)
    | (apply w_exit)
    | (apply w_ret)
    | (apply w_skip)
    | (apply e_blkE'; rfl))
    exact retB rfl
  rw [hr] at h32
  by_cases hrc : rightT (catT t u) = true
  case neg =>
    have hrc : rightT (catT t u) = false := by simpa using hrc
    rw [hrc] at h32c
    clear ht hu hina hinc hr hrc hf hc hcc
    obtain ⟨k, a, b, c, d, mn, mx, subs⟩ := t
    obtain ⟨k2, a2, b2, c2, d2, mn2, mx2, subs2⟩ := u
    have e0 : nodeA (.node k a b c d mn mx subs) = .agg [.i k, .d (.val (.int .u64 a)), .d (.val (.int .u64 b)), .d (.val (.int .u64 c)), .d (.val (.int .u64 d)), .i mn, .i mx, .d (.sl (encL subs) subs.length)] := rfl
    have e1 : nodeA (.node k2 a2 b2 c2 d2 mn2 mx2 subs2) = .agg [.i k2, .d (.val (.int .u64 a2)), .d (.val (.int .u64 b2)), .d (.val (.int .u64 c2)), .d (.val (.int .u64 d2)), .i mn2, .i mx2, .d (.sl (encL subs2) subs2.length)] := rfl
    rw [e0, e1]
    refine b22 (by simp) (by simp) (w_init ?_)
    unfold x22
    repeat' (first
    | (apply r_mvV; rfl)
    | (apply r_mvP; rfl)
    | (apply r_mvPL; rfl)
    | (apply r_mvS; rfl)
    | (apply r_mvSL; rfl)
    | (apply r_mvA; rfl)
    | (apply r_mvT; rfl)
    | (apply r_mvF; rfl)
    | (apply r_mvD; rfl)
    | (apply r_ldL (v := .agg [.i k, .d (.val (.int .u64 a)), .d (.val (.int .u64 b)), .d (.val (.int .u64 c)), .d (.val (.int .u64 d)), .i mn, .i mx, .d (.sl (encL subs) subs.length)]); rfl; rfl; rfl)
    | (apply r_ldL (v := .agg [.i k2, .d (.val (.int .u64 a2)), .d (.val (.int .u64 b2)), .d (.val (.int .u64 c2)), .d (.val (.int .u64 d2)), .i mn2, .i mx2, .d (.sl (encL subs2) subs2.length)]); rfl; rfl; rfl)
    | (apply r_ldL (v := .agg [.i 4, .d (.val (.int .u64 0)), .d (.val (.int .u64 0)), .d (.val (.int .u64 0)), .d (.val (.int .u64 0)), .i 0, .i 0, .slL 6 0 2 8]); rfl; rfl; rfl)
    | (apply r_ldL (v := .agg [.i 3, .d (.val (.int .u64 0)), .d (.val (.int .u64 0)), .d (.val (.int .u64 0)), .d (.val (.int .u64 0)), .i 0, .i 0, .slL 10 0 2 8]); rfl; rfl; rfl)
    | (apply r_n (v := .slL 6 0 2 8) (r := [.i k, .d (.val (.int .u64 a)), .d (.val (.int .u64 b)), .d (.val (.int .u64 c)), .d (.val (.int .u64 d)), .i mn, .i mx, .d (.sl (encL subs) subs.length), .i k2, .d (.val (.int .u64 a2)), .d (.val (.int .u64 b2)), .d (.val (.int .u64 c2)), .d (.val (.int .u64 d2)), .i mn2, .i mx2, .d (.sl (encL subs2) subs2.length)]); rfl)
    | (apply r_n (v := .slL 10 0 2 8) (r := [.i k, .d (.val (.int .u64 a)), .d (.val (.int .u64 b)), .d (.val (.int .u64 c)), .d (.val (.int .u64 d)), .i mn, .i mx, .d (.sl (encL subs) subs.length), .i k2, .d (.val (.int .u64 a2)), .d (.val (.int .u64 b2)), .d (.val (.int .u64 c2)), .d (.val (.int .u64 d2)), .i mn2, .i mx2, .d (.sl (encL subs2) subs2.length)]); rfl)
    | (apply r_p (v := .agg [.i 4, .d (.val (.int .u64 0)), .d (.val (.int .u64 0)), .d (.val (.int .u64 0)), .d (.val (.int .u64 0)), .i 0, .i 0, .slL 6 0 2 8]); rfl)
    | (apply r_p (v := .agg [.i 3, .d (.val (.int .u64 0)), .d (.val (.int .u64 0)), .d (.val (.int .u64 0)), .d (.val (.int .u64 0)), .i 0, .i 0, .slL 10 0 2 8]); rfl)
    | (apply r_callA (f := 64) (ags := []); rfl; rfl; exact haw)
    | (apply r_call (f := 45) (bs := [nodeA (altT (.node k a b c d mn mx subs) (.node k2 a2 b2 c2 d2 mn2 mx2 subs2))]) (us := [6]); rfl; exact conv2 rfl; exact h45; rfl)
    | (apply r_call (f := 32) (bs := [nodeA (altT (.node k a b c d mn mx subs) (.node k2 a2 b2 c2 d2 mn2 mx2 subs2))]) (us := [6]); rfl; exact conv2 rfl; exact h32; rfl)
    | (apply r_call (f := 32) (bs := [nodeA (catT (.node k a b c d mn mx subs) (.node k2 a2 b2 c2 d2 mn2 mx2 subs2))]) (us := [10]); rfl; exact conv2 rfl; exact h32c; rfl)
    | (apply r_ldL; rfl; rfl; rfl)
    | (apply r_eql; rfl; rfl; (first | (apply decide_eq_true; omega) | (apply decide_eq_false; omega) | rfl))
    | (apply r_geq; rfl; rfl; (first | (apply decide_eq_true; omega) | (apply decide_eq_false; omega) | rfl))
    | (apply r_not; rfl; rfl)
    | (apply r_beq; rfl; rfl; rfl)
    | (apply r_pickT; rfl)
    | (apply r_pickF; rfl)
    | (apply r_lenD; rfl)
    | (apply r_lenL; rfl)
    | (apply r_len0; rfl)
    | (apply r_gT; rfl)
    | (apply r_gF'; rfl; rfl)
    | (apply r_gN'; rfl)
    | ((apply r_gS (o := default); rfl) <;> (intro h; try simp only [decide_eq_true_eq, decide_eq_false_iff_not, Bool.not_eq_true, Bool.not_eq_false] at h))
    | (apply r_alloc; ((conv => lhs; simp only [Nat.reduceAdd]) <;> rfl); rfl)
    | (apply r_box; ((conv => lhs; simp only [Nat.reduceAdd]) <;> rfl); rfl; rfl; rfl)
    | (apply r_avS; rfl)
    | (apply r_stL; rfl; rfl; rfl; rfl; (first | rfl | (simp only [z_nil, z_add] <;> rfl)); rfl; rfl)
    | (apply r_p; rfl)
    | (apply r_nilK)
    | (apply r_nil)
    | (apply k_V; rfl)
    | (apply k_P; rfl)
    | (apply k_PL; rfl)
    | (apply k_S; rfl)
    | (apply k_SL; rfl)
    | (apply k_A; rfl)
    | (apply k_T; rfl)
    | (apply k_F; rfl)
    | (apply k_D; rfl; rotate_left; rfl)
    | (apply k_nil)
    | (apply e_ret (vs := [.d (.val _)]); rfl)
    | (apply e_ret; rfl)
    | (apply e_ret' (vs := [.d (.val _)]); rfl)
    | (apply e_ret'; rfl)
    | (apply w_seq)
    | (apply w_ops; ((conv => lhs; simp only [Nat.reduceAdd]) <;> rfl))
    | (apply w_condT; rfl)
    | (apply w_condF; rfl)
    | ((apply w_condS; rfl) <;> (intro h; try simp only [decide_eq_true_eq, decide_eq_false_iff_not, Bool.not_eq_true, Bool.not_eq_false] at h))
    | (apply e_thenN)
    | (apply w_block)
    | (apply e_thenR)
    | (apply e_thenX)
    | (apply e_blkN)
    | (apply e_blkR)
    | (apply e_blkE)
    | (apply w_exit)
    | (apply w_ret)
    | (apply w_skip)
    | (apply e_blkE'; rfl))
    exact retB rfl
  rw [hrc] at h32c
  have hrt : rightT t = true := right_sub hr 0 (by simp)
  have hru : rightT u = true := right_sub hr 1 (by simp)
  have hft : fitsT t 12 = true := by rw [← right_fits]; exact hrt
  have hfu : fitsT u 12 = true := by rw [← right_fits]; exact hru
  have hfa : fitsT (altT t u) 12 = true := by rw [← right_fits]; exact hr
  have hfc : fitsT (catT t u) 12 = true := by rw [← right_fits]; exact hrc
  have hokt : okT t := ok_of_right ht hrt
  have hoku : okT u := ok_of_right hu hru
  have hoka : okT (altT t u) := ok_of_right hina hr
  have hokc : okT (catT t u) := ok_of_right hinc hrc
  have hct : t.cnt ≤ 200 := by
    have : (altT t u).cnt = 1 + (t.cnt + u.cnt) := by simp [altT, T.cnt, cntL]
    omega
  have hcu : u.cnt ≤ 200 := by
    have : (altT t u).cnt = 1 + (t.cnt + u.cnt) := by simp [altT, T.cnt, cntL]
    omega
  have h70t := first70_good t hct (fun _ => hokt)
  have h70u := first70_good u hcu (fun _ => hoku)
  have h70a := first70_good (altT t u) hc (fun _ => hoka)
  have h70c := first70_good (catT t u) hcc (fun _ => hokc)
  have h69t := null69_good t hct (fun _ => hokt)
  have h69u := null69_good u hcu (fun _ => hoku)
  have h69a := null69_good (altT t u) hc (fun _ => hoka)
  have h69c := null69_good (catT t u) hcc (fun _ => hokc)
  have h71t := none71_good t hct (fun _ => hokt)
  have h71u := none71_good u hcu (fun _ => hoku)
  have h68a := mWide_good (altT t u) (by omega) (fun _ => hoka)
  have h68c := mWide_good (catT t u) (by omega) (fun _ => hokc)
  rw [if_pos hfa, wide_two] at h68a
  rw [if_pos hfc] at h68c
  have ka : knT (altT t u) = faOr (knT t) (knT u) := kn_alt2
  have kc : knT (catT t u) = faThen (knT t) (knT u) := kn_cat2 hokt
  have hkt := kn_ok t hokt
  have hku := kn_ok u hoku
  rw [show nulF t = nulA (knT t) by simp [nulF, nulA, ofK, hft]] at h69t
  rw [show nulF u = nulA (knT u) by simp [nulF, nulA, ofK, hfu]] at h69u
  rw [show nulF (altT t u) = nulA (faOr (knT t) (knT u)) by simp [nulF, nulA, ofK, hfa, ka]] at h69a
  rw [show nulF (catT t u) = nulA (faThen (knT t) (knT u)) by simp [nulF, nulA, ofK, hfc, kc]] at h69c
  rw [show ofK t = knT t by simp [ofK, hft]] at h70t h71t
  rw [show ofK u = knT u by simp [ofK, hfu]] at h70u h71u
  rw [show ofK (altT t u) = faOr (knT t) (knT u) by simp [ofK, hfa, ka]] at h70a
  rw [show ofK (catT t u) = faThen (knT t) (knT u) by simp [ofK, hfc, kc]] at h70c
  obtain ⟨a0, a1, a2, a3, a4⟩ := two_or hkt hku
  obtain ⟨s0, s1, s2, s3⟩ := two_then hkt hku
  obtain ⟨⟨w0, w1, w2, w3⟩, fz, _⟩ := hkt
  obtain ⟨⟨v0, v1, v2, v3⟩, gz, _⟩ := hku
  have h73 := or73_good w0 w1 w2 w3 v0 v1 v2 v3
  have o0 := okW_or w0 v0
  have o1 := okW_or w1 v1
  have o2 := okW_or w2 v2
  have o3 := okW_or w3 v3
  have h74o := list74_good o0 o1 o2 o3
  have h74f := list74_good w0 w1 w2 w3
  have okz : okW 0 := by unfold okW; omega
  have h74z := list74_good okz okz okz okz
  have hlz : (listTo 0 0 0 0 256).length ≤ (listTo (orW (knT t).a (knT u).a) (orW (knT t).b (knT u).b) (orW (knT t).c (knT u).c) (orW (knT t).d (knT u).d) 256).length := listTo_mono (fun y hy => by rw [inG_0] at hy; cases hy) 256
  have hlf : (listTo (knT t).a (knT t).b (knT t).c (knT t).d 256).length ≤ (listTo (orW (knT t).a (knT u).a) (orW (knT t).b (knT u).b) (orW (knT t).c (knT u).c) (orW (knT t).d (knT u).d) 256).length := listTo_mono (fun y hy => by rw [inG_or w0 w1 w2 w3 v0 v1 v2 v3, hy]; rfl) 256
  rw [a0, a1, a2, a3] at h70a
  rw [a4] at h69a
  rw [s0] at h69c
  have hww : (wideT (catT t u) == wideT (catT t u)) = true := by simp
  have q1 : (knT t).no = true → nulA (knT t) = false := fun h => by simp [nulA, h]
  have q2 : (knT u).no = true → nulA (knT u) = false := fun h => by simp [nulA, h]
  have q3 : (knT t).no = false → (nulA (knT t) = true ↔ (knT t).lo = 0) := fun h => by simp [nulA, h]
  have hgz : decide (((listTo (orW (knT t).a (knT u).a) (orW (knT t).b (knT u).b) (orW (knT t).c (knT u).c) (orW (knT t).d (knT u).d) 256).length : Int) ≥ ((listTo 0 0 0 0 256).length : Int)) = true := by simp only [decide_eq_true_eq]; omega
  have hgf : decide (((listTo (orW (knT t).a (knT u).a) (orW (knT t).b (knT u).b) (orW (knT t).c (knT u).c) (orW (knT t).d (knT u).d) 256).length : Int) ≥ ((listTo (knT t).a (knT t).b (knT t).c (knT t).d 256).length : Int)) = true := by simp only [decide_eq_true_eq]; omega
  have hgo : decide (((listTo (orW (knT t).a (knT u).a) (orW (knT t).b (knT u).b) (orW (knT t).c (knT u).c) (orW (knT t).d (knT u).d) 256).length : Int) ≥ ((listTo (orW (knT t).a (knT u).a) (orW (knT t).b (knT u).b) (orW (knT t).c (knT u).c) (orW (knT t).d (knT u).d) 256).length : Int)) = true := by simp
  unfold setA at h70t h70u h70a h70c h73 h74o h74f h74z
  clear hlz hlf o0 o1 o2 o3 okz w0 w1 w2 w3 v0 v1 v2 v3 a0 a1 a2 a3 a4 s0 fz gz ka kc hct hcu hokt hoku hoka hokc hft hfu hfa hfc hrt hru hr hrc hc hcc hf hina hinc ht hu
  generalize wideT (catT t u) = wd at h68a h68c hww
  generalize nulA (knT t) = qt at *
  generalize nulA (knT u) = qu at *
  generalize listTo (orW (knT t).a (knT u).a) (orW (knT t).b (knT u).b) (orW (knT t).c (knT u).c) (orW (knT t).d (knT u).d) 256 = lO at *
  generalize listTo (knT t).a (knT t).b (knT t).c (knT t).d 256 = lF at *
  generalize listTo 0 0 0 0 256 = lZ at *
  generalize faThen (knT t) (knT u) = th at *
  generalize orW (knT t).a (knT u).a = o0 at *
  generalize orW (knT t).b (knT u).b = o1 at *
  generalize orW (knT t).c (knT u).c = o2 at *
  generalize orW (knT t).d (knT u).d = o3 at *
  generalize (knT t).a = fa at *
  generalize (knT t).b = fb at *
  generalize (knT t).c = fc at *
  generalize (knT t).d = fd at *
  generalize (knT t).lo = fl at *
  generalize (knT t).no = fn at *
  generalize (knT u).no = gn at *
  obtain ⟨k, a, b, c, d, mn, mx, subs⟩ := t
  obtain ⟨k2, a2, b2, c2, d2, mn2, mx2, subs2⟩ := u
  have e0 : nodeA (.node k a b c d mn mx subs) = .agg [.i k, .d (.val (.int .u64 a)), .d (.val (.int .u64 b)), .d (.val (.int .u64 c)), .d (.val (.int .u64 d)), .i mn, .i mx, .d (.sl (encL subs) subs.length)] := rfl
  have e1 : nodeA (.node k2 a2 b2 c2 d2 mn2 mx2 subs2) = .agg [.i k2, .d (.val (.int .u64 a2)), .d (.val (.int .u64 b2)), .d (.val (.int .u64 c2)), .d (.val (.int .u64 d2)), .i mn2, .i mx2, .d (.sl (encL subs2) subs2.length)] := rfl
  rw [e0] at h70t h69t h71t
  rw [e1] at h70u h69u h71u
  rw [e0, e1]
  by_cases hno : fn = true ∨ gn = true
  · obtain ⟨z0, z1, z2, z3⟩ := s1 hno
    rw [z0, z1, z2, z3] at h70c
    cases fn with
    | true =>
      have := q1 rfl
      subst this
      cases qu with
      | true => exact w22_true_gnv_false_true haw h45 h32 h32c h70t h70u h73 h70a h70c h69t h69u h69a h69c h71t h71u h68a h68c h74o h74z hww hgz
      | false => exact w22_true_gnv_false_false haw h45 h32 h32c h70t h70u h73 h70a h70c h69t h69u h69a h69c h71t h71u h68a h68c h74o h74z hww hgz
    | false =>
      have hg : gn = true := by simpa using hno
      subst hg
      have := q2 rfl
      subst this
      cases qt with
      | true => exact w22_false_true_true_false haw h45 h32 h32c h70t h70u h73 h70a h70c h69t h69u h69a h69c h71t h71u h68a h68c h74o h74z hww hgz
      | false => exact w22_false_true_false_false haw h45 h32 h32c h70t h70u h73 h70a h70c h69t h69u h69a h69c h71t h71u h68a h68c h74o h74z hww hgz
  · have h1 : fn = false := by cases fn <;> simp_all
    have h2 : gn = false := by cases gn <;> simp_all
    subst h1 h2
    have q3 := q3 rfl
    cases qt with
    | true =>
      obtain ⟨z0, z1, z2, z3⟩ := s2 rfl rfl (q3.1 rfl)
      rw [z0, z1, z2, z3] at h70c
      cases qu with
      | true => exact w22_false_false_true_true haw h45 h32 h32c h70t h70u h73 h70a h70c h69t h69u h69a h69c h71t h71u h68a h68c h74o h74o hww hgo
      | false => exact w22_false_false_true_false haw h45 h32 h32c h70t h70u h73 h70a h70c h69t h69u h69a h69c h71t h71u h68a h68c h74o h74o hww hgo
    | false =>
      obtain ⟨z0, z1, z2, z3⟩ := s3 rfl rfl (fun h => by have := q3.2 h; cases this)
      rw [z0, z1, z2, z3] at h70c
      cases qu with
      | true => exact w22_false_false_false_true haw h45 h32 h32c h70t h70u h73 h70a h70c h69t h69u h69a h69c h71t h71u h68a h68c h74o h74f hww hgf
      | false => exact w22_false_false_false_false haw h45 h32 h32c h70t h70u h73 h70a h70c h69t h69u h69a h69c h71t h71u h68a h68c h74o h74f hww hgf
end Go.Sv
namespace Go.Sv
open Go Go.Proofs Go.Proofs.Ytcnlgmajkclgjaa Go.ChangeShapes Go.WideShapes Go.ChangeAt Go.RowKit
set_option linter.unusedVariables false
set_option maxRecDepth 100000

theorem try_own : ownKnob Try.prog.godebug = none := by kernel_rfl
theorem try_laidOut : laidOutB Try.prog = true := by kernel_rfl
theorem rowed : ∀ t ∈ [27, 9, 3, 5, 41], Try.prog.readableRec t = true ∧ t < Try.prog.types.size := by
  intro t ht
  simp only [List.mem_cons, List.not_mem_nil, or_false] at ht
  rcases ht with rfl | rfl | rfl | rfl | rfl
  all_goals exact ⟨by kernel_rfl, of_decide_eq_true (by kernel_rfl)⟩

section
variable {H : Type} {enc : TypeId × Value → H}
theorem stays_all {W W' : World} {sp : Nat → Bool} (hsame : ∀ p : MemPlace, p.block < W.heap.size → W.sameAt W' p) : ∀ {ts : List TypeId} {vs : List Value} {ds : List (DataW H)} {ps : List MemPlace}, (∀ t ∈ ts, Try.prog.readableRec t = true ∧ t < Try.prog.types.size) →
    DataW.TrodAll enc Try.prog W 0 (fun _ => true) true ts vs ds ps → (∀ p ∈ ps, p.block < W.heap.size) → (∀ p ∈ ps, sp p.block = true) → DataW.TrodAll enc Try.prog W' 0 sp true ts vs ds ps
  | [], [], [], ps, _, h, _, _ => h
  | t :: ts, v :: vs, d :: ds, ps, hr, h, hl, hs => by
    obtain ⟨p, q, h1, h2, rfl⟩ := h
    refine ⟨p, q, WideElems.Trod_stays try_laidOut (hr t (by simp)).1 (hr t (by simp)).2 h1 (fun x hx => hsame x (hl x (by simp [hx]))) (fun x hx => hs x (by simp [hx])), ?_, rfl⟩
    exact stays_all hsame (fun t ht => hr t (by simp [ht])) h2 (fun x hx => hl x (by simp [hx])) (fun x hx => hs x (by simp [hx]))

theorem law_post {s : ChangeSpec} {f : Func} {W W' : World} {args : Array Value} {ds gs : List (DataW H)} {before : List MemPlace} (hW : DataW.Whole enc Try.prog f.params.toList s.vars false W args.toList ds gs before) (hsv : s.vars = [])
    (h1 : (s.fn H (ds ++ gs)).results = [.lit (.bool true)]) (h2 : (s.fn H (ds ++ gs)).args = ds) (h3 : (s.fn H (ds ++ gs)).vars = []) (hrt : f.resultTypes = #[4]) (hb : Below W.heap.size W W')
    (hr : ∀ t ∈ f.params.toList, Try.prog.readableRec t = true ∧ t < Try.prog.types.size) : s.post enc Try.prog f false true false false W args (.bool true) W' := by
  have hlt := hW.lt
  have hW0 := hW
  obtain ⟨p, q, hA, hV, rfl, _, _⟩ := hW
  rw [hsv] at hV
  obtain ⟨rfl, rfl⟩ := trodVars_none hV
  have hlt' : ∀ x ∈ p, x.block < W.heap.size := fun x hx => by simpa using hlt x (by simp [hx])
  refine ⟨ds, [], p ++ [], [], p, [], hW0, ?_, ?_, ?_, hb.frame _, fun h => by cases h⟩
  · rw [hrt, h1]
    exact trodAll_mk1 (shut_bool Try.underlying4 true)
  · rw [h2]
    exact stays_all (fun x hx => hb.same hx) hr hA hlt' (fun x hx => by simpa using hlt' x hx)
  · rw [hsv, h3]; rfl

theorem Kept.below {w w' : World} (h : Kept w w' (fun k => (none : Option (List DV)).isSome = true ∧ (none : Option Nat) = some k)) : Below w.heap.size w w' :=
  ⟨h.os, h.tape, h.output, h.size, fun k hk => h.keep k hk (by simp)⟩

theorem law_calls {f : FuncId} {ags : List AV} (hg : Good Try.prog f ags none (.b true) none none) {W : World} {args : Array Value} (ha : RAs W NoA (fun _ => none) NoA args ags) : Calls Try.prog f args W fun e W' => e = .returned (.bool true) ∧ Below W.heap.size W W' := by
  have hNo : (fun k => NoA k ∨ ((none : Option (List DV)).isSome = true ∧ (none : Option Nat) = some k)) = NoA := by
    funext k; simp [NoA]
  have hU : (fun b : Nat => (none : Option (List DV)).isSome = true ∧ b = 0) = NoA := by
    funext k; simp [NoA]
  have := hg.2.2 W NoA none args (fun k h => h.elim) (fun k h => by simp at h) (fun ds h => by cases h) (by rw [hNo, hU]; exact ha)
  refine this.mono fun e W' ⟨v, nm, he, hk, _, _, _, hv⟩ => ?_
  have := hv.val_eq
  subst this
  exact ⟨he, hk.below⟩
theorem RAs.nil {W : World} : RAs W NoA (fun _ => none) NoA #[] [] := ⟨rfl, fun j h => by simp at h⟩
theorem RAs.mk : ∀ {W : World} {vs : List Value} {ags : List AV}, vs.length = ags.length → (∀ (j : Nat) v a, vs[j]? = some v → ags[j]? = some a → RA W NoA (fun _ => none) NoA v a) → RAs W NoA (fun _ => none) NoA vs.toArray ags := by
  intro W vs ags hl h
  refine ⟨by simpa using hl, fun j hj => ?_⟩
  have hj2 : j < vs.length := by omega
  have : vs.toArray.getD j undef = vs[j] := by simp [Array.getD, hj2]
  rw [this]
  exact h j _ _ (List.getElem?_eq_getElem hj2) (List.getElem?_eq_getElem hj)
theorem RDs.toA {W : World} {vs : List Value} {ds : List DV} (h : RDs W vs ds) : RA W NoA (fun _ => none) NoA (.agg vs.toArray) (.agg (ds.map AV.d)) := by
  refine .agg _ _ (by simpa using h.1) fun j hj => ?_
  have hj1 : j < ds.length := by simpa using hj
  have hj2 : j < vs.length := by rw [h.1]; exact hj1
  have : vs.toArray.getD j undef = vs[j] := by simp [Array.getD, hj2]
  rw [this, List.getElem_map]
  exact .d _ _ (h.2 j _ _ (List.getElem?_eq_getElem hj2) (List.getElem?_eq_getElem hj1))
theorem arg_node {W : World} {base : Nat} {v : Value} {d : DataW H} {p : List MemPlace} (hok : Value.okWide Try.prog W .any base 27 v) (h : DataW.Trod enc Try.prog W 0 (fun _ => true) true 27 v d p) : ∃ t : T, inT t ∧ RA W NoA (fun _ => none) NoA v (nodeA t) := by
  obtain ⟨n, hn⟩ := h
  obtain ⟨t, h1, h2⟩ := node_open n _ _ hn
  have hs : ∃ cs, v = .agg cs := by
    unfold Value.okWide at hok
    rw [Try.underlying27] at hok
    obtain ⟨cs, h, _⟩ := hok
    exact ⟨cs, h⟩
  obtain ⟨cs, rfl⟩ := hs
  exact ⟨t, h1, h2.toA⟩
end
theorem joined_of {P : Program} {f : FuncId} {fn : Func} {s : ChangeSpec} {c : OpenClaim}
    (k1 : (c.wf (OpenSpec.ofChange s) && laidOutB P && mapsRowed P && fn.params.all (P.readableRec ·) && namedTie P c.named s.vars && (c.stops == []) && (P.stops == []) && (c.knobs == []) && (P.stopKnobs == [])) = true)
    (k2 : (c.inPlace == P.inPlace f) = true) (k3 : (c.unfollowed == P.unfollowed f) = true) (k4 : (c.recurses == P.recurses f) = true) (k5 : (c.named == P.varsNamed f) = true)
    (k6 : ((c.maps == (fn.params.toList ++ s.plain.varTypes P).any (P.mapsRec ·)) && (c.ifaces == (fn.params.toList ++ s.plain.varTypes P).any (P.ifacesRec ·)) && (c.mapsOut == P.mapsAmong fn.resultTypes.toList) &&
  (c.loops == (fn.params.toList ++ s.plain.varTypes P).any (P.loopsFrom ·)) && (c.wideKeys == (fn.params.toList ++ s.plain.varTypes P ++ fn.resultTypes.toList).any (P.wideKeysFrom ·)) &&
  s.vars.all (P.varReadable ·) && fn.resultTypes.all (fun t => P.readableRec t && decide (t < P.types.size)) && (c.ifacesOut == fn.resultTypes.toList.any (P.ifacesRec ·)) && (c.loopsOut == fn.resultTypes.toList.any (P.loopsFrom ·))) = true)
    (hm : P.mayEnter = true) (hl : P.liftsFinal = c.lifted) (hk : P.make = some c.make) (k7 : ((c.plainKeys == P.plainKeys) && c.shortTexts.isNone && P.stopsHeard && (c.kinds == (if c.domain.isEmpty then [] else fn.params.toList.map fun t => match P.underlying t with | some (.int k) => some k | _ => none)) && (c.pinned == c.pinnedBy) &&
  (c.veiled == (fn.params.toList ++ s.plain.varTypes P ++ fn.resultTypes.toList).any (P.veiledRec ·)) && c.veiledFits P fn.params.toList (fn.params.toList ++ s.plain.varTypes P ++ fn.resultTypes.toList)) = true) : joinedFacts P f fn s c = true := by
  unfold joinedFacts
  simp only [Bool.and_eq_true] at k1 k6 k7 ⊢
  obtain ⟨⟨⟨⟨⟨⟨⟨⟨a1, a2⟩, a3⟩, a4⟩, a5⟩, a6⟩, a7⟩, a8⟩, a9⟩ := k1
  obtain ⟨⟨⟨⟨⟨⟨⟨⟨b1, b2⟩, b3⟩, b4⟩, b5⟩, b6⟩, b7⟩, b8⟩, b9⟩ := k6
  obtain ⟨⟨⟨⟨⟨⟨c1, c2⟩, c3⟩, c4⟩, c5⟩, c6⟩, c7⟩ := k7
  have d1 : (c.lifted == P.liftsFinal) = true := by rw [hl]; exact beq_self_eq_true _
  have d2 : (P.make == some c.make) = true := by rw [hk]; exact beq_self_eq_true _
  repeat' apply And.intro
  all_goals assumption
end Go.Sv
namespace Go.Sv
open Go Go.Proofs Go.Proofs.Ytcnlgmajkclgjaa
set_option maxRecDepth 100000
def orderN : List Nat := [104, 97, 114, 110, 101, 115, 115, 32, 52, 100, 99, 102, 50, 98, 101, 99, 57, 54, 53, 101, 49, 53, 55, 56, 102, 100, 97, 52, 56, 101, 99, 52, 97, 101, 57, 98, 98, 50, 100, 98, 101, 100, 51, 97, 52, 98, 99, 100, 100, 51, 97, 57, 56, 98, 50, 102, 51, 57, 102, 50, 50, 101, 97, 100, 48, 54, 49, 51, 100, 51, 56, 56, 32, 99, 117, 116, 32, 97, 116, 32, 115, 105, 101, 118, 101, 47, 115, 105, 101, 118, 101, 108, 97, 119, 49, 49, 46, 69, 110, 100, 115, 84, 101, 108, 108, 32, 115, 105, 101, 118, 101, 47, 115, 105, 101, 118, 101, 108, 97, 119, 49, 49, 46, 69, 110, 100, 115, 77, 97, 116, 99, 104, 32, 115, 105, 101, 118, 101, 47, 115, 105, 101, 118, 101, 108, 97, 119, 49, 49, 46, 69, 110, 100, 115, 83, 105, 109, 112, 108, 101, 32, 115, 105, 101, 118, 101, 47, 115, 105, 101, 118, 101, 108, 97, 119, 49, 49, 46, 69, 110, 100, 115, 66, 101, 115, 116, 32, 115, 105, 101, 118, 101, 47, 115, 105, 101, 118, 101, 108, 97, 119, 49, 49, 46, 69, 110, 100, 115, 76, 111, 110, 103, 101, 114, 32, 115, 105, 101, 118, 101, 47, 115, 105, 101, 118, 101, 108, 97, 119, 49, 49, 46, 69, 110, 100, 115, 80, 97, 114, 116, 115, 32, 115, 105, 101, 118, 101, 47, 115, 105, 101, 118, 101, 108, 97, 119, 49, 49, 46, 69, 110, 100, 115, 83, 116, 97, 114, 32, 115, 105, 101, 118, 101, 47, 115, 105, 101, 118, 101, 108, 97, 119, 49, 48, 46, 83, 105, 109, 112, 108, 105, 102, 121, 84, 101, 108, 108, 115, 32, 115, 105, 101, 118, 101, 47, 115, 105, 101, 118, 101, 108, 97, 119, 49, 48, 46, 83, 105, 109, 112, 108, 105, 102, 121, 65, 103, 97, 105, 110, 32, 115, 105, 101, 118, 101, 47, 115, 105, 101, 118, 101, 108, 97, 119, 49, 48, 46, 83, 105, 109, 112, 108, 105, 102, 121, 75, 101, 101, 112, 115, 32, 115, 105, 101, 118, 101, 47, 115, 105, 101, 118, 101, 108, 97, 119, 49, 48, 46, 83, 105, 109, 112, 108, 105, 102, 121, 79, 110, 101, 32, 115, 105, 101, 118, 101, 47, 115, 105, 101, 118, 101, 108, 97, 119, 49, 51, 46, 69, 120, 112, 97, 110, 100, 84, 101, 108, 108, 115, 32, 115, 105, 101, 118, 101, 47, 115, 105, 101, 118, 101, 108, 97, 119, 49, 51, 46, 69, 120, 112, 97, 110, 100, 83, 97, 109, 101, 32, 115, 105, 101, 118, 101, 47, 115, 105, 101, 118, 101, 108, 97, 119, 49, 51, 46, 69, 120, 112, 97, 110, 100, 80, 108, 97, 105, 110, 32, 115, 105, 101, 118, 101, 47, 115, 105, 101, 118, 101, 108, 97, 119, 49, 51, 46, 69, 120, 112, 97, 110, 100, 66, 117, 100, 103, 101, 116, 32, 115, 105, 101, 118, 101, 47, 115, 105, 101, 118, 101, 108, 97, 119, 49, 51, 46, 69, 120, 112, 97, 110, 100, 70, 105, 114, 115, 116, 32, 115, 105, 101, 118, 101, 47, 115, 105, 101, 118, 101, 108, 97, 119, 48, 57, 46, 77, 101, 97, 115, 117, 114, 101, 84, 101, 108, 108, 115, 32, 115, 105, 101, 118, 101, 47, 115, 105, 101, 118, 101, 108, 97, 119, 48, 57, 46, 77, 101, 97, 115, 117, 114, 101, 75, 110, 111, 119, 115, 32, 115, 105, 101, 118, 101, 47, 115, 105, 101, 118, 101, 108, 97, 119, 48, 57, 46, 77, 101, 97, 115, 117, 114, 101, 76, 101, 110, 103, 116, 104, 115, 32, 115, 105, 101, 118, 101, 47, 115, 105, 101, 118, 101, 108, 97, 119, 48, 57, 46, 77, 101, 97, 115, 117, 114, 101, 80, 97, 114, 116, 115, 32, 115, 105, 101, 118, 101, 47, 115, 105, 101, 118, 101, 108, 97, 119, 48, 57, 46, 77, 101, 97, 115, 117, 114, 101, 82, 101, 112, 32, 115, 105, 101, 118, 101, 47, 115, 105, 101, 118, 101, 108, 97, 119, 49, 50, 46, 68, 101, 114, 105, 118, 101, 84, 101, 108, 108, 115, 32, 115, 105, 101, 118, 101, 47, 115, 105, 101, 118, 101, 108, 97, 119, 49, 50, 46, 68, 101, 114, 105, 118, 101, 76, 111, 110, 103, 101, 115, 116, 32, 115, 105, 101, 118, 101, 47, 115, 105, 101, 118, 101, 108, 97, 119, 49, 50, 46, 68, 101, 114, 105, 118, 101, 87, 111, 114, 100, 115, 32, 115, 105, 101, 118, 101, 47, 115, 105, 101, 118, 101, 108, 97, 119, 49, 50, 46, 68, 101, 114, 105, 118, 101, 70, 105, 114, 115, 116, 32, 115, 105, 101, 118, 101, 47, 115, 105, 101, 118, 101, 108, 97, 119, 49, 50, 46, 68, 101, 114, 105, 118, 101, 83, 105, 109, 112, 108, 101]
theorem order_eq : Try.prog.initOrder = String.ofList (orderN.map Char.ofNat) := by kernel_rfl
theorem order_list : Try.prog.initOrder.toList = orderN.map Char.ofNat := by rw [order_eq, String.toList_ofList]
theorem ow1 : (stripLifts liftWords (behindMainWord (wordsSigns (orderN.map Char.ofNat)))).1 = [] := by kernel_rfl
theorem ow2 : ((stripLifts liftWords (behindMainWord (wordsSigns (orderN.map Char.ofNat)))).2.head? == some "cut".toList) = true := by kernel_rfl
theorem ow3 : ((behindMainWord (wordsSigns (orderN.map Char.ofNat))).isEmpty = false) := by kernel_rfl
theorem ow4 : ((behindMainWord (wordsSigns (orderN.map Char.ofNat))).head? == some "cut".toList) = true := by kernel_rfl
theorem ow5 : ((behindMainWord (wordsSigns (orderN.map Char.ofNat))).head? == some "carried".toList) = false := by kernel_rfl
theorem ow6 : ((behindMainWord (wordsSigns (orderN.map Char.ofNat))).head? == some "gc".toList) = false := by kernel_rfl
theorem ow7 : ((behindMainWord (wordsSigns (orderN.map Char.ofNat))).head? == some "spec".toList) = false := by kernel_rfl
theorem try_lays : Try.prog.laysLater = false := by kernel_rfl
theorem try_refl : Try.prog.bearsReflect = false := by kernel_rfl
theorem try_door : Try.prog.doorFits [] = true := by kernel_rfl
theorem headLifts_of {P : Program} {l : List Char} (h : P.initOrder.toList = l) (h1 : (stripLifts liftWords (behindMainWord (wordsSigns l))).1 = []) (h2 : ((stripLifts liftWords (behindMainWord (wordsSigns l))).2.head? == some "cut".toList) = true) : P.headLifts = [] := by
  subst h
  unfold Program.headLifts
  simp only [h2, if_true, h1]
theorem try_headLifts : Try.prog.headLifts = [] := headLifts_of order_list ow1 ow2
theorem mayEnter_of {P : Program} {l : List Char} (h : P.initOrder.toList = l) (h1 : (stripLifts liftWords (behindMainWord (wordsSigns l))).1 = []) (h2 : ((stripLifts liftWords (behindMainWord (wordsSigns l))).2.head? == some "cut".toList) = true)
    (h3 : (behindMainWord (wordsSigns l)).isEmpty = false) (k1 : P.laysLater = false) (k2 : P.bearsReflect = false) (k3 : P.doorFits [] = true) : P.mayEnter = true := by
  subst h
  unfold Program.mayEnter
  generalize behindMainWord (wordsSigns P.initOrder.toList) = q at h1 h2 h3 ⊢
  cases q with
  | nil => cases h3
  | cons c rest =>
    have e1 : ([] : List String).contains "finals" = false := rfl
    have e2 : ([] : List String).contains "reflectrows" = false := rfl
    have e3 : ([] : List String).contains "leanrows" = false := rfl
    simp only [h1, h2, k1, k2, k3, e1, e2, e3, Bool.not_false, Bool.or_true, Bool.and_true, Bool.or_self, Bool.and_self]
theorem try_mayEnter : Try.prog.mayEnter = true := mayEnter_of order_list ow1 ow2 ow3 try_lays try_refl try_door
theorem lifts_of {P : Program} {l : List Char} (h : P.initOrder.toList = l) (h5 : ((behindMainWord (wordsSigns l)).head? == some "carried".toList) = false) (k : P.headLifts = []) : P.liftsFinal = false := by
  subst h
  unfold Program.liftsFinal
  rw [k]
  have e1 : ([] : List String).contains "finals" = false := rfl
  simp only [h5, e1, Bool.false_and, Bool.or_self]
theorem try_lifts : Try.prog.liftsFinal = false := lifts_of order_list ow5 try_headLifts
theorem make_of {P : Program} {l : List Char} (h : P.initOrder.toList = l) (h3 : (behindMainWord (wordsSigns l)).isEmpty = false) (h4 : ((behindMainWord (wordsSigns l)).head? == some "cut".toList) = true)
    (h6 : ((behindMainWord (wordsSigns l)).head? == some "gc".toList) = false) (h7 : ((behindMainWord (wordsSigns l)).head? == some "spec".toList) = false) : P.make = some .cut := by
  subst h
  unfold Program.make
  generalize behindMainWord (wordsSigns P.initOrder.toList) = q at h3 h4 h6 h7 ⊢
  cases q with
  | nil => cases h3
  | cons c rest =>
    simp only [List.head?_cons] at h4 h6 h7
    have g : ∀ x : List Char, (some c == some x) = (c == x) := fun x => rfl
    rw [g] at h4 h6 h7
    simp only [h4, h6, h7, Bool.or_self, Bool.false_eq_true, if_false, Bool.true_or, if_true]
theorem try_make : Try.prog.make = some .cut := make_of order_list ow3 ow4 ow6 ow7
end Go.Sv
