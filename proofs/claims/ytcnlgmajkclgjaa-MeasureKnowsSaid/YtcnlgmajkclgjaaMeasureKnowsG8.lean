/- A part of the proof of the law MeasureKnows: that it answers true for every input, and that the input reads behind the call as before (no condition). -/
import Derived.Test.YtcnlgmajkclgjaaMeasureKnowsG7
set_option linter.all false
set_option linter.unusedSectionVars false
set_option linter.unusedVariables false
set_option linter.unusedSimpArgs false
namespace Go.Sv
open Go Go.Proofs
def x62 : XC := (.seq (.ops 2 [
    (0, ⟨(some 1), none, .box (.t 0)⟩),
    (1, ⟨(some 2), none, .mv (.k (.d (.val (.int .i64 0))))⟩)] (some [1])) (.seq (.seq (.ops 2 [
    (0, ⟨(some 8), none, .load (some 8) (.t 1)⟩),
    (1, ⟨(some 9), none, .call 51 [(.t 8)] none false⟩)] (some [1, 9])) (.cond (.t 9) (.seq (.ops 1 [
    (0, ⟨(some 2), none, .mv (.k (.d (.val (.int .i64 (-1)))))⟩)] (some [2])) .ret) .skip)) (.seq (.seq (.ops 2 [
    (0, ⟨(some 10), none, .fadd 0 (.t 1)⟩),
    (1, ⟨(some 11), none, .load none (.t 10)⟩)] (some [1, 11])) (.block 0 (.seq (.ops 2 [
    (0, ⟨(some 13), none, .arith .eql (.t 11) (.k (.d (.val (.int .i64 2))))⟩),
    (1, ⟨(some 12), none, .mv (.t 13)⟩)] (some [1, 11, 12])) (.cond (.t 12) (.seq (.ops 1 [
    (0, ⟨(some 2), none, .mv (.k (.d (.val (.int .i64 1))))⟩)] (some [2])) .ret) (.seq (.ops 2 [
    (0, ⟨(some 15), none, .arith .eql (.t 11) (.k (.d (.val (.int .i64 3))))⟩),
    (1, ⟨(some 14), none, .mv (.t 15)⟩)] (some [1, 11, 14])) (.cond (.t 14) (.seq (.ops 1 [
    (0, ⟨(some 3), none, .mv (.k (.d (.val (.int .i64 0))))⟩)] (some [1, 3])) (.seq (.seq (.ops 1 [
    (0, ⟨(some 4), none, .mv (.k (.d (.val (.int .i64 0))))⟩)] (some [1, 3, 4])) (.block 1 (.loop (.seq (.seq (.ops 5 [
    (0, ⟨(some 16), none, .mv (.t 4)⟩),
    (1, ⟨(some 17), none, .fadd 7 (.t 1)⟩),
    (2, ⟨(some 18), none, .load none (.t 17)⟩),
    (3, ⟨(some 19), none, .lenS (.t 18)⟩),
    (4, ⟨(some 20), none, .arith .lss (.t 16) (.t 19)⟩)] (some [1, 3, 4, 20])) (.cond (.t 20) .skip (.exit 1))) (.seq (.block 2 (.ops 9 [
    (0, ⟨(some 23), none, .mv (.t 3)⟩),
    (1, ⟨(some 24), none, .fadd 7 (.t 1)⟩),
    (2, ⟨(some 25), none, .load none (.t 24)⟩),
    (3, ⟨(some 26), none, .mv (.t 4)⟩),
    (4, ⟨(some 27), none, .idxS 8 (.t 25) (.t 26)⟩),
    (5, ⟨(some 28), none, .load (some 8) (.t 27)⟩),
    (6, ⟨(some 29), none, .call 62 [(.t 28)] none false⟩),
    (7, ⟨(some 30), none, .arith .add (.t 23) (.t 29)⟩),
    (8, ⟨(some 3), none, .mv (.t 30)⟩)] (some [1, 3, 4]))) (.ops 3 [
    (0, ⟨(some 21), none, .mv (.t 4)⟩),
    (1, ⟨(some 22), none, .arith .add (.t 21) (.k (.d (.val (.int .i64 1))))⟩),
    (2, ⟨(some 4), none, .mv (.t 22)⟩)] (some [1, 3, 4]))))))) (.seq (.ops 2 [
    (0, ⟨(some 31), none, .mv (.t 3)⟩),
    (1, ⟨(some 2), none, .mv (.t 31)⟩)] (some [2])) .ret))) (.seq (.ops 2 [
    (0, ⟨(some 33), none, .arith .eql (.t 11) (.k (.d (.val (.int .i64 4))))⟩),
    (1, ⟨(some 32), none, .mv (.t 33)⟩)] (some [1, 11, 32])) (.cond (.t 32) (.seq (.ops 1 [
    (0, ⟨(some 5), none, .mv (.k (.d (.val (.int .i64 (-1)))))⟩)] (some [1, 5])) (.seq (.seq (.ops 1 [
    (0, ⟨(some 6), none, .mv (.k (.d (.val (.int .i64 0))))⟩)] (some [1, 5, 6])) (.block 3 (.loop (.seq (.seq (.ops 5 [
    (0, ⟨(some 34), none, .mv (.t 6)⟩),
    (1, ⟨(some 35), none, .fadd 7 (.t 1)⟩),
    (2, ⟨(some 36), none, .load none (.t 35)⟩),
    (3, ⟨(some 37), none, .lenS (.t 36)⟩),
    (4, ⟨(some 38), none, .arith .lss (.t 34) (.t 37)⟩)] (some [1, 5, 6, 38])) (.cond (.t 38) .skip (.exit 3))) (.seq (.block 4 (.seq (.ops 7 [
    (0, ⟨(some 41), none, .fadd 7 (.t 1)⟩),
    (1, ⟨(some 42), none, .load none (.t 41)⟩),
    (2, ⟨(some 43), none, .mv (.t 6)⟩),
    (3, ⟨(some 44), none, .idxS 8 (.t 42) (.t 43)⟩),
    (4, ⟨(some 45), none, .load (some 8) (.t 44)⟩),
    (5, ⟨(some 46), none, .call 62 [(.t 45)] none false⟩),
    (6, ⟨(some 7), none, .mv (.t 46)⟩)] (some [1, 5, 6, 7])) (.seq (.ops 11 [
    (0, ⟨(some 47), none, .mv (.t 7)⟩),
    (1, ⟨(some 48), none, .arith .geq (.t 47) (.k (.d (.val (.int .i64 0))))⟩),
    (2, ⟨(some 49), none, .mv (.t 48)⟩),
    (3, ⟨(some 50), (some (49, true)), .mv (.t 5)⟩),
    (4, ⟨(some 51), (some (49, true)), .arith .lss (.t 50) (.k (.d (.val (.int .i64 0))))⟩),
    (5, ⟨(some 52), (some (49, true)), .mv (.t 51)⟩),
    (6, ⟨(some 53), (some (52, false)), .mv (.t 7)⟩),
    (7, ⟨(some 54), (some (52, false)), .mv (.t 5)⟩),
    (8, ⟨(some 55), (some (52, false)), .arith .lss (.t 53) (.t 54)⟩),
    (9, ⟨(some 56), (some (49, true)), .pick (.t 52) (.k (.d (.val (.bool true)))) (.t 55)⟩),
    (10, ⟨(some 57), none, .pick (.t 49) (.t 56) (.k (.d (.val (.bool false))))⟩)] (some [1, 5, 6, 7, 57])) (.cond (.t 57) (.ops 2 [
    (0, ⟨(some 58), none, .mv (.t 7)⟩),
    (1, ⟨(some 5), none, .mv (.t 58)⟩)] (some [1, 5, 6])) .skip)))) (.ops 3 [
    (0, ⟨(some 39), none, .mv (.t 6)⟩),
    (1, ⟨(some 40), none, .arith .add (.t 39) (.k (.d (.val (.int .i64 1))))⟩),
    (2, ⟨(some 6), none, .mv (.t 40)⟩)] (some [1, 5, 6]))))))) (.seq (.ops 2 [
    (0, ⟨(some 59), none, .mv (.t 5)⟩),
    (1, ⟨(some 2), none, .mv (.t 59)⟩)] (some [2])) .ret))) (.seq (.ops 2 [
    (0, ⟨(some 61), none, .arith .eql (.t 11) (.k (.d (.val (.int .i64 5))))⟩),
    (1, ⟨(some 60), none, .mv (.t 61)⟩)] (some [1, 60])) (.cond (.t 60) (.seq (.ops 3 [
    (0, ⟨(some 62), none, .fadd 5 (.t 1)⟩),
    (1, ⟨(some 63), none, .load none (.t 62)⟩),
    (2, ⟨(some 64), none, .arith .gtr (.t 63) (.k (.d (.val (.int .i64 0))))⟩)] (some [1, 64])) (.cond (.t 64) (.seq (.ops 9 [
    (0, ⟨(some 65), none, .fadd 5 (.t 1)⟩),
    (1, ⟨(some 66), none, .load none (.t 65)⟩),
    (2, ⟨(some 67), none, .fadd 7 (.t 1)⟩),
    (3, ⟨(some 68), none, .load none (.t 67)⟩),
    (4, ⟨(some 69), none, .idxS 8 (.t 68) (.k (.d (.val (.int .i64 0))))⟩),
    (5, ⟨(some 70), none, .load (some 8) (.t 69)⟩),
    (6, ⟨(some 71), none, .call 62 [(.t 70)] none false⟩),
    (7, ⟨(some 72), none, .arith .mul (.t 66) (.t 71)⟩),
    (8, ⟨(some 2), none, .mv (.t 72)⟩)] (some [2])) .ret) .skip)) .skip)))))))))) (.seq (.ops 1 [
    (0, ⟨(some 2), none, .mv (.k (.d (.val (.int .i64 0))))⟩)] (some [2])) .ret))))
def md62 : FuncId → Option Nat × Bool
  | _ => (none, false)
def od62 : Nat → List (List Nat) × List Nat × Option (List Nat)
  | 0 => ([], [], some [1])
  | 1 => ([], [], some [1, 9])
  | 2 => ([], [], some [2])
  | 3 => ([], [], some [1, 11])
  | 4 => ([], [], some [1, 11, 12])
  | 5 => ([], [], some [2])
  | 6 => ([], [], some [1, 11, 14])
  | 7 => ([], [], some [1, 3])
  | 8 => ([], [], some [1, 3, 4])
  | 9 => ([], [], some [1, 3, 4, 20])
  | 10 => ([], [], some [1, 3, 4])
  | 11 => ([], [], some [1, 3, 4])
  | 12 => ([], [], some [2])
  | 13 => ([], [], some [1, 11, 32])
  | 14 => ([], [], some [1, 5])
  | 15 => ([], [], some [1, 5, 6])
  | 16 => ([], [], some [1, 5, 6, 38])
  | 17 => ([], [], some [1, 5, 6])
  | 18 => ([], [], some [1, 5, 6, 7])
  | 19 => ([], [], some [1, 5, 6, 7, 57])
  | 20 => ([], [], some [1, 5, 6])
  | 21 => ([], [], some [2])
  | 22 => ([], [], some [1, 60])
  | 23 => ([], [], some [1, 64])
  | 24 => ([[], [0], [], [2], [2, 3], [2, 3, 4], [2, 3, 4, 5], [0, 1, 2, 3, 4, 5, 6], [0, 1, 2, 3, 4, 5, 6, 7]], [0, 1, 2, 3, 4, 5, 6, 7, 8], some [2])
  | 25 => ([], [], some [2])
  | _ => ([], [], none)
theorem b62 {ags : List AV} {row : Option (List DV)} {r : AV} {row' nw : Option (List DV)} (hal : ags.length ≤ 73) (hrow : row'.isSome = true → row.isSome = true) (h : xwp Try.prog x62 (retK [.tmp 2] row.isSome r row' nw) (St.init ags row)) : Good Try.prog 62 ags row r row' nw :=
  good_of_body' (md := md62) (od := od62) Try.f62 (by kernel_rfl) (by kernel_rfl) (by kernel_rfl) (by kernel_rfl) (by kernel_rfl) hal hrow h

def x63 : XC := (.seq (.ops 2 [
    (0, ⟨(some 1), none, .box (.t 0)⟩),
    (1, ⟨(some 2), none, .mv (.k (.d (.val (.int .i64 0))))⟩)] (some [1])) (.seq (.seq (.ops 2 [
    (0, ⟨(some 7), none, .load (some 8) (.t 1)⟩),
    (1, ⟨(some 8), none, .call 51 [(.t 7)] none false⟩)] (some [1, 8])) (.cond (.t 8) (.seq (.ops 1 [
    (0, ⟨(some 2), none, .mv (.k (.d (.val (.int .i64 (-1)))))⟩)] (some [2])) .ret) .skip)) (.seq (.ops 1 [
    (0, ⟨(some 3), none, .mv (.k (.d (.val (.int .i64 0))))⟩)] (some [1, 3])) (.seq (.seq (.ops 2 [
    (0, ⟨(some 9), none, .fadd 0 (.t 1)⟩),
    (1, ⟨(some 10), none, .load none (.t 9)⟩)] (some [1, 3, 10])) (.block 0 (.seq (.ops 2 [
    (0, ⟨(some 12), none, .arith .eql (.t 10) (.k (.d (.val (.int .i64 2))))⟩),
    (1, ⟨(some 11), none, .mv (.t 12)⟩)] (some [1, 3, 10, 11])) (.cond (.t 11) (.seq (.ops 1 [
    (0, ⟨(some 2), none, .mv (.k (.d (.val (.int .i64 1))))⟩)] (some [2])) .ret) (.seq (.seq (.ops 2 [
    (0, ⟨(some 14), none, .arith .eql (.t 10) (.k (.d (.val (.int .i64 3))))⟩),
    (1, ⟨(some 13), none, .mv (.t 14)⟩)] (some [1, 3, 10, 13])) (.cond (.t 13) .skip (.ops 2 [
    (0, ⟨(some 15), none, .arith .eql (.t 10) (.k (.d (.val (.int .i64 4))))⟩),
    (1, ⟨(some 13), none, .mv (.t 15)⟩)] (some [1, 3, 10, 13])))) (.cond (.t 13) (.seq (.ops 1 [
    (0, ⟨(some 4), none, .mv (.k (.d (.val (.int .i64 0))))⟩)] (some [1, 3, 4])) (.block 1 (.loop (.seq (.seq (.ops 5 [
    (0, ⟨(some 16), none, .mv (.t 4)⟩),
    (1, ⟨(some 17), none, .fadd 7 (.t 1)⟩),
    (2, ⟨(some 18), none, .load none (.t 17)⟩),
    (3, ⟨(some 19), none, .lenS (.t 18)⟩),
    (4, ⟨(some 20), none, .arith .lss (.t 16) (.t 19)⟩)] (some [1, 3, 4, 20])) (.cond (.t 20) .skip (.exit 1))) (.seq (.block 2 (.seq (.seq (.ops 6 [
    (0, ⟨(some 23), none, .fadd 7 (.t 1)⟩),
    (1, ⟨(some 24), none, .load none (.t 23)⟩),
    (2, ⟨(some 25), none, .mv (.t 4)⟩),
    (3, ⟨(some 26), none, .idxS 8 (.t 24) (.t 25)⟩),
    (4, ⟨(some 27), none, .load (some 8) (.t 26)⟩),
    (5, ⟨(some 28), none, .call 51 [(.t 27)] none false⟩)] (some [1, 3, 4, 28])) (.cond (.t 28) (.exit 2) .skip)) (.seq (.ops 7 [
    (0, ⟨(some 29), none, .fadd 7 (.t 1)⟩),
    (1, ⟨(some 30), none, .load none (.t 29)⟩),
    (2, ⟨(some 31), none, .mv (.t 4)⟩),
    (3, ⟨(some 32), none, .idxS 8 (.t 30) (.t 31)⟩),
    (4, ⟨(some 33), none, .load (some 8) (.t 32)⟩),
    (5, ⟨(some 34), none, .call 63 [(.t 33)] none false⟩),
    (6, ⟨(some 5), none, .mv (.t 34)⟩)] (some [1, 3, 4, 5])) (.seq (.seq (.ops 2 [
    (0, ⟨(some 35), none, .mv (.t 5)⟩),
    (1, ⟨(some 36), none, .arith .lss (.t 35) (.k (.d (.val (.int .i64 0))))⟩)] (some [1, 3, 4, 5, 36])) (.cond (.t 36) (.seq (.ops 1 [
    (0, ⟨(some 2), none, .mv (.k (.d (.val (.int .i64 (-1)))))⟩)] (some [2])) .ret) .skip)) (.seq (.ops 3 [
    (0, ⟨(some 37), none, .fadd 0 (.t 1)⟩),
    (1, ⟨(some 38), none, .load none (.t 37)⟩),
    (2, ⟨(some 39), none, .arith .eql (.t 38) (.k (.d (.val (.int .i64 3))))⟩)] (some [1, 3, 4, 5, 39])) (.cond (.t 39) (.ops 4 [
    (0, ⟨(some 40), none, .mv (.t 3)⟩),
    (1, ⟨(some 41), none, .mv (.t 5)⟩),
    (2, ⟨(some 42), none, .arith .add (.t 40) (.t 41)⟩),
    (3, ⟨(some 3), none, .mv (.t 42)⟩)] (some [1, 3, 4])) (.ops 4 [
    (0, ⟨(some 43), none, .mv (.t 3)⟩),
    (1, ⟨(some 44), none, .mv (.t 5)⟩),
    (2, ⟨(some 45), none, .max [(.t 43), (.t 44)]⟩),
    (3, ⟨(some 3), none, .mv (.t 45)⟩)] (some [1, 3, 4])))))))) (.ops 3 [
    (0, ⟨(some 21), none, .mv (.t 4)⟩),
    (1, ⟨(some 22), none, .arith .add (.t 21) (.k (.d (.val (.int .i64 1))))⟩),
    (2, ⟨(some 4), none, .mv (.t 22)⟩)] (some [1, 3, 4]))))))) (.seq (.ops 2 [
    (0, ⟨(some 47), none, .arith .eql (.t 10) (.k (.d (.val (.int .i64 5))))⟩),
    (1, ⟨(some 46), none, .mv (.t 47)⟩)] (some [1, 3, 46])) (.cond (.t 46) (.seq (.seq (.ops 10 [
    (0, ⟨(some 48), none, .fadd 7 (.t 1)⟩),
    (1, ⟨(some 49), none, .load none (.t 48)⟩),
    (2, ⟨(some 50), none, .idxS 8 (.t 49) (.k (.d (.val (.int .i64 0))))⟩),
    (3, ⟨(some 51), none, .load (some 8) (.t 50)⟩),
    (4, ⟨(some 52), none, .call 51 [(.t 51)] none false⟩),
    (5, ⟨(some 53), none, .mv (.t 52)⟩),
    (6, ⟨(some 54), (some (53, false)), .fadd 6 (.t 1)⟩),
    (7, ⟨(some 55), (some (53, false)), .load none (.t 54)⟩),
    (8, ⟨(some 56), (some (53, false)), .arith .eql (.t 55) (.k (.d (.val (.int .i64 0))))⟩),
    (9, ⟨(some 57), none, .pick (.t 53) (.k (.d (.val (.bool true)))) (.t 56)⟩)] (some [1, 57])) (.cond (.t 57) (.seq (.ops 1 [
    (0, ⟨(some 2), none, .mv (.k (.d (.val (.int .i64 0))))⟩)] (some [2])) .ret) .skip)) (.seq (.ops 6 [
    (0, ⟨(some 58), none, .fadd 7 (.t 1)⟩),
    (1, ⟨(some 59), none, .load none (.t 58)⟩),
    (2, ⟨(some 60), none, .idxS 8 (.t 59) (.k (.d (.val (.int .i64 0))))⟩),
    (3, ⟨(some 61), none, .load (some 8) (.t 60)⟩),
    (4, ⟨(some 62), none, .call 63 [(.t 61)] none false⟩),
    (5, ⟨(some 6), none, .mv (.t 62)⟩)] (some [1, 6])) (.seq (.seq (.ops 2 [
    (0, ⟨(some 63), none, .mv (.t 6)⟩),
    (1, ⟨(some 64), none, .arith .eql (.t 63) (.k (.d (.val (.int .i64 0))))⟩)] (some [1, 6, 64])) (.cond (.t 64) (.seq (.ops 1 [
    (0, ⟨(some 2), none, .mv (.k (.d (.val (.int .i64 0))))⟩)] (some [2])) .ret) .skip)) (.seq (.seq (.ops 7 [
    (0, ⟨(some 65), none, .mv (.t 6)⟩),
    (1, ⟨(some 66), none, .arith .lss (.t 65) (.k (.d (.val (.int .i64 0))))⟩),
    (2, ⟨(some 67), none, .mv (.t 66)⟩),
    (3, ⟨(some 68), (some (67, false)), .fadd 6 (.t 1)⟩),
    (4, ⟨(some 69), (some (67, false)), .load none (.t 68)⟩),
    (5, ⟨(some 70), (some (67, false)), .arith .lss (.t 69) (.k (.d (.val (.int .i64 0))))⟩),
    (6, ⟨(some 71), none, .pick (.t 67) (.k (.d (.val (.bool true)))) (.t 70)⟩)] (some [1, 6, 71])) (.cond (.t 71) (.seq (.ops 1 [
    (0, ⟨(some 2), none, .mv (.k (.d (.val (.int .i64 (-1)))))⟩)] (some [2])) .ret) .skip)) (.seq (.ops 5 [
    (0, ⟨(some 72), none, .mv (.t 6)⟩),
    (1, ⟨(some 73), none, .fadd 6 (.t 1)⟩),
    (2, ⟨(some 74), none, .load none (.t 73)⟩),
    (3, ⟨(some 75), none, .arith .mul (.t 72) (.t 74)⟩),
    (4, ⟨(some 2), none, .mv (.t 75)⟩)] (some [2])) .ret))))) .skip)))))))) (.seq (.ops 2 [
    (0, ⟨(some 76), none, .mv (.t 3)⟩),
    (1, ⟨(some 2), none, .mv (.t 76)⟩)] (some [2])) .ret)))))
def md63 : FuncId → Option Nat × Bool
  | _ => (none, false)
def od63 : Nat → List (List Nat) × List Nat × Option (List Nat)
  | 0 => ([], [], some [1])
  | 1 => ([], [], some [1, 8])
  | 2 => ([], [], some [2])
  | 3 => ([], [], some [1, 3])
  | 4 => ([], [], some [1, 3, 10])
  | 5 => ([], [], some [1, 3, 10, 11])
  | 6 => ([], [], some [2])
  | 7 => ([], [], some [1, 3, 10, 13])
  | 8 => ([], [], some [1, 3, 10, 13])
  | 9 => ([], [], some [1, 3, 4])
  | 10 => ([], [], some [1, 3, 4, 20])
  | 11 => ([], [], some [1, 3, 4])
  | 12 => ([], [], some [1, 3, 4, 28])
  | 13 => ([], [], some [1, 3, 4, 5])
  | 14 => ([], [], some [1, 3, 4, 5, 36])
  | 15 => ([], [], some [2])
  | 16 => ([], [], some [1, 3, 4, 5, 39])
  | 17 => ([], [], some [1, 3, 4])
  | 18 => ([], [], some [1, 3, 4])
  | 19 => ([], [], some [1, 3, 46])
  | 20 => ([], [], some [1, 57])
  | 21 => ([], [], some [2])
  | 22 => ([], [], some [1, 6])
  | 23 => ([], [], some [1, 6, 64])
  | 24 => ([], [], some [2])
  | 25 => ([], [], some [1, 6, 71])
  | 26 => ([], [], some [2])
  | 27 => ([], [], some [2])
  | 28 => ([], [], some [2])
  | _ => ([], [], none)
theorem b63 {ags : List AV} {row : Option (List DV)} {r : AV} {row' nw : Option (List DV)} (hal : ags.length ≤ 77) (hrow : row'.isSome = true → row.isSome = true) (h : xwp Try.prog x63 (retK [.tmp 2] row.isSome r row' nw) (St.init ags row)) : Good Try.prog 63 ags row r row' nw :=
  good_of_body' (md := md63) (od := od63) Try.f63 (by kernel_rfl) (by kernel_rfl) (by kernel_rfl) (by kernel_rfl) (by kernel_rfl) hal hrow h

set_option maxRecDepth 100000
set_option maxHeartbeats 4000000
attribute [local irreducible] W E R KP thenK blockK retK Good xwp aRun
theorem least62_good : ∀ (n : Nat) (t : T), t.cnt ≤ n → n ≤ 1000000 → okT t → bT t ≤ 16384000000000000000 → Good Try.prog 62 [nodeA t] none (.i (knT t).lo) none none := by
  intro n
  induction n with
  | zero => intro t ht; have := cnt_pos t; omega
  | succ n ih =>
  intro t ht hc hok hbt
  have hnn := none51_good 1000000 t (by omega) (by omega) hok
  rw [nn_kn hok] at hnn
  have hkt := kn_ok t hok
  obtain ⟨k, a, b, c, d, mn, mx, subs⟩ := t
  have e0 : nodeA (T.node k a b c d mn mx subs) = .agg [.i k, .d (.val (.int .u64 a)), .d (.val (.int .u64 b)), .d (.val (.int .u64 c)), .d (.val (.int .u64 d)), .i mn, .i mx, .d (.sl (encL subs) subs.length)] := rfl
  have hoks := okT_subs hok
  have hR := okT_R hok
  have ih' : ∀ i (h : i < subs.length), Good Try.prog 62 [nodeA subs[i]] none (.i (knT subs[i]).lo) none none := by
    intro i h
    refine ih _ ?_ (by omega) (okL_get subs i h hoks) ?_
    · have := cntL_get subs i h
      simp only [T.cnt] at ht
      omega
    · have := bT_sub (u := subs[i]) hok (List.getElem_mem h)
      omega
  have hksub : ∀ i (h : i < subs.length), okF (knT subs[i]) (bT subs[i]) := fun i h => kn_ok _ (okL_get subs i h hoks)
  have hpl := okT_plain hok
  have hlen : subs.length ≤ 1000000 := by
    have := cntL_len subs
    simp only [T.cnt] at ht
    omega
  rw [e0] at hnn ⊢
  cases hno : (knT (T.node k a b c d mn mx subs)).no with
  | true =>
    have e : (knT (T.node k a b c d mn mx subs)).lo = -1 := by rw [hkt.2.1 hno]; rfl
    rw [e]
    rw [hno] at hnn
    clear ih ih' hksub hkt hok hoks hbt ht hR hpl hno e
    refine b62 (by simp) (by simp) (w_init ?_)
    unfold x62
    repeat' (first
    | (apply r_mvV; rfl)
    | (apply r_mvP; rfl)
    | (apply r_mvPL; rfl)
    | (apply r_mvS; rfl)
    | (apply r_mvSL; rfl)
    | (apply r_mvA; rfl)
    | (apply r_mvT; rfl)
    | (apply r_mvF; rfl)
    | (apply r_mvD; rfl)
    | (apply r_faddD; rfl)
    | (apply r_faddL; rfl)
    | (apply r_l; apply ld_kind; assumption; rfl)
    | (apply r_l; apply ld_mn; assumption; rfl)
    | (apply r_l; apply ld_mx; assumption; rfl)
    | (apply r_l; apply ld_subs; assumption; rfl)
    | (apply r_l; apply ld_set; assumption; rfl)
    | (apply r_l; apply ld_node; assumption; rfl)
    | (apply r_l; apply ld_kind'; assumption; rfl)
    | (apply r_l; apply ld_mn'; assumption; rfl)
    | (apply r_l; apply ld_mx'; assumption; rfl)
    | (apply r_l; apply ld_subs'; assumption; rfl)
    | (apply r_l; apply ld_node'; assumption; rfl)
    | (apply r_callA (f := 51); rfl; rfl; exact hnn)
    | (apply r_ldL; rfl; rfl; rfl)
    | (apply r_eql; rfl; rfl; (first | (apply decide_eq_true; omega) | (apply decide_eq_false; omega) | rfl))
    | (apply r_lss; rfl; rfl; (first | (apply decide_eq_true; omega) | (apply decide_eq_false; omega) | rfl))
    | (apply r_gtr; rfl; rfl; (first | (apply decide_eq_true; omega) | (apply decide_eq_false; omega) | rfl))
    | (apply r_geq; rfl; rfl; (first | (apply decide_eq_true; omega) | (apply decide_eq_false; omega) | rfl))
    | (apply r_add; rfl; rfl; rfl; omega)
    | (apply r_pickT; rfl)
    | (apply r_pickF; rfl)
    | (apply r_lenD; rfl)
    | (apply r_lenL; rfl)
    | (apply r_len0; rfl)
    | (apply r_gT; rfl)
    | (apply r_gF'; rfl; rfl)
    | (apply r_gN'; rfl)
    | ((apply r_gS (o := default); rfl) <;> (intro h; try simp only [decide_eq_true_eq, decide_eq_false_iff_not, Bool.not_eq_true, Bool.not_eq_false] at h))
    | (apply r_box; ((conv => lhs; simp only [Nat.reduceAdd]) <;> rfl); rfl; rfl; rfl)
    | (apply r_p; rfl)
    | (apply r_nilK)
    | (apply r_nil)
    | (apply k_V; rfl)
    | (apply k_P; rfl)
    | (apply k_PL; rfl)
    | (apply k_S; rfl)
    | (apply k_SL; rfl)
    | (apply k_A; rfl)
    | (apply k_T; rfl)
    | (apply k_F; rfl)
    | (apply k_D; rfl; rotate_left; rfl)
    | (apply k_nil)
    | (apply e_ret (vs := [.d (.val _)]); rfl)
    | (apply e_ret; rfl)
    | (apply e_ret' (vs := [.d (.val _)]); rfl)
    | (apply e_ret'; rfl)
    | (apply w_seq)
    | (apply w_ops; ((conv => lhs; simp only [Nat.reduceAdd]) <;> rfl))
    | (apply w_condT; rfl)
    | (apply w_condF; rfl)
    | ((apply w_condS; rfl) <;> (intro h; try simp only [decide_eq_true_eq, decide_eq_false_iff_not, Bool.not_eq_true, Bool.not_eq_false] at h))
    | (apply e_thenN)
    | (apply w_block)
    | (apply e_thenR)
    | (apply e_thenX)
    | (apply e_blkN)
    | (apply e_blkR)
    | (apply e_blkE)
    | (apply w_exit)
    | (apply w_ret)
    | (apply w_skip)
    | (apply e_blkE'; rfl))
    exact retI rfl
  | false =>
  rw [hno] at hnn
  by_cases h2 : k = 2
  · have e : (knT (T.node k a b c d mn mx subs)).lo = 1 := by
      rw [knT, if_pos h2] at hno ⊢
      split
      · rename_i hz; rw [if_pos hz] at hno; simp [faNo] at hno
      · rfl
    rw [e]
    clear ih ih' hksub hkt hok hoks hbt ht hR hpl hno e
    refine b62 (by simp) (by simp) (w_init ?_)
    unfold x62
    repeat' (first
    | (apply r_mvV; rfl)
    | (apply r_mvP; rfl)
    | (apply r_mvPL; rfl)
    | (apply r_mvS; rfl)
    | (apply r_mvSL; rfl)
    | (apply r_mvA; rfl)
    | (apply r_mvT; rfl)
    | (apply r_mvF; rfl)
    | (apply r_mvD; rfl)
    | (apply r_faddD; rfl)
    | (apply r_faddL; rfl)
    | (apply r_l; apply ld_kind; assumption; rfl)
    | (apply r_l; apply ld_mn; assumption; rfl)
    | (apply r_l; apply ld_mx; assumption; rfl)
    | (apply r_l; apply ld_subs; assumption; rfl)
    | (apply r_l; apply ld_set; assumption; rfl)
    | (apply r_l; apply ld_node; assumption; rfl)
    | (apply r_l; apply ld_kind'; assumption; rfl)
    | (apply r_l; apply ld_mn'; assumption; rfl)
    | (apply r_l; apply ld_mx'; assumption; rfl)
    | (apply r_l; apply ld_subs'; assumption; rfl)
    | (apply r_l; apply ld_node'; assumption; rfl)
    | (apply r_callA (f := 51); rfl; rfl; exact hnn)
    | (apply r_ldL; rfl; rfl; rfl)
    | (apply r_eql; rfl; rfl; (first | (apply decide_eq_true; omega) | (apply decide_eq_false; omega) | rfl))
    | (apply r_lss; rfl; rfl; (first | (apply decide_eq_true; omega) | (apply decide_eq_false; omega) | rfl))
    | (apply r_gtr; rfl; rfl; (first | (apply decide_eq_true; omega) | (apply decide_eq_false; omega) | rfl))
    | (apply r_geq; rfl; rfl; (first | (apply decide_eq_true; omega) | (apply decide_eq_false; omega) | rfl))
    | (apply r_add; rfl; rfl; rfl; omega)
    | (apply r_pickT; rfl)
    | (apply r_pickF; rfl)
    | (apply r_lenD; rfl)
    | (apply r_lenL; rfl)
    | (apply r_len0; rfl)
    | (apply r_gT; rfl)
    | (apply r_gF'; rfl; rfl)
    | (apply r_gN'; rfl)
    | ((apply r_gS (o := default); rfl) <;> (intro h; try simp only [decide_eq_true_eq, decide_eq_false_iff_not, Bool.not_eq_true, Bool.not_eq_false] at h))
    | (apply r_box; ((conv => lhs; simp only [Nat.reduceAdd]) <;> rfl); rfl; rfl; rfl)
    | (apply r_p; rfl)
    | (apply r_nilK)
    | (apply r_nil)
    | (apply k_V; rfl)
    | (apply k_P; rfl)
    | (apply k_PL; rfl)
    | (apply k_S; rfl)
    | (apply k_SL; rfl)
    | (apply k_A; rfl)
    | (apply k_T; rfl)
    | (apply k_F; rfl)
    | (apply k_D; rfl; rotate_left; rfl)
    | (apply k_nil)
    | (apply e_ret (vs := [.d (.val _)]); rfl)
    | (apply e_ret; rfl)
    | (apply e_ret' (vs := [.d (.val _)]); rfl)
    | (apply e_ret'; rfl)
    | (apply w_seq)
    | (apply w_ops; ((conv => lhs; simp only [Nat.reduceAdd]) <;> rfl))
    | (apply w_condT; rfl)
    | (apply w_condF; rfl)
    | ((apply w_condS; rfl) <;> (intro h; try simp only [decide_eq_true_eq, decide_eq_false_iff_not, Bool.not_eq_true, Bool.not_eq_false] at h))
    | (apply e_thenN)
    | (apply w_block)
    | (apply e_thenR)
    | (apply e_thenX)
    | (apply e_blkN)
    | (apply e_blkR)
    | (apply e_blkE)
    | (apply w_exit)
    | (apply w_ret)
    | (apply w_skip)
    | (apply e_blkE'; rfl))
    exact retI rfl
  have hpw := pw_pos (openT (T.node k a b c d mn mx subs)).toNat
  have hsub' : ∀ u ∈ subs, okF (knT u) ((u.cnt : Nat) * pw (openT (T.node k a b c d mn mx subs)).toNat) := fun u hu => by
    refine okF_mono (kn_ok u ((okL_iff _).1 hoks u hu)) ?_
    have h1 := sub_open (u := u) hok hu
    exact bT_le (Nat.le_refl _) (by have := open_nonneg _ hok; omega)
  have hpb : ∀ i, ((cntL (subs.take i) : Nat) : Int) * pw (openT (T.node k a b c d mn mx subs)).toNat ≤ 16384000000000000000 := by
    intro i
    have h1 := cntL_take_le subs i
    have h2 : ((cntL (subs.take i) : Nat) : Int) * pw (openT (T.node k a b c d mn mx subs)).toNat ≤ bT (T.node k a b c d mn mx subs) := by
      unfold bT
      exact Int.mul_le_mul_of_nonneg_right (by simp only [T.cnt]; omega) (by omega)
    omega
  by_cases h3 : k = 3
  · have e : knT (T.node k a b c d mn mx subs) = knC subs faE := by rw [knT, if_neg h2, if_pos h3]
    rw [e] at hno ⊢
    obtain ⟨_, hall⟩ := knC_no subs faE hno
    have hacc : ∀ i, i ≤ subs.length → (knC (subs.take i) faE).no = false ∧ 0 ≤ (knC (subs.take i) faE).lo ∧ 2 * (knC (subs.take i) faE).lo ≤ 16384000000000000000 := by
      intro i hi
      have h1 := knC_ok (openT (T.node k a b c d mn mx subs)).toNat (subs.take i) faE 0 (Int.le_refl _) (okF_E (Int.le_refl _)) (fun u hu => hsub' u (List.mem_of_mem_take hu))
      have h4 : (knC (subs.take i) faE).no = false := by
        have : knC subs faE = knC (subs.drop i) (knC (subs.take i) faE) := by rw [← knC_app, List.take_append_drop]
        rw [this] at hno
        exact (knC_no _ _ hno).1
      refine ⟨h4, (h1.2.2.1 h4).1, ?_⟩
      have := hpb i
      have := h1.2.2.2.1
      omega
    have hstep : ∀ i (h : i < subs.length), (knC (subs.take (i + 1)) faE).lo = (knC (subs.take i) faE).lo + (knT subs[i]).lo := fun i h => by
      rw [knC_step subs i h]
      exact (faThen_val (hacc i (by omega)).1 (hall _ (List.getElem_mem h))).1
    have hlos : ∀ i (h : i < subs.length), 0 ≤ (knT subs[i]).lo := fun i h => ((hksub i h).2.2.1 (hall _ (List.getElem_mem h))).1
    clear ih hkt hok hbt ht hR hpl hsub' hpb hall e hksub hoks
    refine b62 (by simp) (by simp) (w_init ?_)
    unfold x62
    repeat' (first
    | (apply r_mvV; rfl)
    | (apply r_mvP; rfl)
    | (apply r_mvPL; rfl)
    | (apply r_mvS; rfl)
    | (apply r_mvSL; rfl)
    | (apply r_mvA; rfl)
    | (apply r_mvT; rfl)
    | (apply r_mvF; rfl)
    | (apply r_mvD; rfl)
    | (apply r_faddD; rfl)
    | (apply r_faddL; rfl)
    | (apply r_l; apply ld_kind; assumption; rfl)
    | (apply r_l; apply ld_mn; assumption; rfl)
    | (apply r_l; apply ld_mx; assumption; rfl)
    | (apply r_l; apply ld_subs; assumption; rfl)
    | (apply r_l; apply ld_set; assumption; rfl)
    | (apply r_l; apply ld_node; assumption; rfl)
    | (apply r_l; apply ld_kind'; assumption; rfl)
    | (apply r_l; apply ld_mn'; assumption; rfl)
    | (apply r_l; apply ld_mx'; assumption; rfl)
    | (apply r_l; apply ld_subs'; assumption; rfl)
    | (apply r_l; apply ld_node'; assumption; rfl)
    | (apply r_callA (f := 51); rfl; rfl; exact hnn)
    | (apply r_ldL; rfl; rfl; rfl)
    | (apply r_eql; rfl; rfl; (first | (apply decide_eq_true; omega) | (apply decide_eq_false; omega) | rfl))
    | (apply r_lss; rfl; rfl; (first | (apply decide_eq_true; omega) | (apply decide_eq_false; omega) | rfl))
    | (apply r_gtr; rfl; rfl; (first | (apply decide_eq_true; omega) | (apply decide_eq_false; omega) | rfl))
    | (apply r_geq; rfl; rfl; (first | (apply decide_eq_true; omega) | (apply decide_eq_false; omega) | rfl))
    | (apply r_add; rfl; rfl; rfl; omega)
    | (apply r_pickT; rfl)
    | (apply r_pickF; rfl)
    | (apply r_lenD; rfl)
    | (apply r_lenL; rfl)
    | (apply r_len0; rfl)
    | (apply r_gT; rfl)
    | (apply r_gF'; rfl; rfl)
    | (apply r_gN'; rfl)
    | ((apply r_gS (o := default); rfl) <;> (intro h; try simp only [decide_eq_true_eq, decide_eq_false_iff_not, Bool.not_eq_true, Bool.not_eq_false] at h))
    | (apply r_box; ((conv => lhs; simp only [Nat.reduceAdd]) <;> rfl); rfl; rfl; rfl)
    | (apply r_p; rfl)
    | (apply r_nilK)
    | (apply r_nil)
    | (apply k_V; rfl)
    | (apply k_P; rfl)
    | (apply k_PL; rfl)
    | (apply k_S; rfl)
    | (apply k_SL; rfl)
    | (apply k_A; rfl)
    | (apply k_T; rfl)
    | (apply k_F; rfl)
    | (apply k_D; rfl; rotate_left; rfl)
    | (apply k_nil)
    | (apply e_ret (vs := [.d (.val _)]); rfl)
    | (apply e_ret; rfl)
    | (apply e_ret' (vs := [.d (.val _)]); rfl)
    | (apply e_ret'; rfl)
    | (apply w_seq)
    | (apply w_ops; ((conv => lhs; simp only [Nat.reduceAdd]) <;> rfl))
    | (apply w_condT; rfl)
    | (apply w_condF; rfl)
    | ((apply w_condS; rfl) <;> (intro h; try simp only [decide_eq_true_eq, decide_eq_false_iff_not, Bool.not_eq_true, Bool.not_eq_false] at h))
    | (apply e_thenN)
    | (apply w_block)
    | (apply e_thenR)
    | (apply e_thenX)
    | (apply e_blkN)
    | (apply e_blkR)
    | (apply e_blkE)
    | (apply w_exit)
    | (apply w_ret)
    | (apply w_skip)
    | (apply e_blkE'; rfl))
    apply w_loopI (S := fun i : Nat => ⟨(((Fr.nil.put 1 (.ptrL 1 0)).put 3 (.i (knC (subs.take i) faE).lo))).put 4 (.i i), rowsOf [(1, [.i k, .d (.val (.int .u64 a)), .d (.val (.int .u64 b)), .d (.val (.int .u64 c)), .d (.val (.int .u64 d)), .i mn, .i mx, .d (.sl (encL subs) subs.length)])], Frz.lo 100, 100⟩) (m := fun i => subs.length - i) (I := fun i => i ≤ subs.length) (i0 := 0)
    · exact Nat.zero_le _
    · refine wkRs (by omega) ?_ ?_
      · intro p hp; simp only [List.mem_cons, List.not_mem_nil, or_false] at hp; rcases hp with rfl <;> exact ⟨by omega, rfl, rfl⟩
      · repeat' (first
    | exact FWk.nil
    | (apply FWk.i; rfl; (first | rfl | omega | (simp; done)))
    | (apply FWk.sl; rfl; rfl; rfl; rfl; omega; rfl)
    | (apply FWk.ptr; rfl; rfl; rfl; omega; rfl)
    | (apply FWk.d; rfl; rfl)
    | (apply FWk.a; rfl; rfl; rfl)
    | (apply FWk.slN; rfl; omega; rfl))
    intro i K hi hK
    dsimp only
    rcases Nat.lt_or_ge i subs.length with hlt | hge
    · have hsu := NodeAt.sub hlt
      have hg := ih' i hlt
      have hs1 := hstep i hlt
      have hb1 := hacc i (by omega)
      have hb2 := hacc (i + 1) (by omega)
      have hl := hlos i hlt
      have hnu := nodeA_nrm subs[i]
      have hna : [nodeA subs[i]].all AV.nrm = true := by rw [List.all_cons, hnu]; rfl
      have fin : ∀ fr C Z nx, Wk ⟨fr, C, Z, nx⟩ ⟨(((Fr.nil.put 1 (.ptrL 1 0)).put 3 (.i ((knC (subs.take i) faE).lo + (knT subs[i]).lo)))).put 4 (.i ((i + 1 : Nat) : Int)), rowsOf [(1, [.i k, .d (.val (.int .u64 a)), .d (.val (.int .u64 b)), .d (.val (.int .u64 c)), .d (.val (.int .u64 d)), .i mn, .i mx, .d (.sl (encL subs) subs.length)])], Frz.lo 100, 100⟩ → K ⟨fr, C, Z, nx⟩ := fun fr C Z nx hw => hK (i + 1) fr C Z nx (by omega) (by omega) (by rw [hs1]; exact hw)
      rw [hs1] at hb2
      generalize (knC (subs.take i) faE).lo = f1 at *
      generalize (knT subs[i]).lo = g1 at *
      generalize subs[i] = u at hsu hg hna
      clear hacc hstep hlos ih'
      repeat' (first
    | (apply r_mvV; rfl)
    | (apply r_mvP; rfl)
    | (apply r_mvPL; rfl)
    | (apply r_mvS; rfl)
    | (apply r_mvSL; rfl)
    | (apply r_mvA; rfl)
    | (apply r_mvT; rfl)
    | (apply r_mvF; rfl)
    | (apply r_mvD; rfl)
    | (apply r_faddD; rfl)
    | (apply r_faddL; rfl)
    | (apply r_l; apply ld_kind; assumption; rfl)
    | (apply r_l; apply ld_mn; assumption; rfl)
    | (apply r_l; apply ld_mx; assumption; rfl)
    | (apply r_l; apply ld_subs; assumption; rfl)
    | (apply r_l; apply ld_set; assumption; rfl)
    | (apply r_l; apply ld_node; assumption; rfl)
    | (apply r_l; apply ld_kind'; assumption; rfl)
    | (apply r_l; apply ld_mn'; assumption; rfl)
    | (apply r_l; apply ld_mx'; assumption; rfl)
    | (apply r_l; apply ld_subs'; assumption; rfl)
    | (apply r_l; apply ld_node'; assumption; rfl)
    | (apply r_p; apply ix_sub; rfl; rfl; omega)
    | (apply r_l; apply ld_node'; exact hsu; rfl)
    | (apply r_callA (f := 62) (ags := [nodeA u]); rfl; exact hna; exact hg)
    | (apply r_ldL; rfl; rfl; rfl)
    | (apply r_eql; rfl; rfl; (first | (apply decide_eq_true; omega) | (apply decide_eq_false; omega) | rfl))
    | (apply r_lss; rfl; rfl; (first | (apply decide_eq_true; omega) | (apply decide_eq_false; omega) | rfl))
    | (apply r_gtr; rfl; rfl; (first | (apply decide_eq_true; omega) | (apply decide_eq_false; omega) | rfl))
    | (apply r_geq; rfl; rfl; (first | (apply decide_eq_true; omega) | (apply decide_eq_false; omega) | rfl))
    | (apply r_add; rfl; rfl; rfl; omega)
    | (apply r_pickT; rfl)
    | (apply r_pickF; rfl)
    | (apply r_lenD; rfl)
    | (apply r_lenL; rfl)
    | (apply r_len0; rfl)
    | (apply r_gT; rfl)
    | (apply r_gF'; rfl; rfl)
    | (apply r_gN'; rfl)
    | ((apply r_gS (o := default); rfl) <;> (intro h; try simp only [decide_eq_true_eq, decide_eq_false_iff_not, Bool.not_eq_true, Bool.not_eq_false] at h))
    | (apply r_box; ((conv => lhs; simp only [Nat.reduceAdd]) <;> rfl); rfl; rfl; rfl)
    | (apply r_p; rfl)
    | (apply r_nilK)
    | (apply r_nil)
    | (apply k_V; rfl)
    | (apply k_P; rfl)
    | (apply k_PL; rfl)
    | (apply k_S; rfl)
    | (apply k_SL; rfl)
    | (apply k_A; rfl)
    | (apply k_T; rfl)
    | (apply k_F; rfl)
    | (apply k_D; rfl; rotate_left; rfl)
    | (apply k_nil)
    | (apply e_ret (vs := [.d (.val _)]); rfl)
    | (apply e_ret; rfl)
    | (apply e_ret' (vs := [.d (.val _)]); rfl)
    | (apply e_ret'; rfl)
    | (apply w_seq)
    | (apply w_ops; ((conv => lhs; simp only [Nat.reduceAdd]) <;> rfl))
    | (apply w_condT; rfl)
    | (apply w_condF; rfl)
    | ((apply w_condS; rfl) <;> (intro h; try simp only [decide_eq_true_eq, decide_eq_false_iff_not, Bool.not_eq_true, Bool.not_eq_false] at h))
    | (apply e_thenN)
    | (apply w_block)
    | (apply e_thenR)
    | (apply e_thenX)
    | (apply e_blkN)
    | (apply e_blkR)
    | (apply e_blkE)
    | (apply w_exit)
    | (apply w_ret)
    | (apply w_skip)
    | (apply e_blkE'; rfl))
      apply e_thenK
      apply fin
      refine wkRs (by omega) ?_ ?_
      · intro p hp; simp only [List.mem_cons, List.not_mem_nil, or_false] at hp; rcases hp with rfl <;> exact ⟨by omega, rfl, rfl⟩
      · repeat' (first
    | exact FWk.nil
    | (apply FWk.i; rfl; (first | rfl | omega | (simp; done)))
    | (apply FWk.sl; rfl; rfl; rfl; rfl; omega; rfl)
    | (apply FWk.ptr; rfl; rfl; rfl; omega; rfl)
    | (apply FWk.d; rfl; rfl)
    | (apply FWk.a; rfl; rfl; rfl)
    | (apply FWk.slN; rfl; omega; rfl))
    · rw [List.take_of_length_le hge]
      generalize (knC subs faE).lo = f1
      repeat' (first
    | (apply r_mvV; rfl)
    | (apply r_mvP; rfl)
    | (apply r_mvPL; rfl)
    | (apply r_mvS; rfl)
    | (apply r_mvSL; rfl)
    | (apply r_mvA; rfl)
    | (apply r_mvT; rfl)
    | (apply r_mvF; rfl)
    | (apply r_mvD; rfl)
    | (apply r_faddD; rfl)
    | (apply r_faddL; rfl)
    | (apply r_l; apply ld_kind; assumption; rfl)
    | (apply r_l; apply ld_mn; assumption; rfl)
    | (apply r_l; apply ld_mx; assumption; rfl)
    | (apply r_l; apply ld_subs; assumption; rfl)
    | (apply r_l; apply ld_set; assumption; rfl)
    | (apply r_l; apply ld_node; assumption; rfl)
    | (apply r_l; apply ld_kind'; assumption; rfl)
    | (apply r_l; apply ld_mn'; assumption; rfl)
    | (apply r_l; apply ld_mx'; assumption; rfl)
    | (apply r_l; apply ld_subs'; assumption; rfl)
    | (apply r_l; apply ld_node'; assumption; rfl)
    | (apply r_ldL; rfl; rfl; rfl)
    | (apply r_eql; rfl; rfl; (first | (apply decide_eq_true; omega) | (apply decide_eq_false; omega) | rfl))
    | (apply r_lss; rfl; rfl; (first | (apply decide_eq_true; omega) | (apply decide_eq_false; omega) | rfl))
    | (apply r_gtr; rfl; rfl; (first | (apply decide_eq_true; omega) | (apply decide_eq_false; omega) | rfl))
    | (apply r_geq; rfl; rfl; (first | (apply decide_eq_true; omega) | (apply decide_eq_false; omega) | rfl))
    | (apply r_add; rfl; rfl; rfl; omega)
    | (apply r_pickT; rfl)
    | (apply r_pickF; rfl)
    | (apply r_lenD; rfl)
    | (apply r_lenL; rfl)
    | (apply r_len0; rfl)
    | (apply r_gT; rfl)
    | (apply r_gF'; rfl; rfl)
    | (apply r_gN'; rfl)
    | ((apply r_gS (o := default); rfl) <;> (intro h; try simp only [decide_eq_true_eq, decide_eq_false_iff_not, Bool.not_eq_true, Bool.not_eq_false] at h))
    | (apply r_box; ((conv => lhs; simp only [Nat.reduceAdd]) <;> rfl); rfl; rfl; rfl)
    | (apply r_p; rfl)
    | (apply r_nilK)
    | (apply r_nil)
    | (apply k_V; rfl)
    | (apply k_P; rfl)
    | (apply k_PL; rfl)
    | (apply k_S; rfl)
    | (apply k_SL; rfl)
    | (apply k_A; rfl)
    | (apply k_T; rfl)
    | (apply k_F; rfl)
    | (apply k_D; rfl; rotate_left; rfl)
    | (apply k_nil)
    | (apply e_ret (vs := [.d (.val _)]); rfl)
    | (apply e_ret; rfl)
    | (apply e_ret' (vs := [.d (.val _)]); rfl)
    | (apply e_ret'; rfl)
    | (apply w_seq)
    | (apply w_ops; ((conv => lhs; simp only [Nat.reduceAdd]) <;> rfl))
    | (apply w_condT; rfl)
    | (apply w_condF; rfl)
    | ((apply w_condS; rfl) <;> (intro h; try simp only [decide_eq_true_eq, decide_eq_false_iff_not, Bool.not_eq_true, Bool.not_eq_false] at h))
    | (apply e_thenN)
    | (apply w_block)
    | (apply e_thenR)
    | (apply e_thenX)
    | (apply e_blkN)
    | (apply e_blkR)
    | (apply e_blkE)
    | (apply w_exit)
    | (apply w_ret)
    | (apply w_skip)
    | (apply e_blkE'; rfl))
      exact retI rfl
  by_cases h4 : k = 4
  · have e : knT (T.node k a b c d mn mx subs) = knO subs faNo := by rw [knT, if_neg h2, if_neg h3, if_pos h4]
    rw [e] at hno ⊢
    have hacc : ∀ i, (((knO (subs.take i) faNo).no = true ∧ (knO (subs.take i) faNo).lo = -1) ∨ ((knO (subs.take i) faNo).no = false ∧ 0 ≤ (knO (subs.take i) faNo).lo)) ∧ (knO (subs.take i) faNo).lo < 9223372036854775808 := by
      intro i
      have h1 := knO_ok (openT (T.node k a b c d mn mx subs)).toNat (subs.take i) faNo 0 (Int.le_refl _) (okF_no (Int.le_refl _)) (fun u hu => hsub' u (List.mem_of_mem_take hu))
      have h5 := hpb i
      have h6 := h1.2.2.2.1
      refine ⟨?_, by omega⟩
      cases h4 : (knO (subs.take i) faNo).no with
      | true => exact .inl ⟨rfl, by rw [h1.2.1 h4]; rfl⟩
      | false => exact .inr ⟨rfl, (h1.2.2.1 h4).1⟩
    have hlos : ∀ i (h : i < subs.length), ((knT subs[i]).no = true ∧ (knT subs[i]).lo = -1) ∨ ((knT subs[i]).no = false ∧ 0 ≤ (knT subs[i]).lo) := fun i h => by
      cases h4 : (knT subs[i]).no with
      | true => exact .inl ⟨rfl, by rw [(hksub i h).2.1 h4]; rfl⟩
      | false => exact .inr ⟨rfl, ((hksub i h).2.2.1 h4).1⟩
    have hstep : ∀ i (h : i < subs.length), (knO (subs.take (i + 1)) faNo).lo = if 0 ≤ (knT subs[i]).lo ∧ ((knO (subs.take i) faNo).lo < 0 ∨ (knT subs[i]).lo < (knO (subs.take i) faNo).lo) then (knT subs[i]).lo else (knO (subs.take i) faNo).lo := fun i h => by
      rw [knO_step subs i h]
      have h1 := (hacc i).1
      have h2 := hlos i h
      generalize knO (subs.take i) faNo = f at h1 ⊢
      generalize knT subs[i] = g at h2 ⊢
      rcases h1 with ⟨a1, b1⟩ | ⟨a1, b1⟩
      · rw [faOr, if_pos a1]
        rcases h2 with ⟨a2, b2⟩ | ⟨a2, b2⟩ <;> (split <;> omega)
      · rw [faOr, if_neg (by simp [a1])]
        rcases h2 with ⟨a2, b2⟩ | ⟨a2, b2⟩
        · rw [if_pos a2]; split <;> omega
        · rw [if_neg (by simp [a2])]
          simp only
          split <;> omega
    clear ih hkt hok hbt ht hR hpl hsub' hpb e hksub hoks hno
    refine b62 (by simp) (by simp) (w_init ?_)
    unfold x62
    repeat' (first
    | (apply r_mvV; rfl)
    | (apply r_mvP; rfl)
    | (apply r_mvPL; rfl)
    | (apply r_mvS; rfl)
    | (apply r_mvSL; rfl)
    | (apply r_mvA; rfl)
    | (apply r_mvT; rfl)
    | (apply r_mvF; rfl)
    | (apply r_mvD; rfl)
    | (apply r_faddD; rfl)
    | (apply r_faddL; rfl)
    | (apply r_l; apply ld_kind; assumption; rfl)
    | (apply r_l; apply ld_mn; assumption; rfl)
    | (apply r_l; apply ld_mx; assumption; rfl)
    | (apply r_l; apply ld_subs; assumption; rfl)
    | (apply r_l; apply ld_set; assumption; rfl)
    | (apply r_l; apply ld_node; assumption; rfl)
    | (apply r_l; apply ld_kind'; assumption; rfl)
    | (apply r_l; apply ld_mn'; assumption; rfl)
    | (apply r_l; apply ld_mx'; assumption; rfl)
    | (apply r_l; apply ld_subs'; assumption; rfl)
    | (apply r_l; apply ld_node'; assumption; rfl)
    | (apply r_callA (f := 51); rfl; rfl; exact hnn)
    | (apply r_ldL; rfl; rfl; rfl)
    | (apply r_eql; rfl; rfl; (first | (apply decide_eq_true; omega) | (apply decide_eq_false; omega) | rfl))
    | (apply r_lss; rfl; rfl; (first | (apply decide_eq_true; omega) | (apply decide_eq_false; omega) | rfl))
    | (apply r_gtr; rfl; rfl; (first | (apply decide_eq_true; omega) | (apply decide_eq_false; omega) | rfl))
    | (apply r_geq; rfl; rfl; (first | (apply decide_eq_true; omega) | (apply decide_eq_false; omega) | rfl))
    | (apply r_add; rfl; rfl; rfl; omega)
    | (apply r_pickT; rfl)
    | (apply r_pickF; rfl)
    | (apply r_lenD; rfl)
    | (apply r_lenL; rfl)
    | (apply r_len0; rfl)
    | (apply r_gT; rfl)
    | (apply r_gF'; rfl; rfl)
    | (apply r_gN'; rfl)
    | ((apply r_gS (o := default); rfl) <;> (intro h; try simp only [decide_eq_true_eq, decide_eq_false_iff_not, Bool.not_eq_true, Bool.not_eq_false] at h))
    | (apply r_box; ((conv => lhs; simp only [Nat.reduceAdd]) <;> rfl); rfl; rfl; rfl)
    | (apply r_p; rfl)
    | (apply r_nilK)
    | (apply r_nil)
    | (apply k_V; rfl)
    | (apply k_P; rfl)
    | (apply k_PL; rfl)
    | (apply k_S; rfl)
    | (apply k_SL; rfl)
    | (apply k_A; rfl)
    | (apply k_T; rfl)
    | (apply k_F; rfl)
    | (apply k_D; rfl; rotate_left; rfl)
    | (apply k_nil)
    | (apply e_ret (vs := [.d (.val _)]); rfl)
    | (apply e_ret; rfl)
    | (apply e_ret' (vs := [.d (.val _)]); rfl)
    | (apply e_ret'; rfl)
    | (apply w_seq)
    | (apply w_ops; ((conv => lhs; simp only [Nat.reduceAdd]) <;> rfl))
    | (apply w_condT; rfl)
    | (apply w_condF; rfl)
    | ((apply w_condS; rfl) <;> (intro h; try simp only [decide_eq_true_eq, decide_eq_false_iff_not, Bool.not_eq_true, Bool.not_eq_false] at h))
    | (apply e_thenN)
    | (apply w_block)
    | (apply e_thenR)
    | (apply e_thenX)
    | (apply e_blkN)
    | (apply e_blkR)
    | (apply e_blkE)
    | (apply w_exit)
    | (apply w_ret)
    | (apply w_skip)
    | (apply e_blkE'; rfl))
    apply w_loopI (S := fun i : Nat => ⟨(((Fr.nil.put 1 (.ptrL 1 0)).put 5 (.i (knO (subs.take i) faNo).lo))).put 6 (.i i), rowsOf [(1, [.i k, .d (.val (.int .u64 a)), .d (.val (.int .u64 b)), .d (.val (.int .u64 c)), .d (.val (.int .u64 d)), .i mn, .i mx, .d (.sl (encL subs) subs.length)])], Frz.lo 100, 100⟩) (m := fun i => subs.length - i) (I := fun i => i ≤ subs.length) (i0 := 0)
    · exact Nat.zero_le _
    · refine wkRs (by omega) ?_ ?_
      · intro p hp; simp only [List.mem_cons, List.not_mem_nil, or_false] at hp; rcases hp with rfl <;> exact ⟨by omega, rfl, rfl⟩
      · repeat' (first
    | exact FWk.nil
    | (apply FWk.i; rfl; (first | rfl | omega | (simp; done)))
    | (apply FWk.sl; rfl; rfl; rfl; rfl; omega; rfl)
    | (apply FWk.ptr; rfl; rfl; rfl; omega; rfl)
    | (apply FWk.d; rfl; rfl)
    | (apply FWk.a; rfl; rfl; rfl)
    | (apply FWk.slN; rfl; omega; rfl))
    intro i K hi hK
    dsimp only
    rcases Nat.lt_or_ge i subs.length with hlt | hge
    · have hsu := NodeAt.sub hlt
      have hg := ih' i hlt
      have hs1 := hstep i hlt
      have hb1 := (hacc i).2
      have hnu := nodeA_nrm subs[i]
      have hna : [nodeA subs[i]].all AV.nrm = true := by rw [List.all_cons, hnu]; rfl
      have fin : ∀ fr C Z nx, Wk ⟨fr, C, Z, nx⟩ ⟨(((Fr.nil.put 1 (.ptrL 1 0)).put 5 (.i (if 0 ≤ (knT subs[i]).lo ∧ ((knO (subs.take i) faNo).lo < 0 ∨ (knT subs[i]).lo < (knO (subs.take i) faNo).lo) then (knT subs[i]).lo else (knO (subs.take i) faNo).lo)))).put 6 (.i ((i + 1 : Nat) : Int)), rowsOf [(1, [.i k, .d (.val (.int .u64 a)), .d (.val (.int .u64 b)), .d (.val (.int .u64 c)), .d (.val (.int .u64 d)), .i mn, .i mx, .d (.sl (encL subs) subs.length)])], Frz.lo 100, 100⟩ → K ⟨fr, C, Z, nx⟩ := fun fr C Z nx hw => hK (i + 1) fr C Z nx (by omega) (by omega) (by rw [hs1]; exact hw)
      clear hs1
      generalize (knO (subs.take i) faNo).lo = f1 at *
      generalize (knT subs[i]).lo = g1 at *
      generalize subs[i] = u at hsu hg hna
      clear hacc hstep hlos ih'
      by_cases c1 : 0 ≤ g1
      · by_cases c2 : f1 < 0
        · rw [if_pos ⟨c1, .inl c2⟩] at fin
          repeat' (first
    | (apply r_mvV; rfl)
    | (apply r_mvP; rfl)
    | (apply r_mvPL; rfl)
    | (apply r_mvS; rfl)
    | (apply r_mvSL; rfl)
    | (apply r_mvA; rfl)
    | (apply r_mvT; rfl)
    | (apply r_mvF; rfl)
    | (apply r_mvD; rfl)
    | (apply r_faddD; rfl)
    | (apply r_faddL; rfl)
    | (apply r_l; apply ld_kind; assumption; rfl)
    | (apply r_l; apply ld_mn; assumption; rfl)
    | (apply r_l; apply ld_mx; assumption; rfl)
    | (apply r_l; apply ld_subs; assumption; rfl)
    | (apply r_l; apply ld_set; assumption; rfl)
    | (apply r_l; apply ld_node; assumption; rfl)
    | (apply r_l; apply ld_kind'; assumption; rfl)
    | (apply r_l; apply ld_mn'; assumption; rfl)
    | (apply r_l; apply ld_mx'; assumption; rfl)
    | (apply r_l; apply ld_subs'; assumption; rfl)
    | (apply r_l; apply ld_node'; assumption; rfl)
    | (apply r_p; apply ix_sub; rfl; rfl; omega)
    | (apply r_l; apply ld_node'; exact hsu; rfl)
    | (apply r_callA (f := 62) (ags := [nodeA u]); rfl; exact hna; exact hg)
    | (apply r_ldL; rfl; rfl; rfl)
    | (apply r_eql; rfl; rfl; (first | (apply decide_eq_true; omega) | (apply decide_eq_false; omega) | rfl))
    | (apply r_lss; rfl; rfl; (first | (apply decide_eq_true; omega) | (apply decide_eq_false; omega) | rfl))
    | (apply r_gtr; rfl; rfl; (first | (apply decide_eq_true; omega) | (apply decide_eq_false; omega) | rfl))
    | (apply r_geq; rfl; rfl; (first | (apply decide_eq_true; omega) | (apply decide_eq_false; omega) | rfl))
    | (apply r_add; rfl; rfl; rfl; omega)
    | (apply r_pickT; rfl)
    | (apply r_pickF; rfl)
    | (apply r_lenD; rfl)
    | (apply r_lenL; rfl)
    | (apply r_len0; rfl)
    | (apply r_gT; rfl)
    | (apply r_gF'; rfl; rfl)
    | (apply r_gN'; rfl)
    | ((apply r_gS (o := default); rfl) <;> (intro h; try simp only [decide_eq_true_eq, decide_eq_false_iff_not, Bool.not_eq_true, Bool.not_eq_false] at h))
    | (apply r_box; ((conv => lhs; simp only [Nat.reduceAdd]) <;> rfl); rfl; rfl; rfl)
    | (apply r_p; rfl)
    | (apply r_nilK)
    | (apply r_nil)
    | (apply k_V; rfl)
    | (apply k_P; rfl)
    | (apply k_PL; rfl)
    | (apply k_S; rfl)
    | (apply k_SL; rfl)
    | (apply k_A; rfl)
    | (apply k_T; rfl)
    | (apply k_F; rfl)
    | (apply k_D; rfl; rotate_left; rfl)
    | (apply k_nil)
    | (apply e_ret (vs := [.d (.val _)]); rfl)
    | (apply e_ret; rfl)
    | (apply e_ret' (vs := [.d (.val _)]); rfl)
    | (apply e_ret'; rfl)
    | (apply w_seq)
    | (apply w_ops; ((conv => lhs; simp only [Nat.reduceAdd]) <;> rfl))
    | (apply w_condT; rfl)
    | (apply w_condF; rfl)
    | ((apply w_condS; rfl) <;> (intro h; try simp only [decide_eq_true_eq, decide_eq_false_iff_not, Bool.not_eq_true, Bool.not_eq_false] at h))
    | (apply e_thenN)
    | (apply w_block)
    | (apply e_thenR)
    | (apply e_thenX)
    | (apply e_blkN)
    | (apply e_blkR)
    | (apply e_blkE)
    | (apply w_exit)
    | (apply w_ret)
    | (apply w_skip)
    | (apply e_blkE'; rfl))
          apply e_thenK
          apply fin
          refine wkRs (by omega) ?_ ?_
          · intro p hp; simp only [List.mem_cons, List.not_mem_nil, or_false] at hp; rcases hp with rfl <;> exact ⟨by omega, rfl, rfl⟩
          · repeat' (first
    | exact FWk.nil
    | (apply FWk.i; rfl; (first | rfl | omega | (simp; done)))
    | (apply FWk.sl; rfl; rfl; rfl; rfl; omega; rfl)
    | (apply FWk.ptr; rfl; rfl; rfl; omega; rfl)
    | (apply FWk.d; rfl; rfl)
    | (apply FWk.a; rfl; rfl; rfl)
    | (apply FWk.slN; rfl; omega; rfl))
        · by_cases c3 : g1 < f1
          · rw [if_pos ⟨c1, .inr c3⟩] at fin
            repeat' (first
    | (apply r_mvV; rfl)
    | (apply r_mvP; rfl)
    | (apply r_mvPL; rfl)
    | (apply r_mvS; rfl)
    | (apply r_mvSL; rfl)
    | (apply r_mvA; rfl)
    | (apply r_mvT; rfl)
    | (apply r_mvF; rfl)
    | (apply r_mvD; rfl)
    | (apply r_faddD; rfl)
    | (apply r_faddL; rfl)
    | (apply r_l; apply ld_kind; assumption; rfl)
    | (apply r_l; apply ld_mn; assumption; rfl)
    | (apply r_l; apply ld_mx; assumption; rfl)
    | (apply r_l; apply ld_subs; assumption; rfl)
    | (apply r_l; apply ld_set; assumption; rfl)
    | (apply r_l; apply ld_node; assumption; rfl)
    | (apply r_l; apply ld_kind'; assumption; rfl)
    | (apply r_l; apply ld_mn'; assumption; rfl)
    | (apply r_l; apply ld_mx'; assumption; rfl)
    | (apply r_l; apply ld_subs'; assumption; rfl)
    | (apply r_l; apply ld_node'; assumption; rfl)
    | (apply r_p; apply ix_sub; rfl; rfl; omega)
    | (apply r_l; apply ld_node'; exact hsu; rfl)
    | (apply r_callA (f := 62) (ags := [nodeA u]); rfl; exact hna; exact hg)
    | (apply r_ldL; rfl; rfl; rfl)
    | (apply r_eql; rfl; rfl; (first | (apply decide_eq_true; omega) | (apply decide_eq_false; omega) | rfl))
    | (apply r_lss; rfl; rfl; (first | (apply decide_eq_true; omega) | (apply decide_eq_false; omega) | rfl))
    | (apply r_gtr; rfl; rfl; (first | (apply decide_eq_true; omega) | (apply decide_eq_false; omega) | rfl))
    | (apply r_geq; rfl; rfl; (first | (apply decide_eq_true; omega) | (apply decide_eq_false; omega) | rfl))
    | (apply r_add; rfl; rfl; rfl; omega)
    | (apply r_pickT; rfl)
    | (apply r_pickF; rfl)
    | (apply r_lenD; rfl)
    | (apply r_lenL; rfl)
    | (apply r_len0; rfl)
    | (apply r_gT; rfl)
    | (apply r_gF'; rfl; rfl)
    | (apply r_gN'; rfl)
    | ((apply r_gS (o := default); rfl) <;> (intro h; try simp only [decide_eq_true_eq, decide_eq_false_iff_not, Bool.not_eq_true, Bool.not_eq_false] at h))
    | (apply r_box; ((conv => lhs; simp only [Nat.reduceAdd]) <;> rfl); rfl; rfl; rfl)
    | (apply r_p; rfl)
    | (apply r_nilK)
    | (apply r_nil)
    | (apply k_V; rfl)
    | (apply k_P; rfl)
    | (apply k_PL; rfl)
    | (apply k_S; rfl)
    | (apply k_SL; rfl)
    | (apply k_A; rfl)
    | (apply k_T; rfl)
    | (apply k_F; rfl)
    | (apply k_D; rfl; rotate_left; rfl)
    | (apply k_nil)
    | (apply e_ret (vs := [.d (.val _)]); rfl)
    | (apply e_ret; rfl)
    | (apply e_ret' (vs := [.d (.val _)]); rfl)
    | (apply e_ret'; rfl)
    | (apply w_seq)
    | (apply w_ops; ((conv => lhs; simp only [Nat.reduceAdd]) <;> rfl))
    | (apply w_condT; rfl)
    | (apply w_condF; rfl)
    | ((apply w_condS; rfl) <;> (intro h; try simp only [decide_eq_true_eq, decide_eq_false_iff_not, Bool.not_eq_true, Bool.not_eq_false] at h))
    | (apply e_thenN)
    | (apply w_block)
    | (apply e_thenR)
    | (apply e_thenX)
    | (apply e_blkN)
    | (apply e_blkR)
    | (apply e_blkE)
    | (apply w_exit)
    | (apply w_ret)
    | (apply w_skip)
    | (apply e_blkE'; rfl))
            apply e_thenK
            apply fin
            refine wkRs (by omega) ?_ ?_
            · intro p hp; simp only [List.mem_cons, List.not_mem_nil, or_false] at hp; rcases hp with rfl <;> exact ⟨by omega, rfl, rfl⟩
            · repeat' (first
    | exact FWk.nil
    | (apply FWk.i; rfl; (first | rfl | omega | (simp; done)))
    | (apply FWk.sl; rfl; rfl; rfl; rfl; omega; rfl)
    | (apply FWk.ptr; rfl; rfl; rfl; omega; rfl)
    | (apply FWk.d; rfl; rfl)
    | (apply FWk.a; rfl; rfl; rfl)
    | (apply FWk.slN; rfl; omega; rfl))
          · rw [if_neg (by omega)] at fin
            repeat' (first
    | (apply r_mvV; rfl)
    | (apply r_mvP; rfl)
    | (apply r_mvPL; rfl)
    | (apply r_mvS; rfl)
    | (apply r_mvSL; rfl)
    | (apply r_mvA; rfl)
    | (apply r_mvT; rfl)
    | (apply r_mvF; rfl)
    | (apply r_mvD; rfl)
    | (apply r_faddD; rfl)
    | (apply r_faddL; rfl)
    | (apply r_l; apply ld_kind; assumption; rfl)
    | (apply r_l; apply ld_mn; assumption; rfl)
    | (apply r_l; apply ld_mx; assumption; rfl)
    | (apply r_l; apply ld_subs; assumption; rfl)
    | (apply r_l; apply ld_set; assumption; rfl)
    | (apply r_l; apply ld_node; assumption; rfl)
    | (apply r_l; apply ld_kind'; assumption; rfl)
    | (apply r_l; apply ld_mn'; assumption; rfl)
    | (apply r_l; apply ld_mx'; assumption; rfl)
    | (apply r_l; apply ld_subs'; assumption; rfl)
    | (apply r_l; apply ld_node'; assumption; rfl)
    | (apply r_p; apply ix_sub; rfl; rfl; omega)
    | (apply r_l; apply ld_node'; exact hsu; rfl)
    | (apply r_callA (f := 62) (ags := [nodeA u]); rfl; exact hna; exact hg)
    | (apply r_ldL; rfl; rfl; rfl)
    | (apply r_eql; rfl; rfl; (first | (apply decide_eq_true; omega) | (apply decide_eq_false; omega) | rfl))
    | (apply r_lss; rfl; rfl; (first | (apply decide_eq_true; omega) | (apply decide_eq_false; omega) | rfl))
    | (apply r_gtr; rfl; rfl; (first | (apply decide_eq_true; omega) | (apply decide_eq_false; omega) | rfl))
    | (apply r_geq; rfl; rfl; (first | (apply decide_eq_true; omega) | (apply decide_eq_false; omega) | rfl))
    | (apply r_add; rfl; rfl; rfl; omega)
    | (apply r_pickT; rfl)
    | (apply r_pickF; rfl)
    | (apply r_lenD; rfl)
    | (apply r_lenL; rfl)
    | (apply r_len0; rfl)
    | (apply r_gT; rfl)
    | (apply r_gF'; rfl; rfl)
    | (apply r_gN'; rfl)
    | ((apply r_gS (o := default); rfl) <;> (intro h; try simp only [decide_eq_true_eq, decide_eq_false_iff_not, Bool.not_eq_true, Bool.not_eq_false] at h))
    | (apply r_box; ((conv => lhs; simp only [Nat.reduceAdd]) <;> rfl); rfl; rfl; rfl)
    | (apply r_p; rfl)
    | (apply r_nilK)
    | (apply r_nil)
    | (apply k_V; rfl)
    | (apply k_P; rfl)
    | (apply k_PL; rfl)
    | (apply k_S; rfl)
    | (apply k_SL; rfl)
    | (apply k_A; rfl)
    | (apply k_T; rfl)
    | (apply k_F; rfl)
    | (apply k_D; rfl; rotate_left; rfl)
    | (apply k_nil)
    | (apply e_ret (vs := [.d (.val _)]); rfl)
    | (apply e_ret; rfl)
    | (apply e_ret' (vs := [.d (.val _)]); rfl)
    | (apply e_ret'; rfl)
    | (apply w_seq)
    | (apply w_ops; ((conv => lhs; simp only [Nat.reduceAdd]) <;> rfl))
    | (apply w_condT; rfl)
    | (apply w_condF; rfl)
    | ((apply w_condS; rfl) <;> (intro h; try simp only [decide_eq_true_eq, decide_eq_false_iff_not, Bool.not_eq_true, Bool.not_eq_false] at h))
    | (apply e_thenN)
    | (apply w_block)
    | (apply e_thenR)
    | (apply e_thenX)
    | (apply e_blkN)
    | (apply e_blkR)
    | (apply e_blkE)
    | (apply w_exit)
    | (apply w_ret)
    | (apply w_skip)
    | (apply e_blkE'; rfl))
            apply e_thenK
            apply fin
            refine wkRs (by omega) ?_ ?_
            · intro p hp; simp only [List.mem_cons, List.not_mem_nil, or_false] at hp; rcases hp with rfl <;> exact ⟨by omega, rfl, rfl⟩
            · repeat' (first
    | exact FWk.nil
    | (apply FWk.i; rfl; (first | rfl | omega | (simp; done)))
    | (apply FWk.sl; rfl; rfl; rfl; rfl; omega; rfl)
    | (apply FWk.ptr; rfl; rfl; rfl; omega; rfl)
    | (apply FWk.d; rfl; rfl)
    | (apply FWk.a; rfl; rfl; rfl)
    | (apply FWk.slN; rfl; omega; rfl))
      · rw [if_neg (by omega)] at fin
        repeat' (first
    | (apply r_mvV; rfl)
    | (apply r_mvP; rfl)
    | (apply r_mvPL; rfl)
    | (apply r_mvS; rfl)
    | (apply r_mvSL; rfl)
    | (apply r_mvA; rfl)
    | (apply r_mvT; rfl)
    | (apply r_mvF; rfl)
    | (apply r_mvD; rfl)
    | (apply r_faddD; rfl)
    | (apply r_faddL; rfl)
    | (apply r_l; apply ld_kind; assumption; rfl)
    | (apply r_l; apply ld_mn; assumption; rfl)
    | (apply r_l; apply ld_mx; assumption; rfl)
    | (apply r_l; apply ld_subs; assumption; rfl)
    | (apply r_l; apply ld_set; assumption; rfl)
    | (apply r_l; apply ld_node; assumption; rfl)
    | (apply r_l; apply ld_kind'; assumption; rfl)
    | (apply r_l; apply ld_mn'; assumption; rfl)
    | (apply r_l; apply ld_mx'; assumption; rfl)
    | (apply r_l; apply ld_subs'; assumption; rfl)
    | (apply r_l; apply ld_node'; assumption; rfl)
    | (apply r_p; apply ix_sub; rfl; rfl; omega)
    | (apply r_l; apply ld_node'; exact hsu; rfl)
    | (apply r_callA (f := 62) (ags := [nodeA u]); rfl; exact hna; exact hg)
    | (apply r_ldL; rfl; rfl; rfl)
    | (apply r_eql; rfl; rfl; (first | (apply decide_eq_true; omega) | (apply decide_eq_false; omega) | rfl))
    | (apply r_lss; rfl; rfl; (first | (apply decide_eq_true; omega) | (apply decide_eq_false; omega) | rfl))
    | (apply r_gtr; rfl; rfl; (first | (apply decide_eq_true; omega) | (apply decide_eq_false; omega) | rfl))
    | (apply r_geq; rfl; rfl; (first | (apply decide_eq_true; omega) | (apply decide_eq_false; omega) | rfl))
    | (apply r_add; rfl; rfl; rfl; omega)
    | (apply r_pickT; rfl)
    | (apply r_pickF; rfl)
    | (apply r_lenD; rfl)
    | (apply r_lenL; rfl)
    | (apply r_len0; rfl)
    | (apply r_gT; rfl)
    | (apply r_gF'; rfl; rfl)
    | (apply r_gN'; rfl)
    | ((apply r_gS (o := default); rfl) <;> (intro h; try simp only [decide_eq_true_eq, decide_eq_false_iff_not, Bool.not_eq_true, Bool.not_eq_false] at h))
    | (apply r_box; ((conv => lhs; simp only [Nat.reduceAdd]) <;> rfl); rfl; rfl; rfl)
    | (apply r_p; rfl)
    | (apply r_nilK)
    | (apply r_nil)
    | (apply k_V; rfl)
    | (apply k_P; rfl)
    | (apply k_PL; rfl)
    | (apply k_S; rfl)
    | (apply k_SL; rfl)
    | (apply k_A; rfl)
    | (apply k_T; rfl)
    | (apply k_F; rfl)
    | (apply k_D; rfl; rotate_left; rfl)
    | (apply k_nil)
    | (apply e_ret (vs := [.d (.val _)]); rfl)
    | (apply e_ret; rfl)
    | (apply e_ret' (vs := [.d (.val _)]); rfl)
    | (apply e_ret'; rfl)
    | (apply w_seq)
    | (apply w_ops; ((conv => lhs; simp only [Nat.reduceAdd]) <;> rfl))
    | (apply w_condT; rfl)
    | (apply w_condF; rfl)
    | ((apply w_condS; rfl) <;> (intro h; try simp only [decide_eq_true_eq, decide_eq_false_iff_not, Bool.not_eq_true, Bool.not_eq_false] at h))
    | (apply e_thenN)
    | (apply w_block)
    | (apply e_thenR)
    | (apply e_thenX)
    | (apply e_blkN)
    | (apply e_blkR)
    | (apply e_blkE)
    | (apply w_exit)
    | (apply w_ret)
    | (apply w_skip)
    | (apply e_blkE'; rfl))
        apply e_thenK
        apply fin
        refine wkRs (by omega) ?_ ?_
        · intro p hp; simp only [List.mem_cons, List.not_mem_nil, or_false] at hp; rcases hp with rfl <;> exact ⟨by omega, rfl, rfl⟩
        · repeat' (first
    | exact FWk.nil
    | (apply FWk.i; rfl; (first | rfl | omega | (simp; done)))
    | (apply FWk.sl; rfl; rfl; rfl; rfl; omega; rfl)
    | (apply FWk.ptr; rfl; rfl; rfl; omega; rfl)
    | (apply FWk.d; rfl; rfl)
    | (apply FWk.a; rfl; rfl; rfl)
    | (apply FWk.slN; rfl; omega; rfl))
    · rw [List.take_of_length_le hge]
      generalize (knO subs faNo).lo = f1
      repeat' (first
    | (apply r_mvV; rfl)
    | (apply r_mvP; rfl)
    | (apply r_mvPL; rfl)
    | (apply r_mvS; rfl)
    | (apply r_mvSL; rfl)
    | (apply r_mvA; rfl)
    | (apply r_mvT; rfl)
    | (apply r_mvF; rfl)
    | (apply r_mvD; rfl)
    | (apply r_faddD; rfl)
    | (apply r_faddL; rfl)
    | (apply r_l; apply ld_kind; assumption; rfl)
    | (apply r_l; apply ld_mn; assumption; rfl)
    | (apply r_l; apply ld_mx; assumption; rfl)
    | (apply r_l; apply ld_subs; assumption; rfl)
    | (apply r_l; apply ld_set; assumption; rfl)
    | (apply r_l; apply ld_node; assumption; rfl)
    | (apply r_l; apply ld_kind'; assumption; rfl)
    | (apply r_l; apply ld_mn'; assumption; rfl)
    | (apply r_l; apply ld_mx'; assumption; rfl)
    | (apply r_l; apply ld_subs'; assumption; rfl)
    | (apply r_l; apply ld_node'; assumption; rfl)
    | (apply r_ldL; rfl; rfl; rfl)
    | (apply r_eql; rfl; rfl; (first | (apply decide_eq_true; omega) | (apply decide_eq_false; omega) | rfl))
    | (apply r_lss; rfl; rfl; (first | (apply decide_eq_true; omega) | (apply decide_eq_false; omega) | rfl))
    | (apply r_gtr; rfl; rfl; (first | (apply decide_eq_true; omega) | (apply decide_eq_false; omega) | rfl))
    | (apply r_geq; rfl; rfl; (first | (apply decide_eq_true; omega) | (apply decide_eq_false; omega) | rfl))
    | (apply r_add; rfl; rfl; rfl; omega)
    | (apply r_pickT; rfl)
    | (apply r_pickF; rfl)
    | (apply r_lenD; rfl)
    | (apply r_lenL; rfl)
    | (apply r_len0; rfl)
    | (apply r_gT; rfl)
    | (apply r_gF'; rfl; rfl)
    | (apply r_gN'; rfl)
    | ((apply r_gS (o := default); rfl) <;> (intro h; try simp only [decide_eq_true_eq, decide_eq_false_iff_not, Bool.not_eq_true, Bool.not_eq_false] at h))
    | (apply r_box; ((conv => lhs; simp only [Nat.reduceAdd]) <;> rfl); rfl; rfl; rfl)
    | (apply r_p; rfl)
    | (apply r_nilK)
    | (apply r_nil)
    | (apply k_V; rfl)
    | (apply k_P; rfl)
    | (apply k_PL; rfl)
    | (apply k_S; rfl)
    | (apply k_SL; rfl)
    | (apply k_A; rfl)
    | (apply k_T; rfl)
    | (apply k_F; rfl)
    | (apply k_D; rfl; rotate_left; rfl)
    | (apply k_nil)
    | (apply e_ret (vs := [.d (.val _)]); rfl)
    | (apply e_ret; rfl)
    | (apply e_ret' (vs := [.d (.val _)]); rfl)
    | (apply e_ret'; rfl)
    | (apply w_seq)
    | (apply w_ops; ((conv => lhs; simp only [Nat.reduceAdd]) <;> rfl))
    | (apply w_condT; rfl)
    | (apply w_condF; rfl)
    | ((apply w_condS; rfl) <;> (intro h; try simp only [decide_eq_true_eq, decide_eq_false_iff_not, Bool.not_eq_true, Bool.not_eq_false] at h))
    | (apply e_thenN)
    | (apply w_block)
    | (apply e_thenR)
    | (apply e_thenX)
    | (apply e_blkN)
    | (apply e_blkR)
    | (apply e_blkE)
    | (apply w_exit)
    | (apply w_ret)
    | (apply w_skip)
    | (apply e_blkE'; rfl))
      exact retI rfl
  by_cases h5 : k = 5
  · obtain ⟨u, rfl⟩ : ∃ u, subs = [u] := by
      subst h5; exact plainT_5 hpl
    have e : knT (.node k a b c d mn mx [u]) = faTimes (knT u) mn mx := by rw [knT, if_neg h2, if_neg h3, if_neg h4, if_pos h5, knR]
    have hr := hR h5
    have hg := ih' 0 (by simp)
    simp only [List.getElem_cons_zero] at hg
    have hs := NodeAt.sub (l := [u]) (i := 0) (by simp)
    simp only [List.getElem_cons_zero, Nat.zero_mul] at hs
    have h22 := hkt.2.2.2.1
    have hku := hksub 0 (by simp)
    simp only [List.getElem_cons_zero] at hku
    rw [e] at hno h22 ⊢
    have hnu := nodeA_nrm u
    have hna : [nodeA u].all AV.nrm = true := by rw [List.all_cons, hnu]; rfl
    clear ih ih' hksub hkt hok hoks ht hsub' hpb e hR hpl
    by_cases c1 : 0 < mn
    · have hlo : (faTimes (knT u) mn mx).lo = mn * (knT u).lo := by
        unfold faTimes at hno ⊢
        rw [if_neg (by omega)] at hno ⊢
        split
        · rename_i hf; rw [if_pos hf] at hno; simp [faNo] at hno
        · exact Int.mul_comm _ _
      have hge0 : -9223372036854775808 ≤ mn * (knT u).lo := by
        have : (knT u).no = false := by
          cases hx : (knT u).no with
          | false => rfl
          | true =>
            unfold faTimes at hno
            rw [if_neg (by omega), if_pos hx] at hno
            simp [faNo] at hno
        have h0 : -1 ≤ (knT u).lo := by
          have := (hku.2.2.1 this).1
          omega
        have : mn * (-1) ≤ mn * (knT u).lo := Int.mul_le_mul_of_nonneg_left h0 (by omega)
        omega
      rw [hlo] at h22 ⊢
      have hrange : -9223372036854775808 ≤ mn * (knT u).lo ∧ mn * (knT u).lo < 9223372036854775808 := by omega
      generalize (knT u).lo = g1 at *
      refine b62 (by simp) (by simp) (w_init ?_)
      unfold x62
      repeat' (first
    | (apply r_mvV; rfl)
    | (apply r_mvP; rfl)
    | (apply r_mvPL; rfl)
    | (apply r_mvS; rfl)
    | (apply r_mvSL; rfl)
    | (apply r_mvA; rfl)
    | (apply r_mvT; rfl)
    | (apply r_mvF; rfl)
    | (apply r_mvD; rfl)
    | (apply r_faddD; rfl)
    | (apply r_faddL; rfl)
    | (apply r_l; apply ld_kind; assumption; rfl)
    | (apply r_l; apply ld_mn; assumption; rfl)
    | (apply r_l; apply ld_mx; assumption; rfl)
    | (apply r_l; apply ld_subs; assumption; rfl)
    | (apply r_l; apply ld_set; assumption; rfl)
    | (apply r_l; apply ld_node; assumption; rfl)
    | (apply r_l; apply ld_kind'; assumption; rfl)
    | (apply r_l; apply ld_mn'; assumption; rfl)
    | (apply r_l; apply ld_mx'; assumption; rfl)
    | (apply r_l; apply ld_subs'; assumption; rfl)
    | (apply r_l; apply ld_node'; assumption; rfl)
    | (apply r_callA (f := 51); rfl; rfl; exact hnn)
    | (apply r_p; apply ix_sub0; rfl; rfl; simp)
    | (apply r_l; apply ld_node'; exact hs; rfl)
    | (apply r_callA (f := 62) (ags := [nodeA u]); rfl; exact hna; exact hg)
    | (apply r_mul; rfl; rfl; rfl; exact hrange)
    | (apply r_ldL; rfl; rfl; rfl)
    | (apply r_eql; rfl; rfl; (first | (apply decide_eq_true; omega) | (apply decide_eq_false; omega) | rfl))
    | (apply r_lss; rfl; rfl; (first | (apply decide_eq_true; omega) | (apply decide_eq_false; omega) | rfl))
    | (apply r_gtr; rfl; rfl; (first | (apply decide_eq_true; omega) | (apply decide_eq_false; omega) | rfl))
    | (apply r_geq; rfl; rfl; (first | (apply decide_eq_true; omega) | (apply decide_eq_false; omega) | rfl))
    | (apply r_add; rfl; rfl; rfl; omega)
    | (apply r_pickT; rfl)
    | (apply r_pickF; rfl)
    | (apply r_lenD; rfl)
    | (apply r_lenL; rfl)
    | (apply r_len0; rfl)
    | (apply r_gT; rfl)
    | (apply r_gF'; rfl; rfl)
    | (apply r_gN'; rfl)
    | ((apply r_gS (o := default); rfl) <;> (intro h; try simp only [decide_eq_true_eq, decide_eq_false_iff_not, Bool.not_eq_true, Bool.not_eq_false] at h))
    | (apply r_box; ((conv => lhs; simp only [Nat.reduceAdd]) <;> rfl); rfl; rfl; rfl)
    | (apply r_p; rfl)
    | (apply r_nilK)
    | (apply r_nil)
    | (apply k_V; rfl)
    | (apply k_P; rfl)
    | (apply k_PL; rfl)
    | (apply k_S; rfl)
    | (apply k_SL; rfl)
    | (apply k_A; rfl)
    | (apply k_T; rfl)
    | (apply k_F; rfl)
    | (apply k_D; rfl; rotate_left; rfl)
    | (apply k_nil)
    | (apply e_ret (vs := [.d (.val _)]); rfl)
    | (apply e_ret; rfl)
    | (apply e_ret' (vs := [.d (.val _)]); rfl)
    | (apply e_ret'; rfl)
    | (apply w_seq)
    | (apply w_ops; ((conv => lhs; simp only [Nat.reduceAdd]) <;> rfl))
    | (apply w_condT; rfl)
    | (apply w_condF; rfl)
    | ((apply w_condS; rfl) <;> (intro h; try simp only [decide_eq_true_eq, decide_eq_false_iff_not, Bool.not_eq_true, Bool.not_eq_false] at h))
    | (apply e_thenN)
    | (apply w_block)
    | (apply e_thenR)
    | (apply e_thenX)
    | (apply e_blkN)
    | (apply e_blkR)
    | (apply e_blkE)
    | (apply w_exit)
    | (apply w_ret)
    | (apply w_skip)
    | (apply e_blkE'; rfl))
      exact retI rfl
    · have hlo : (faTimes (knT u) mn mx).lo = 0 := by
        have : mn = 0 := by omega
        subst this
        unfold faTimes at hno ⊢
        split
        · rfl
        · split
          · rename_i h1 h2; simp [h2] at h1
          · simp
      rw [hlo]
      refine b62 (by simp) (by simp) (w_init ?_)
      unfold x62
      repeat' (first
    | (apply r_mvV; rfl)
    | (apply r_mvP; rfl)
    | (apply r_mvPL; rfl)
    | (apply r_mvS; rfl)
    | (apply r_mvSL; rfl)
    | (apply r_mvA; rfl)
    | (apply r_mvT; rfl)
    | (apply r_mvF; rfl)
    | (apply r_mvD; rfl)
    | (apply r_faddD; rfl)
    | (apply r_faddL; rfl)
    | (apply r_l; apply ld_kind; assumption; rfl)
    | (apply r_l; apply ld_mn; assumption; rfl)
    | (apply r_l; apply ld_mx; assumption; rfl)
    | (apply r_l; apply ld_subs; assumption; rfl)
    | (apply r_l; apply ld_set; assumption; rfl)
    | (apply r_l; apply ld_node; assumption; rfl)
    | (apply r_l; apply ld_kind'; assumption; rfl)
    | (apply r_l; apply ld_mn'; assumption; rfl)
    | (apply r_l; apply ld_mx'; assumption; rfl)
    | (apply r_l; apply ld_subs'; assumption; rfl)
    | (apply r_l; apply ld_node'; assumption; rfl)
    | (apply r_callA (f := 51); rfl; rfl; exact hnn)
    | (apply r_ldL; rfl; rfl; rfl)
    | (apply r_eql; rfl; rfl; (first | (apply decide_eq_true; omega) | (apply decide_eq_false; omega) | rfl))
    | (apply r_lss; rfl; rfl; (first | (apply decide_eq_true; omega) | (apply decide_eq_false; omega) | rfl))
    | (apply r_gtr; rfl; rfl; (first | (apply decide_eq_true; omega) | (apply decide_eq_false; omega) | rfl))
    | (apply r_geq; rfl; rfl; (first | (apply decide_eq_true; omega) | (apply decide_eq_false; omega) | rfl))
    | (apply r_add; rfl; rfl; rfl; omega)
    | (apply r_pickT; rfl)
    | (apply r_pickF; rfl)
    | (apply r_lenD; rfl)
    | (apply r_lenL; rfl)
    | (apply r_len0; rfl)
    | (apply r_gT; rfl)
    | (apply r_gF'; rfl; rfl)
    | (apply r_gN'; rfl)
    | ((apply r_gS (o := default); rfl) <;> (intro h; try simp only [decide_eq_true_eq, decide_eq_false_iff_not, Bool.not_eq_true, Bool.not_eq_false] at h))
    | (apply r_box; ((conv => lhs; simp only [Nat.reduceAdd]) <;> rfl); rfl; rfl; rfl)
    | (apply r_p; rfl)
    | (apply r_nilK)
    | (apply r_nil)
    | (apply k_V; rfl)
    | (apply k_P; rfl)
    | (apply k_PL; rfl)
    | (apply k_S; rfl)
    | (apply k_SL; rfl)
    | (apply k_A; rfl)
    | (apply k_T; rfl)
    | (apply k_F; rfl)
    | (apply k_D; rfl; rotate_left; rfl)
    | (apply k_nil)
    | (apply e_ret (vs := [.d (.val _)]); rfl)
    | (apply e_ret; rfl)
    | (apply e_ret' (vs := [.d (.val _)]); rfl)
    | (apply e_ret'; rfl)
    | (apply w_seq)
    | (apply w_ops; ((conv => lhs; simp only [Nat.reduceAdd]) <;> rfl))
    | (apply w_condT; rfl)
    | (apply w_condF; rfl)
    | ((apply w_condS; rfl) <;> (intro h; try simp only [decide_eq_true_eq, decide_eq_false_iff_not, Bool.not_eq_true, Bool.not_eq_false] at h))
    | (apply e_thenN)
    | (apply w_block)
    | (apply e_thenR)
    | (apply e_thenX)
    | (apply e_blkN)
    | (apply e_blkR)
    | (apply e_blkE)
    | (apply w_exit)
    | (apply w_ret)
    | (apply w_skip)
    | (apply e_blkE'; rfl))
      exact retI rfl
  · have e : (knT (T.node k a b c d mn mx subs)).lo = 0 := by rw [knT, if_neg h2, if_neg h3, if_neg h4, if_neg h5]; rfl
    rw [e]
    clear ih ih' hksub hkt hok hoks hbt ht hsub' hpb hR hpl hno e
    refine b62 (by simp) (by simp) (w_init ?_)
    unfold x62
    repeat' (first
    | (apply r_mvV; rfl)
    | (apply r_mvP; rfl)
    | (apply r_mvPL; rfl)
    | (apply r_mvS; rfl)
    | (apply r_mvSL; rfl)
    | (apply r_mvA; rfl)
    | (apply r_mvT; rfl)
    | (apply r_mvF; rfl)
    | (apply r_mvD; rfl)
    | (apply r_faddD; rfl)
    | (apply r_faddL; rfl)
    | (apply r_l; apply ld_kind; assumption; rfl)
    | (apply r_l; apply ld_mn; assumption; rfl)
    | (apply r_l; apply ld_mx; assumption; rfl)
    | (apply r_l; apply ld_subs; assumption; rfl)
    | (apply r_l; apply ld_set; assumption; rfl)
    | (apply r_l; apply ld_node; assumption; rfl)
    | (apply r_l; apply ld_kind'; assumption; rfl)
    | (apply r_l; apply ld_mn'; assumption; rfl)
    | (apply r_l; apply ld_mx'; assumption; rfl)
    | (apply r_l; apply ld_subs'; assumption; rfl)
    | (apply r_l; apply ld_node'; assumption; rfl)
    | (apply r_callA (f := 51); rfl; rfl; exact hnn)
    | (apply r_ldL; rfl; rfl; rfl)
    | (apply r_eql; rfl; rfl; (first | (apply decide_eq_true; omega) | (apply decide_eq_false; omega) | rfl))
    | (apply r_lss; rfl; rfl; (first | (apply decide_eq_true; omega) | (apply decide_eq_false; omega) | rfl))
    | (apply r_gtr; rfl; rfl; (first | (apply decide_eq_true; omega) | (apply decide_eq_false; omega) | rfl))
    | (apply r_geq; rfl; rfl; (first | (apply decide_eq_true; omega) | (apply decide_eq_false; omega) | rfl))
    | (apply r_add; rfl; rfl; rfl; omega)
    | (apply r_pickT; rfl)
    | (apply r_pickF; rfl)
    | (apply r_lenD; rfl)
    | (apply r_lenL; rfl)
    | (apply r_len0; rfl)
    | (apply r_gT; rfl)
    | (apply r_gF'; rfl; rfl)
    | (apply r_gN'; rfl)
    | ((apply r_gS (o := default); rfl) <;> (intro h; try simp only [decide_eq_true_eq, decide_eq_false_iff_not, Bool.not_eq_true, Bool.not_eq_false] at h))
    | (apply r_box; ((conv => lhs; simp only [Nat.reduceAdd]) <;> rfl); rfl; rfl; rfl)
    | (apply r_p; rfl)
    | (apply r_nilK)
    | (apply r_nil)
    | (apply k_V; rfl)
    | (apply k_P; rfl)
    | (apply k_PL; rfl)
    | (apply k_S; rfl)
    | (apply k_SL; rfl)
    | (apply k_A; rfl)
    | (apply k_T; rfl)
    | (apply k_F; rfl)
    | (apply k_D; rfl; rotate_left; rfl)
    | (apply k_nil)
    | (apply e_ret (vs := [.d (.val _)]); rfl)
    | (apply e_ret; rfl)
    | (apply e_ret' (vs := [.d (.val _)]); rfl)
    | (apply e_ret'; rfl)
    | (apply w_seq)
    | (apply w_ops; ((conv => lhs; simp only [Nat.reduceAdd]) <;> rfl))
    | (apply w_condT; rfl)
    | (apply w_condF; rfl)
    | ((apply w_condS; rfl) <;> (intro h; try simp only [decide_eq_true_eq, decide_eq_false_iff_not, Bool.not_eq_true, Bool.not_eq_false] at h))
    | (apply e_thenN)
    | (apply w_block)
    | (apply e_thenR)
    | (apply e_thenX)
    | (apply e_blkN)
    | (apply e_blkR)
    | (apply e_blkE)
    | (apply w_exit)
    | (apply w_ret)
    | (apply w_skip)
    | (apply e_blkE'; rfl))
    exact retI rfl
end Go.Sv
namespace Go.Sv
open Go Go.Proofs

set_option maxRecDepth 100000
set_option maxHeartbeats 4000000
attribute [local irreducible] W E R KP thenK blockK retK Good xwp aRun
def hiA (f : Fa) : Int := if f.no = true then 0 else f.hi
theorem most_loop {k a b c d mn mx : Int} {subs : List T} (hk : k = 3 ∨ k = 4) (F : Nat → Int) (r : Int) (hnn : Good Try.prog 51 [.agg [.i k, .d (.val (.int .u64 a)), .d (.val (.int .u64 b)), .d (.val (.int .u64 c)), .d (.val (.int .u64 d)), .i mn, .i mx, .d (.sl (encL subs) subs.length)]] none (.b false) none none) (hlen : subs.length ≤ 1000000)
    (ih' : ∀ i (h : i < subs.length), Good Try.prog 63 [nodeA subs[i]] none (.i (knT subs[i]).hi) none none)
    (hns : ∀ i (h : i < subs.length), Good Try.prog 51 [nodeA subs[i]] none (.b (knT subs[i]).no) none none)
    (F0 : F 0 = 0) (hpos : ∀ i, i ≤ subs.length → (∀ j (h : j < subs.length), j < i → (knT subs[j]).no = true ∨ 0 ≤ (knT subs[j]).hi) → 0 ≤ F i ∧ F i < 9223372036854775808)
    (hstep : ∀ i (h : i < subs.length), (∀ j (h : j < subs.length), j < i → (knT subs[j]).no = true ∨ 0 ≤ (knT subs[j]).hi) → (knT subs[i]).no = false → 0 ≤ (knT subs[i]).hi → F (i + 1) = if k = 3 then F i + (knT subs[i]).hi else max (F i) (knT subs[i]).hi)
    (hskip : ∀ i (h : i < subs.length), (knT subs[i]).no = true → F (i + 1) = F i)
    (hend : ∀ i (h : i < subs.length), (knT subs[i]).no = false → (knT subs[i]).hi < 0 → r = -1)
    (hfin : (∀ j (h : j < subs.length), (knT subs[j]).no = true ∨ 0 ≤ (knT subs[j]).hi) → F subs.length = r) : Good Try.prog 63 [.agg [.i k, .d (.val (.int .u64 a)), .d (.val (.int .u64 b)), .d (.val (.int .u64 c)), .d (.val (.int .u64 d)), .i mn, .i mx, .d (.sl (encL subs) subs.length)]] none (.i r) none none := by
  refine b63 (by simp) (by simp) (w_init ?_)
  unfold x63
  rcases hk with hk | hk
  all_goals
    repeat' (first
    | (apply r_mvV; rfl)
    | (apply r_mvP; rfl)
    | (apply r_mvPL; rfl)
    | (apply r_mvS; rfl)
    | (apply r_mvSL; rfl)
    | (apply r_mvA; rfl)
    | (apply r_mvT; rfl)
    | (apply r_mvF; rfl)
    | (apply r_mvD; rfl)
    | (apply r_faddD; rfl)
    | (apply r_faddL; rfl)
    | (apply r_l; apply ld_kind; assumption; rfl)
    | (apply r_l; apply ld_mn; assumption; rfl)
    | (apply r_l; apply ld_mx; assumption; rfl)
    | (apply r_l; apply ld_subs; assumption; rfl)
    | (apply r_l; apply ld_set; assumption; rfl)
    | (apply r_l; apply ld_node; assumption; rfl)
    | (apply r_l; apply ld_kind'; assumption; rfl)
    | (apply r_l; apply ld_mn'; assumption; rfl)
    | (apply r_l; apply ld_mx'; assumption; rfl)
    | (apply r_l; apply ld_subs'; assumption; rfl)
    | (apply r_l; apply ld_node'; assumption; rfl)
    | (apply r_callA (f := 51); rfl; rfl; exact hnn)
    | (apply r_ldL; rfl; rfl; rfl)
    | (apply r_eql; rfl; rfl; (first | (apply decide_eq_true; omega) | (apply decide_eq_false; omega) | rfl))
    | (apply r_lss; rfl; rfl; (first | (apply decide_eq_true; omega) | (apply decide_eq_false; omega) | rfl))
    | (apply r_add; rfl; rfl; rfl; omega)
    | (apply r_max2; rfl; rfl; rfl)
    | (apply r_pickT; rfl)
    | (apply r_pickF; rfl)
    | (apply r_lenD; rfl)
    | (apply r_lenL; rfl)
    | (apply r_len0; rfl)
    | (apply r_gT; rfl)
    | (apply r_gF'; rfl; rfl)
    | (apply r_gN'; rfl)
    | ((apply r_gS (o := default); rfl) <;> (intro h; try simp only [decide_eq_true_eq, decide_eq_false_iff_not, Bool.not_eq_true, Bool.not_eq_false] at h))
    | (apply r_box; ((conv => lhs; simp only [Nat.reduceAdd]) <;> rfl); rfl; rfl; rfl)
    | (apply r_p; rfl)
    | (apply r_nilK)
    | (apply r_nil)
    | (apply k_V; rfl)
    | (apply k_P; rfl)
    | (apply k_PL; rfl)
    | (apply k_S; rfl)
    | (apply k_SL; rfl)
    | (apply k_A; rfl)
    | (apply k_T; rfl)
    | (apply k_F; rfl)
    | (apply k_D; rfl; rotate_left; rfl)
    | (apply k_nil)
    | (apply e_ret (vs := [.d (.val _)]); rfl)
    | (apply e_ret; rfl)
    | (apply e_ret' (vs := [.d (.val _)]); rfl)
    | (apply e_ret'; rfl)
    | (apply w_seq)
    | (apply w_ops; ((conv => lhs; simp only [Nat.reduceAdd]) <;> rfl))
    | (apply w_condT; rfl)
    | (apply w_condF; rfl)
    | ((apply w_condS; rfl) <;> (intro h; try simp only [decide_eq_true_eq, decide_eq_false_iff_not, Bool.not_eq_true, Bool.not_eq_false] at h))
    | (apply e_thenN)
    | (apply w_block)
    | (apply e_thenR)
    | (apply e_thenX)
    | (apply e_blkN)
    | (apply e_blkR)
    | (apply e_blkE)
    | (apply w_exit)
    | (apply w_ret)
    | (apply w_skip)
    | (apply e_blkE'; rfl))
    apply w_loopI (S := fun i : Nat => ⟨((Fr.nil.put 1 (.ptrL 1 0)).put 3 (.i (F i))).put 4 (.i i), rowsOf [(1, [.i k, .d (.val (.int .u64 a)), .d (.val (.int .u64 b)), .d (.val (.int .u64 c)), .d (.val (.int .u64 d)), .i mn, .i mx, .d (.sl (encL subs) subs.length)])], Frz.lo 100, 100⟩) (m := fun i => subs.length - i) (I := fun i => i ≤ subs.length ∧ ∀ j (h : j < subs.length), j < i → (knT subs[j]).no = true ∨ 0 ≤ (knT subs[j]).hi) (i0 := 0)
    · exact ⟨Nat.zero_le _, fun j h hj => by omega⟩
    · rw [F0]
      refine wkRs (by omega) ?_ ?_
      · intro p hp; simp only [List.mem_cons, List.not_mem_nil, or_false] at hp; rcases hp with rfl <;> exact ⟨by omega, rfl, rfl⟩
      · repeat' (first
    | exact FWk.nil
    | (apply FWk.i; rfl; (first | rfl | omega | (simp; done)))
    | (apply FWk.sl; rfl; rfl; rfl; rfl; omega; rfl)
    | (apply FWk.ptr; rfl; rfl; rfl; omega; rfl)
    | (apply FWk.d; rfl; rfl)
    | (apply FWk.a; rfl; rfl; rfl)
    | (apply FWk.slN; rfl; omega; rfl))
    rintro i K ⟨hi, hall⟩ hK
    try dsimp only
    rcases Nat.lt_or_ge i subs.length with hlt | hge
    · have hsu := NodeAt.sub hlt
      have hg := ih' i hlt
      have hgn := hns i hlt
      have hp1 := hpos i (by omega) hall
      have hnu := nodeA_nrm subs[i]
      have hna : [nodeA subs[i]].all AV.nrm = true := by rw [List.all_cons, hnu]; rfl
      cases hq : (knT subs[i]).no with
      | true =>
        have hs1 := hskip i hlt hq
        rw [hq] at hgn
        have fin : ∀ fr C Z nx, Wk ⟨fr, C, Z, nx⟩ ⟨((Fr.nil.put 1 (.ptrL 1 0)).put 3 (.i (F i))).put 4 (.i ((i + 1 : Nat) : Int)), rowsOf [(1, [.i k, .d (.val (.int .u64 a)), .d (.val (.int .u64 b)), .d (.val (.int .u64 c)), .d (.val (.int .u64 d)), .i mn, .i mx, .d (.sl (encL subs) subs.length)])], Frz.lo 100, 100⟩ → K ⟨fr, C, Z, nx⟩ := fun fr C Z nx hw => hK (i + 1) fr C Z nx ⟨by omega, fun j h hj => by
          by_cases e : j = i
          · subst e; exact .inl hq
          · exact hall j h (by omega)⟩ (by omega) (by rw [hs1]; exact hw)
        clear hall hpos hstep hskip hend hfin ih' hns hs1
        generalize F i = f1 at *
        generalize subs[i] = u at hsu hg hgn hna
        repeat' (first
    | (apply r_mvV; rfl)
    | (apply r_mvP; rfl)
    | (apply r_mvPL; rfl)
    | (apply r_mvS; rfl)
    | (apply r_mvSL; rfl)
    | (apply r_mvA; rfl)
    | (apply r_mvT; rfl)
    | (apply r_mvF; rfl)
    | (apply r_mvD; rfl)
    | (apply r_faddD; rfl)
    | (apply r_faddL; rfl)
    | (apply r_l; apply ld_kind; assumption; rfl)
    | (apply r_l; apply ld_mn; assumption; rfl)
    | (apply r_l; apply ld_mx; assumption; rfl)
    | (apply r_l; apply ld_subs; assumption; rfl)
    | (apply r_l; apply ld_set; assumption; rfl)
    | (apply r_l; apply ld_node; assumption; rfl)
    | (apply r_l; apply ld_kind'; assumption; rfl)
    | (apply r_l; apply ld_mn'; assumption; rfl)
    | (apply r_l; apply ld_mx'; assumption; rfl)
    | (apply r_l; apply ld_subs'; assumption; rfl)
    | (apply r_l; apply ld_node'; assumption; rfl)
    | (apply r_p; apply ix_sub; rfl; rfl; omega)
    | (apply r_l; apply ld_node'; exact hsu; rfl)
    | (apply r_callA (f := 51) (ags := [nodeA u]); rfl; exact hna; exact hgn)
    | (apply r_ldL; rfl; rfl; rfl)
    | (apply r_eql; rfl; rfl; (first | (apply decide_eq_true; omega) | (apply decide_eq_false; omega) | rfl))
    | (apply r_lss; rfl; rfl; (first | (apply decide_eq_true; omega) | (apply decide_eq_false; omega) | rfl))
    | (apply r_add; rfl; rfl; rfl; omega)
    | (apply r_max2; rfl; rfl; rfl)
    | (apply r_pickT; rfl)
    | (apply r_pickF; rfl)
    | (apply r_lenD; rfl)
    | (apply r_lenL; rfl)
    | (apply r_len0; rfl)
    | (apply r_gT; rfl)
    | (apply r_gF'; rfl; rfl)
    | (apply r_gN'; rfl)
    | ((apply r_gS (o := default); rfl) <;> (intro h; try simp only [decide_eq_true_eq, decide_eq_false_iff_not, Bool.not_eq_true, Bool.not_eq_false] at h))
    | (apply r_box; ((conv => lhs; simp only [Nat.reduceAdd]) <;> rfl); rfl; rfl; rfl)
    | (apply r_p; rfl)
    | (apply r_nilK)
    | (apply r_nil)
    | (apply k_V; rfl)
    | (apply k_P; rfl)
    | (apply k_PL; rfl)
    | (apply k_S; rfl)
    | (apply k_SL; rfl)
    | (apply k_A; rfl)
    | (apply k_T; rfl)
    | (apply k_F; rfl)
    | (apply k_D; rfl; rotate_left; rfl)
    | (apply k_nil)
    | (apply e_ret (vs := [.d (.val _)]); rfl)
    | (apply e_ret; rfl)
    | (apply e_ret' (vs := [.d (.val _)]); rfl)
    | (apply e_ret'; rfl)
    | (apply w_seq)
    | (apply w_ops; ((conv => lhs; simp only [Nat.reduceAdd]) <;> rfl))
    | (apply w_condT; rfl)
    | (apply w_condF; rfl)
    | ((apply w_condS; rfl) <;> (intro h; try simp only [decide_eq_true_eq, decide_eq_false_iff_not, Bool.not_eq_true, Bool.not_eq_false] at h))
    | (apply e_thenN)
    | (apply w_block)
    | (apply e_thenR)
    | (apply e_thenX)
    | (apply e_blkN)
    | (apply e_blkR)
    | (apply e_blkE)
    | (apply w_exit)
    | (apply w_ret)
    | (apply w_skip)
    | (apply e_blkE'; rfl))
        apply e_thenK
        apply fin
        refine wkRs (by omega) ?_ ?_
        · intro p hp; simp only [List.mem_cons, List.not_mem_nil, or_false] at hp; rcases hp with rfl <;> exact ⟨by omega, rfl, rfl⟩
        · repeat' (first
    | exact FWk.nil
    | (apply FWk.i; rfl; (first | rfl | omega | (simp; done)))
    | (apply FWk.sl; rfl; rfl; rfl; rfl; omega; rfl)
    | (apply FWk.ptr; rfl; rfl; rfl; omega; rfl)
    | (apply FWk.d; rfl; rfl)
    | (apply FWk.a; rfl; rfl; rfl)
    | (apply FWk.slN; rfl; omega; rfl))
      | false =>
        rw [hq] at hgn
        by_cases hneg : (knT subs[i]).hi < 0
        · have hr1 := hend i hlt hq hneg
          rw [hr1]
          clear hall hpos hstep hskip hend hfin ih' hns hK
          generalize F i = f1 at *
          generalize (knT subs[i]).hi = g1 at *
          generalize subs[i] = u at hsu hg hgn hna
          repeat' (first
    | (apply r_mvV; rfl)
    | (apply r_mvP; rfl)
    | (apply r_mvPL; rfl)
    | (apply r_mvS; rfl)
    | (apply r_mvSL; rfl)
    | (apply r_mvA; rfl)
    | (apply r_mvT; rfl)
    | (apply r_mvF; rfl)
    | (apply r_mvD; rfl)
    | (apply r_faddD; rfl)
    | (apply r_faddL; rfl)
    | (apply r_l; apply ld_kind; assumption; rfl)
    | (apply r_l; apply ld_mn; assumption; rfl)
    | (apply r_l; apply ld_mx; assumption; rfl)
    | (apply r_l; apply ld_subs; assumption; rfl)
    | (apply r_l; apply ld_set; assumption; rfl)
    | (apply r_l; apply ld_node; assumption; rfl)
    | (apply r_l; apply ld_kind'; assumption; rfl)
    | (apply r_l; apply ld_mn'; assumption; rfl)
    | (apply r_l; apply ld_mx'; assumption; rfl)
    | (apply r_l; apply ld_subs'; assumption; rfl)
    | (apply r_l; apply ld_node'; assumption; rfl)
    | (apply r_p; apply ix_sub; rfl; rfl; omega)
    | (apply r_l; apply ld_node'; exact hsu; rfl)
    | (apply r_callA (f := 51) (ags := [nodeA u]); rfl; exact hna; exact hgn)
    | (apply r_callA (f := 63) (ags := [nodeA u]); rfl; exact hna; exact hg)
    | (apply r_ldL; rfl; rfl; rfl)
    | (apply r_eql; rfl; rfl; (first | (apply decide_eq_true; omega) | (apply decide_eq_false; omega) | rfl))
    | (apply r_lss; rfl; rfl; (first | (apply decide_eq_true; omega) | (apply decide_eq_false; omega) | rfl))
    | (apply r_add; rfl; rfl; rfl; omega)
    | (apply r_max2; rfl; rfl; rfl)
    | (apply r_pickT; rfl)
    | (apply r_pickF; rfl)
    | (apply r_lenD; rfl)
    | (apply r_lenL; rfl)
    | (apply r_len0; rfl)
    | (apply r_gT; rfl)
    | (apply r_gF'; rfl; rfl)
    | (apply r_gN'; rfl)
    | ((apply r_gS (o := default); rfl) <;> (intro h; try simp only [decide_eq_true_eq, decide_eq_false_iff_not, Bool.not_eq_true, Bool.not_eq_false] at h))
    | (apply r_box; ((conv => lhs; simp only [Nat.reduceAdd]) <;> rfl); rfl; rfl; rfl)
    | (apply r_p; rfl)
    | (apply r_nilK)
    | (apply r_nil)
    | (apply k_V; rfl)
    | (apply k_P; rfl)
    | (apply k_PL; rfl)
    | (apply k_S; rfl)
    | (apply k_SL; rfl)
    | (apply k_A; rfl)
    | (apply k_T; rfl)
    | (apply k_F; rfl)
    | (apply k_D; rfl; rotate_left; rfl)
    | (apply k_nil)
    | (apply e_ret (vs := [.d (.val _)]); rfl)
    | (apply e_ret; rfl)
    | (apply e_ret' (vs := [.d (.val _)]); rfl)
    | (apply e_ret'; rfl)
    | (apply w_seq)
    | (apply w_ops; ((conv => lhs; simp only [Nat.reduceAdd]) <;> rfl))
    | (apply w_condT; rfl)
    | (apply w_condF; rfl)
    | ((apply w_condS; rfl) <;> (intro h; try simp only [decide_eq_true_eq, decide_eq_false_iff_not, Bool.not_eq_true, Bool.not_eq_false] at h))
    | (apply e_thenN)
    | (apply w_block)
    | (apply e_thenR)
    | (apply e_thenX)
    | (apply e_blkN)
    | (apply e_blkR)
    | (apply e_blkE)
    | (apply w_exit)
    | (apply w_ret)
    | (apply w_skip)
    | (apply e_blkE'; rfl))
          exact retI rfl
        · have hs1 := hstep i hlt hall hq (by omega)
          have hall2 : ∀ j (h : j < subs.length), j < i + 1 → (knT subs[j]).no = true ∨ 0 ≤ (knT subs[j]).hi := fun j h hj => by
            by_cases e : j = i
            · subst e; exact .inr (by omega)
            · exact hall j h (by omega)
          have hp2 := hpos (i + 1) (by omega) hall2
          simp only [hk, Int.reduceEq, if_true, if_false] at hs1
          rw [hs1] at hp2
          have fin : ∀ fr C Z nx, Wk ⟨fr, C, Z, nx⟩ ⟨((Fr.nil.put 1 (.ptrL 1 0)).put 3 (.i (F (i + 1)))).put 4 (.i ((i + 1 : Nat) : Int)), rowsOf [(1, [.i k, .d (.val (.int .u64 a)), .d (.val (.int .u64 b)), .d (.val (.int .u64 c)), .d (.val (.int .u64 d)), .i mn, .i mx, .d (.sl (encL subs) subs.length)])], Frz.lo 100, 100⟩ → K ⟨fr, C, Z, nx⟩ := fun fr C Z nx hw => hK (i + 1) fr C Z nx ⟨by omega, hall2⟩ (by omega) hw
          rw [hs1] at fin
          clear hall hall2 hpos hstep hskip hend hfin ih' hns hs1
          generalize F i = f1 at *
          generalize (knT subs[i]).hi = g1 at *
          generalize subs[i] = u at hsu hg hgn hna
          repeat' (first
    | (apply r_mvV; rfl)
    | (apply r_mvP; rfl)
    | (apply r_mvPL; rfl)
    | (apply r_mvS; rfl)
    | (apply r_mvSL; rfl)
    | (apply r_mvA; rfl)
    | (apply r_mvT; rfl)
    | (apply r_mvF; rfl)
    | (apply r_mvD; rfl)
    | (apply r_faddD; rfl)
    | (apply r_faddL; rfl)
    | (apply r_l; apply ld_kind; assumption; rfl)
    | (apply r_l; apply ld_mn; assumption; rfl)
    | (apply r_l; apply ld_mx; assumption; rfl)
    | (apply r_l; apply ld_subs; assumption; rfl)
    | (apply r_l; apply ld_set; assumption; rfl)
    | (apply r_l; apply ld_node; assumption; rfl)
    | (apply r_l; apply ld_kind'; assumption; rfl)
    | (apply r_l; apply ld_mn'; assumption; rfl)
    | (apply r_l; apply ld_mx'; assumption; rfl)
    | (apply r_l; apply ld_subs'; assumption; rfl)
    | (apply r_l; apply ld_node'; assumption; rfl)
    | (apply r_p; apply ix_sub; rfl; rfl; omega)
    | (apply r_l; apply ld_node'; exact hsu; rfl)
    | (apply r_callA (f := 51) (ags := [nodeA u]); rfl; exact hna; exact hgn)
    | (apply r_callA (f := 63) (ags := [nodeA u]); rfl; exact hna; exact hg)
    | (apply r_max2; rfl; rfl; rfl)
    | (apply r_ldL; rfl; rfl; rfl)
    | (apply r_eql; rfl; rfl; (first | (apply decide_eq_true; omega) | (apply decide_eq_false; omega) | rfl))
    | (apply r_lss; rfl; rfl; (first | (apply decide_eq_true; omega) | (apply decide_eq_false; omega) | rfl))
    | (apply r_add; rfl; rfl; rfl; omega)
    | (apply r_max2; rfl; rfl; rfl)
    | (apply r_pickT; rfl)
    | (apply r_pickF; rfl)
    | (apply r_lenD; rfl)
    | (apply r_lenL; rfl)
    | (apply r_len0; rfl)
    | (apply r_gT; rfl)
    | (apply r_gF'; rfl; rfl)
    | (apply r_gN'; rfl)
    | ((apply r_gS (o := default); rfl) <;> (intro h; try simp only [decide_eq_true_eq, decide_eq_false_iff_not, Bool.not_eq_true, Bool.not_eq_false] at h))
    | (apply r_box; ((conv => lhs; simp only [Nat.reduceAdd]) <;> rfl); rfl; rfl; rfl)
    | (apply r_p; rfl)
    | (apply r_nilK)
    | (apply r_nil)
    | (apply k_V; rfl)
    | (apply k_P; rfl)
    | (apply k_PL; rfl)
    | (apply k_S; rfl)
    | (apply k_SL; rfl)
    | (apply k_A; rfl)
    | (apply k_T; rfl)
    | (apply k_F; rfl)
    | (apply k_D; rfl; rotate_left; rfl)
    | (apply k_nil)
    | (apply e_ret (vs := [.d (.val _)]); rfl)
    | (apply e_ret; rfl)
    | (apply e_ret' (vs := [.d (.val _)]); rfl)
    | (apply e_ret'; rfl)
    | (apply w_seq)
    | (apply w_ops; ((conv => lhs; simp only [Nat.reduceAdd]) <;> rfl))
    | (apply w_condT; rfl)
    | (apply w_condF; rfl)
    | ((apply w_condS; rfl) <;> (intro h; try simp only [decide_eq_true_eq, decide_eq_false_iff_not, Bool.not_eq_true, Bool.not_eq_false] at h))
    | (apply e_thenN)
    | (apply w_block)
    | (apply e_thenR)
    | (apply e_thenX)
    | (apply e_blkN)
    | (apply e_blkR)
    | (apply e_blkE)
    | (apply w_exit)
    | (apply w_ret)
    | (apply w_skip)
    | (apply e_blkE'; rfl))
          apply e_thenK
          apply fin
          refine wkRs (by omega) ?_ ?_
          · intro p hp; simp only [List.mem_cons, List.not_mem_nil, or_false] at hp; rcases hp with rfl <;> exact ⟨by omega, rfl, rfl⟩
          · repeat' (first
    | exact FWk.nil
    | (apply FWk.i; rfl; (first | rfl | omega | (simp; done)))
    | (apply FWk.sl; rfl; rfl; rfl; rfl; omega; rfl)
    | (apply FWk.ptr; rfl; rfl; rfl; omega; rfl)
    | (apply FWk.d; rfl; rfl)
    | (apply FWk.a; rfl; rfl; rfl)
    | (apply FWk.slN; rfl; omega; rfl))
    · have ei : i = subs.length := by omega
      subst ei
      have hf := hfin fun j h => hall j h h
      clear hall hpos hstep hskip hend ih' hns hK
      rw [← hf]
      generalize F subs.length = f1
      repeat' (first
    | (apply r_mvV; rfl)
    | (apply r_mvP; rfl)
    | (apply r_mvPL; rfl)
    | (apply r_mvS; rfl)
    | (apply r_mvSL; rfl)
    | (apply r_mvA; rfl)
    | (apply r_mvT; rfl)
    | (apply r_mvF; rfl)
    | (apply r_mvD; rfl)
    | (apply r_faddD; rfl)
    | (apply r_faddL; rfl)
    | (apply r_l; apply ld_kind; assumption; rfl)
    | (apply r_l; apply ld_mn; assumption; rfl)
    | (apply r_l; apply ld_mx; assumption; rfl)
    | (apply r_l; apply ld_subs; assumption; rfl)
    | (apply r_l; apply ld_set; assumption; rfl)
    | (apply r_l; apply ld_node; assumption; rfl)
    | (apply r_l; apply ld_kind'; assumption; rfl)
    | (apply r_l; apply ld_mn'; assumption; rfl)
    | (apply r_l; apply ld_mx'; assumption; rfl)
    | (apply r_l; apply ld_subs'; assumption; rfl)
    | (apply r_l; apply ld_node'; assumption; rfl)
    | (apply r_ldL; rfl; rfl; rfl)
    | (apply r_eql; rfl; rfl; (first | (apply decide_eq_true; omega) | (apply decide_eq_false; omega) | rfl))
    | (apply r_lss; rfl; rfl; (first | (apply decide_eq_true; omega) | (apply decide_eq_false; omega) | rfl))
    | (apply r_add; rfl; rfl; rfl; omega)
    | (apply r_max2; rfl; rfl; rfl)
    | (apply r_pickT; rfl)
    | (apply r_pickF; rfl)
    | (apply r_lenD; rfl)
    | (apply r_lenL; rfl)
    | (apply r_len0; rfl)
    | (apply r_gT; rfl)
    | (apply r_gF'; rfl; rfl)
    | (apply r_gN'; rfl)
    | ((apply r_gS (o := default); rfl) <;> (intro h; try simp only [decide_eq_true_eq, decide_eq_false_iff_not, Bool.not_eq_true, Bool.not_eq_false] at h))
    | (apply r_box; ((conv => lhs; simp only [Nat.reduceAdd]) <;> rfl); rfl; rfl; rfl)
    | (apply r_p; rfl)
    | (apply r_nilK)
    | (apply r_nil)
    | (apply k_V; rfl)
    | (apply k_P; rfl)
    | (apply k_PL; rfl)
    | (apply k_S; rfl)
    | (apply k_SL; rfl)
    | (apply k_A; rfl)
    | (apply k_T; rfl)
    | (apply k_F; rfl)
    | (apply k_D; rfl; rotate_left; rfl)
    | (apply k_nil)
    | (apply e_ret (vs := [.d (.val _)]); rfl)
    | (apply e_ret; rfl)
    | (apply e_ret' (vs := [.d (.val _)]); rfl)
    | (apply e_ret'; rfl)
    | (apply w_seq)
    | (apply w_ops; ((conv => lhs; simp only [Nat.reduceAdd]) <;> rfl))
    | (apply w_condT; rfl)
    | (apply w_condF; rfl)
    | ((apply w_condS; rfl) <;> (intro h; try simp only [decide_eq_true_eq, decide_eq_false_iff_not, Bool.not_eq_true, Bool.not_eq_false] at h))
    | (apply e_thenN)
    | (apply w_block)
    | (apply e_thenR)
    | (apply e_thenX)
    | (apply e_blkN)
    | (apply e_blkR)
    | (apply e_blkE)
    | (apply w_exit)
    | (apply w_ret)
    | (apply w_skip)
    | (apply e_blkE'; rfl))
      exact retI rfl
theorem most63_good : ∀ (n : Nat) (t : T), t.cnt ≤ n → n ≤ 1000000 → okT t → bT t ≤ 16384000000000000000 → Good Try.prog 63 [nodeA t] none (.i (knT t).hi) none none := by
  intro n
  induction n with
  | zero => intro t ht; have := cnt_pos t; omega
  | succ n ih =>
  intro t ht hc hok hbt
  have hnn := none51_good 1000000 t (by omega) (by omega) hok
  rw [nn_kn hok] at hnn
  have hkt := kn_ok t hok
  obtain ⟨k, a, b, c, d, mn, mx, subs⟩ := t
  have e0 : nodeA (T.node k a b c d mn mx subs) = .agg [.i k, .d (.val (.int .u64 a)), .d (.val (.int .u64 b)), .d (.val (.int .u64 c)), .d (.val (.int .u64 d)), .i mn, .i mx, .d (.sl (encL subs) subs.length)] := rfl
  have hoks := okT_subs hok
  have hR := okT_R hok
  have ih' : ∀ i (h : i < subs.length), Good Try.prog 63 [nodeA subs[i]] none (.i (knT subs[i]).hi) none none := by
    intro i h
    refine ih _ ?_ (by omega) (okL_get subs i h hoks) ?_
    · have := cntL_get subs i h
      simp only [T.cnt] at ht
      omega
    · have := bT_sub (u := subs[i]) hok (List.getElem_mem h)
      omega
  have hns : ∀ i (h : i < subs.length), Good Try.prog 51 [nodeA subs[i]] none (.b (knT subs[i]).no) none none := by
    intro i h
    have h1 := none51_good 1000000 subs[i] (by
      have := cntL_get subs i h
      simp only [T.cnt] at ht
      omega) (by omega) (okL_get subs i h hoks)
    rw [nn_kn (okL_get subs i h hoks)] at h1
    exact h1
  have hksub : ∀ i (h : i < subs.length), okF (knT subs[i]) (bT subs[i]) := fun i h => kn_ok _ (okL_get subs i h hoks)
  have hpl := okT_plain hok
  have hlen : subs.length ≤ 1000000 := by
    have := cntL_len subs
    simp only [T.cnt] at ht
    omega
  rw [e0] at hnn ⊢
  cases hno : (knT (T.node k a b c d mn mx subs)).no with
  | true =>
    have e : (knT (T.node k a b c d mn mx subs)).hi = -1 := by rw [hkt.2.1 hno]; rfl
    rw [e]
    rw [hno] at hnn
    clear ih ih' hns hksub hkt hok hoks hbt ht hR hpl hno e
    refine b63 (by simp) (by simp) (w_init ?_)
    unfold x63
    repeat' (first
    | (apply r_mvV; rfl)
    | (apply r_mvP; rfl)
    | (apply r_mvPL; rfl)
    | (apply r_mvS; rfl)
    | (apply r_mvSL; rfl)
    | (apply r_mvA; rfl)
    | (apply r_mvT; rfl)
    | (apply r_mvF; rfl)
    | (apply r_mvD; rfl)
    | (apply r_faddD; rfl)
    | (apply r_faddL; rfl)
    | (apply r_l; apply ld_kind; assumption; rfl)
    | (apply r_l; apply ld_mn; assumption; rfl)
    | (apply r_l; apply ld_mx; assumption; rfl)
    | (apply r_l; apply ld_subs; assumption; rfl)
    | (apply r_l; apply ld_set; assumption; rfl)
    | (apply r_l; apply ld_node; assumption; rfl)
    | (apply r_l; apply ld_kind'; assumption; rfl)
    | (apply r_l; apply ld_mn'; assumption; rfl)
    | (apply r_l; apply ld_mx'; assumption; rfl)
    | (apply r_l; apply ld_subs'; assumption; rfl)
    | (apply r_l; apply ld_node'; assumption; rfl)
    | (apply r_callA (f := 51); rfl; rfl; exact hnn)
    | (apply r_ldL; rfl; rfl; rfl)
    | (apply r_eql; rfl; rfl; (first | (apply decide_eq_true; omega) | (apply decide_eq_false; omega) | rfl))
    | (apply r_lss; rfl; rfl; (first | (apply decide_eq_true; omega) | (apply decide_eq_false; omega) | rfl))
    | (apply r_add; rfl; rfl; rfl; omega)
    | (apply r_max2; rfl; rfl; rfl)
    | (apply r_pickT; rfl)
    | (apply r_pickF; rfl)
    | (apply r_lenD; rfl)
    | (apply r_lenL; rfl)
    | (apply r_len0; rfl)
    | (apply r_gT; rfl)
    | (apply r_gF'; rfl; rfl)
    | (apply r_gN'; rfl)
    | ((apply r_gS (o := default); rfl) <;> (intro h; try simp only [decide_eq_true_eq, decide_eq_false_iff_not, Bool.not_eq_true, Bool.not_eq_false] at h))
    | (apply r_box; ((conv => lhs; simp only [Nat.reduceAdd]) <;> rfl); rfl; rfl; rfl)
    | (apply r_p; rfl)
    | (apply r_nilK)
    | (apply r_nil)
    | (apply k_V; rfl)
    | (apply k_P; rfl)
    | (apply k_PL; rfl)
    | (apply k_S; rfl)
    | (apply k_SL; rfl)
    | (apply k_A; rfl)
    | (apply k_T; rfl)
    | (apply k_F; rfl)
    | (apply k_D; rfl; rotate_left; rfl)
    | (apply k_nil)
    | (apply e_ret (vs := [.d (.val _)]); rfl)
    | (apply e_ret; rfl)
    | (apply e_ret' (vs := [.d (.val _)]); rfl)
    | (apply e_ret'; rfl)
    | (apply w_seq)
    | (apply w_ops; ((conv => lhs; simp only [Nat.reduceAdd]) <;> rfl))
    | (apply w_condT; rfl)
    | (apply w_condF; rfl)
    | ((apply w_condS; rfl) <;> (intro h; try simp only [decide_eq_true_eq, decide_eq_false_iff_not, Bool.not_eq_true, Bool.not_eq_false] at h))
    | (apply e_thenN)
    | (apply w_block)
    | (apply e_thenR)
    | (apply e_thenX)
    | (apply e_blkN)
    | (apply e_blkR)
    | (apply e_blkE)
    | (apply w_exit)
    | (apply w_ret)
    | (apply w_skip)
    | (apply e_blkE'; rfl))
    exact retI rfl
  | false =>
  rw [hno] at hnn
  by_cases h2 : k = 2
  · have e : (knT (T.node k a b c d mn mx subs)).hi = 1 := by
      rw [knT, if_pos h2] at hno ⊢
      split
      · rename_i hz; rw [if_pos hz] at hno; simp [faNo] at hno
      · rfl
    rw [e]
    clear ih ih' hns hksub hkt hok hoks hbt ht hR hpl hno e
    refine b63 (by simp) (by simp) (w_init ?_)
    unfold x63
    repeat' (first
    | (apply r_mvV; rfl)
    | (apply r_mvP; rfl)
    | (apply r_mvPL; rfl)
    | (apply r_mvS; rfl)
    | (apply r_mvSL; rfl)
    | (apply r_mvA; rfl)
    | (apply r_mvT; rfl)
    | (apply r_mvF; rfl)
    | (apply r_mvD; rfl)
    | (apply r_faddD; rfl)
    | (apply r_faddL; rfl)
    | (apply r_l; apply ld_kind; assumption; rfl)
    | (apply r_l; apply ld_mn; assumption; rfl)
    | (apply r_l; apply ld_mx; assumption; rfl)
    | (apply r_l; apply ld_subs; assumption; rfl)
    | (apply r_l; apply ld_set; assumption; rfl)
    | (apply r_l; apply ld_node; assumption; rfl)
    | (apply r_l; apply ld_kind'; assumption; rfl)
    | (apply r_l; apply ld_mn'; assumption; rfl)
    | (apply r_l; apply ld_mx'; assumption; rfl)
    | (apply r_l; apply ld_subs'; assumption; rfl)
    | (apply r_l; apply ld_node'; assumption; rfl)
    | (apply r_callA (f := 51); rfl; rfl; exact hnn)
    | (apply r_ldL; rfl; rfl; rfl)
    | (apply r_eql; rfl; rfl; (first | (apply decide_eq_true; omega) | (apply decide_eq_false; omega) | rfl))
    | (apply r_lss; rfl; rfl; (first | (apply decide_eq_true; omega) | (apply decide_eq_false; omega) | rfl))
    | (apply r_add; rfl; rfl; rfl; omega)
    | (apply r_max2; rfl; rfl; rfl)
    | (apply r_pickT; rfl)
    | (apply r_pickF; rfl)
    | (apply r_lenD; rfl)
    | (apply r_lenL; rfl)
    | (apply r_len0; rfl)
    | (apply r_gT; rfl)
    | (apply r_gF'; rfl; rfl)
    | (apply r_gN'; rfl)
    | ((apply r_gS (o := default); rfl) <;> (intro h; try simp only [decide_eq_true_eq, decide_eq_false_iff_not, Bool.not_eq_true, Bool.not_eq_false] at h))
    | (apply r_box; ((conv => lhs; simp only [Nat.reduceAdd]) <;> rfl); rfl; rfl; rfl)
    | (apply r_p; rfl)
    | (apply r_nilK)
    | (apply r_nil)
    | (apply k_V; rfl)
    | (apply k_P; rfl)
    | (apply k_PL; rfl)
    | (apply k_S; rfl)
    | (apply k_SL; rfl)
    | (apply k_A; rfl)
    | (apply k_T; rfl)
    | (apply k_F; rfl)
    | (apply k_D; rfl; rotate_left; rfl)
    | (apply k_nil)
    | (apply e_ret (vs := [.d (.val _)]); rfl)
    | (apply e_ret; rfl)
    | (apply e_ret' (vs := [.d (.val _)]); rfl)
    | (apply e_ret'; rfl)
    | (apply w_seq)
    | (apply w_ops; ((conv => lhs; simp only [Nat.reduceAdd]) <;> rfl))
    | (apply w_condT; rfl)
    | (apply w_condF; rfl)
    | ((apply w_condS; rfl) <;> (intro h; try simp only [decide_eq_true_eq, decide_eq_false_iff_not, Bool.not_eq_true, Bool.not_eq_false] at h))
    | (apply e_thenN)
    | (apply w_block)
    | (apply e_thenR)
    | (apply e_thenX)
    | (apply e_blkN)
    | (apply e_blkR)
    | (apply e_blkE)
    | (apply w_exit)
    | (apply w_ret)
    | (apply w_skip)
    | (apply e_blkE'; rfl))
    exact retI rfl
  have hpw := pw_pos (openT (T.node k a b c d mn mx subs)).toNat
  have hsub' : ∀ u ∈ subs, okF (knT u) ((u.cnt : Nat) * pw (openT (T.node k a b c d mn mx subs)).toNat) := fun u hu => by
    refine okF_mono (kn_ok u ((okL_iff _).1 hoks u hu)) ?_
    have h1 := sub_open (u := u) hok hu
    exact bT_le (Nat.le_refl _) (by have := open_nonneg _ hok; omega)
  have hpb : ∀ i, ((cntL (subs.take i) : Nat) : Int) * pw (openT (T.node k a b c d mn mx subs)).toNat ≤ 16384000000000000000 := by
    intro i
    have h1 := cntL_take_le subs i
    have h2 : ((cntL (subs.take i) : Nat) : Int) * pw (openT (T.node k a b c d mn mx subs)).toNat ≤ bT (T.node k a b c d mn mx subs) := by
      unfold bT
      exact Int.mul_le_mul_of_nonneg_right (by simp only [T.cnt]; omega) (by omega)
    omega
  by_cases h3 : k = 3
  · have e : knT (T.node k a b c d mn mx subs) = knC subs faE := by rw [knT, if_neg h2, if_pos h3]
    rw [e] at hno ⊢
    obtain ⟨_, hall⟩ := knC_no subs faE hno
    have hpre : ∀ i, (knC (subs.take i) faE).no = false ∧ 2 * (knC (subs.take i) faE).hi ≤ 16384000000000000000 ∧ -1 ≤ (knC (subs.take i) faE).hi := by
      intro i
      have h1 := knC_ok (openT (T.node k a b c d mn mx subs)).toNat (subs.take i) faE 0 (Int.le_refl _) (okF_E (Int.le_refl _)) (fun u hu => hsub' u (List.mem_of_mem_take hu))
      have h4 : (knC (subs.take i) faE).no = false := by
        have : knC subs faE = knC (subs.drop i) (knC (subs.take i) faE) := by rw [← knC_app, List.take_append_drop]
        rw [this] at hno
        exact (knC_no _ _ hno).1
      have := hpb i
      have := h1.2.2.2.2
      exact ⟨h4, by omega, (h1.2.2.1 h4).2⟩
    have hhs : ∀ i (h : i < subs.length), (knC (subs.take (i + 1)) faE).hi = plusH (knC (subs.take i) faE).hi (knT subs[i]).hi := fun i h => by
      rw [knC_step subs i h]
      exact (faThen_val (hpre i).1 (hall _ (List.getElem_mem h))).2.1
    have hnn3 : ∀ i, i ≤ subs.length → (∀ j (h : j < subs.length), j < i → (knT subs[j]).no = true ∨ 0 ≤ (knT subs[j]).hi) → 0 ≤ (knC (subs.take i) faE).hi := by
      intro i
      induction i with
      | zero => intro _ _; simp [knC, faE]
      | succ i ih2 =>
        intro hi hj
        have h1 := ih2 (by omega) fun j h hj' => hj j h (by omega)
        have h2 := hj i (by omega) (by omega)
        have h3 := hall subs[i] (List.getElem_mem (by omega))
        rw [h3] at h2
        have h2 : 0 ≤ (knT subs[i]).hi := by simpa using h2
        rw [hhs i (by omega), plusH, if_neg (by omega)]
        omega
    refine most_loop (.inl h3) (fun i => (knC (subs.take i) faE).hi) _ hnn hlen ih' hns rfl ?_ ?_ ?_ ?_ ?_
    · intro i hi hj
      have := (hpre i).2.1
      exact ⟨hnn3 i hi hj, by omega⟩
    · intro i h hj hn hp
      have := hnn3 i (by omega) hj
      try dsimp only
      rw [if_pos h3, hhs i h, plusH, if_neg (by omega)]
    · intro i h hn
      rw [hall _ (List.getElem_mem h)] at hn; cases hn
    · intro i h hn hneg
      have h1 := ((hksub i h).2.2.1 hn).2
      have e2 : knC subs faE = knC (subs.drop (i + 1)) (knC (subs.take (i + 1)) faE) := by rw [← knC_app, List.take_append_drop]
      rw [e2] at hno ⊢
      refine knC_end _ _ hno ?_
      rw [hhs i h, plusH, if_pos (by omega)]
    · intro _
      try dsimp only
      rw [List.take_length]
  by_cases h4 : k = 4
  · have e : knT (T.node k a b c d mn mx subs) = knO subs faNo := by rw [knT, if_neg h2, if_neg h3, if_pos h4]
    rw [e] at hno ⊢
    have hpre : ∀ i, 2 * (knO (subs.take i) faNo).hi ≤ 16384000000000000000 := by
      intro i
      have h1 := knO_ok (openT (T.node k a b c d mn mx subs)).toNat (subs.take i) faNo 0 (Int.le_refl _) (okF_no (Int.le_refl _)) (fun u hu => hsub' u (List.mem_of_mem_take hu))
      have := hpb i
      have := h1.2.2.2.2
      omega
    have hval : ∀ f g : Fa, (g.no = true → hiA (faOr f g) = hiA f) ∧ (g.no = false → 0 ≤ g.hi → 0 ≤ hiA f → hiA (faOr f g) = max (hiA f) g.hi) := by
      intro f g
      unfold faOr hiA
      constructor
      · intro hg
        cases hf : f.no <;> simp [hf, hg]
      · intro hg h1 h2
        cases hf : f.no with
        | true => simp [hg]; omega
        | false =>
          simp only [hf, hg, if_false, Bool.false_eq_true] at h2 ⊢
          rw [if_neg (by omega)]
    have hnn4 : ∀ i, i ≤ subs.length → (∀ j (h : j < subs.length), j < i → (knT subs[j]).no = true ∨ 0 ≤ (knT subs[j]).hi) → 0 ≤ hiA (knO (subs.take i) faNo) := by
      intro i
      induction i with
      | zero => intro _ _; simp [knO, faNo, hiA]
      | succ i ih2 =>
        intro hi hj
        have h1 := ih2 (by omega) fun j h hj' => hj j h (by omega)
        have h2 := hj i (by omega) (by omega)
        have h3 := hval (knO (subs.take i) faNo) (knT subs[i])
        rw [knO_step subs i (by omega)]
        cases hg : (knT subs[i]).no with
        | true => rw [h3.1 hg]; exact h1
        | false =>
          rw [hg] at h2
          have h2 : 0 ≤ (knT subs[i]).hi := by simpa using h2
          rw [h3.2 hg h2 h1]; omega
    refine most_loop (.inr h4) (fun i => hiA (knO (subs.take i) faNo)) _ hnn hlen ih' hns rfl ?_ ?_ ?_ ?_ ?_
    · intro i hi hj
      have := hpre i
      refine ⟨hnn4 i hi hj, ?_⟩
      try dsimp only
      unfold hiA
      split <;> omega
    · intro i h hj hn hp
      try dsimp only
      rw [if_neg h3, knO_step subs i h]
      exact (hval _ _).2 hn hp (hnn4 i (by omega) hj)
    · intro i h hn
      try dsimp only
      rw [knO_step subs i h]
      exact (hval _ _).1 hn
    · intro i h hn hneg
      have h1 := ((hksub i h).2.2.1 hn).2
      have e2 : knO subs faNo = knO (subs.drop (i + 1)) (knO (subs.take (i + 1)) faNo) := by rw [← knO_app, List.take_append_drop]
      rw [e2]
      have h6 : (faOr (knO (subs.take i) faNo) (knT subs[i])).no = false ∧ (faOr (knO (subs.take i) faNo) (knT subs[i])).hi = -1 := by
        unfold faOr
        split
        · exact ⟨hn, by omega⟩
        · rw [if_neg (by simp [hn])]
          exact ⟨rfl, by simp; omega⟩
      rw [knO_step subs i h]
      exact knO_end _ _ h6.1 h6.2
    · intro _
      try dsimp only
      rw [List.take_length]
      unfold hiA
      rw [if_neg (by simp [hno])]
  by_cases h5 : k = 5
  · obtain ⟨u, rfl⟩ : ∃ u, subs = [u] := by
      subst h5; exact plainT_5 hpl
    have e : knT (.node k a b c d mn mx [u]) = faTimes (knT u) mn mx := by rw [knT, if_neg h2, if_neg h3, if_neg h4, if_pos h5, knR]
    have hr := hR h5
    have hg := ih' 0 (by simp)
    have hgn := hns 0 (by simp)
    have hku := hksub 0 (by simp)
    simp only [List.getElem_cons_zero] at hg hgn hku
    have hs := NodeAt.sub (l := [u]) (i := 0) (by simp)
    simp only [List.getElem_cons_zero, Nat.zero_mul] at hs
    have h22 := hkt.2.2.2.2
    rw [e] at hno h22 ⊢
    have hnu := nodeA_nrm u
    have hna : [nodeA u].all AV.nrm = true := by rw [List.all_cons, hnu]; rfl
    clear ih ih' hns hksub hkt hok hoks ht hsub' hpb e hR hpl
    have e1 := hku.2.1
    have e2 := hku.2.2.1
    generalize knT u = f at *
    by_cases c0 : f.no = true
    · have e3 : (faTimes f mn mx).hi = 0 := by
        unfold faTimes at hno ⊢
        split
        · rfl
        · rename_i h1
          rw [if_neg h1, if_pos c0] at hno
          simp [faNo] at hno
      rw [e3]
      rw [c0] at hgn
      refine b63 (by simp) (by simp) (w_init ?_)
      unfold x63
      repeat' (first
    | (apply r_mvV; rfl)
    | (apply r_mvP; rfl)
    | (apply r_mvPL; rfl)
    | (apply r_mvS; rfl)
    | (apply r_mvSL; rfl)
    | (apply r_mvA; rfl)
    | (apply r_mvT; rfl)
    | (apply r_mvF; rfl)
    | (apply r_mvD; rfl)
    | (apply r_faddD; rfl)
    | (apply r_faddL; rfl)
    | (apply r_l; apply ld_kind; assumption; rfl)
    | (apply r_l; apply ld_mn; assumption; rfl)
    | (apply r_l; apply ld_mx; assumption; rfl)
    | (apply r_l; apply ld_subs; assumption; rfl)
    | (apply r_l; apply ld_set; assumption; rfl)
    | (apply r_l; apply ld_node; assumption; rfl)
    | (apply r_l; apply ld_kind'; assumption; rfl)
    | (apply r_l; apply ld_mn'; assumption; rfl)
    | (apply r_l; apply ld_mx'; assumption; rfl)
    | (apply r_l; apply ld_subs'; assumption; rfl)
    | (apply r_l; apply ld_node'; assumption; rfl)
    | (apply r_p; apply ix_sub0; rfl; rfl; simp)
    | (apply r_l; apply ld_node'; exact hs; rfl)
    | (apply r_callA (f := 51) (ags := [nodeA u]); rfl; exact hna; exact hgn)
    | (apply r_callA (f := 51); rfl; rfl; exact hnn)
    | (apply r_ldL; rfl; rfl; rfl)
    | (apply r_eql; rfl; rfl; (first | (apply decide_eq_true; omega) | (apply decide_eq_false; omega) | rfl))
    | (apply r_lss; rfl; rfl; (first | (apply decide_eq_true; omega) | (apply decide_eq_false; omega) | rfl))
    | (apply r_add; rfl; rfl; rfl; omega)
    | (apply r_max2; rfl; rfl; rfl)
    | (apply r_pickT; rfl)
    | (apply r_pickF; rfl)
    | (apply r_lenD; rfl)
    | (apply r_lenL; rfl)
    | (apply r_len0; rfl)
    | (apply r_gT; rfl)
    | (apply r_gF'; rfl; rfl)
    | (apply r_gN'; rfl)
    | ((apply r_gS (o := default); rfl) <;> (intro h; try simp only [decide_eq_true_eq, decide_eq_false_iff_not, Bool.not_eq_true, Bool.not_eq_false] at h))
    | (apply r_box; ((conv => lhs; simp only [Nat.reduceAdd]) <;> rfl); rfl; rfl; rfl)
    | (apply r_p; rfl)
    | (apply r_nilK)
    | (apply r_nil)
    | (apply k_V; rfl)
    | (apply k_P; rfl)
    | (apply k_PL; rfl)
    | (apply k_S; rfl)
    | (apply k_SL; rfl)
    | (apply k_A; rfl)
    | (apply k_T; rfl)
    | (apply k_F; rfl)
    | (apply k_D; rfl; rotate_left; rfl)
    | (apply k_nil)
    | (apply e_ret (vs := [.d (.val _)]); rfl)
    | (apply e_ret; rfl)
    | (apply e_ret' (vs := [.d (.val _)]); rfl)
    | (apply e_ret'; rfl)
    | (apply w_seq)
    | (apply w_ops; ((conv => lhs; simp only [Nat.reduceAdd]) <;> rfl))
    | (apply w_condT; rfl)
    | (apply w_condF; rfl)
    | ((apply w_condS; rfl) <;> (intro h; try simp only [decide_eq_true_eq, decide_eq_false_iff_not, Bool.not_eq_true, Bool.not_eq_false] at h))
    | (apply e_thenN)
    | (apply w_block)
    | (apply e_thenR)
    | (apply e_thenX)
    | (apply e_blkN)
    | (apply e_blkR)
    | (apply e_blkE)
    | (apply w_exit)
    | (apply w_ret)
    | (apply w_skip)
    | (apply e_blkE'; rfl))
      exact retI rfl
    have c0 : f.no = false := by simpa using c0
    rw [c0] at hgn
    have e2 := e2 c0
    by_cases c1 : mx = 0
    · have e3 : (faTimes f mn mx).hi = 0 := by unfold faTimes; rw [if_pos (.inl c1)]; rfl
      rw [e3]
      refine b63 (by simp) (by simp) (w_init ?_)
      unfold x63
      repeat' (first
    | (apply r_mvV; rfl)
    | (apply r_mvP; rfl)
    | (apply r_mvPL; rfl)
    | (apply r_mvS; rfl)
    | (apply r_mvSL; rfl)
    | (apply r_mvA; rfl)
    | (apply r_mvT; rfl)
    | (apply r_mvF; rfl)
    | (apply r_mvD; rfl)
    | (apply r_faddD; rfl)
    | (apply r_faddL; rfl)
    | (apply r_l; apply ld_kind; assumption; rfl)
    | (apply r_l; apply ld_mn; assumption; rfl)
    | (apply r_l; apply ld_mx; assumption; rfl)
    | (apply r_l; apply ld_subs; assumption; rfl)
    | (apply r_l; apply ld_set; assumption; rfl)
    | (apply r_l; apply ld_node; assumption; rfl)
    | (apply r_l; apply ld_kind'; assumption; rfl)
    | (apply r_l; apply ld_mn'; assumption; rfl)
    | (apply r_l; apply ld_mx'; assumption; rfl)
    | (apply r_l; apply ld_subs'; assumption; rfl)
    | (apply r_l; apply ld_node'; assumption; rfl)
    | (apply r_p; apply ix_sub0; rfl; rfl; simp)
    | (apply r_l; apply ld_node'; exact hs; rfl)
    | (apply r_callA (f := 51) (ags := [nodeA u]); rfl; exact hna; exact hgn)
    | (apply r_callA (f := 51); rfl; rfl; exact hnn)
    | (apply r_ldL; rfl; rfl; rfl)
    | (apply r_eql; rfl; rfl; (first | (apply decide_eq_true; omega) | (apply decide_eq_false; omega) | rfl))
    | (apply r_lss; rfl; rfl; (first | (apply decide_eq_true; omega) | (apply decide_eq_false; omega) | rfl))
    | (apply r_add; rfl; rfl; rfl; omega)
    | (apply r_max2; rfl; rfl; rfl)
    | (apply r_pickT; rfl)
    | (apply r_pickF; rfl)
    | (apply r_lenD; rfl)
    | (apply r_lenL; rfl)
    | (apply r_len0; rfl)
    | (apply r_gT; rfl)
    | (apply r_gF'; rfl; rfl)
    | (apply r_gN'; rfl)
    | ((apply r_gS (o := default); rfl) <;> (intro h; try simp only [decide_eq_true_eq, decide_eq_false_iff_not, Bool.not_eq_true, Bool.not_eq_false] at h))
    | (apply r_box; ((conv => lhs; simp only [Nat.reduceAdd]) <;> rfl); rfl; rfl; rfl)
    | (apply r_p; rfl)
    | (apply r_nilK)
    | (apply r_nil)
    | (apply k_V; rfl)
    | (apply k_P; rfl)
    | (apply k_PL; rfl)
    | (apply k_S; rfl)
    | (apply k_SL; rfl)
    | (apply k_A; rfl)
    | (apply k_T; rfl)
    | (apply k_F; rfl)
    | (apply k_D; rfl; rotate_left; rfl)
    | (apply k_nil)
    | (apply e_ret (vs := [.d (.val _)]); rfl)
    | (apply e_ret; rfl)
    | (apply e_ret' (vs := [.d (.val _)]); rfl)
    | (apply e_ret'; rfl)
    | (apply w_seq)
    | (apply w_ops; ((conv => lhs; simp only [Nat.reduceAdd]) <;> rfl))
    | (apply w_condT; rfl)
    | (apply w_condF; rfl)
    | ((apply w_condS; rfl) <;> (intro h; try simp only [decide_eq_true_eq, decide_eq_false_iff_not, Bool.not_eq_true, Bool.not_eq_false] at h))
    | (apply e_thenN)
    | (apply w_block)
    | (apply e_thenR)
    | (apply e_thenX)
    | (apply e_blkN)
    | (apply e_blkR)
    | (apply e_blkE)
    | (apply w_exit)
    | (apply w_ret)
    | (apply w_skip)
    | (apply e_blkE'; rfl))
      exact retI rfl
    have e3 : (faTimes f mn mx).hi = if f.hi = 0 then 0 else if f.hi = -1 ∨ mx = -1 then -1 else f.hi * mx := by
      unfold faTimes; rw [if_neg (by simp [c1, c0]), if_neg (by simp [c0])]
    rw [e3] at h22 ⊢
    generalize f.hi = fh at *
    by_cases c2 : fh = 0
    · rw [if_pos c2]
      refine b63 (by simp) (by simp) (w_init ?_)
      unfold x63
      repeat' (first
    | (apply r_mvV; rfl)
    | (apply r_mvP; rfl)
    | (apply r_mvPL; rfl)
    | (apply r_mvS; rfl)
    | (apply r_mvSL; rfl)
    | (apply r_mvA; rfl)
    | (apply r_mvT; rfl)
    | (apply r_mvF; rfl)
    | (apply r_mvD; rfl)
    | (apply r_faddD; rfl)
    | (apply r_faddL; rfl)
    | (apply r_l; apply ld_kind; assumption; rfl)
    | (apply r_l; apply ld_mn; assumption; rfl)
    | (apply r_l; apply ld_mx; assumption; rfl)
    | (apply r_l; apply ld_subs; assumption; rfl)
    | (apply r_l; apply ld_set; assumption; rfl)
    | (apply r_l; apply ld_node; assumption; rfl)
    | (apply r_l; apply ld_kind'; assumption; rfl)
    | (apply r_l; apply ld_mn'; assumption; rfl)
    | (apply r_l; apply ld_mx'; assumption; rfl)
    | (apply r_l; apply ld_subs'; assumption; rfl)
    | (apply r_l; apply ld_node'; assumption; rfl)
    | (apply r_p; apply ix_sub0; rfl; rfl; simp)
    | (apply r_l; apply ld_node'; exact hs; rfl)
    | (apply r_callA (f := 51) (ags := [nodeA u]); rfl; exact hna; exact hgn)
    | (apply r_callA (f := 51); rfl; rfl; exact hnn)
    | (apply r_callA (f := 63) (ags := [nodeA u]); rfl; exact hna; exact hg)
    | (apply r_ldL; rfl; rfl; rfl)
    | (apply r_eql; rfl; rfl; (first | (apply decide_eq_true; omega) | (apply decide_eq_false; omega) | rfl))
    | (apply r_lss; rfl; rfl; (first | (apply decide_eq_true; omega) | (apply decide_eq_false; omega) | rfl))
    | (apply r_add; rfl; rfl; rfl; omega)
    | (apply r_max2; rfl; rfl; rfl)
    | (apply r_pickT; rfl)
    | (apply r_pickF; rfl)
    | (apply r_lenD; rfl)
    | (apply r_lenL; rfl)
    | (apply r_len0; rfl)
    | (apply r_gT; rfl)
    | (apply r_gF'; rfl; rfl)
    | (apply r_gN'; rfl)
    | ((apply r_gS (o := default); rfl) <;> (intro h; try simp only [decide_eq_true_eq, decide_eq_false_iff_not, Bool.not_eq_true, Bool.not_eq_false] at h))
    | (apply r_box; ((conv => lhs; simp only [Nat.reduceAdd]) <;> rfl); rfl; rfl; rfl)
    | (apply r_p; rfl)
    | (apply r_nilK)
    | (apply r_nil)
    | (apply k_V; rfl)
    | (apply k_P; rfl)
    | (apply k_PL; rfl)
    | (apply k_S; rfl)
    | (apply k_SL; rfl)
    | (apply k_A; rfl)
    | (apply k_T; rfl)
    | (apply k_F; rfl)
    | (apply k_D; rfl; rotate_left; rfl)
    | (apply k_nil)
    | (apply e_ret (vs := [.d (.val _)]); rfl)
    | (apply e_ret; rfl)
    | (apply e_ret' (vs := [.d (.val _)]); rfl)
    | (apply e_ret'; rfl)
    | (apply w_seq)
    | (apply w_ops; ((conv => lhs; simp only [Nat.reduceAdd]) <;> rfl))
    | (apply w_condT; rfl)
    | (apply w_condF; rfl)
    | ((apply w_condS; rfl) <;> (intro h; try simp only [decide_eq_true_eq, decide_eq_false_iff_not, Bool.not_eq_true, Bool.not_eq_false] at h))
    | (apply e_thenN)
    | (apply w_block)
    | (apply e_thenR)
    | (apply e_thenX)
    | (apply e_blkN)
    | (apply e_blkR)
    | (apply e_blkE)
    | (apply w_exit)
    | (apply w_ret)
    | (apply w_skip)
    | (apply e_blkE'; rfl))
      exact retI rfl
    rw [if_neg c2] at h22 ⊢
    by_cases c3 : fh = -1 ∨ mx = -1
    · rw [if_pos c3]
      rcases c3 with c3 | c3
      all_goals
        refine b63 (by simp) (by simp) (w_init ?_)
        unfold x63
        repeat' (first
    | (apply r_mvV; rfl)
    | (apply r_mvP; rfl)
    | (apply r_mvPL; rfl)
    | (apply r_mvS; rfl)
    | (apply r_mvSL; rfl)
    | (apply r_mvA; rfl)
    | (apply r_mvT; rfl)
    | (apply r_mvF; rfl)
    | (apply r_mvD; rfl)
    | (apply r_faddD; rfl)
    | (apply r_faddL; rfl)
    | (apply r_l; apply ld_kind; assumption; rfl)
    | (apply r_l; apply ld_mn; assumption; rfl)
    | (apply r_l; apply ld_mx; assumption; rfl)
    | (apply r_l; apply ld_subs; assumption; rfl)
    | (apply r_l; apply ld_set; assumption; rfl)
    | (apply r_l; apply ld_node; assumption; rfl)
    | (apply r_l; apply ld_kind'; assumption; rfl)
    | (apply r_l; apply ld_mn'; assumption; rfl)
    | (apply r_l; apply ld_mx'; assumption; rfl)
    | (apply r_l; apply ld_subs'; assumption; rfl)
    | (apply r_l; apply ld_node'; assumption; rfl)
    | (apply r_p; apply ix_sub0; rfl; rfl; simp)
    | (apply r_l; apply ld_node'; exact hs; rfl)
    | (apply r_callA (f := 51) (ags := [nodeA u]); rfl; exact hna; exact hgn)
    | (apply r_callA (f := 51); rfl; rfl; exact hnn)
    | (apply r_callA (f := 63) (ags := [nodeA u]); rfl; exact hna; exact hg)
    | (apply r_ldL; rfl; rfl; rfl)
    | (apply r_eql; rfl; rfl; (first | (apply decide_eq_true; omega) | (apply decide_eq_false; omega) | rfl))
    | (apply r_lss; rfl; rfl; (first | (apply decide_eq_true; omega) | (apply decide_eq_false; omega) | rfl))
    | (apply r_add; rfl; rfl; rfl; omega)
    | (apply r_max2; rfl; rfl; rfl)
    | (apply r_pickT; rfl)
    | (apply r_pickF; rfl)
    | (apply r_lenD; rfl)
    | (apply r_lenL; rfl)
    | (apply r_len0; rfl)
    | (apply r_gT; rfl)
    | (apply r_gF'; rfl; rfl)
    | (apply r_gN'; rfl)
    | ((apply r_gS (o := default); rfl) <;> (intro h; try simp only [decide_eq_true_eq, decide_eq_false_iff_not, Bool.not_eq_true, Bool.not_eq_false] at h))
    | (apply r_box; ((conv => lhs; simp only [Nat.reduceAdd]) <;> rfl); rfl; rfl; rfl)
    | (apply r_p; rfl)
    | (apply r_nilK)
    | (apply r_nil)
    | (apply k_V; rfl)
    | (apply k_P; rfl)
    | (apply k_PL; rfl)
    | (apply k_S; rfl)
    | (apply k_SL; rfl)
    | (apply k_A; rfl)
    | (apply k_T; rfl)
    | (apply k_F; rfl)
    | (apply k_D; rfl; rotate_left; rfl)
    | (apply k_nil)
    | (apply e_ret (vs := [.d (.val _)]); rfl)
    | (apply e_ret; rfl)
    | (apply e_ret' (vs := [.d (.val _)]); rfl)
    | (apply e_ret'; rfl)
    | (apply w_seq)
    | (apply w_ops; ((conv => lhs; simp only [Nat.reduceAdd]) <;> rfl))
    | (apply w_condT; rfl)
    | (apply w_condF; rfl)
    | ((apply w_condS; rfl) <;> (intro h; try simp only [decide_eq_true_eq, decide_eq_false_iff_not, Bool.not_eq_true, Bool.not_eq_false] at h))
    | (apply e_thenN)
    | (apply w_block)
    | (apply e_thenR)
    | (apply e_thenX)
    | (apply e_blkN)
    | (apply e_blkR)
    | (apply e_blkE)
    | (apply w_exit)
    | (apply w_ret)
    | (apply w_skip)
    | (apply e_blkE'; rfl))
        all_goals exact retI rfl
    · rw [if_neg c3] at h22 ⊢
      have c4 : 0 ≤ fh ∧ 0 ≤ mx := by omega
      have hge : 0 ≤ fh * mx := Int.mul_nonneg c4.1 c4.2
      have hrange : -9223372036854775808 ≤ fh * mx ∧ fh * mx < 9223372036854775808 := by omega
      refine b63 (by simp) (by simp) (w_init ?_)
      unfold x63
      repeat' (first
    | (apply r_mvV; rfl)
    | (apply r_mvP; rfl)
    | (apply r_mvPL; rfl)
    | (apply r_mvS; rfl)
    | (apply r_mvSL; rfl)
    | (apply r_mvA; rfl)
    | (apply r_mvT; rfl)
    | (apply r_mvF; rfl)
    | (apply r_mvD; rfl)
    | (apply r_faddD; rfl)
    | (apply r_faddL; rfl)
    | (apply r_l; apply ld_kind; assumption; rfl)
    | (apply r_l; apply ld_mn; assumption; rfl)
    | (apply r_l; apply ld_mx; assumption; rfl)
    | (apply r_l; apply ld_subs; assumption; rfl)
    | (apply r_l; apply ld_set; assumption; rfl)
    | (apply r_l; apply ld_node; assumption; rfl)
    | (apply r_l; apply ld_kind'; assumption; rfl)
    | (apply r_l; apply ld_mn'; assumption; rfl)
    | (apply r_l; apply ld_mx'; assumption; rfl)
    | (apply r_l; apply ld_subs'; assumption; rfl)
    | (apply r_l; apply ld_node'; assumption; rfl)
    | (apply r_p; apply ix_sub0; rfl; rfl; simp)
    | (apply r_l; apply ld_node'; exact hs; rfl)
    | (apply r_callA (f := 51) (ags := [nodeA u]); rfl; exact hna; exact hgn)
    | (apply r_callA (f := 51); rfl; rfl; exact hnn)
    | (apply r_callA (f := 63) (ags := [nodeA u]); rfl; exact hna; exact hg)
    | (apply r_mul; rfl; rfl; rfl; exact hrange)
    | (apply r_ldL; rfl; rfl; rfl)
    | (apply r_eql; rfl; rfl; (first | (apply decide_eq_true; omega) | (apply decide_eq_false; omega) | rfl))
    | (apply r_lss; rfl; rfl; (first | (apply decide_eq_true; omega) | (apply decide_eq_false; omega) | rfl))
    | (apply r_add; rfl; rfl; rfl; omega)
    | (apply r_max2; rfl; rfl; rfl)
    | (apply r_pickT; rfl)
    | (apply r_pickF; rfl)
    | (apply r_lenD; rfl)
    | (apply r_lenL; rfl)
    | (apply r_len0; rfl)
    | (apply r_gT; rfl)
    | (apply r_gF'; rfl; rfl)
    | (apply r_gN'; rfl)
    | ((apply r_gS (o := default); rfl) <;> (intro h; try simp only [decide_eq_true_eq, decide_eq_false_iff_not, Bool.not_eq_true, Bool.not_eq_false] at h))
    | (apply r_box; ((conv => lhs; simp only [Nat.reduceAdd]) <;> rfl); rfl; rfl; rfl)
    | (apply r_p; rfl)
    | (apply r_nilK)
    | (apply r_nil)
    | (apply k_V; rfl)
    | (apply k_P; rfl)
    | (apply k_PL; rfl)
    | (apply k_S; rfl)
    | (apply k_SL; rfl)
    | (apply k_A; rfl)
    | (apply k_T; rfl)
    | (apply k_F; rfl)
    | (apply k_D; rfl; rotate_left; rfl)
    | (apply k_nil)
    | (apply e_ret (vs := [.d (.val _)]); rfl)
    | (apply e_ret; rfl)
    | (apply e_ret' (vs := [.d (.val _)]); rfl)
    | (apply e_ret'; rfl)
    | (apply w_seq)
    | (apply w_ops; ((conv => lhs; simp only [Nat.reduceAdd]) <;> rfl))
    | (apply w_condT; rfl)
    | (apply w_condF; rfl)
    | ((apply w_condS; rfl) <;> (intro h; try simp only [decide_eq_true_eq, decide_eq_false_iff_not, Bool.not_eq_true, Bool.not_eq_false] at h))
    | (apply e_thenN)
    | (apply w_block)
    | (apply e_thenR)
    | (apply e_thenX)
    | (apply e_blkN)
    | (apply e_blkR)
    | (apply e_blkE)
    | (apply w_exit)
    | (apply w_ret)
    | (apply w_skip)
    | (apply e_blkE'; rfl))
      exact retI rfl
  · have e : (knT (T.node k a b c d mn mx subs)).hi = 0 := by rw [knT, if_neg h2, if_neg h3, if_neg h4, if_neg h5]; rfl
    rw [e]
    clear ih ih' hns hksub hkt hok hoks hbt ht hsub' hpb hR hpl hno e
    refine b63 (by simp) (by simp) (w_init ?_)
    unfold x63
    repeat' (first
    | (apply r_mvV; rfl)
    | (apply r_mvP; rfl)
    | (apply r_mvPL; rfl)
    | (apply r_mvS; rfl)
    | (apply r_mvSL; rfl)
    | (apply r_mvA; rfl)
    | (apply r_mvT; rfl)
    | (apply r_mvF; rfl)
    | (apply r_mvD; rfl)
    | (apply r_faddD; rfl)
    | (apply r_faddL; rfl)
    | (apply r_l; apply ld_kind; assumption; rfl)
    | (apply r_l; apply ld_mn; assumption; rfl)
    | (apply r_l; apply ld_mx; assumption; rfl)
    | (apply r_l; apply ld_subs; assumption; rfl)
    | (apply r_l; apply ld_set; assumption; rfl)
    | (apply r_l; apply ld_node; assumption; rfl)
    | (apply r_l; apply ld_kind'; assumption; rfl)
    | (apply r_l; apply ld_mn'; assumption; rfl)
    | (apply r_l; apply ld_mx'; assumption; rfl)
    | (apply r_l; apply ld_subs'; assumption; rfl)
    | (apply r_l; apply ld_node'; assumption; rfl)
    | (apply r_callA (f := 51); rfl; rfl; exact hnn)
    | (apply r_ldL; rfl; rfl; rfl)
    | (apply r_eql; rfl; rfl; (first | (apply decide_eq_true; omega) | (apply decide_eq_false; omega) | rfl))
    | (apply r_lss; rfl; rfl; (first | (apply decide_eq_true; omega) | (apply decide_eq_false; omega) | rfl))
    | (apply r_add; rfl; rfl; rfl; omega)
    | (apply r_max2; rfl; rfl; rfl)
    | (apply r_pickT; rfl)
    | (apply r_pickF; rfl)
    | (apply r_lenD; rfl)
    | (apply r_lenL; rfl)
    | (apply r_len0; rfl)
    | (apply r_gT; rfl)
    | (apply r_gF'; rfl; rfl)
    | (apply r_gN'; rfl)
    | ((apply r_gS (o := default); rfl) <;> (intro h; try simp only [decide_eq_true_eq, decide_eq_false_iff_not, Bool.not_eq_true, Bool.not_eq_false] at h))
    | (apply r_box; ((conv => lhs; simp only [Nat.reduceAdd]) <;> rfl); rfl; rfl; rfl)
    | (apply r_p; rfl)
    | (apply r_nilK)
    | (apply r_nil)
    | (apply k_V; rfl)
    | (apply k_P; rfl)
    | (apply k_PL; rfl)
    | (apply k_S; rfl)
    | (apply k_SL; rfl)
    | (apply k_A; rfl)
    | (apply k_T; rfl)
    | (apply k_F; rfl)
    | (apply k_D; rfl; rotate_left; rfl)
    | (apply k_nil)
    | (apply e_ret (vs := [.d (.val _)]); rfl)
    | (apply e_ret; rfl)
    | (apply e_ret' (vs := [.d (.val _)]); rfl)
    | (apply e_ret'; rfl)
    | (apply w_seq)
    | (apply w_ops; ((conv => lhs; simp only [Nat.reduceAdd]) <;> rfl))
    | (apply w_condT; rfl)
    | (apply w_condF; rfl)
    | ((apply w_condS; rfl) <;> (intro h; try simp only [decide_eq_true_eq, decide_eq_false_iff_not, Bool.not_eq_true, Bool.not_eq_false] at h))
    | (apply e_thenN)
    | (apply w_block)
    | (apply e_thenR)
    | (apply e_thenX)
    | (apply e_blkN)
    | (apply e_blkR)
    | (apply e_blkE)
    | (apply w_exit)
    | (apply w_ret)
    | (apply w_skip)
    | (apply e_blkE'; rfl))
    exact retI rfl
end Go.Sv
namespace Go.Sv
open Go Go.Proofs
set_option maxRecDepth 100000
def x64 : XC := (.seq (.ops 1 [
    (0, ⟨(some 0), none, .mv (.k (.d (.val (.bool false))))⟩)] (some [])) (.seq (.ops 9 [
    (0, ⟨(some 12), none, .call 118 [(.k (.d (.val (.string ⟨#[97, 123, 50, 44, 51, 125, 124, 98, 42]⟩))))] none false⟩),
    (1, ⟨(some 11), none, .mv (.t 12)⟩),
    (2, ⟨(some 13), none, .ext (.t 11) 0⟩),
    (3, ⟨(some 14), none, .ext (.t 11) 1⟩),
    (4, ⟨(some 15), none, .ext (.t 11) 2⟩),
    (5, ⟨(some 1), none, .alloc [(.int .i64 0), (.int .u64 0), (.int .u64 0), (.int .u64 0), (.int .u64 0), (.int .i64 0), (.int .i64 0), (.slice none 0 0)]⟩),
    (6, ⟨none, none, .store 8 (.t 1) (.t 13)⟩),
    (7, ⟨(some 2), none, .mv (.t 14)⟩),
    (8, ⟨(some 3), none, .mv (.t 15)⟩)] (some [1])) (.seq (.ops 9 [
    (0, ⟨(some 17), none, .call 118 [(.k (.d (.val (.string ⟨#[97, 91, 93]⟩))))] none false⟩),
    (1, ⟨(some 16), none, .mv (.t 17)⟩),
    (2, ⟨(some 18), none, .ext (.t 16) 0⟩),
    (3, ⟨(some 19), none, .ext (.t 16) 1⟩),
    (4, ⟨(some 20), none, .ext (.t 16) 2⟩),
    (5, ⟨(some 4), none, .alloc [(.int .i64 0), (.int .u64 0), (.int .u64 0), (.int .u64 0), (.int .u64 0), (.int .i64 0), (.int .i64 0), (.slice none 0 0)]⟩),
    (6, ⟨none, none, .store 8 (.t 4) (.t 18)⟩),
    (7, ⟨(some 5), none, .mv (.t 19)⟩),
    (8, ⟨(some 6), none, .mv (.t 20)⟩)] (some [1, 4])) (.seq (.ops 7 [
    (0, ⟨(some 22), none, .load (some 8) (.t 1)⟩),
    (1, ⟨(some 23), none, .call 66 [(.t 22)] none false⟩),
    (2, ⟨(some 21), none, .mv (.t 23)⟩),
    (3, ⟨(some 24), none, .ext (.t 21) 0⟩),
    (4, ⟨(some 25), none, .ext (.t 21) 1⟩),
    (5, ⟨(some 7), none, .mv (.t 24)⟩),
    (6, ⟨(some 8), none, .mv (.t 25)⟩)] (some [1, 4, 7, 8])) (.seq (.ops 7 [
    (0, ⟨(some 27), none, .load (some 8) (.t 4)⟩),
    (1, ⟨(some 28), none, .call 66 [(.t 27)] none false⟩),
    (2, ⟨(some 26), none, .mv (.t 28)⟩),
    (3, ⟨(some 29), none, .ext (.t 26) 0⟩),
    (4, ⟨(some 30), none, .ext (.t 26) 1⟩),
    (5, ⟨(some 9), none, .mv (.t 29)⟩),
    (6, ⟨(some 10), none, .mv (.t 30)⟩)] (some [1, 4, 7, 8, 9, 10])) (.seq (.ops 60 [
    (0, ⟨(some 31), none, .load (some 8) (.t 1)⟩),
    (1, ⟨(some 32), none, .call 67 [(.t 31)] none false⟩),
    (2, ⟨(some 33), none, .arith .eql (.t 32) (.k (.d (.val (.int .i64 5))))⟩),
    (3, ⟨(some 34), none, .mv (.t 33)⟩),
    (4, ⟨(some 35), (some (34, true)), .load (some 8) (.t 1)⟩),
    (5, ⟨(some 36), (some (34, true)), .call 68 [(.t 35)] none false⟩),
    (6, ⟨(some 37), (some (34, true)), .arith .eql (.t 36) (.k (.d (.val (.int .i64 14))))⟩),
    (7, ⟨(some 38), none, .pick (.t 34) (.t 37) (.k (.d (.val (.bool false))))⟩),
    (8, ⟨(some 39), none, .mv (.t 38)⟩),
    (9, ⟨(some 40), (some (39, true)), .load (some 8) (.t 1)⟩),
    (10, ⟨(some 41), (some (39, true)), .call 69 [(.t 40)] none false⟩),
    (11, ⟨(some 42), none, .pick (.t 39) (.t 41) (.k (.d (.val (.bool false))))⟩),
    (12, ⟨(some 43), none, .mv (.t 42)⟩),
    (13, ⟨(some 44), (some (43, true)), .load (some 8) (.t 1)⟩),
    (14, ⟨(some 45), (some (43, true)), .call 70 [(.t 44)] none false⟩),
    (15, ⟨(some 46), (some (43, true)), .call 119 [(.k (.d (.val (.int .u8 97)))), (.k (.d (.val (.int .u8 98))))] none false⟩),
    (16, ⟨(some 47), (some (43, true)), .eqAgg 4 false (.t 45) (.t 46)⟩),
    (17, ⟨(some 48), none, .pick (.t 43) (.t 47) (.k (.d (.val (.bool false))))⟩),
    (18, ⟨(some 49), none, .mv (.t 48)⟩),
    (19, ⟨(some 50), (some (49, true)), .mv (.t 7)⟩),
    (20, ⟨(some 51), (some (49, true)), .arith .eql (.t 50) (.k (.d (.val (.int .i64 0))))⟩),
    (21, ⟨(some 52), none, .pick (.t 49) (.t 51) (.k (.d (.val (.bool false))))⟩),
    (22, ⟨(some 53), none, .mv (.t 52)⟩),
    (23, ⟨(some 54), (some (53, true)), .mv (.t 8)⟩),
    (24, ⟨(some 55), (some (53, true)), .arith .eql (.t 54) (.k (.d (.val (.int .i64 (-1)))))⟩),
    (25, ⟨(some 56), none, .pick (.t 53) (.t 55) (.k (.d (.val (.bool false))))⟩),
    (26, ⟨(some 57), none, .mv (.t 56)⟩),
    (27, ⟨(some 58), (some (57, true)), .mv (.t 9)⟩),
    (28, ⟨(some 59), (some (57, true)), .arith .eql (.t 58) (.k (.d (.val (.int .i64 (-1)))))⟩),
    (29, ⟨(some 60), none, .pick (.t 57) (.t 59) (.k (.d (.val (.bool false))))⟩),
    (30, ⟨(some 61), none, .mv (.t 60)⟩),
    (31, ⟨(some 62), (some (61, true)), .mv (.t 10)⟩),
    (32, ⟨(some 63), (some (61, true)), .arith .eql (.t 62) (.k (.d (.val (.int .i64 (-1)))))⟩),
    (33, ⟨(some 64), none, .pick (.t 61) (.t 63) (.k (.d (.val (.bool false))))⟩),
    (34, ⟨(some 65), none, .mv (.t 64)⟩),
    (35, ⟨(some 66), (some (65, true)), .load (some 8) (.t 4)⟩),
    (36, ⟨(some 67), (some (65, true)), .call 71 [(.t 66)] none false⟩),
    (37, ⟨(some 68), none, .pick (.t 65) (.t 67) (.k (.d (.val (.bool false))))⟩),
    (38, ⟨(some 69), none, .mv (.t 68)⟩),
    (39, ⟨(some 70), (some (69, true)), .load (some 8) (.t 1)⟩),
    (40, ⟨(some 71), (some (69, true)), .call 71 [(.t 70)] none false⟩),
    (41, ⟨(some 72), (some (69, true)), .un .not (.t 71)⟩),
    (42, ⟨(some 73), none, .pick (.t 69) (.t 72) (.k (.d (.val (.bool false))))⟩),
    (43, ⟨(some 74), none, .mv (.t 73)⟩),
    (44, ⟨(some 75), (some (74, true)), .load (some 8) (.t 1)⟩),
    (45, ⟨(some 76), (some (74, true)), .call 65 [(.t 75)] none false⟩),
    (46, ⟨(some 77), (some (74, true)), .lenS (.t 76)⟩),
    (47, ⟨(some 78), (some (74, true)), .arith .eql (.t 77) (.k (.d (.val (.int .i64 2))))⟩),
    (48, ⟨(some 79), none, .pick (.t 74) (.t 78) (.k (.d (.val (.bool false))))⟩),
    (49, ⟨(some 80), none, .mv (.t 79)⟩),
    (50, ⟨(some 81), (some (80, true)), .build [(.int .i64 0), (.int .u64 0), (.int .u64 0), (.int .u64 0), (.int .u64 0), (.int .i64 0), (.int .i64 0), (.slice none 0 0)] []⟩),
    (51, ⟨(some 82), (some (80, true)), .call 67 [(.t 81)] none false⟩),
    (52, ⟨(some 83), (some (80, true)), .arith .eql (.t 82) (.k (.d (.val (.int .i64 0))))⟩),
    (53, ⟨(some 84), none, .pick (.t 80) (.t 83) (.k (.d (.val (.bool false))))⟩),
    (54, ⟨(some 85), none, .mv (.t 84)⟩),
    (55, ⟨(some 86), (some (85, true)), .build [(.int .i64 0), (.int .u64 0), (.int .u64 0), (.int .u64 0), (.int .u64 0), (.int .i64 0), (.int .i64 0), (.slice none 0 0)] []⟩),
    (56, ⟨(some 87), (some (85, true)), .call 68 [(.t 86)] none false⟩),
    (57, ⟨(some 88), (some (85, true)), .arith .eql (.t 87) (.k (.d (.val (.int .i64 0))))⟩),
    (58, ⟨(some 89), none, .pick (.t 85) (.t 88) (.k (.d (.val (.bool false))))⟩),
    (59, ⟨(some 0), none, .mv (.t 89)⟩)] (some [0])) .ret))))))
def md64 : FuncId → Option Nat × Bool
  | _ => (none, false)
def od64 : Nat → List (List Nat) × List Nat × Option (List Nat)
  | 0 => ([], [], some [])
  | 1 => ([], [], some [1])
  | 2 => ([], [], some [1, 4])
  | 3 => ([], [], some [1, 4, 7, 8])
  | 4 => ([], [], some [1, 4, 7, 8, 9, 10])
  | 5 => ([], [], some [0])
  | _ => ([], [], none)
theorem b64 {ags : List AV} {row : Option (List DV)} {r : AV} {row' nw : Option (List DV)} (hal : ags.length ≤ 90) (hrow : row'.isSome = true → row.isSome = true) (h : xwp Try.prog x64 (retK [.tmp 0] row.isSome r row' nw) (St.init ags row)) : Good Try.prog 64 ags row r row' nw :=
  good_of_body' (md := md64) (od := od64) Try.f64 (by kernel_rfl) (by kernel_rfl) (by kernel_rfl) (by kernel_rfl) (by kernel_rfl) hal hrow h

def x65 : XC := (.seq (.ops 2 [
    (0, ⟨(some 1), none, .box (.t 0)⟩),
    (1, ⟨(some 2), none, .mv (.k (.d (.val (.slice none 0 0))))⟩)] (some [1])) (.seq (.seq (.ops 3 [
    (0, ⟨(some 3), none, .load (some 8) (.t 1)⟩),
    (1, ⟨(some 4), none, .call 84 [(.t 3)] none false⟩),
    (2, ⟨(some 5), none, .un .not (.t 4)⟩)] (some [1, 5])) (.cond (.t 5) (.seq (.ops 1 [
    (0, ⟨(some 2), none, .mv (.k (.d (.val (.slice none 0 0))))⟩)] (some [2])) .ret) .skip)) (.seq (.ops 2 [
    (0, ⟨(some 6), none, .call 120 [(.t 1), (.k (.d (.val (.slice none 0 0))))] (some 1) true⟩),
    (1, ⟨(some 2), none, .mv (.t 6)⟩)] (some [2])) .ret)))
def md65 : FuncId → Option Nat × Bool
  | 120 => (some 1, true)
  | _ => (none, false)
def od65 : Nat → List (List Nat) × List Nat × Option (List Nat)
  | 0 => ([], [], some [1])
  | 1 => ([], [], some [1, 5])
  | 2 => ([], [], some [2])
  | 3 => ([], [], some [2])
  | _ => ([], [], none)
theorem b65 {ags : List AV} {row : Option (List DV)} {r : AV} {row' nw : Option (List DV)} (hal : ags.length ≤ 7) (hrow : row'.isSome = true → row.isSome = true) (h : xwp Try.prog x65 (retK [.tmp 2] row.isSome r row' nw) (St.init ags row)) : Good Try.prog 65 ags row r row' nw :=
  good_of_body' (md := md65) (od := od65) Try.f65 (by kernel_rfl) (by kernel_rfl) (by kernel_rfl) (by kernel_rfl) (by kernel_rfl) hal hrow h

def x67 : XC := (.seq (.ops 2 [
    (0, ⟨(some 1), none, .box (.t 0)⟩),
    (1, ⟨(some 2), none, .mv (.k (.d (.val (.int .i64 0))))⟩)] (some [1])) (.seq (.seq (.ops 3 [
    (0, ⟨(some 3), none, .load (some 8) (.t 1)⟩),
    (1, ⟨(some 4), none, .call 84 [(.t 3)] none false⟩),
    (2, ⟨(some 5), none, .un .not (.t 4)⟩)] (some [1, 5])) (.cond (.t 5) (.seq (.ops 1 [
    (0, ⟨(some 2), none, .mv (.k (.d (.val (.int .i64 0))))⟩)] (some [2])) .ret) .skip)) (.seq (.ops 2 [
    (0, ⟨(some 6), none, .call 122 [(.t 1)] none false⟩),
    (1, ⟨(some 2), none, .mv (.t 6)⟩)] (some [2])) .ret)))
def md67 : FuncId → Option Nat × Bool
  | _ => (none, false)
def od67 : Nat → List (List Nat) × List Nat × Option (List Nat)
  | 0 => ([], [], some [1])
  | 1 => ([], [], some [1, 5])
  | 2 => ([], [], some [2])
  | 3 => ([], [], some [2])
  | _ => ([], [], none)
theorem b67 {ags : List AV} {row : Option (List DV)} {r : AV} {row' nw : Option (List DV)} (hal : ags.length ≤ 7) (hrow : row'.isSome = true → row.isSome = true) (h : xwp Try.prog x67 (retK [.tmp 2] row.isSome r row' nw) (St.init ags row)) : Good Try.prog 67 ags row r row' nw :=
  good_of_body' (md := md67) (od := od67) Try.f67 (by kernel_rfl) (by kernel_rfl) (by kernel_rfl) (by kernel_rfl) (by kernel_rfl) hal hrow h

def x120 : XC := (.seq (.ops 1 [
    (0, ⟨(some 4), none, .mv (.k (.d (.val (.slice none 0 0))))⟩)] (some [0, 1])) (.seq (.seq (.ops 5 [
    (0, ⟨(some 6), none, .mv (.t 0)⟩),
    (1, ⟨(some 7), none, .nilck (.t 6)⟩),
    (2, ⟨(some 8), none, .fadd 0 (.t 7)⟩),
    (3, ⟨(some 9), none, .load none (.t 8)⟩),
    (4, ⟨(some 10), none, .arith .eql (.t 9) (.k (.d (.val (.int .i64 2))))⟩)] (some [0, 1, 10])) (.cond (.t 10) (.seq (.ops 8 [
    (0, ⟨(some 11), none, .mv (.t 1)⟩),
    (1, ⟨(some 12), none, .mv (.t 0)⟩),
    (2, ⟨(some 13), none, .nilck (.t 12)⟩),
    (3, ⟨(some 14), none, .fadd 1 (.t 13)⟩),
    (4, ⟨(some 15), none, .load (some 4) (.t 14)⟩),
    (5, ⟨(some 16), none, .mkrow [(.int .u64 0), (.int .u64 0), (.int .u64 0), (.int .u64 0)] 1 4 [(0, 4, (.t 15))]⟩),
    (6, ⟨(some 17), none, .app [(.int .u64 0), (.int .u64 0), (.int .u64 0), (.int .u64 0)] 32 (.t 11) (.t 16)⟩),
    (7, ⟨(some 4), none, .mv (.t 17)⟩)] (some [4])) .ret) .skip)) (.seq (.seq (.ops 6 [
    (0, ⟨(some 18), none, .mv (.t 0)⟩),
    (1, ⟨(some 19), none, .nilck (.t 18)⟩),
    (2, ⟨(some 20), none, .fadd 7 (.t 19)⟩),
    (3, ⟨(some 21), none, .load none (.t 20)⟩),
    (4, ⟨(some 22), none, .lenS (.t 21)⟩),
    (5, ⟨(some 23), none, .mv (.k (.d (.val (.int .i64 0))))⟩)] (some [0, 1, 22, 23])) (.block 0 (.loop (.seq (.ops 1 [
    (0, ⟨(some 24), none, .arith .lss (.t 23) (.t 22)⟩)] (some [0, 1, 22, 23, 24])) (.seq (.cond (.t 24) .skip (.exit 0)) (.seq (.block 1 (.seq (.ops 2 [
    (0, ⟨(some 25), none, .mv (.t 23)⟩),
    (1, ⟨(some 5), none, .mv (.t 25)⟩)] (some [0, 1, 5, 22, 23])) (.ops 9 [
    (0, ⟨(some 26), none, .mv (.t 0)⟩),
    (1, ⟨(some 27), none, .nilck (.t 26)⟩),
    (2, ⟨(some 28), none, .fadd 7 (.t 27)⟩),
    (3, ⟨(some 29), none, .load none (.t 28)⟩),
    (4, ⟨(some 30), none, .mv (.t 5)⟩),
    (5, ⟨(some 31), none, .idxS 8 (.t 29) (.t 30)⟩),
    (6, ⟨(some 32), none, .mv (.t 1)⟩),
    (7, ⟨(some 33), none, .call 120 [(.t 31), (.t 32)] (some 1) true⟩),
    (8, ⟨(some 1), none, .mv (.t 33)⟩)] (some [0, 1, 22, 23])))) (.ops 2 [
    (0, ⟨(some 34), none, .arith .add (.t 23) (.k (.d (.val (.int .i64 1))))⟩),
    (1, ⟨(some 23), none, .mv (.t 34)⟩)] (some [0, 1, 22, 23])))))))) (.seq (.ops 2 [
    (0, ⟨(some 35), none, .mv (.t 1)⟩),
    (1, ⟨(some 4), none, .mv (.t 35)⟩)] (some [4])) .ret))))
def md120 : FuncId → Option Nat × Bool
  | 120 => (some 1, true)
  | _ => (none, false)
def od120 : Nat → List (List Nat) × List Nat × Option (List Nat)
  | 0 => ([], [], some [0, 1])
  | 1 => ([], [], some [0, 1, 10])
  | 2 => ([], [], some [4])
  | 3 => ([], [], some [0, 1, 22, 23])
  | 4 => ([], [], some [0, 1, 22, 23, 24])
  | 5 => ([], [], some [0, 1, 5, 22, 23])
  | 6 => ([], [], some [0, 1, 22, 23])
  | 7 => ([], [], some [0, 1, 22, 23])
  | 8 => ([], [], some [4])
  | _ => ([], [], none)
theorem b120 {ags : List AV} {row : Option (List DV)} {r : AV} {row' nw : Option (List DV)} (hal : ags.length ≤ 36) (hrow : row'.isSome = true → row.isSome = true) (h : xwp Try.prog x120 (retK [.tmp 4] row.isSome r row' nw) (St.init ags row)) : Good Try.prog 120 ags row r row' nw :=
  good_of_body' (md := md120) (od := od120) Try.f120 (by kernel_rfl) (by kernel_rfl) (by kernel_rfl) (by kernel_rfl) (by kernel_rfl) hal hrow h

def x122 : XC := (.seq (.ops 1 [
    (0, ⟨(some 2), none, .mv (.k (.d (.val (.int .i64 0))))⟩)] (some [0])) (.seq (.ops 1 [
    (0, ⟨(some 3), none, .mv (.k (.d (.val (.int .i64 1))))⟩)] (some [0, 3])) (.seq (.seq (.ops 6 [
    (0, ⟨(some 5), none, .mv (.t 0)⟩),
    (1, ⟨(some 6), none, .nilck (.t 5)⟩),
    (2, ⟨(some 7), none, .fadd 7 (.t 6)⟩),
    (3, ⟨(some 8), none, .load none (.t 7)⟩),
    (4, ⟨(some 9), none, .lenS (.t 8)⟩),
    (5, ⟨(some 10), none, .mv (.k (.d (.val (.int .i64 0))))⟩)] (some [0, 3, 9, 10])) (.block 0 (.loop (.seq (.ops 1 [
    (0, ⟨(some 11), none, .arith .lss (.t 10) (.t 9)⟩)] (some [0, 3, 9, 10, 11])) (.seq (.cond (.t 11) .skip (.exit 0)) (.seq (.block 1 (.seq (.ops 2 [
    (0, ⟨(some 12), none, .mv (.t 10)⟩),
    (1, ⟨(some 4), none, .mv (.t 12)⟩)] (some [0, 3, 4, 9, 10])) (.ops 10 [
    (0, ⟨(some 13), none, .mv (.t 3)⟩),
    (1, ⟨(some 14), none, .mv (.t 0)⟩),
    (2, ⟨(some 15), none, .nilck (.t 14)⟩),
    (3, ⟨(some 16), none, .fadd 7 (.t 15)⟩),
    (4, ⟨(some 17), none, .load none (.t 16)⟩),
    (5, ⟨(some 18), none, .mv (.t 4)⟩),
    (6, ⟨(some 19), none, .idxS 8 (.t 17) (.t 18)⟩),
    (7, ⟨(some 20), none, .call 122 [(.t 19)] none false⟩),
    (8, ⟨(some 21), none, .arith .add (.t 13) (.t 20)⟩),
    (9, ⟨(some 3), none, .mv (.t 21)⟩)] (some [0, 3, 9, 10])))) (.ops 2 [
    (0, ⟨(some 22), none, .arith .add (.t 10) (.k (.d (.val (.int .i64 1))))⟩),
    (1, ⟨(some 10), none, .mv (.t 22)⟩)] (some [0, 3, 9, 10])))))))) (.seq (.ops 2 [
    (0, ⟨(some 23), none, .mv (.t 3)⟩),
    (1, ⟨(some 2), none, .mv (.t 23)⟩)] (some [2])) .ret))))
def md122 : FuncId → Option Nat × Bool
  | _ => (none, false)
def od122 : Nat → List (List Nat) × List Nat × Option (List Nat)
  | 0 => ([], [], some [0])
  | 1 => ([], [], some [0, 3])
  | 2 => ([], [], some [0, 3, 9, 10])
  | 3 => ([], [], some [0, 3, 9, 10, 11])
  | 4 => ([], [], some [0, 3, 4, 9, 10])
  | 5 => ([], [], some [0, 3, 9, 10])
  | 6 => ([], [], some [0, 3, 9, 10])
  | 7 => ([], [], some [2])
  | _ => ([], [], none)
theorem b122 {ags : List AV} {row : Option (List DV)} {r : AV} {row' nw : Option (List DV)} (hal : ags.length ≤ 24) (hrow : row'.isSome = true → row.isSome = true) (h : xwp Try.prog x122 (retK [.tmp 2] row.isSome r row' nw) (St.init ags row)) : Good Try.prog 122 ags row r row' nw :=
  good_of_body' (md := md122) (od := od122) Try.f122 (by kernel_rfl) (by kernel_rfl) (by kernel_rfl) (by kernel_rfl) (by kernel_rfl) hal hrow h

def tabM : Tab
  | 64 => some ⟨x64, [.tmp 0], 90, false, 8⟩
  | 65 => some ⟨x65, [.tmp 2], 7, false, 8⟩
  | 67 => some ⟨x67, [.tmp 2], 7, false, 8⟩
  | 120 => some ⟨x120, [.tmp 4], 36, true, 4⟩
  | 122 => some ⟨x122, [.tmp 2], 24, false, 8⟩
  | 121 => some ⟨x121, [.cell 2 (some 7), .tmp 3], 9, false, 8⟩
  | 69 => some ⟨x69, [.tmp 2], 21, false, 8⟩
  | 70 => some ⟨x70, [.cell 2 (some 4)], 12, false, 8⟩
  | 66 => some ⟨x66, [.tmp 2, .tmp 3], 15, false, 8⟩
  | 71 => some ⟨x71, [.tmp 2], 12, false, 8⟩
  | 151 => some ⟨x151, [.cell 2 (some 7)], 87, false, 8⟩
  | 165 => some ⟨x165, [.cell 0 (some 7)], 2, false, 8⟩
  | 173 => some ⟨x173, [.tmp 4], 14, false, 8⟩
  | 166 => some ⟨x166, [.cell 4 (some 7)], 34, false, 8⟩
  | 167 => some ⟨x167, [.cell 4 (some 7)], 39, false, 8⟩
  | 168 => some ⟨x168, [.cell 6 (some 7)], 45, false, 8⟩
  | 68 => some ⟨x68, [.tmp 2], 7, false, 8⟩
  | 123 => some ⟨x123, [.tmp 2], 54, false, 8⟩
  | 84 => some ⟨x84, [.tmp 2], 4, false, 8⟩
  | 132 => some ⟨x132, [.tmp 4], 46, false, 8⟩
  | 156 => some ⟨x156, [.tmp 2], 121, false, 8⟩
  | 157 => some ⟨x157, [.tmp 4], 24, false, 8⟩
  | 83 => some ⟨x83, [.cell 2 (some 8)], 13, false, 8⟩
  | 119 => some ⟨x119, [.cell 4 (some 4)], 24, false, 8⟩
  | 149 => some ⟨x149, [.cell 2 (some 8)], 16, false, 8⟩
  | 150 => some ⟨x150, [], 10, false, 8⟩
  | 162 => some ⟨x162, [.cell 2 (some 8)], 14, false, 8⟩
  | 163 => some ⟨x163, [.tmp 4], 17, false, 8⟩
  | 164 => some ⟨x164, [.cell 4 (some 8)], 20, false, 8⟩
  | 170 => some ⟨x170, [.tmp 2], 16, false, 8⟩
  | 171 => some ⟨x171, [.cell 2 (some 8)], 33, false, 8⟩
  | 172 => some ⟨x172, [.tmp 2], 23, false, 8⟩
  | 176 => some ⟨x176, [.cell 2 (some 8)], 60, false, 8⟩
  | 177 => some ⟨x177, [.tmp 2, .tmp 3], 29, false, 8⟩
  | 178 => some ⟨x178, [], 15, false, 8⟩
  | 179 => some ⟨x179, [.cell 2 (some 4)], 19, false, 8⟩
  | 180 => some ⟨x180, [.cell 2 (some 4)], 10, false, 8⟩
  | 181 => some ⟨x181, [.tmp 2], 34, false, 8⟩
  | 182 => some ⟨x182, [.tmp 2], 54, false, 8⟩
  | 183 => some ⟨x183, [.cell 2 (some 4)], 28, false, 8⟩
  | 184 => some ⟨x184, [.cell 2 (some 4)], 15, false, 8⟩
  | 185 => some ⟨x185, [.tmp 2], 50, false, 8⟩
  | 186 => some ⟨x186, [.tmp 2], 22, false, 8⟩
  | 187 => some ⟨x187, [.tmp 2], 28, false, 8⟩
  | 188 => some ⟨x188, [.tmp 4], 8, false, 8⟩
  | 189 => some ⟨x189, [.tmp 2], 24, false, 8⟩
  | 190 => some ⟨x190, [.tmp 4], 8, false, 8⟩
  | 73 => some ⟨x73, [.cell 4 (some 4)], 19, false, 8⟩
  | _ => none
theorem tabM_ok : TabOK Try.prog tabM := by
  intro f t h ags row r row' nw hal hrow hx
  unfold tabM at h
  split at h
  · cases h; exact b64 hal hrow hx
  · cases h; exact b65 hal hrow hx
  · cases h; exact b67 hal hrow hx
  · cases h; exact b120 hal hrow hx
  · cases h; exact b122 hal hrow hx
  · cases h; exact b121 hal hrow hx
  · cases h; exact b69 hal hrow hx
  · cases h; exact b70 hal hrow hx
  · cases h; exact b66 hal hrow hx
  · cases h; exact b71 hal hrow hx
  · cases h; exact b151 hal hrow hx
  · cases h; exact b165 hal hrow hx
  · cases h; exact b173 hal hrow hx
  · cases h; exact b166 hal hrow hx
  · cases h; exact b167 hal hrow hx
  · cases h; exact b168 hal hrow hx
  · cases h; exact b68 hal hrow hx
  · cases h; exact b123 hal hrow hx
  · cases h; exact b84 hal hrow hx
  · cases h; exact b132 hal hrow hx
  · cases h; exact b156 hal hrow hx
  · cases h; exact b157 hal hrow hx
  · cases h; exact b83 hal hrow hx
  · cases h; exact b119 hal hrow hx
  · cases h; exact b149 hal hrow hx
  · cases h; exact b150 hal hrow hx
  · cases h; exact b162 hal hrow hx
  · cases h; exact b163 hal hrow hx
  · cases h; exact b164 hal hrow hx
  · cases h; exact b170 hal hrow hx
  · cases h; exact b171 hal hrow hx
  · cases h; exact b172 hal hrow hx
  · cases h; exact b176 hal hrow hx
  · cases h; exact b177 hal hrow hx
  · cases h; exact b178 hal hrow hx
  · cases h; exact b179 hal hrow hx
  · cases h; exact b180 hal hrow hx
  · cases h; exact b181 hal hrow hx
  · cases h; exact b182 hal hrow hx
  · cases h; exact b183 hal hrow hx
  · cases h; exact b184 hal hrow hx
  · cases h; exact b185 hal hrow hx
  · cases h; exact b186 hal hrow hx
  · cases h; exact b187 hal hrow hx
  · cases h; exact b188 hal hrow hx
  · cases h; exact b189 hal hrow hx
  · cases h; exact b190 hal hrow hx
  · cases h; exact b73 hal hrow hx
  · cases h

theorem awake64_ev : evF tabM (spP 100) 100 40 64 [] none = some (.b true, none, none) := by kernel_rfl
theorem awake64_good : Good Try.prog 64 [] none (.b true) none none := evF_sound tabM_ok (spP_ok 100) 40 64 [] none _ _ _ awake64_ev
end Go.Sv
namespace Go.Sv
open Go Go.Proofs
set_option maxRecDepth 100000
set_option maxHeartbeats 4000000
attribute [local irreducible] W E R KP thenK blockK retK Good xwp aRun
theorem kn_len {t : T} (hok : okT t) : ((knT t).no = true → (knT t).lo = -1) ∧ ((knT t).no = false → 0 ≤ (knT t).lo) := by
  have h := kn_ok t hok
  constructor
  · intro hn; rw [h.2.1 hn]; rfl
  · intro hn; exact (h.2.2.1 hn).1
end Go.Sv
namespace Go.Sv
open Go Go.Proofs
def x20 : XC := (.seq (.ops 2 [
    (0, ⟨(some 1), none, .box (.t 0)⟩),
    (1, ⟨(some 2), none, .mv (.k (.d (.val (.bool false))))⟩)] (some [1])) (.seq (.seq (.ops 12 [
    (0, ⟨(some 5), none, .call 64 [] none false⟩),
    (1, ⟨(some 6), none, .un .not (.t 5)⟩),
    (2, ⟨(some 7), none, .mv (.t 6)⟩),
    (3, ⟨(some 8), (some (7, false)), .load (some 8) (.t 1)⟩),
    (4, ⟨(some 9), (some (7, false)), .call 45 [(.t 8)] none false⟩),
    (5, ⟨(some 10), (some (7, false)), .un .not (.t 9)⟩),
    (6, ⟨(some 11), none, .pick (.t 7) (.k (.d (.val (.bool true)))) (.t 10)⟩),
    (7, ⟨(some 12), none, .mv (.t 11)⟩),
    (8, ⟨(some 13), (some (12, false)), .load (some 8) (.t 1)⟩),
    (9, ⟨(some 14), (some (12, false)), .call 32 [(.t 13)] none false⟩),
    (10, ⟨(some 15), (some (12, false)), .un .not (.t 14)⟩),
    (11, ⟨(some 16), none, .pick (.t 12) (.k (.d (.val (.bool true)))) (.t 15)⟩)] (some [1, 16])) (.cond (.t 16) (.seq (.ops 2 [
    (0, ⟨(some 17), none, .call 64 [] none false⟩),
    (1, ⟨(some 2), none, .mv (.t 17)⟩)] (some [2])) .ret) .skip)) (.seq (.ops 7 [
    (0, ⟨(some 19), none, .load (some 8) (.t 1)⟩),
    (1, ⟨(some 20), none, .call 66 [(.t 19)] none false⟩),
    (2, ⟨(some 18), none, .mv (.t 20)⟩),
    (3, ⟨(some 21), none, .ext (.t 18) 0⟩),
    (4, ⟨(some 22), none, .ext (.t 18) 1⟩),
    (5, ⟨(some 3), none, .mv (.t 21)⟩),
    (6, ⟨(some 4), none, .mv (.t 22)⟩)] (some [1, 3, 4])) (.seq (.ops 32 [
    (0, ⟨(some 23), none, .load (some 8) (.t 1)⟩),
    (1, ⟨(some 24), none, .call 69 [(.t 23)] none false⟩),
    (2, ⟨(some 25), none, .load (some 8) (.t 1)⟩),
    (3, ⟨(some 26), none, .call 72 [(.t 25)] none false⟩),
    (4, ⟨(some 27), none, .beq false (.t 24) (.t 26)⟩),
    (5, ⟨(some 28), none, .mv (.t 27)⟩),
    (6, ⟨(some 29), (some (28, true)), .load (some 8) (.t 1)⟩),
    (7, ⟨(some 30), (some (28, true)), .call 71 [(.t 29)] none false⟩),
    (8, ⟨(some 31), (some (28, true)), .load (some 8) (.t 1)⟩),
    (9, ⟨(some 32), (some (28, true)), .call 51 [(.t 31)] none false⟩),
    (10, ⟨(some 33), (some (28, true)), .beq false (.t 30) (.t 32)⟩),
    (11, ⟨(some 34), none, .pick (.t 28) (.t 33) (.k (.d (.val (.bool false))))⟩),
    (12, ⟨(some 35), none, .mv (.t 34)⟩),
    (13, ⟨(some 36), (some (35, true)), .load (some 8) (.t 1)⟩),
    (14, ⟨(some 37), (some (35, true)), .call 70 [(.t 36)] none false⟩),
    (15, ⟨(some 38), (some (35, true)), .load (some 8) (.t 1)⟩),
    (16, ⟨(some 39), (some (35, true)), .call 50 [(.t 38)] none false⟩),
    (17, ⟨(some 40), (some (35, true)), .eqAgg 4 false (.t 37) (.t 39)⟩),
    (18, ⟨(some 41), none, .pick (.t 35) (.t 40) (.k (.d (.val (.bool false))))⟩),
    (19, ⟨(some 42), none, .mv (.t 41)⟩),
    (20, ⟨(some 43), (some (42, true)), .mv (.t 3)⟩),
    (21, ⟨(some 44), (some (42, true)), .load (some 8) (.t 1)⟩),
    (22, ⟨(some 45), (some (42, true)), .call 62 [(.t 44)] none false⟩),
    (23, ⟨(some 46), (some (42, true)), .arith .eql (.t 43) (.t 45)⟩),
    (24, ⟨(some 47), none, .pick (.t 42) (.t 46) (.k (.d (.val (.bool false))))⟩),
    (25, ⟨(some 48), none, .mv (.t 47)⟩),
    (26, ⟨(some 49), (some (48, true)), .mv (.t 4)⟩),
    (27, ⟨(some 50), (some (48, true)), .load (some 8) (.t 1)⟩),
    (28, ⟨(some 51), (some (48, true)), .call 63 [(.t 50)] none false⟩),
    (29, ⟨(some 52), (some (48, true)), .arith .eql (.t 49) (.t 51)⟩),
    (30, ⟨(some 53), none, .pick (.t 48) (.t 52) (.k (.d (.val (.bool false))))⟩),
    (31, ⟨(some 2), none, .mv (.t 53)⟩)] (some [2])) .ret))))
def md20 : FuncId → Option Nat × Bool
  | _ => (none, false)
def od20 : Nat → List (List Nat) × List Nat × Option (List Nat)
  | 0 => ([], [], some [1])
  | 1 => ([], [], some [1, 16])
  | 2 => ([], [], some [2])
  | 3 => ([], [], some [1, 3, 4])
  | 4 => ([[], [0], [], [0, 1, 2], [0, 1, 2, 3], [0, 1, 2, 3, 4], [0, 1, 2, 3, 4, 5], [0, 1, 2, 3, 4, 5, 6], [0, 1, 2, 3, 4, 5], [0, 1, 2, 3, 4, 5, 6, 7, 8], [0, 1, 2, 3, 4, 5, 6, 7, 8, 9], [0, 1, 2, 3, 4, 5, 6, 7, 8, 9, 10], [0, 1, 2, 3, 4, 5, 6, 7, 8, 9, 10, 11], [0, 1, 2, 3, 4, 5, 6, 7, 8, 9, 10, 11, 12], [0, 1, 2, 3, 4, 5, 6, 7, 8, 9, 10, 11, 12, 13], [0, 1, 2, 3, 4, 5, 6, 7, 8, 9, 10, 11, 12], [0, 1, 2, 3, 4, 5, 6, 7, 8, 9, 10, 11, 12, 13, 14, 15], [0, 1, 2, 3, 4, 5, 6, 7, 8, 9, 10, 11, 12, 13, 14, 15, 16], [0, 1, 2, 3, 4, 5, 6, 7, 8, 9, 10, 11, 12, 13, 14, 15, 16, 17], [0, 1, 2, 3, 4, 5, 6, 7, 8, 9, 10, 11, 12, 13, 14, 15, 16, 17, 18], [0, 1, 2, 3, 4, 5, 6, 7, 8, 9, 10, 11, 12, 13, 14, 15, 16, 17, 18, 19], [0, 1, 2, 3, 4, 5, 6, 7, 8, 9, 10, 11, 12, 13, 14, 15, 16, 17, 18, 19], [0, 1, 2, 3, 4, 5, 6, 7, 8, 9, 10, 11, 12, 13, 14, 15, 16, 17, 18, 19, 21], [0, 1, 2, 3, 4, 5, 6, 7, 8, 9, 10, 11, 12, 13, 14, 15, 16, 17, 18, 19, 20, 21, 22], [0, 1, 2, 3, 4, 5, 6, 7, 8, 9, 10, 11, 12, 13, 14, 15, 16, 17, 18, 19, 20, 21, 22, 23], [0, 1, 2, 3, 4, 5, 6, 7, 8, 9, 10, 11, 12, 13, 14, 15, 16, 17, 18, 19, 20, 21, 22, 23, 24], [0, 1, 2, 3, 4, 5, 6, 7, 8, 9, 10, 11, 12, 13, 14, 15, 16, 17, 18, 19, 20, 21, 22, 23, 24, 25], [0, 1, 2, 3, 4, 5, 6, 7, 8, 9, 10, 11, 12, 13, 14, 15, 16, 17, 18, 19, 20, 21, 22, 23, 24, 25], [0, 1, 2, 3, 4, 5, 6, 7, 8, 9, 10, 11, 12, 13, 14, 15, 16, 17, 18, 19, 20, 21, 22, 23, 24, 25, 27], [0, 1, 2, 3, 4, 5, 6, 7, 8, 9, 10, 11, 12, 13, 14, 15, 16, 17, 18, 19, 20, 21, 22, 23, 24, 25, 26, 27, 28], [0, 1, 2, 3, 4, 5, 6, 7, 8, 9, 10, 11, 12, 13, 14, 15, 16, 17, 18, 19, 20, 21, 22, 23, 24, 25, 26, 27, 28, 29], [0, 1, 2, 3, 4, 5, 6, 7, 8, 9, 10, 11, 12, 13, 14, 15, 16, 17, 18, 19, 20, 21, 22, 23, 24, 25, 26, 27, 28, 29, 30]], [0, 1, 2, 3, 4, 5, 6, 7, 8, 9, 10, 11, 12, 13, 14, 15, 16, 17, 18, 19, 20, 21, 22, 23, 24, 25, 26, 27, 28, 29, 30, 31], some [2])
  | _ => ([], [], none)
theorem b20 {ags : List AV} {row : Option (List DV)} {r : AV} {row' nw : Option (List DV)} (hal : ags.length ≤ 54) (hrow : row'.isSome = true → row.isSome = true) (h : xwp Try.prog x20 (retK [.tmp 2] row.isSome r row' nw) (St.init ags row)) : Good Try.prog 20 ags row r row' nw :=
  good_of_body' (md := md20) (od := od20) Try.f20 (by kernel_rfl) (by kernel_rfl) (by kernel_rfl) (by kernel_rfl) (by kernel_rfl) hal hrow h

set_option maxRecDepth 100000
set_option maxHeartbeats 4000000
attribute [local irreducible] W E R KP thenK blockK retK Good xwp aRun
theorem law20 (t : T) (ht : inT t) : Good Try.prog 20 [nodeA t] none (.b true) none none := by
  have haw := awake64_good
  have h45 := few_good t
  by_cases hf : sizeT t 601 ≤ 200
  case neg =>
    rw [show decide (sizeT t 601 ≤ 200) = false by simp [hf]] at h45
    clear ht hf
    obtain ⟨k, a, b, c, d, mn, mx, subs⟩ := t
    have e0 : nodeA (.node k a b c d mn mx subs) = .agg [.i k, .d (.val (.int .u64 a)), .d (.val (.int .u64 b)), .d (.val (.int .u64 c)), .d (.val (.int .u64 d)), .i mn, .i mx, .d (.sl (encL subs) subs.length)] := rfl
    rw [e0] at h45 ⊢
    refine b20 (by simp) (by simp) (w_init ?_)
    unfold x20
    repeat' (first
    | (apply r_mvV; rfl)
    | (apply r_mvP; rfl)
    | (apply r_mvPL; rfl)
    | (apply r_mvS; rfl)
    | (apply r_mvSL; rfl)
    | (apply r_mvA; rfl)
    | (apply r_mvT; rfl)
    | (apply r_mvF; rfl)
    | (apply r_mvD; rfl)
    | (apply r_l; apply ld_kind; assumption; rfl)
    | (apply r_l; apply ld_mn; assumption; rfl)
    | (apply r_l; apply ld_mx; assumption; rfl)
    | (apply r_l; apply ld_subs; assumption; rfl)
    | (apply r_l; apply ld_set; assumption; rfl)
    | (apply r_l; apply ld_node; assumption; rfl)
    | (apply r_l; apply ld_kind'; assumption; rfl)
    | (apply r_l; apply ld_mn'; assumption; rfl)
    | (apply r_l; apply ld_mx'; assumption; rfl)
    | (apply r_l; apply ld_subs'; assumption; rfl)
    | (apply r_l; apply ld_node'; assumption; rfl)
    | (apply r_callA (f := 64) (ags := []); rfl; rfl; exact haw)
    | (apply r_callA (f := 45); rfl; rfl; exact h45)
    | (apply r_ldL; rfl; rfl; rfl)
    | (apply r_eql; rfl; rfl; (first | (apply decide_eq_true; omega) | (apply decide_eq_false; omega) | rfl))
    | (apply r_not; rfl; rfl)
    | (apply r_beq; rfl; rfl; rfl)
    | (apply r_pickT; rfl)
    | (apply r_pickF; rfl)
    | (apply r_ext; rfl; rfl)
    | (apply r_gT; rfl)
    | (apply r_gF'; rfl; rfl)
    | (apply r_gN'; rfl)
    | ((apply r_gS (o := default); rfl) <;> (intro h; try simp only [decide_eq_true_eq, decide_eq_false_iff_not, Bool.not_eq_true, Bool.not_eq_false] at h))
    | (apply r_box; ((conv => lhs; simp only [Nat.reduceAdd]) <;> rfl); rfl; rfl; rfl)
    | (apply r_p; rfl)
    | (apply r_nilK)
    | (apply r_nil)
    | (apply k_V; rfl)
    | (apply k_P; rfl)
    | (apply k_PL; rfl)
    | (apply k_S; rfl)
    | (apply k_SL; rfl)
    | (apply k_A; rfl)
    | (apply k_T; rfl)
    | (apply k_F; rfl)
    | (apply k_D; rfl; rotate_left; rfl)
    | (apply k_nil)
    | (apply e_ret (vs := [.d (.val _)]); rfl)
    | (apply e_ret; rfl)
    | (apply e_ret' (vs := [.d (.val _)]); rfl)
    | (apply e_ret'; rfl)
    | (apply w_seq)
    | (apply w_ops; ((conv => lhs; simp only [Nat.reduceAdd]) <;> rfl))
    | (apply w_condT; rfl)
    | (apply w_condF; rfl)
    | ((apply w_condS; rfl) <;> (intro h; try simp only [decide_eq_true_eq, decide_eq_false_iff_not, Bool.not_eq_true, Bool.not_eq_false] at h))
    | (apply e_thenN)
    | (apply w_block)
    | (apply e_thenR)
    | (apply e_thenX)
    | (apply e_blkN)
    | (apply e_blkR)
    | (apply e_blkE)
    | (apply w_exit)
    | (apply w_ret)
    | (apply w_skip)
    | (apply e_blkE'; rfl))
    exact retB rfl
  have hc := few_cnt hf
  have h32 := right8_good t (by omega)
  rw [show decide (sizeT t 601 ≤ 200) = true by simp [hf]] at h45
  by_cases hr : rightT t = true
  case neg =>
    have hr : rightT t = false := by simpa using hr
    rw [hr] at h32
    clear ht hf hc hr
    obtain ⟨k, a, b, c, d, mn, mx, subs⟩ := t
    have e0 : nodeA (.node k a b c d mn mx subs) = .agg [.i k, .d (.val (.int .u64 a)), .d (.val (.int .u64 b)), .d (.val (.int .u64 c)), .d (.val (.int .u64 d)), .i mn, .i mx, .d (.sl (encL subs) subs.length)] := rfl
    rw [e0] at h45 h32 ⊢
    refine b20 (by simp) (by simp) (w_init ?_)
    unfold x20
    repeat' (first
    | (apply r_mvV; rfl)
    | (apply r_mvP; rfl)
    | (apply r_mvPL; rfl)
    | (apply r_mvS; rfl)
    | (apply r_mvSL; rfl)
    | (apply r_mvA; rfl)
    | (apply r_mvT; rfl)
    | (apply r_mvF; rfl)
    | (apply r_mvD; rfl)
    | (apply r_l; apply ld_kind; assumption; rfl)
    | (apply r_l; apply ld_mn; assumption; rfl)
    | (apply r_l; apply ld_mx; assumption; rfl)
    | (apply r_l; apply ld_subs; assumption; rfl)
    | (apply r_l; apply ld_set; assumption; rfl)
    | (apply r_l; apply ld_node; assumption; rfl)
    | (apply r_l; apply ld_kind'; assumption; rfl)
    | (apply r_l; apply ld_mn'; assumption; rfl)
    | (apply r_l; apply ld_mx'; assumption; rfl)
    | (apply r_l; apply ld_subs'; assumption; rfl)
    | (apply r_l; apply ld_node'; assumption; rfl)
    | (apply r_callA (f := 64) (ags := []); rfl; rfl; exact haw)
    | (apply r_callA (f := 45); rfl; rfl; exact h45)
    | (apply r_callA (f := 32); rfl; rfl; exact h32)
    | (apply r_ldL; rfl; rfl; rfl)
    | (apply r_eql; rfl; rfl; (first | (apply decide_eq_true; omega) | (apply decide_eq_false; omega) | rfl))
    | (apply r_not; rfl; rfl)
    | (apply r_beq; rfl; rfl; rfl)
    | (apply r_pickT; rfl)
    | (apply r_pickF; rfl)
    | (apply r_ext; rfl; rfl)
    | (apply r_gT; rfl)
    | (apply r_gF'; rfl; rfl)
    | (apply r_gN'; rfl)
    | ((apply r_gS (o := default); rfl) <;> (intro h; try simp only [decide_eq_true_eq, decide_eq_false_iff_not, Bool.not_eq_true, Bool.not_eq_false] at h))
    | (apply r_box; ((conv => lhs; simp only [Nat.reduceAdd]) <;> rfl); rfl; rfl; rfl)
    | (apply r_p; rfl)
    | (apply r_nilK)
    | (apply r_nil)
    | (apply k_V; rfl)
    | (apply k_P; rfl)
    | (apply k_PL; rfl)
    | (apply k_S; rfl)
    | (apply k_SL; rfl)
    | (apply k_A; rfl)
    | (apply k_T; rfl)
    | (apply k_F; rfl)
    | (apply k_D; rfl; rotate_left; rfl)
    | (apply k_nil)
    | (apply e_ret (vs := [.d (.val _)]); rfl)
    | (apply e_ret; rfl)
    | (apply e_ret' (vs := [.d (.val _)]); rfl)
    | (apply e_ret'; rfl)
    | (apply w_seq)
    | (apply w_ops; ((conv => lhs; simp only [Nat.reduceAdd]) <;> rfl))
    | (apply w_condT; rfl)
    | (apply w_condF; rfl)
    | ((apply w_condS; rfl) <;> (intro h; try simp only [decide_eq_true_eq, decide_eq_false_iff_not, Bool.not_eq_true, Bool.not_eq_false] at h))
    | (apply e_thenN)
    | (apply w_block)
    | (apply e_thenR)
    | (apply e_thenX)
    | (apply e_blkN)
    | (apply e_blkR)
    | (apply e_blkE)
    | (apply w_exit)
    | (apply w_ret)
    | (apply w_skip)
    | (apply e_blkE'; rfl))
    exact retB rfl
  rw [hr] at h32
  have hfi : fitsT t 12 = true := by rw [← right_fits]; exact hr
  have hok : okT t := ok_of_right ht hr
  have hB := bT_few hc hfi
  have h66 := len66_good t hc (fun _ => hok)
  have h71 := none71_good t hc (fun _ => hok)
  have h69 := null69_good t hc (fun _ => hok)
  have h70 := first70_good t hc (fun _ => hok)
  have h50 := first50_good 300000 t (by omega) (by omega) hok
  have h51 := none51_good 1000000 t (by omega) (by omega) hok
  have h72 := null72_good t (by omega) hok
  have h62 := least62_good 1000000 t (by omega) (by omega) hok hB
  have h63 := most63_good 1000000 t (by omega) (by omega) hok hB
  have hkn := kn_of t hok
  have hkl := kn_len hok
  have en : nulF t = nullS t := by
    rw [show nulF t = (!(knT t).no && decide ((knT t).lo = 0)) by simp [nulF, ofK, hfi]]
    have hd : nullS t = true ↔ L t [] := by unfold nullS; exact @decide_eq_true_iff _ (Classical.propDecidable _)
    rw [Bool.eq_iff_iff, hd]
    simp only [Bool.and_eq_true, Bool.not_eq_true', decide_eq_true_eq]
    constructor
    · rintro ⟨hno, h0⟩
      exact (hkn.nil hno (hkl.2 hno)).1 h0
    · intro hw
      have hno : (knT t).no = false := by
        cases hn : (knT t).no with
        | false => rfl
        | true => exact absurd hw (hkn.no hn _)
      exact ⟨hno, (hkn.nil hno (hkl.2 hno)).2 hw⟩
  rw [show ofK t = knT t by simp [ofK, hfi]] at h66 h71 h70
  rw [en] at h69
  rw [nn_kn hok] at h51
  rw [show firstW t = [(knT t).a, (knT t).b, (knT t).c, (knT t).d] from firstW_kn' hok] at h50
  have hbb : (nullS t == nullS t) = true := by cases nullS t <;> rfl
  have hnb : ((knT t).no == (knT t).no) = true := by cases (knT t).no <;> rfl
  generalize nullS t = q0 at h69 h72 hbb
  generalize knT t = f at h66 h71 h70 h50 h51 h62 h63 hnb
  clear en hkn hkl ht hf hc hr hfi hok hB
  obtain ⟨fn, fl, fh, fa, fb, fc, fd⟩ := f
  dsimp only at h66 h71 h70 h50 h51 h62 h63 hnb
  unfold setA at h70
  have e5 : AV.agg (encW [fa, fb, fc, fd]) = .agg [.d (.val (.int .u64 fa)), .d (.val (.int .u64 fb)), .d (.val (.int .u64 fc)), .d (.val (.int .u64 fd))] := rfl
  rw [e5] at h50
  obtain ⟨k, a, b, c, d, mn, mx, subs⟩ := t
  have e0 : nodeA (.node k a b c d mn mx subs) = .agg [.i k, .d (.val (.int .u64 a)), .d (.val (.int .u64 b)), .d (.val (.int .u64 c)), .d (.val (.int .u64 d)), .i mn, .i mx, .d (.sl (encL subs) subs.length)] := rfl
  rw [e0] at h45 h32 h66 h71 h69 h70 h50 h51 h72 h62 h63 ⊢
  refine b20 (by simp) (by simp) (w_init ?_)
  unfold x20
  repeat' (first
    | (apply r_mvV; rfl)
    | (apply r_mvP; rfl)
    | (apply r_mvPL; rfl)
    | (apply r_mvS; rfl)
    | (apply r_mvSL; rfl)
    | (apply r_mvA; rfl)
    | (apply r_mvT; rfl)
    | (apply r_mvF; rfl)
    | (apply r_mvD; rfl)
    | (apply r_l; apply ld_kind; assumption; rfl)
    | (apply r_l; apply ld_mn; assumption; rfl)
    | (apply r_l; apply ld_mx; assumption; rfl)
    | (apply r_l; apply ld_subs; assumption; rfl)
    | (apply r_l; apply ld_set; assumption; rfl)
    | (apply r_l; apply ld_node; assumption; rfl)
    | (apply r_l; apply ld_kind'; assumption; rfl)
    | (apply r_l; apply ld_mn'; assumption; rfl)
    | (apply r_l; apply ld_mx'; assumption; rfl)
    | (apply r_l; apply ld_subs'; assumption; rfl)
    | (apply r_l; apply ld_node'; assumption; rfl)
    | (apply r_callA (f := 64) (ags := []); rfl; rfl; exact haw)
    | (apply r_callA (f := 45); rfl; rfl; exact h45)
    | (apply r_callA (f := 32); rfl; rfl; exact h32)
    | (apply r_callA (f := 66); rfl; rfl; exact h66)
    | (apply r_callA (f := 69); rfl; rfl; exact h69)
    | (apply r_callA (f := 72); rfl; rfl; exact h72)
    | (apply r_callA (f := 71); rfl; rfl; exact h71)
    | (apply r_callA (f := 51); rfl; rfl; exact h51)
    | (apply r_callA (f := 70); rfl; rfl; exact h70)
    | (apply r_callA (f := 50); rfl; rfl; exact h50)
    | (apply r_callA (f := 62); rfl; rfl; exact h62)
    | (apply r_callA (f := 63); rfl; rfl; exact h63)
    | (apply r_p (v := .b true); exact congrArg (fun z => some (AV.b z)) hbb)
    | (apply r_p (v := .b true); exact congrArg (fun z => some (AV.b z)) hnb)
    | (apply r_eqX (r := true); rfl; rfl; simp)
    | (apply r_ldL; rfl; rfl; rfl)
    | (apply r_eql; rfl; rfl; (first | (apply decide_eq_true; omega) | (apply decide_eq_false; omega) | rfl))
    | (apply r_not; rfl; rfl)
    | (apply r_beq; rfl; rfl; rfl)
    | (apply r_pickT; rfl)
    | (apply r_pickF; rfl)
    | (apply r_ext; rfl; rfl)
    | (apply r_gT; rfl)
    | (apply r_gF'; rfl; rfl)
    | (apply r_gN'; rfl)
    | ((apply r_gS (o := default); rfl) <;> (intro h; try simp only [decide_eq_true_eq, decide_eq_false_iff_not, Bool.not_eq_true, Bool.not_eq_false] at h))
    | (apply r_box; ((conv => lhs; simp only [Nat.reduceAdd]) <;> rfl); rfl; rfl; rfl)
    | (apply r_p; rfl)
    | (apply r_nilK)
    | (apply r_nil)
    | (apply k_V; rfl)
    | (apply k_P; rfl)
    | (apply k_PL; rfl)
    | (apply k_S; rfl)
    | (apply k_SL; rfl)
    | (apply k_A; rfl)
    | (apply k_T; rfl)
    | (apply k_F; rfl)
    | (apply k_D; rfl; rotate_left; rfl)
    | (apply k_nil)
    | (apply e_ret (vs := [.d (.val _)]); rfl)
    | (apply e_ret; rfl)
    | (apply e_ret' (vs := [.d (.val _)]); rfl)
    | (apply e_ret'; rfl)
    | (apply w_seq)
    | (apply w_ops; ((conv => lhs; simp only [Nat.reduceAdd]) <;> rfl))
    | (apply w_condT; rfl)
    | (apply w_condF; rfl)
    | ((apply w_condS; rfl) <;> (intro h; try simp only [decide_eq_true_eq, decide_eq_false_iff_not, Bool.not_eq_true, Bool.not_eq_false] at h))
    | (apply e_thenN)
    | (apply w_block)
    | (apply e_thenR)
    | (apply e_thenX)
    | (apply e_blkN)
    | (apply e_blkR)
    | (apply e_blkE)
    | (apply w_exit)
    | (apply w_ret)
    | (apply w_skip)
    | (apply e_blkE'; rfl))
  exact retB rfl
end Go.Sv
namespace Go.Sv
open Go Go.Proofs Go.Proofs.Ytcnlgmajkclgjaa Go.ChangeShapes Go.WideShapes Go.ChangeAt Go.RowKit
set_option linter.unusedVariables false
set_option maxRecDepth 100000

theorem try_own : ownKnob Try.prog.godebug = none := by kernel_rfl
theorem try_laidOut : laidOutB Try.prog = true := by kernel_rfl
theorem rowed : ∀ t ∈ [27, 9, 3, 5, 41], Try.prog.readableRec t = true ∧ t < Try.prog.types.size := by
  intro t ht
  simp only [List.mem_cons, List.not_mem_nil, or_false] at ht
  rcases ht with rfl | rfl | rfl | rfl | rfl
  all_goals exact ⟨by kernel_rfl, of_decide_eq_true (by kernel_rfl)⟩

section
variable {H : Type} {enc : TypeId × Value → H}
theorem stays_all {W W' : World} {sp : Nat → Bool} (hsame : ∀ p : MemPlace, p.block < W.heap.size → W.sameAt W' p) : ∀ {ts : List TypeId} {vs : List Value} {ds : List (DataW H)} {ps : List MemPlace}, (∀ t ∈ ts, Try.prog.readableRec t = true ∧ t < Try.prog.types.size) →
    DataW.TrodAll enc Try.prog W 0 (fun _ => true) true ts vs ds ps → (∀ p ∈ ps, p.block < W.heap.size) → (∀ p ∈ ps, sp p.block = true) → DataW.TrodAll enc Try.prog W' 0 sp true ts vs ds ps
  | [], [], [], ps, _, h, _, _ => h
  | t :: ts, v :: vs, d :: ds, ps, hr, h, hl, hs => by
    obtain ⟨p, q, h1, h2, rfl⟩ := h
    refine ⟨p, q, WideElems.Trod_stays try_laidOut (hr t (by simp)).1 (hr t (by simp)).2 h1 (fun x hx => hsame x (hl x (by simp [hx]))) (fun x hx => hs x (by simp [hx])), ?_, rfl⟩
    exact stays_all hsame (fun t ht => hr t (by simp [ht])) h2 (fun x hx => hl x (by simp [hx])) (fun x hx => hs x (by simp [hx]))

theorem law_post {s : ChangeSpec} {f : Func} {W W' : World} {args : Array Value} {ds gs : List (DataW H)} {before : List MemPlace} (hW : DataW.Whole enc Try.prog f.params.toList s.vars false W args.toList ds gs before) (hsv : s.vars = [])
    (h1 : (s.fn H (ds ++ gs)).results = [.lit (.bool true)]) (h2 : (s.fn H (ds ++ gs)).args = ds) (h3 : (s.fn H (ds ++ gs)).vars = []) (hrt : f.resultTypes = #[4]) (hb : Below W.heap.size W W')
    (hr : ∀ t ∈ f.params.toList, Try.prog.readableRec t = true ∧ t < Try.prog.types.size) : s.post enc Try.prog f false true false false W args (.bool true) W' := by
  have hlt := hW.lt
  have hW0 := hW
  obtain ⟨p, q, hA, hV, rfl, _, _⟩ := hW
  rw [hsv] at hV
  obtain ⟨rfl, rfl⟩ := trodVars_none hV
  have hlt' : ∀ x ∈ p, x.block < W.heap.size := fun x hx => by simpa using hlt x (by simp [hx])
  refine ⟨ds, [], p ++ [], [], p, [], hW0, ?_, ?_, ?_, hb.frame _, fun h => by cases h⟩
  · rw [hrt, h1]
    exact trodAll_mk1 (shut_bool Try.underlying4 true)
  · rw [h2]
    exact stays_all (fun x hx => hb.same hx) hr hA hlt' (fun x hx => by simpa using hlt' x hx)
  · rw [hsv, h3]; rfl

theorem Kept.below {w w' : World} (h : Kept w w' (fun k => (none : Option (List DV)).isSome = true ∧ (none : Option Nat) = some k)) : Below w.heap.size w w' :=
  ⟨h.os, h.tape, h.output, h.size, fun k hk => h.keep k hk (by simp)⟩

theorem law_calls {f : FuncId} {ags : List AV} (hg : Good Try.prog f ags none (.b true) none none) {W : World} {args : Array Value} (ha : RAs W NoA (fun _ => none) NoA args ags) : Calls Try.prog f args W fun e W' => e = .returned (.bool true) ∧ Below W.heap.size W W' := by
  have hNo : (fun k => NoA k ∨ ((none : Option (List DV)).isSome = true ∧ (none : Option Nat) = some k)) = NoA := by
    funext k; simp [NoA]
  have hU : (fun b : Nat => (none : Option (List DV)).isSome = true ∧ b = 0) = NoA := by
    funext k; simp [NoA]
  have := hg.2.2 W NoA none args (fun k h => h.elim) (fun k h => by simp at h) (fun ds h => by cases h) (by rw [hNo, hU]; exact ha)
  refine this.mono fun e W' ⟨v, nm, he, hk, _, _, _, hv⟩ => ?_
  have := hv.val_eq
  subst this
  exact ⟨he, hk.below⟩
theorem RAs.nil {W : World} : RAs W NoA (fun _ => none) NoA #[] [] := ⟨rfl, fun j h => by simp at h⟩
theorem RAs.mk : ∀ {W : World} {vs : List Value} {ags : List AV}, vs.length = ags.length → (∀ (j : Nat) v a, vs[j]? = some v → ags[j]? = some a → RA W NoA (fun _ => none) NoA v a) → RAs W NoA (fun _ => none) NoA vs.toArray ags := by
  intro W vs ags hl h
  refine ⟨by simpa using hl, fun j hj => ?_⟩
  have hj2 : j < vs.length := by omega
  have : vs.toArray.getD j undef = vs[j] := by simp [Array.getD, hj2]
  rw [this]
  exact h j _ _ (List.getElem?_eq_getElem hj2) (List.getElem?_eq_getElem hj)
theorem RDs.toA {W : World} {vs : List Value} {ds : List DV} (h : RDs W vs ds) : RA W NoA (fun _ => none) NoA (.agg vs.toArray) (.agg (ds.map AV.d)) := by
  refine .agg _ _ (by simpa using h.1) fun j hj => ?_
  have hj1 : j < ds.length := by simpa using hj
  have hj2 : j < vs.length := by rw [h.1]; exact hj1
  have : vs.toArray.getD j undef = vs[j] := by simp [Array.getD, hj2]
  rw [this, List.getElem_map]
  exact .d _ _ (h.2 j _ _ (List.getElem?_eq_getElem hj2) (List.getElem?_eq_getElem hj1))
theorem arg_node {W : World} {base : Nat} {v : Value} {d : DataW H} {p : List MemPlace} (hok : Value.okWide Try.prog W .any base 27 v) (h : DataW.Trod enc Try.prog W 0 (fun _ => true) true 27 v d p) : ∃ t : T, inT t ∧ RA W NoA (fun _ => none) NoA v (nodeA t) := by
  obtain ⟨n, hn⟩ := h
  obtain ⟨t, h1, h2⟩ := node_open n _ _ hn
  have hs : ∃ cs, v = .agg cs := by
    unfold Value.okWide at hok
    rw [Try.underlying27] at hok
    obtain ⟨cs, h, _⟩ := hok
    exact ⟨cs, h⟩
  obtain ⟨cs, rfl⟩ := hs
  exact ⟨t, h1, h2.toA⟩
end
theorem joined_of {P : Program} {f : FuncId} {fn : Func} {s : ChangeSpec} {c : OpenClaim}
    (k1 : (c.wf (OpenSpec.ofChange s) && laidOutB P && mapsRowed P && fn.params.all (P.readableRec ·) && namedTie P c.named s.vars && (c.stops == []) && (P.stops == []) && (c.knobs == []) && (P.stopKnobs == [])) = true)
    (k2 : (c.inPlace == P.inPlace f) = true) (k3 : (c.unfollowed == P.unfollowed f) = true) (k4 : (c.recurses == P.recurses f) = true) (k5 : (c.named == P.varsNamed f) = true)
    (k6 : ((c.maps == (fn.params.toList ++ s.plain.varTypes P).any (P.mapsRec ·)) && (c.ifaces == (fn.params.toList ++ s.plain.varTypes P).any (P.ifacesRec ·)) && (c.mapsOut == P.mapsAmong fn.resultTypes.toList) &&
  (c.loops == (fn.params.toList ++ s.plain.varTypes P).any (P.loopsFrom ·)) && (c.wideKeys == (fn.params.toList ++ s.plain.varTypes P ++ fn.resultTypes.toList).any (P.wideKeysFrom ·)) &&
  s.vars.all (P.varReadable ·) && fn.resultTypes.all (fun t => P.readableRec t && decide (t < P.types.size)) && (c.ifacesOut == fn.resultTypes.toList.any (P.ifacesRec ·)) && (c.loopsOut == fn.resultTypes.toList.any (P.loopsFrom ·))) = true)
    (hm : P.mayEnter = true) (hl : P.liftsFinal = c.lifted) (hk : P.make = some c.make) (k7 : ((c.plainKeys == P.plainKeys) && c.shortTexts.isNone && P.stopsHeard && (c.kinds == (if c.domain.isEmpty then [] else fn.params.toList.map fun t => match P.underlying t with | some (.int k) => some k | _ => none)) && (c.pinned == c.pinnedBy) &&
  (c.veiled == (fn.params.toList ++ s.plain.varTypes P ++ fn.resultTypes.toList).any (P.veiledRec ·)) && c.veiledFits P fn.params.toList (fn.params.toList ++ s.plain.varTypes P ++ fn.resultTypes.toList)) = true) : joinedFacts P f fn s c = true := by
  unfold joinedFacts
  simp only [Bool.and_eq_true] at k1 k6 k7 ⊢
  obtain ⟨⟨⟨⟨⟨⟨⟨⟨a1, a2⟩, a3⟩, a4⟩, a5⟩, a6⟩, a7⟩, a8⟩, a9⟩ := k1
  obtain ⟨⟨⟨⟨⟨⟨⟨⟨b1, b2⟩, b3⟩, b4⟩, b5⟩, b6⟩, b7⟩, b8⟩, b9⟩ := k6
  obtain ⟨⟨⟨⟨⟨⟨c1, c2⟩, c3⟩, c4⟩, c5⟩, c6⟩, c7⟩ := k7
  have d1 : (c.lifted == P.liftsFinal) = true := by rw [hl]; exact beq_self_eq_true _
  have d2 : (P.make == some c.make) = true := by rw [hk]; exact beq_self_eq_true _
  repeat' apply And.intro
  all_goals assumption
end Go.Sv
namespace Go.Sv
open Go Go.Proofs Go.Proofs.Ytcnlgmajkclgjaa
set_option maxRecDepth 100000
def orderN : List Nat := [104, 97, 114, 110, 101, 115, 115, 32, 52, 100, 99, 102, 50, 98, 101, 99, 57, 54, 53, 101, 49, 53, 55, 56, 102, 100, 97, 52, 56, 101, 99, 52, 97, 101, 57, 98, 98, 50, 100, 98, 101, 100, 51, 97, 52, 98, 99, 100, 100, 51, 97, 57, 56, 98, 50, 102, 51, 57, 102, 50, 50, 101, 97, 100, 48, 54, 49, 51, 100, 51, 56, 56, 32, 99, 117, 116, 32, 97, 116, 32, 115, 105, 101, 118, 101, 47, 115, 105, 101, 118, 101, 108, 97, 119, 49, 49, 46, 69, 110, 100, 115, 84, 101, 108, 108, 32, 115, 105, 101, 118, 101, 47, 115, 105, 101, 118, 101, 108, 97, 119, 49, 49, 46, 69, 110, 100, 115, 77, 97, 116, 99, 104, 32, 115, 105, 101, 118, 101, 47, 115, 105, 101, 118, 101, 108, 97, 119, 49, 49, 46, 69, 110, 100, 115, 83, 105, 109, 112, 108, 101, 32, 115, 105, 101, 118, 101, 47, 115, 105, 101, 118, 101, 108, 97, 119, 49, 49, 46, 69, 110, 100, 115, 66, 101, 115, 116, 32, 115, 105, 101, 118, 101, 47, 115, 105, 101, 118, 101, 108, 97, 119, 49, 49, 46, 69, 110, 100, 115, 76, 111, 110, 103, 101, 114, 32, 115, 105, 101, 118, 101, 47, 115, 105, 101, 118, 101, 108, 97, 119, 49, 49, 46, 69, 110, 100, 115, 80, 97, 114, 116, 115, 32, 115, 105, 101, 118, 101, 47, 115, 105, 101, 118, 101, 108, 97, 119, 49, 49, 46, 69, 110, 100, 115, 83, 116, 97, 114, 32, 115, 105, 101, 118, 101, 47, 115, 105, 101, 118, 101, 108, 97, 119, 49, 48, 46, 83, 105, 109, 112, 108, 105, 102, 121, 84, 101, 108, 108, 115, 32, 115, 105, 101, 118, 101, 47, 115, 105, 101, 118, 101, 108, 97, 119, 49, 48, 46, 83, 105, 109, 112, 108, 105, 102, 121, 65, 103, 97, 105, 110, 32, 115, 105, 101, 118, 101, 47, 115, 105, 101, 118, 101, 108, 97, 119, 49, 48, 46, 83, 105, 109, 112, 108, 105, 102, 121, 75, 101, 101, 112, 115, 32, 115, 105, 101, 118, 101, 47, 115, 105, 101, 118, 101, 108, 97, 119, 49, 48, 46, 83, 105, 109, 112, 108, 105, 102, 121, 79, 110, 101, 32, 115, 105, 101, 118, 101, 47, 115, 105, 101, 118, 101, 108, 97, 119, 49, 51, 46, 69, 120, 112, 97, 110, 100, 84, 101, 108, 108, 115, 32, 115, 105, 101, 118, 101, 47, 115, 105, 101, 118, 101, 108, 97, 119, 49, 51, 46, 69, 120, 112, 97, 110, 100, 83, 97, 109, 101, 32, 115, 105, 101, 118, 101, 47, 115, 105, 101, 118, 101, 108, 97, 119, 49, 51, 46, 69, 120, 112, 97, 110, 100, 80, 108, 97, 105, 110, 32, 115, 105, 101, 118, 101, 47, 115, 105, 101, 118, 101, 108, 97, 119, 49, 51, 46, 69, 120, 112, 97, 110, 100, 66, 117, 100, 103, 101, 116, 32, 115, 105, 101, 118, 101, 47, 115, 105, 101, 118, 101, 108, 97, 119, 49, 51, 46, 69, 120, 112, 97, 110, 100, 70, 105, 114, 115, 116, 32, 115, 105, 101, 118, 101, 47, 115, 105, 101, 118, 101, 108, 97, 119, 48, 57, 46, 77, 101, 97, 115, 117, 114, 101, 84, 101, 108, 108, 115, 32, 115, 105, 101, 118, 101, 47, 115, 105, 101, 118, 101, 108, 97, 119, 48, 57, 46, 77, 101, 97, 115, 117, 114, 101, 75, 110, 111, 119, 115, 32, 115, 105, 101, 118, 101, 47, 115, 105, 101, 118, 101, 108, 97, 119, 48, 57, 46, 77, 101, 97, 115, 117, 114, 101, 76, 101, 110, 103, 116, 104, 115, 32, 115, 105, 101, 118, 101, 47, 115, 105, 101, 118, 101, 108, 97, 119, 48, 57, 46, 77, 101, 97, 115, 117, 114, 101, 80, 97, 114, 116, 115, 32, 115, 105, 101, 118, 101, 47, 115, 105, 101, 118, 101, 108, 97, 119, 48, 57, 46, 77, 101, 97, 115, 117, 114, 101, 82, 101, 112, 32, 115, 105, 101, 118, 101, 47, 115, 105, 101, 118, 101, 108, 97, 119, 49, 50, 46, 68, 101, 114, 105, 118, 101, 84, 101, 108, 108, 115, 32, 115, 105, 101, 118, 101, 47, 115, 105, 101, 118, 101, 108, 97, 119, 49, 50, 46, 68, 101, 114, 105, 118, 101, 76, 111, 110, 103, 101, 115, 116, 32, 115, 105, 101, 118, 101, 47, 115, 105, 101, 118, 101, 108, 97, 119, 49, 50, 46, 68, 101, 114, 105, 118, 101, 87, 111, 114, 100, 115, 32, 115, 105, 101, 118, 101, 47, 115, 105, 101, 118, 101, 108, 97, 119, 49, 50, 46, 68, 101, 114, 105, 118, 101, 70, 105, 114, 115, 116, 32, 115, 105, 101, 118, 101, 47, 115, 105, 101, 118, 101, 108, 97, 119, 49, 50, 46, 68, 101, 114, 105, 118, 101, 83, 105, 109, 112, 108, 101]
theorem order_eq : Try.prog.initOrder = String.ofList (orderN.map Char.ofNat) := by kernel_rfl
theorem order_list : Try.prog.initOrder.toList = orderN.map Char.ofNat := by rw [order_eq, String.toList_ofList]
theorem ow1 : (stripLifts liftWords (behindMainWord (wordsSigns (orderN.map Char.ofNat)))).1 = [] := by kernel_rfl
theorem ow2 : ((stripLifts liftWords (behindMainWord (wordsSigns (orderN.map Char.ofNat)))).2.head? == some "cut".toList) = true := by kernel_rfl
theorem ow3 : ((behindMainWord (wordsSigns (orderN.map Char.ofNat))).isEmpty = false) := by kernel_rfl
theorem ow4 : ((behindMainWord (wordsSigns (orderN.map Char.ofNat))).head? == some "cut".toList) = true := by kernel_rfl
theorem ow5 : ((behindMainWord (wordsSigns (orderN.map Char.ofNat))).head? == some "carried".toList) = false := by kernel_rfl
theorem ow6 : ((behindMainWord (wordsSigns (orderN.map Char.ofNat))).head? == some "gc".toList) = false := by kernel_rfl
theorem ow7 : ((behindMainWord (wordsSigns (orderN.map Char.ofNat))).head? == some "spec".toList) = false := by kernel_rfl
theorem try_lays : Try.prog.laysLater = false := by kernel_rfl
theorem try_refl : Try.prog.bearsReflect = false := by kernel_rfl
theorem try_door : Try.prog.doorFits [] = true := by kernel_rfl
theorem headLifts_of {P : Program} {l : List Char} (h : P.initOrder.toList = l) (h1 : (stripLifts liftWords (behindMainWord (wordsSigns l))).1 = []) (h2 : ((stripLifts liftWords (behindMainWord (wordsSigns l))).2.head? == some "cut".toList) = true) : P.headLifts = [] := by
  subst h
  unfold Program.headLifts
  simp only [h2, if_true, h1]
theorem try_headLifts : Try.prog.headLifts = [] := headLifts_of order_list ow1 ow2
theorem mayEnter_of {P : Program} {l : List Char} (h : P.initOrder.toList = l) (h1 : (stripLifts liftWords (behindMainWord (wordsSigns l))).1 = []) (h2 : ((stripLifts liftWords (behindMainWord (wordsSigns l))).2.head? == some "cut".toList) = true)
    (h3 : (behindMainWord (wordsSigns l)).isEmpty = false) (k1 : P.laysLater = false) (k2 : P.bearsReflect = false) (k3 : P.doorFits [] = true) : P.mayEnter = true := by
  subst h
  unfold Program.mayEnter
  generalize behindMainWord (wordsSigns P.initOrder.toList) = q at h1 h2 h3 ⊢
  cases q with
  | nil => cases h3
  | cons c rest =>
    have e1 : ([] : List String).contains "finals" = false := rfl
    have e2 : ([] : List String).contains "reflectrows" = false := rfl
    have e3 : ([] : List String).contains "leanrows" = false := rfl
    simp only [h1, h2, k1, k2, k3, e1, e2, e3, Bool.not_false, Bool.or_true, Bool.and_true, Bool.or_self, Bool.and_self]
theorem try_mayEnter : Try.prog.mayEnter = true := mayEnter_of order_list ow1 ow2 ow3 try_lays try_refl try_door
theorem lifts_of {P : Program} {l : List Char} (h : P.initOrder.toList = l) (h5 : ((behindMainWord (wordsSigns l)).head? == some "carried".toList) = false) (k : P.headLifts = []) : P.liftsFinal = false := by
  subst h
  unfold Program.liftsFinal
  rw [k]
  have e1 : ([] : List String).contains "finals" = false := rfl
  simp only [h5, e1, Bool.false_and, Bool.or_self]
theorem try_lifts : Try.prog.liftsFinal = false := lifts_of order_list ow5 try_headLifts
theorem make_of {P : Program} {l : List Char} (h : P.initOrder.toList = l) (h3 : (behindMainWord (wordsSigns l)).isEmpty = false) (h4 : ((behindMainWord (wordsSigns l)).head? == some "cut".toList) = true)
    (h6 : ((behindMainWord (wordsSigns l)).head? == some "gc".toList) = false) (h7 : ((behindMainWord (wordsSigns l)).head? == some "spec".toList) = false) : P.make = some .cut := by
  subst h
  unfold Program.make
  generalize behindMainWord (wordsSigns P.initOrder.toList) = q at h3 h4 h6 h7 ⊢
  cases q with
  | nil => cases h3
  | cons c rest =>
    simp only [List.head?_cons] at h4 h6 h7
    have g : ∀ x : List Char, (some c == some x) = (c == x) := fun x => rfl
    rw [g] at h4 h6 h7
    simp only [h4, h6, h7, Bool.or_self, Bool.false_eq_true, if_false, Bool.true_or, if_true]
theorem try_make : Try.prog.make = some .cut := make_of order_list ow3 ow4 ow6 ow7
end Go.Sv
