/- A part of the proof of the law MeasureKnows: that it answers true for every input, and that the input reads behind the call as before (no condition). -/
import Derived.Test.YtcnlgmajkclgjaaMeasureKnowsG6
set_option linter.all false
set_option linter.unusedSectionVars false
set_option linter.unusedVariables false
set_option linter.unusedSimpArgs false
namespace Go.Sv
open Go Go.Proofs
def x49 : XC := (.seq (.ops 2 [
    (0, ⟨(some 2), none, .box (.t 0)⟩),
    (1, ⟨(some 4), none, .mv (.k (.d (.val (.slice none 0 0))))⟩)] (some [1, 2])) (.seq (.ops 4 [
    (0, ⟨(some 15), none, .mv (.t 1)⟩),
    (1, ⟨(some 16), none, .arith .add (.t 15) (.k (.d (.val (.int .i64 1))))⟩),
    (2, ⟨(some 17), none, .mks [(.bool false)] 1 (.t 16) (.t 16)⟩),
    (3, ⟨(some 5), none, .mv (.t 17)⟩)] (some [1, 2, 5])) (.seq (.seq (.ops 2 [
    (0, ⟨(some 18), none, .fadd 0 (.t 2)⟩),
    (1, ⟨(some 19), none, .load none (.t 18)⟩)] (some [1, 2, 5, 19])) (.block 0 (.seq (.ops 2 [
    (0, ⟨(some 21), none, .arith .eql (.t 19) (.k (.d (.val (.int .i64 1))))⟩),
    (1, ⟨(some 20), none, .mv (.t 21)⟩)] (some [1, 2, 5, 19, 20])) (.cond (.t 20) (.ops 3 [
    (0, ⟨(some 22), none, .mv (.t 5)⟩),
    (1, ⟨(some 23), none, .idxS 1 (.t 22) (.k (.d (.val (.int .i64 0))))⟩),
    (2, ⟨none, none, .store 1 (.t 23) (.k (.d (.val (.bool true))))⟩)] (some [5])) (.seq (.ops 2 [
    (0, ⟨(some 25), none, .arith .eql (.t 19) (.k (.d (.val (.int .i64 2))))⟩),
    (1, ⟨(some 24), none, .mv (.t 25)⟩)] (some [1, 2, 5, 19, 24])) (.cond (.t 24) (.seq (.ops 2 [
    (0, ⟨(some 26), none, .mv (.t 1)⟩),
    (1, ⟨(some 27), none, .arith .geq (.t 26) (.k (.d (.val (.int .i64 1))))⟩)] (some [2, 5, 27])) (.cond (.t 27) (.ops 7 [
    (0, ⟨(some 28), none, .mv (.t 5)⟩),
    (1, ⟨(some 29), none, .fadd 1 (.t 2)⟩),
    (2, ⟨(some 30), none, .load (some 4) (.t 29)⟩),
    (3, ⟨(some 31), none, .build [(.int .u64 0), (.int .u64 0), (.int .u64 0), (.int .u64 0)] []⟩),
    (4, ⟨(some 32), none, .eqAgg 4 true (.t 30) (.t 31)⟩),
    (5, ⟨(some 33), none, .idxS 1 (.t 28) (.k (.d (.val (.int .i64 1))))⟩),
    (6, ⟨none, none, .store 1 (.t 33) (.t 32)⟩)] (some [5])) .skip)) (.seq (.ops 2 [
    (0, ⟨(some 35), none, .arith .eql (.t 19) (.k (.d (.val (.int .i64 3))))⟩),
    (1, ⟨(some 34), none, .mv (.t 35)⟩)] (some [1, 2, 5, 19, 34])) (.cond (.t 34) (.seq (.ops 3 [
    (0, ⟨(some 36), none, .mv (.t 5)⟩),
    (1, ⟨(some 37), none, .idxS 1 (.t 36) (.k (.d (.val (.int .i64 0))))⟩),
    (2, ⟨none, none, .store 1 (.t 37) (.k (.d (.val (.bool true))))⟩)] (some [1, 2, 5])) (.seq (.ops 1 [
    (0, ⟨(some 6), none, .mv (.k (.d (.val (.int .i64 0))))⟩)] (some [1, 2, 5, 6])) (.block 1 (.loop (.seq (.seq (.ops 5 [
    (0, ⟨(some 38), none, .mv (.t 6)⟩),
    (1, ⟨(some 39), none, .fadd 7 (.t 2)⟩),
    (2, ⟨(some 40), none, .load none (.t 39)⟩),
    (3, ⟨(some 41), none, .lenS (.t 40)⟩),
    (4, ⟨(some 42), none, .arith .lss (.t 38) (.t 41)⟩)] (some [1, 2, 5, 6, 42])) (.cond (.t 42) .skip (.exit 1))) (.seq (.block 2 (.ops 10 [
    (0, ⟨(some 45), none, .mv (.t 5)⟩),
    (1, ⟨(some 46), none, .fadd 7 (.t 2)⟩),
    (2, ⟨(some 47), none, .load none (.t 46)⟩),
    (3, ⟨(some 48), none, .mv (.t 6)⟩),
    (4, ⟨(some 49), none, .idxS 8 (.t 47) (.t 48)⟩),
    (5, ⟨(some 50), none, .load (some 8) (.t 49)⟩),
    (6, ⟨(some 51), none, .mv (.t 1)⟩),
    (7, ⟨(some 52), none, .call 49 [(.t 50), (.t 51)] none false⟩),
    (8, ⟨(some 53), none, .call 98 [(.t 45), (.t 52)] none false⟩),
    (9, ⟨(some 5), none, .mv (.t 53)⟩)] (some [1, 2, 5, 6]))) (.ops 3 [
    (0, ⟨(some 43), none, .mv (.t 6)⟩),
    (1, ⟨(some 44), none, .arith .add (.t 43) (.k (.d (.val (.int .i64 1))))⟩),
    (2, ⟨(some 6), none, .mv (.t 44)⟩)] (some [1, 2, 5, 6])))))))) (.seq (.ops 2 [
    (0, ⟨(some 55), none, .arith .eql (.t 19) (.k (.d (.val (.int .i64 4))))⟩),
    (1, ⟨(some 54), none, .mv (.t 55)⟩)] (some [1, 2, 5, 19, 54])) (.cond (.t 54) (.seq (.ops 1 [
    (0, ⟨(some 7), none, .mv (.k (.d (.val (.int .i64 0))))⟩)] (some [1, 2, 5, 7])) (.block 3 (.loop (.seq (.seq (.ops 5 [
    (0, ⟨(some 56), none, .mv (.t 7)⟩),
    (1, ⟨(some 57), none, .fadd 7 (.t 2)⟩),
    (2, ⟨(some 58), none, .load none (.t 57)⟩),
    (3, ⟨(some 59), none, .lenS (.t 58)⟩),
    (4, ⟨(some 60), none, .arith .lss (.t 56) (.t 59)⟩)] (some [1, 2, 5, 7, 60])) (.cond (.t 60) .skip (.exit 3))) (.seq (.block 4 (.seq (.ops 8 [
    (0, ⟨(some 63), none, .fadd 7 (.t 2)⟩),
    (1, ⟨(some 64), none, .load none (.t 63)⟩),
    (2, ⟨(some 65), none, .mv (.t 7)⟩),
    (3, ⟨(some 66), none, .idxS 8 (.t 64) (.t 65)⟩),
    (4, ⟨(some 67), none, .load (some 8) (.t 66)⟩),
    (5, ⟨(some 68), none, .mv (.t 1)⟩),
    (6, ⟨(some 69), none, .call 49 [(.t 67), (.t 68)] none false⟩),
    (7, ⟨(some 8), none, .mv (.t 69)⟩)] (some [1, 2, 5, 7, 8])) (.seq (.ops 1 [
    (0, ⟨(some 9), none, .mv (.k (.d (.val (.int .i64 0))))⟩)] (some [1, 2, 5, 7, 8, 9])) (.block 5 (.loop (.seq (.seq (.ops 3 [
    (0, ⟨(some 70), none, .mv (.t 9)⟩),
    (1, ⟨(some 71), none, .mv (.t 1)⟩),
    (2, ⟨(some 72), none, .arith .leq (.t 70) (.t 71)⟩)] (some [1, 2, 5, 7, 8, 9, 72])) (.cond (.t 72) .skip (.exit 5))) (.seq (.block 6 (.ops 14 [
    (0, ⟨(some 75), none, .mv (.t 5)⟩),
    (1, ⟨(some 76), none, .mv (.t 9)⟩),
    (2, ⟨(some 77), none, .mv (.t 5)⟩),
    (3, ⟨(some 78), none, .mv (.t 9)⟩),
    (4, ⟨(some 79), none, .idxS 1 (.t 77) (.t 78)⟩),
    (5, ⟨(some 80), none, .load none (.t 79)⟩),
    (6, ⟨(some 81), none, .mv (.t 80)⟩),
    (7, ⟨(some 82), (some (81, false)), .mv (.t 8)⟩),
    (8, ⟨(some 83), (some (81, false)), .mv (.t 9)⟩),
    (9, ⟨(some 84), (some (81, false)), .idxS 1 (.t 82) (.t 83)⟩),
    (10, ⟨(some 85), (some (81, false)), .load none (.t 84)⟩),
    (11, ⟨(some 86), none, .pick (.t 81) (.k (.d (.val (.bool true)))) (.t 85)⟩),
    (12, ⟨(some 87), none, .idxS 1 (.t 75) (.t 76)⟩),
    (13, ⟨none, none, .store 1 (.t 87) (.t 86)⟩)] (some [1, 2, 5, 7, 8, 9]))) (.ops 3 [
    (0, ⟨(some 73), none, .mv (.t 9)⟩),
    (1, ⟨(some 74), none, .arith .add (.t 73) (.k (.d (.val (.int .i64 1))))⟩),
    (2, ⟨(some 9), none, .mv (.t 74)⟩)] (some [1, 2, 5, 7, 8, 9]))))))))) (.ops 3 [
    (0, ⟨(some 61), none, .mv (.t 7)⟩),
    (1, ⟨(some 62), none, .arith .add (.t 61) (.k (.d (.val (.int .i64 1))))⟩),
    (2, ⟨(some 7), none, .mv (.t 62)⟩)] (some [1, 2, 5, 7]))))))) (.seq (.ops 2 [
    (0, ⟨(some 89), none, .arith .eql (.t 19) (.k (.d (.val (.int .i64 5))))⟩),
    (1, ⟨(some 88), none, .mv (.t 89)⟩)] (some [1, 2, 5, 88])) (.cond (.t 88) (.seq (.ops 7 [
    (0, ⟨(some 90), none, .fadd 7 (.t 2)⟩),
    (1, ⟨(some 91), none, .load none (.t 90)⟩),
    (2, ⟨(some 92), none, .idxS 8 (.t 91) (.k (.d (.val (.int .i64 0))))⟩),
    (3, ⟨(some 93), none, .load (some 8) (.t 92)⟩),
    (4, ⟨(some 94), none, .mv (.t 1)⟩),
    (5, ⟨(some 95), none, .call 49 [(.t 93), (.t 94)] none false⟩),
    (6, ⟨(some 10), none, .mv (.t 95)⟩)] (some [1, 2, 5, 10])) (.seq (.ops 4 [
    (0, ⟨(some 96), none, .mv (.t 1)⟩),
    (1, ⟨(some 97), none, .arith .add (.t 96) (.k (.d (.val (.int .i64 1))))⟩),
    (2, ⟨(some 98), none, .mks [(.bool false)] 1 (.t 97) (.t 97)⟩),
    (3, ⟨(some 11), none, .mv (.t 98)⟩)] (some [1, 2, 5, 10, 11])) (.seq (.ops 3 [
    (0, ⟨(some 99), none, .mv (.t 11)⟩),
    (1, ⟨(some 100), none, .idxS 1 (.t 99) (.k (.d (.val (.int .i64 0))))⟩),
    (2, ⟨none, none, .store 1 (.t 100) (.k (.d (.val (.bool true))))⟩)] (some [1, 2, 5, 10, 11])) (.seq (.ops 3 [
    (0, ⟨(some 101), none, .fadd 6 (.t 2)⟩),
    (1, ⟨(some 102), none, .load none (.t 101)⟩),
    (2, ⟨(some 12), none, .mv (.t 102)⟩)] (some [1, 2, 5, 10, 11, 12])) (.seq (.seq (.ops 2 [
    (0, ⟨(some 103), none, .mv (.t 12)⟩),
    (1, ⟨(some 104), none, .arith .lss (.t 103) (.k (.d (.val (.int .i64 0))))⟩)] (some [1, 2, 5, 10, 11, 12, 104])) (.cond (.t 104) (.ops 5 [
    (0, ⟨(some 105), none, .fadd 5 (.t 2)⟩),
    (1, ⟨(some 106), none, .load none (.t 105)⟩),
    (2, ⟨(some 107), none, .mv (.t 1)⟩),
    (3, ⟨(some 108), none, .arith .add (.t 106) (.t 107)⟩),
    (4, ⟨(some 12), none, .mv (.t 108)⟩)] (some [1, 2, 5, 10, 11, 12])) .skip)) (.seq (.ops 1 [
    (0, ⟨(some 13), none, .mv (.k (.d (.val (.int .i64 0))))⟩)] (some [1, 2, 5, 10, 11, 12, 13])) (.block 7 (.loop (.seq (.seq (.ops 3 [
    (0, ⟨(some 109), none, .mv (.t 13)⟩),
    (1, ⟨(some 110), none, .mv (.t 12)⟩),
    (2, ⟨(some 111), none, .arith .leq (.t 109) (.t 110)⟩)] (some [1, 2, 5, 10, 11, 12, 13, 111])) (.cond (.t 111) .skip (.exit 7))) (.seq (.block 8 (.seq (.seq (.ops 4 [
    (0, ⟨(some 114), none, .mv (.t 13)⟩),
    (1, ⟨(some 115), none, .fadd 5 (.t 2)⟩),
    (2, ⟨(some 116), none, .load none (.t 115)⟩),
    (3, ⟨(some 117), none, .arith .geq (.t 114) (.t 116)⟩)] (some [1, 2, 5, 10, 11, 12, 13, 117])) (.cond (.t 117) (.seq (.ops 1 [
    (0, ⟨(some 14), none, .mv (.k (.d (.val (.int .i64 0))))⟩)] (some [1, 2, 5, 10, 11, 12, 13, 14])) (.block 9 (.loop (.seq (.seq (.ops 3 [
    (0, ⟨(some 118), none, .mv (.t 14)⟩),
    (1, ⟨(some 119), none, .mv (.t 1)⟩),
    (2, ⟨(some 120), none, .arith .leq (.t 118) (.t 119)⟩)] (some [1, 2, 5, 10, 11, 12, 13, 14, 120])) (.cond (.t 120) .skip (.exit 9))) (.seq (.block 10 (.ops 14 [
    (0, ⟨(some 123), none, .mv (.t 5)⟩),
    (1, ⟨(some 124), none, .mv (.t 14)⟩),
    (2, ⟨(some 125), none, .mv (.t 5)⟩),
    (3, ⟨(some 126), none, .mv (.t 14)⟩),
    (4, ⟨(some 127), none, .idxS 1 (.t 125) (.t 126)⟩),
    (5, ⟨(some 128), none, .load none (.t 127)⟩),
    (6, ⟨(some 129), none, .mv (.t 128)⟩),
    (7, ⟨(some 130), (some (129, false)), .mv (.t 11)⟩),
    (8, ⟨(some 131), (some (129, false)), .mv (.t 14)⟩),
    (9, ⟨(some 132), (some (129, false)), .idxS 1 (.t 130) (.t 131)⟩),
    (10, ⟨(some 133), (some (129, false)), .load none (.t 132)⟩),
    (11, ⟨(some 134), none, .pick (.t 129) (.k (.d (.val (.bool true)))) (.t 133)⟩),
    (12, ⟨(some 135), none, .idxS 1 (.t 123) (.t 124)⟩),
    (13, ⟨none, none, .store 1 (.t 135) (.t 134)⟩)] (some [1, 2, 5, 10, 11, 12, 13, 14]))) (.ops 3 [
    (0, ⟨(some 121), none, .mv (.t 14)⟩),
    (1, ⟨(some 122), none, .arith .add (.t 121) (.k (.d (.val (.int .i64 1))))⟩),
    (2, ⟨(some 14), none, .mv (.t 122)⟩)] (some [1, 2, 5, 10, 11, 12, 13, 14]))))))) .skip)) (.ops 4 [
    (0, ⟨(some 136), none, .mv (.t 11)⟩),
    (1, ⟨(some 137), none, .mv (.t 10)⟩),
    (2, ⟨(some 138), none, .call 98 [(.t 136), (.t 137)] none false⟩),
    (3, ⟨(some 11), none, .mv (.t 138)⟩)] (some [1, 2, 5, 10, 11, 12, 13])))) (.ops 3 [
    (0, ⟨(some 112), none, .mv (.t 13)⟩),
    (1, ⟨(some 113), none, .arith .add (.t 112) (.k (.d (.val (.int .i64 1))))⟩),
    (2, ⟨(some 13), none, .mv (.t 113)⟩)] (some [1, 2, 5, 10, 11, 12, 13])))))))))))) .skip)))))))))))) (.seq (.ops 2 [
    (0, ⟨(some 139), none, .mv (.t 5)⟩),
    (1, ⟨(some 4), none, .mv (.t 139)⟩)] (some [4])) .ret))))
def md49 : FuncId → Option Nat × Bool
  | _ => (none, false)
def od49 : Nat → List (List Nat) × List Nat × Option (List Nat)
  | 0 => ([], [], some [1, 2])
  | 1 => ([], [], some [1, 2, 5])
  | 2 => ([], [], some [1, 2, 5, 19])
  | 3 => ([], [], some [1, 2, 5, 19, 20])
  | 4 => ([], [], some [5])
  | 5 => ([], [], some [1, 2, 5, 19, 24])
  | 6 => ([], [], some [2, 5, 27])
  | 7 => ([], [], some [5])
  | 8 => ([], [], some [1, 2, 5, 19, 34])
  | 9 => ([], [], some [1, 2, 5])
  | 10 => ([], [], some [1, 2, 5, 6])
  | 11 => ([], [], some [1, 2, 5, 6, 42])
  | 12 => ([], [], some [1, 2, 5, 6])
  | 13 => ([], [], some [1, 2, 5, 6])
  | 14 => ([], [], some [1, 2, 5, 19, 54])
  | 15 => ([], [], some [1, 2, 5, 7])
  | 16 => ([], [], some [1, 2, 5, 7, 60])
  | 17 => ([], [], some [1, 2, 5, 7])
  | 18 => ([], [], some [1, 2, 5, 7, 8])
  | 19 => ([], [], some [1, 2, 5, 7, 8, 9])
  | 20 => ([], [], some [1, 2, 5, 7, 8, 9, 72])
  | 21 => ([], [], some [1, 2, 5, 7, 8, 9])
  | 22 => ([], [], some [1, 2, 5, 7, 8, 9])
  | 23 => ([], [], some [1, 2, 5, 88])
  | 24 => ([], [], some [1, 2, 5, 10])
  | 25 => ([], [], some [1, 2, 5, 10, 11])
  | 26 => ([], [], some [1, 2, 5, 10, 11])
  | 27 => ([], [], some [1, 2, 5, 10, 11, 12])
  | 28 => ([], [], some [1, 2, 5, 10, 11, 12, 104])
  | 29 => ([], [], some [1, 2, 5, 10, 11, 12])
  | 30 => ([], [], some [1, 2, 5, 10, 11, 12, 13])
  | 31 => ([], [], some [1, 2, 5, 10, 11, 12, 13, 111])
  | 32 => ([], [], some [1, 2, 5, 10, 11, 12, 13])
  | 33 => ([], [], some [1, 2, 5, 10, 11, 12, 13, 117])
  | 34 => ([], [], some [1, 2, 5, 10, 11, 12, 13, 14])
  | 35 => ([], [], some [1, 2, 5, 10, 11, 12, 13, 14, 120])
  | 36 => ([], [], some [1, 2, 5, 10, 11, 12, 13, 14])
  | 37 => ([], [], some [1, 2, 5, 10, 11, 12, 13, 14])
  | 38 => ([], [], some [1, 2, 5, 10, 11, 12, 13])
  | 39 => ([], [], some [4])
  | _ => ([], [], none)
theorem b49 {ags : List AV} {row : Option (List DV)} {r : AV} {row' nw : Option (List DV)} (hal : ags.length ≤ 140) (hrow : row'.isSome = true → row.isSome = true) (h : xwp Try.prog x49 (retK [.tmp 4] row.isSome r row' nw) (St.init ags row)) : Good Try.prog 49 ags row r row' nw :=
  good_of_body' (md := md49) (od := od49) Try.f49 (by kernel_rfl) (by kernel_rfl) (by kernel_rfl) (by kernel_rfl) (by kernel_rfl) hal hrow h

def x72 : XC := (.seq (.ops 2 [
    (0, ⟨(some 1), none, .box (.t 0)⟩),
    (1, ⟨(some 2), none, .mv (.k (.d (.val (.bool false))))⟩)] (some [1])) (.seq (.ops 5 [
    (0, ⟨(some 3), none, .load (some 8) (.t 1)⟩),
    (1, ⟨(some 4), none, .call 49 [(.t 3), (.k (.d (.val (.int .i64 0))))] none false⟩),
    (2, ⟨(some 5), none, .idxS 1 (.t 4) (.k (.d (.val (.int .i64 0))))⟩),
    (3, ⟨(some 6), none, .load none (.t 5)⟩),
    (4, ⟨(some 2), none, .mv (.t 6)⟩)] (some [2])) .ret))
def md72 : FuncId → Option Nat × Bool
  | _ => (none, false)
def od72 : Nat → List (List Nat) × List Nat × Option (List Nat)
  | 0 => ([], [], some [1])
  | 1 => ([], [], some [2])
  | _ => ([], [], none)
theorem b72 {ags : List AV} {row : Option (List DV)} {r : AV} {row' nw : Option (List DV)} (hal : ags.length ≤ 7) (hrow : row'.isSome = true → row.isSome = true) (h : xwp Try.prog x72 (retK [.tmp 2] row.isSome r row' nw) (St.init ags row)) : Good Try.prog 72 ags row r row' nw :=
  good_of_body' (md := md72) (od := od72) Try.f72 (by kernel_rfl) (by kernel_rfl) (by kernel_rfl) (by kernel_rfl) (by kernel_rfl) hal hrow h

theorem catL_snoc (l : List T) (t : T) (w : List Nat) : catL (l ++ [t]) w ↔ ∃ u v, w = u ++ v ∧ catL l u ∧ L t v := by
  rw [catL_app]; simp only [catL_one]
theorem altL_snoc (l : List T) (t : T) (w : List Nat) : altL (l ++ [t]) w ↔ altL l w ∨ L t w := by
  rw [altL_app]; simp only [altL, or_false]
theorem powL_snoc (P : List Nat → Prop) (k : Nat) (w : List Nat) : powL P (k + 1) w ↔ ∃ u v, w = u ++ v ∧ powL P k u ∧ P v := by
  rw [powL_add]; simp only [powL_one]
def Ored (p q p2 : List Bool) (k : Nat) : Prop := p2.length = p.length ∧ ∀ n, At p2 n ↔ At p n ∨ (n < k ∧ At q n)
theorem Ored.zero (p q : List Bool) : Ored p q p 0 := ⟨rfl, fun n => ⟨.inl, fun h => h.elim id fun h => absurd h.1 (by omega)⟩⟩
theorem Ored.step {p q p2 : List Bool} {k : Nat} (h : Ored p q p2 k) (hk : k < p.length) : Ored p q (p2.set k (p2.getD k false || q.getD k false)) (k + 1) := by
  refine ⟨by rw [List.length_set]; exact h.1, fun n => ?_⟩
  rw [at_set n (by rw [h.1]; exact hk), h.2 n]
  have hv : (p2.getD k false || q.getD k false) = true ↔ At p2 k ∨ At q k := by simp [At]
  rw [hv, h.2 k]
  constructor
  · rintro (⟨rfl, (h1 | h1) | h1⟩ | ⟨h1, h2 | h2⟩)
    · exact .inl h1
    · exact .inr ⟨by omega, h1.2⟩
    · exact .inr ⟨by omega, h1⟩
    · exact .inl h2
    · exact .inr ⟨by omega, h2.2⟩
  · rintro (h1 | ⟨h1, h2⟩)
    · by_cases e : n = k
      · subst e; exact .inl ⟨rfl, .inl (.inl h1)⟩
      · exact .inr ⟨e, .inl h1⟩
    · by_cases e : n = k
      · subst e; exact .inl ⟨rfl, .inr h2⟩
      · exact .inr ⟨e, .inr ⟨by omega, h2⟩⟩
set_option maxRecDepth 100000
set_option maxHeartbeats 4000000
attribute [local irreducible] W E R KP thenK blockK retK Good xwp aRun
theorem len49_good : ∀ (n : Nat) (t : T), t.cnt ≤ n → n ≤ 1000000 → okT t → ∀ m : Nat, m ≤ 1000 → Good Try.prog 49 [nodeA t, .i m] none (.d (.sl (encB (lenS (L t) m)) (m + 1))) none none := by
  intro n
  induction n with
  | zero => intro t ht; have := cnt_pos t; omega
  | succ n ih =>
  intro t ht hc hok m hm
  have hS := okT_S hok
  obtain ⟨k, a, b, c, d, mn, mx, subs⟩ := t
  have hR := okT_R hok
  have hoks := okT_subs hok
  have hpl := okT_plain hok
  have ih' : ∀ i (h : i < subs.length), Good Try.prog 49 [nodeA subs[i], .i m] none (.d (.sl (encB (lenS (L subs[i]) m)) (m + 1))) none none := by
    intro i h
    refine ih _ ?_ (by omega) (okL_get subs i h hoks) m hm
    have := cntL_get subs i h
    simp only [T.cnt] at ht
    omega
  have hlen : subs.length ≤ 1000000 := by
    have := cntL_len subs
    simp only [T.cnt] at ht
    omega
  have e0 : nodeA (.node k a b c d mn mx subs) = .agg [.i k, .d (.val (.int .u64 a)), .d (.val (.int .u64 b)), .d (.val (.int .u64 c)), .d (.val (.int .u64 d)), .i mn, .i mx, .d (.sl (encL subs) subs.length)] := rfl
  have hkind := (plainT_kind hpl).1
  have hk5 : k = 5 → ∃ u, subs = [u] := fun h5 => by subst h5; exact plainT_5 hpl
  have hr0 : (List.replicate (m + 1) false).length = m + 1 := List.length_replicate
  clear ih ht hok hoks hpl
  rw [e0]
  by_cases h1 : k = 1
  · have e : (List.replicate (m + 1) false).set 0 true = lenS (L (.node k a b c d mn mx subs)) m := by
      refine lenS_eq (by simp) fun j hj => ?_
      rw [at_set j (by simp)]
      subst h1
      simp only [L_k1]
      constructor
      · rintro (⟨rfl, _⟩ | ⟨_, h⟩)
        · exact ⟨[], rfl, rfl⟩
        · exact absurd h (at_rep _ _)
      · rintro ⟨w, rfl, h⟩; exact .inl ⟨h.symm, by simp⟩
    rw [← e]
    refine b49 (by simp) (by simp) (w_init ?_)
    unfold x49
    repeat' (first
    | (apply r_mvV; rfl)
    | (apply r_mvP; rfl)
    | (apply r_mvPL; rfl)
    | (apply r_mvS; rfl)
    | (apply r_mvSL; rfl)
    | (apply r_mvA; rfl)
    | (apply r_mvT; rfl)
    | (apply r_mvF; rfl)
    | (apply r_mvD; rfl)
    | (apply r_faddD; rfl)
    | (apply r_faddL; rfl)
    | (apply r_l; apply ld_kind; assumption; rfl)
    | (apply r_l; apply ld_mn; assumption; rfl)
    | (apply r_l; apply ld_mx; assumption; rfl)
    | (apply r_l; apply ld_subs; assumption; rfl)
    | (apply r_l; apply ld_set; assumption; rfl)
    | (apply r_l; apply ld_node; assumption; rfl)
    | (apply r_l; apply ld_kind'; assumption; rfl)
    | (apply r_l; apply ld_mn'; assumption; rfl)
    | (apply r_l; apply ld_mx'; assumption; rfl)
    | (apply r_l; apply ld_subs'; assumption; rfl)
    | (apply r_l; apply ld_node'; assumption; rfl)
    | (apply r_mksB (m := m + 1); rfl; rfl; ((conv => lhs; simp only [Nat.reduceAdd]) <;> rfl); omega; omega)
    | (apply r_ixL (j := 0); rfl; rfl; omega)
    | (apply r_stB (j := 0); rfl; rfl; rfl; rfl; omega)
    | (apply r_ldL; rfl; rfl; rfl)
    | (apply r_eql; rfl; rfl; (first | (apply decide_eq_true; omega) | (apply decide_eq_false; omega) | rfl))
    | (apply r_lss; rfl; rfl; (first | (apply decide_eq_true; omega) | (apply decide_eq_false; omega) | rfl))
    | (apply r_leq; rfl; rfl; (first | (apply decide_eq_true; omega) | (apply decide_eq_false; omega) | rfl))
    | (apply r_geq; rfl; rfl; (first | (apply decide_eq_true; omega) | (apply decide_eq_false; omega) | rfl))
    | (apply r_add; rfl; rfl; rfl; omega)
    | (apply r_pickT; rfl)
    | (apply r_pickF; rfl)
    | (apply r_lenD; rfl)
    | (apply r_lenL; rfl)
    | (apply r_len0; rfl)
    | (apply r_gT; rfl)
    | (apply r_gF'; rfl; rfl)
    | (apply r_gN'; rfl)
    | ((apply r_gS (o := default); rfl) <;> (intro h; try simp only [decide_eq_true_eq, decide_eq_false_iff_not, Bool.not_eq_true, Bool.not_eq_false] at h))
    | (apply r_box; ((conv => lhs; simp only [Nat.reduceAdd]) <;> rfl); rfl; rfl; rfl)
    | (apply r_stL; rfl; rfl; rfl; rfl; (first | rfl | (simp only [z_nil, z_add] <;> rfl)); rfl; rfl)
    | (apply r_p; rfl)
    | (apply r_nilK)
    | (apply r_nil)
    | (apply k_V; rfl)
    | (apply k_P; rfl)
    | (apply k_PL; rfl)
    | (apply k_S; rfl)
    | (apply k_SL; rfl)
    | (apply k_A; rfl)
    | (apply k_T; rfl)
    | (apply k_F; rfl)
    | (apply k_D; rfl; rotate_left; rfl)
    | (apply k_nil)
    | (apply e_ret (vs := [.d (.val _)]); rfl)
    | (apply e_ret; rfl)
    | (apply e_ret' (vs := [.d (.val _)]); rfl)
    | (apply e_ret'; rfl)
    | (apply w_seq)
    | (apply w_ops; ((conv => lhs; simp only [Nat.reduceAdd]) <;> rfl))
    | (apply w_condT; rfl)
    | (apply w_condF; rfl)
    | ((apply w_condS; rfl) <;> (intro h; try simp only [decide_eq_true_eq, decide_eq_false_iff_not, Bool.not_eq_true, Bool.not_eq_false] at h))
    | (apply e_thenN)
    | (apply w_block)
    | (apply e_thenR)
    | (apply e_thenX)
    | (apply e_blkN)
    | (apply e_blkR)
    | (apply e_blkE)
    | (apply w_exit)
    | (apply w_ret)
    | (apply w_skip)
    | (apply e_blkE'; rfl))
    exact retSB rfl (by simp)
  by_cases h2 : k = 2
  · by_cases hm1 : 1 ≤ m
    · have e : (List.replicate (m + 1) false).set 1 (!isZero a b c d) = lenS (L (.node k a b c d mn mx subs)) m := by
        refine lenS_eq (by simp) fun j hj => ?_
        rw [at_set j (by simp; omega)]
        subst h2
        simp only [L_k2]
        have hz := zero_iff hS.1 hS.2.1 hS.2.2.1 hS.2.2.2
        constructor
        · rintro (⟨rfl, h⟩ | ⟨_, h⟩)
          · have hz2 : ¬ ∀ x, x < 256 → inG a b c d x = false := fun h3 => by rw [hz.2 h3] at h; cases h
            have : ∃ x, inG a b c d x = true := Classical.byContradiction fun hc => hz2 fun x _ => by
              cases e : inG a b c d x with
              | false => rfl
              | true => exact absurd ⟨x, e⟩ hc
            obtain ⟨x, hx⟩ := this
            exact ⟨[x], ⟨x, rfl, hx⟩, rfl⟩
          · exact absurd h (at_rep _ _)
        · rintro ⟨w, ⟨x, rfl, hx⟩, h⟩
          refine .inl ⟨h.symm, ?_⟩
          cases e : isZero a b c d with
          | false => rfl
          | true => rw [hz.1 e x (inG_lt hx)] at hx; cases hx
      rw [← e]
      refine b49 (by simp) (by simp) (w_init ?_)
      unfold x49
      repeat' (first
    | (apply r_mvV; rfl)
    | (apply r_mvP; rfl)
    | (apply r_mvPL; rfl)
    | (apply r_mvS; rfl)
    | (apply r_mvSL; rfl)
    | (apply r_mvA; rfl)
    | (apply r_mvT; rfl)
    | (apply r_mvF; rfl)
    | (apply r_mvD; rfl)
    | (apply r_faddD; rfl)
    | (apply r_faddL; rfl)
    | (apply r_l; apply ld_kind; assumption; rfl)
    | (apply r_l; apply ld_mn; assumption; rfl)
    | (apply r_l; apply ld_mx; assumption; rfl)
    | (apply r_l; apply ld_subs; assumption; rfl)
    | (apply r_l; apply ld_set; assumption; rfl)
    | (apply r_l; apply ld_node; assumption; rfl)
    | (apply r_l; apply ld_kind'; assumption; rfl)
    | (apply r_l; apply ld_mn'; assumption; rfl)
    | (apply r_l; apply ld_mx'; assumption; rfl)
    | (apply r_l; apply ld_subs'; assumption; rfl)
    | (apply r_l; apply ld_node'; assumption; rfl)
    | (apply r_mksB (m := m + 1); rfl; rfl; ((conv => lhs; simp only [Nat.reduceAdd]) <;> rfl); omega; omega)
    | (apply r_ldL (v := .agg [.d (.val (.int .u64 a)), .d (.val (.int .u64 b)), .d (.val (.int .u64 c)), .d (.val (.int .u64 d))]); rfl; rfl; rfl)
    | (apply r_p (v := .agg [.d (.val (.int .u64 0)), .d (.val (.int .u64 0)), .d (.val (.int .u64 0)), .d (.val (.int .u64 0))]); rfl)
    | (apply r_eqX (r := !isZero a b c d); rfl; rfl; rfl)
    | (apply r_ixL (j := 1); rfl; rfl; omega)
    | (apply r_stB (j := 1); rfl; rfl; rfl; rfl; omega)
    | (apply r_ldL; rfl; rfl; rfl)
    | (apply r_eql; rfl; rfl; (first | (apply decide_eq_true; omega) | (apply decide_eq_false; omega) | rfl))
    | (apply r_lss; rfl; rfl; (first | (apply decide_eq_true; omega) | (apply decide_eq_false; omega) | rfl))
    | (apply r_leq; rfl; rfl; (first | (apply decide_eq_true; omega) | (apply decide_eq_false; omega) | rfl))
    | (apply r_geq; rfl; rfl; (first | (apply decide_eq_true; omega) | (apply decide_eq_false; omega) | rfl))
    | (apply r_add; rfl; rfl; rfl; omega)
    | (apply r_pickT; rfl)
    | (apply r_pickF; rfl)
    | (apply r_lenD; rfl)
    | (apply r_lenL; rfl)
    | (apply r_len0; rfl)
    | (apply r_gT; rfl)
    | (apply r_gF'; rfl; rfl)
    | (apply r_gN'; rfl)
    | ((apply r_gS (o := default); rfl) <;> (intro h; try simp only [decide_eq_true_eq, decide_eq_false_iff_not, Bool.not_eq_true, Bool.not_eq_false] at h))
    | (apply r_box; ((conv => lhs; simp only [Nat.reduceAdd]) <;> rfl); rfl; rfl; rfl)
    | (apply r_stL; rfl; rfl; rfl; rfl; (first | rfl | (simp only [z_nil, z_add] <;> rfl)); rfl; rfl)
    | (apply r_p; rfl)
    | (apply r_nilK)
    | (apply r_nil)
    | (apply k_V; rfl)
    | (apply k_P; rfl)
    | (apply k_PL; rfl)
    | (apply k_S; rfl)
    | (apply k_SL; rfl)
    | (apply k_A; rfl)
    | (apply k_T; rfl)
    | (apply k_F; rfl)
    | (apply k_D; rfl; rotate_left; rfl)
    | (apply k_nil)
    | (apply e_ret (vs := [.d (.val _)]); rfl)
    | (apply e_ret; rfl)
    | (apply e_ret' (vs := [.d (.val _)]); rfl)
    | (apply e_ret'; rfl)
    | (apply w_seq)
    | (apply w_ops; ((conv => lhs; simp only [Nat.reduceAdd]) <;> rfl))
    | (apply w_condT; rfl)
    | (apply w_condF; rfl)
    | ((apply w_condS; rfl) <;> (intro h; try simp only [decide_eq_true_eq, decide_eq_false_iff_not, Bool.not_eq_true, Bool.not_eq_false] at h))
    | (apply e_thenN)
    | (apply w_block)
    | (apply e_thenR)
    | (apply e_thenX)
    | (apply e_blkN)
    | (apply e_blkR)
    | (apply e_blkE)
    | (apply w_exit)
    | (apply w_ret)
    | (apply w_skip)
    | (apply e_blkE'; rfl))
      exact retSB rfl (by simp)
    · have e : List.replicate (m + 1) false = lenS (L (.node k a b c d mn mx subs)) m := by
        refine lenS_eq (by simp) fun j hj => ?_
        subst h2
        simp only [L_k2]
        constructor
        · intro h; exact absurd h (at_rep _ _)
        · rintro ⟨w, ⟨x, rfl, hx⟩, h⟩; simp at h; omega
      rw [← e]
      refine b49 (by simp) (by simp) (w_init ?_)
      unfold x49
      repeat' (first
    | (apply r_mvV; rfl)
    | (apply r_mvP; rfl)
    | (apply r_mvPL; rfl)
    | (apply r_mvS; rfl)
    | (apply r_mvSL; rfl)
    | (apply r_mvA; rfl)
    | (apply r_mvT; rfl)
    | (apply r_mvF; rfl)
    | (apply r_mvD; rfl)
    | (apply r_faddD; rfl)
    | (apply r_faddL; rfl)
    | (apply r_l; apply ld_kind; assumption; rfl)
    | (apply r_l; apply ld_mn; assumption; rfl)
    | (apply r_l; apply ld_mx; assumption; rfl)
    | (apply r_l; apply ld_subs; assumption; rfl)
    | (apply r_l; apply ld_set; assumption; rfl)
    | (apply r_l; apply ld_node; assumption; rfl)
    | (apply r_l; apply ld_kind'; assumption; rfl)
    | (apply r_l; apply ld_mn'; assumption; rfl)
    | (apply r_l; apply ld_mx'; assumption; rfl)
    | (apply r_l; apply ld_subs'; assumption; rfl)
    | (apply r_l; apply ld_node'; assumption; rfl)
    | (apply r_mksB (m := m + 1); rfl; rfl; ((conv => lhs; simp only [Nat.reduceAdd]) <;> rfl); omega; omega)
    | (apply r_ldL; rfl; rfl; rfl)
    | (apply r_eql; rfl; rfl; (first | (apply decide_eq_true; omega) | (apply decide_eq_false; omega) | rfl))
    | (apply r_lss; rfl; rfl; (first | (apply decide_eq_true; omega) | (apply decide_eq_false; omega) | rfl))
    | (apply r_leq; rfl; rfl; (first | (apply decide_eq_true; omega) | (apply decide_eq_false; omega) | rfl))
    | (apply r_geq; rfl; rfl; (first | (apply decide_eq_true; omega) | (apply decide_eq_false; omega) | rfl))
    | (apply r_add; rfl; rfl; rfl; omega)
    | (apply r_pickT; rfl)
    | (apply r_pickF; rfl)
    | (apply r_lenD; rfl)
    | (apply r_lenL; rfl)
    | (apply r_len0; rfl)
    | (apply r_gT; rfl)
    | (apply r_gF'; rfl; rfl)
    | (apply r_gN'; rfl)
    | ((apply r_gS (o := default); rfl) <;> (intro h; try simp only [decide_eq_true_eq, decide_eq_false_iff_not, Bool.not_eq_true, Bool.not_eq_false] at h))
    | (apply r_box; ((conv => lhs; simp only [Nat.reduceAdd]) <;> rfl); rfl; rfl; rfl)
    | (apply r_stL; rfl; rfl; rfl; rfl; (first | rfl | (simp only [z_nil, z_add] <;> rfl)); rfl; rfl)
    | (apply r_p; rfl)
    | (apply r_nilK)
    | (apply r_nil)
    | (apply k_V; rfl)
    | (apply k_P; rfl)
    | (apply k_PL; rfl)
    | (apply k_S; rfl)
    | (apply k_SL; rfl)
    | (apply k_A; rfl)
    | (apply k_T; rfl)
    | (apply k_F; rfl)
    | (apply k_D; rfl; rotate_left; rfl)
    | (apply k_nil)
    | (apply e_ret (vs := [.d (.val _)]); rfl)
    | (apply e_ret; rfl)
    | (apply e_ret' (vs := [.d (.val _)]); rfl)
    | (apply e_ret'; rfl)
    | (apply w_seq)
    | (apply w_ops; ((conv => lhs; simp only [Nat.reduceAdd]) <;> rfl))
    | (apply w_condT; rfl)
    | (apply w_condF; rfl)
    | ((apply w_condS; rfl) <;> (intro h; try simp only [decide_eq_true_eq, decide_eq_false_iff_not, Bool.not_eq_true, Bool.not_eq_false] at h))
    | (apply e_thenN)
    | (apply w_block)
    | (apply e_thenR)
    | (apply e_thenX)
    | (apply e_blkN)
    | (apply e_blkR)
    | (apply e_blkE)
    | (apply w_exit)
    | (apply w_ret)
    | (apply w_skip)
    | (apply e_blkE'; rfl))
      exact retSB rfl (by simp)
  by_cases h3 : k = 3
  · have e : (List.replicate (m + 1) false).set 0 true = lenS (catL (subs.take 0)) m := by
      refine lenS_eq (by simp) fun j hj => ?_
      rw [at_set j (by simp)]
      simp only [List.take_zero, catL]
      constructor
      · rintro (⟨rfl, _⟩ | ⟨_, h⟩)
        · exact ⟨[], rfl, rfl⟩
        · exact absurd h (at_rep _ _)
      · rintro ⟨w, rfl, h⟩; exact .inl ⟨h.symm, by simp⟩
    refine b49 (by simp) (by simp) (w_init ?_)
    unfold x49
    repeat' (first
    | (apply r_mvV; rfl)
    | (apply r_mvP; rfl)
    | (apply r_mvPL; rfl)
    | (apply r_mvS; rfl)
    | (apply r_mvSL; rfl)
    | (apply r_mvA; rfl)
    | (apply r_mvT; rfl)
    | (apply r_mvF; rfl)
    | (apply r_mvD; rfl)
    | (apply r_faddD; rfl)
    | (apply r_faddL; rfl)
    | (apply r_l; apply ld_kind; assumption; rfl)
    | (apply r_l; apply ld_mn; assumption; rfl)
    | (apply r_l; apply ld_mx; assumption; rfl)
    | (apply r_l; apply ld_subs; assumption; rfl)
    | (apply r_l; apply ld_set; assumption; rfl)
    | (apply r_l; apply ld_node; assumption; rfl)
    | (apply r_l; apply ld_kind'; assumption; rfl)
    | (apply r_l; apply ld_mn'; assumption; rfl)
    | (apply r_l; apply ld_mx'; assumption; rfl)
    | (apply r_l; apply ld_subs'; assumption; rfl)
    | (apply r_l; apply ld_node'; assumption; rfl)
    | (apply r_mksB (m := m + 1); rfl; rfl; ((conv => lhs; simp only [Nat.reduceAdd]) <;> rfl); omega; omega)
    | (apply r_ixL (j := 0); rfl; rfl; omega)
    | (apply r_stB (j := 0); rfl; rfl; rfl; rfl; omega)
    | (apply r_ldL; rfl; rfl; rfl)
    | (apply r_eql; rfl; rfl; (first | (apply decide_eq_true; omega) | (apply decide_eq_false; omega) | rfl))
    | (apply r_lss; rfl; rfl; (first | (apply decide_eq_true; omega) | (apply decide_eq_false; omega) | rfl))
    | (apply r_leq; rfl; rfl; (first | (apply decide_eq_true; omega) | (apply decide_eq_false; omega) | rfl))
    | (apply r_geq; rfl; rfl; (first | (apply decide_eq_true; omega) | (apply decide_eq_false; omega) | rfl))
    | (apply r_add; rfl; rfl; rfl; omega)
    | (apply r_pickT; rfl)
    | (apply r_pickF; rfl)
    | (apply r_lenD; rfl)
    | (apply r_lenL; rfl)
    | (apply r_len0; rfl)
    | (apply r_gT; rfl)
    | (apply r_gF'; rfl; rfl)
    | (apply r_gN'; rfl)
    | ((apply r_gS (o := default); rfl) <;> (intro h; try simp only [decide_eq_true_eq, decide_eq_false_iff_not, Bool.not_eq_true, Bool.not_eq_false] at h))
    | (apply r_box; ((conv => lhs; simp only [Nat.reduceAdd]) <;> rfl); rfl; rfl; rfl)
    | (apply r_stL; rfl; rfl; rfl; rfl; (first | rfl | (simp only [z_nil, z_add] <;> rfl)); rfl; rfl)
    | (apply r_p; rfl)
    | (apply r_nilK)
    | (apply r_nil)
    | (apply k_V; rfl)
    | (apply k_P; rfl)
    | (apply k_PL; rfl)
    | (apply k_S; rfl)
    | (apply k_SL; rfl)
    | (apply k_A; rfl)
    | (apply k_T; rfl)
    | (apply k_F; rfl)
    | (apply k_D; rfl; rotate_left; rfl)
    | (apply k_nil)
    | (apply e_ret (vs := [.d (.val _)]); rfl)
    | (apply e_ret; rfl)
    | (apply e_ret' (vs := [.d (.val _)]); rfl)
    | (apply e_ret'; rfl)
    | (apply w_seq)
    | (apply w_ops; ((conv => lhs; simp only [Nat.reduceAdd]) <;> rfl))
    | (apply w_condT; rfl)
    | (apply w_condF; rfl)
    | ((apply w_condS; rfl) <;> (intro h; try simp only [decide_eq_true_eq, decide_eq_false_iff_not, Bool.not_eq_true, Bool.not_eq_false] at h))
    | (apply e_thenN)
    | (apply w_block)
    | (apply e_thenR)
    | (apply e_thenX)
    | (apply e_blkN)
    | (apply e_blkR)
    | (apply e_blkE)
    | (apply w_exit)
    | (apply w_ret)
    | (apply w_skip)
    | (apply e_blkE'; rfl))
    apply w_loopF (S := fun i : Nat => ⟨(((Fr.nil.put 1 (.i m)).put 2 (.ptrL 1 0)).put 5 (.d (.sl (encB (lenS (catL (subs.take i)) m)) (m + 1)))).put 6 (.i i), rowsOf [(1, [.i k, .d (.val (.int .u64 a)), .d (.val (.int .u64 b)), .d (.val (.int .u64 c)), .d (.val (.int .u64 d)), .i mn, .i mx, .d (.sl (encL subs) subs.length)])], Frz.buts 100 [], 100⟩) (m := fun i => subs.length - i) (I := fun i => i ≤ subs.length) (i0 := 0)
    · exact Nat.zero_le _
    · refine fzB (k := 5) (b := 5) (m := m + 1) (p := (List.replicate (m + 1) false).set 0 true) rfl rfl (by simp) (by omega) ?_
      rw [e]
      refine wkM [] [] rfl ?_ ?_ rfl ?_
      · intro p hp
        simp only [List.mem_cons, List.not_mem_nil, or_false] at hp
        rcases hp with rfl
        exact ⟨by omega, .inr ⟨rfl, _, rfl, .data rfl⟩⟩
      · intro q hq; simp at hq
      · repeat' (first
    | exact FWk.nil
    | (apply FWk.i; rfl; (first | rfl | omega | (simp; done)))
    | (apply FWk.sl; rfl; rfl; rfl; rfl; omega; rfl)
    | (apply FWk.ptr; rfl; rfl; rfl; omega; rfl)
    | (apply FWk.d; rfl; rfl)
    | (apply FWk.a; rfl; rfl; rfl)
    | (apply FWk.slN; rfl; omega; rfl))
    intro i K hi hK
    dsimp only
    rcases Nat.lt_or_ge i subs.length with hlt | hge
    · have hs := NodeAt.sub hlt
      have hg := ih' i hlt
      have hj := join98_good (lenS (catL (subs.take i)) m) (lenS (L subs[i]) m) (lenS_len _ _) (lenS_len _ _) (by omega)
      have ej : joinB (lenS (catL (subs.take i)) m) (lenS (L subs[i]) m) = lenS (catL (subs.take (i + 1))) m := by
        rw [joinB_lenS]
        refine lenS_congr (fun w => ?_) m
        rw [List.take_succ_eq_append_getElem hlt, catL_snoc]
      rw [ej] at hj
      have hna : [nodeA subs[i], .i m].all AV.nrm = true := by rw [List.all_cons, nodeA_nrm]; rfl
      repeat' (first
    | (apply r_mvV; rfl)
    | (apply r_mvP; rfl)
    | (apply r_mvPL; rfl)
    | (apply r_mvS; rfl)
    | (apply r_mvSL; rfl)
    | (apply r_mvA; rfl)
    | (apply r_mvT; rfl)
    | (apply r_mvF; rfl)
    | (apply r_mvD; rfl)
    | (apply r_faddD; rfl)
    | (apply r_faddL; rfl)
    | (apply r_l; apply ld_kind; assumption; rfl)
    | (apply r_l; apply ld_mn; assumption; rfl)
    | (apply r_l; apply ld_mx; assumption; rfl)
    | (apply r_l; apply ld_subs; assumption; rfl)
    | (apply r_l; apply ld_set; assumption; rfl)
    | (apply r_l; apply ld_node; assumption; rfl)
    | (apply r_l; apply ld_kind'; assumption; rfl)
    | (apply r_l; apply ld_mn'; assumption; rfl)
    | (apply r_l; apply ld_mx'; assumption; rfl)
    | (apply r_l; apply ld_subs'; assumption; rfl)
    | (apply r_l; apply ld_node'; assumption; rfl)
    | (apply r_p; apply ix_sub; rfl; rfl; omega)
    | (apply r_callA (ags := [nodeA subs[i], .i m]); rfl; exact hna; exact hg)
    | (apply r_callA; rfl; rfl; exact hj)
    | (apply r_ldL; rfl; rfl; rfl)
    | (apply r_eql; rfl; rfl; (first | (apply decide_eq_true; omega) | (apply decide_eq_false; omega) | rfl))
    | (apply r_lss; rfl; rfl; (first | (apply decide_eq_true; omega) | (apply decide_eq_false; omega) | rfl))
    | (apply r_leq; rfl; rfl; (first | (apply decide_eq_true; omega) | (apply decide_eq_false; omega) | rfl))
    | (apply r_geq; rfl; rfl; (first | (apply decide_eq_true; omega) | (apply decide_eq_false; omega) | rfl))
    | (apply r_add; rfl; rfl; rfl; omega)
    | (apply r_pickT; rfl)
    | (apply r_pickF; rfl)
    | (apply r_lenD; rfl)
    | (apply r_lenL; rfl)
    | (apply r_len0; rfl)
    | (apply r_gT; rfl)
    | (apply r_gF'; rfl; rfl)
    | (apply r_gN'; rfl)
    | ((apply r_gS (o := default); rfl) <;> (intro h; try simp only [decide_eq_true_eq, decide_eq_false_iff_not, Bool.not_eq_true, Bool.not_eq_false] at h))
    | (apply r_box; ((conv => lhs; simp only [Nat.reduceAdd]) <;> rfl); rfl; rfl; rfl)
    | (apply r_stL; rfl; rfl; rfl; rfl; (first | rfl | (simp only [z_nil, z_add] <;> rfl)); rfl; rfl)
    | (apply r_p; rfl)
    | (apply r_nilK)
    | (apply r_nil)
    | (apply k_V; rfl)
    | (apply k_P; rfl)
    | (apply k_PL; rfl)
    | (apply k_S; rfl)
    | (apply k_SL; rfl)
    | (apply k_A; rfl)
    | (apply k_T; rfl)
    | (apply k_F; rfl)
    | (apply k_D; rfl; rotate_left; rfl)
    | (apply k_nil)
    | (apply e_ret (vs := [.d (.val _)]); rfl)
    | (apply e_ret; rfl)
    | (apply e_ret' (vs := [.d (.val _)]); rfl)
    | (apply e_ret'; rfl)
    | (apply w_seq)
    | (apply w_ops; ((conv => lhs; simp only [Nat.reduceAdd]) <;> rfl))
    | (apply w_condT; rfl)
    | (apply w_condF; rfl)
    | ((apply w_condS; rfl) <;> (intro h; try simp only [decide_eq_true_eq, decide_eq_false_iff_not, Bool.not_eq_true, Bool.not_eq_false] at h))
    | (apply e_thenN)
    | (apply w_block)
    | (apply e_thenR)
    | (apply e_thenX)
    | (apply e_blkN)
    | (apply e_blkR)
    | (apply e_blkE)
    | (apply w_exit)
    | (apply w_ret)
    | (apply w_skip)
    | (apply e_blkE'; rfl))
      apply e_thenK
      apply hK (i + 1)
      · omega
      · omega
      · refine Wk.f (wkM [] [] rfl ?_ ?_ rfl ?_)
        · intro p hp
          simp only [List.mem_cons, List.not_mem_nil, or_false] at hp
          rcases hp with rfl
          exact ⟨by omega, .inr ⟨rfl, _, rfl, .data rfl⟩⟩
        · intro q hq; simp at hq
        · repeat' (first
    | exact FWk.nil
    | (apply FWk.i; rfl; (first | rfl | omega | (simp; done)))
    | (apply FWk.sl; rfl; rfl; rfl; rfl; omega; rfl)
    | (apply FWk.ptr; rfl; rfl; rfl; omega; rfl)
    | (apply FWk.d; rfl; rfl)
    | (apply FWk.a; rfl; rfl; rfl)
    | (apply FWk.slN; rfl; omega; rfl))
    · have ei : i = subs.length := by omega
      subst ei
      repeat' (first
    | (apply r_mvV; rfl)
    | (apply r_mvP; rfl)
    | (apply r_mvPL; rfl)
    | (apply r_mvS; rfl)
    | (apply r_mvSL; rfl)
    | (apply r_mvA; rfl)
    | (apply r_mvT; rfl)
    | (apply r_mvF; rfl)
    | (apply r_mvD; rfl)
    | (apply r_faddD; rfl)
    | (apply r_faddL; rfl)
    | (apply r_l; apply ld_kind; assumption; rfl)
    | (apply r_l; apply ld_mn; assumption; rfl)
    | (apply r_l; apply ld_mx; assumption; rfl)
    | (apply r_l; apply ld_subs; assumption; rfl)
    | (apply r_l; apply ld_set; assumption; rfl)
    | (apply r_l; apply ld_node; assumption; rfl)
    | (apply r_l; apply ld_kind'; assumption; rfl)
    | (apply r_l; apply ld_mn'; assumption; rfl)
    | (apply r_l; apply ld_mx'; assumption; rfl)
    | (apply r_l; apply ld_subs'; assumption; rfl)
    | (apply r_l; apply ld_node'; assumption; rfl)
    | (apply r_ldL; rfl; rfl; rfl)
    | (apply r_eql; rfl; rfl; (first | (apply decide_eq_true; omega) | (apply decide_eq_false; omega) | rfl))
    | (apply r_lss; rfl; rfl; (first | (apply decide_eq_true; omega) | (apply decide_eq_false; omega) | rfl))
    | (apply r_leq; rfl; rfl; (first | (apply decide_eq_true; omega) | (apply decide_eq_false; omega) | rfl))
    | (apply r_geq; rfl; rfl; (first | (apply decide_eq_true; omega) | (apply decide_eq_false; omega) | rfl))
    | (apply r_add; rfl; rfl; rfl; omega)
    | (apply r_pickT; rfl)
    | (apply r_pickF; rfl)
    | (apply r_lenD; rfl)
    | (apply r_lenL; rfl)
    | (apply r_len0; rfl)
    | (apply r_gT; rfl)
    | (apply r_gF'; rfl; rfl)
    | (apply r_gN'; rfl)
    | ((apply r_gS (o := default); rfl) <;> (intro h; try simp only [decide_eq_true_eq, decide_eq_false_iff_not, Bool.not_eq_true, Bool.not_eq_false] at h))
    | (apply r_box; ((conv => lhs; simp only [Nat.reduceAdd]) <;> rfl); rfl; rfl; rfl)
    | (apply r_stL; rfl; rfl; rfl; rfl; (first | rfl | (simp only [z_nil, z_add] <;> rfl)); rfl; rfl)
    | (apply r_p; rfl)
    | (apply r_nilK)
    | (apply r_nil)
    | (apply k_V; rfl)
    | (apply k_P; rfl)
    | (apply k_PL; rfl)
    | (apply k_S; rfl)
    | (apply k_SL; rfl)
    | (apply k_A; rfl)
    | (apply k_T; rfl)
    | (apply k_F; rfl)
    | (apply k_D; rfl; rotate_left; rfl)
    | (apply k_nil)
    | (apply e_ret (vs := [.d (.val _)]); rfl)
    | (apply e_ret; rfl)
    | (apply e_ret' (vs := [.d (.val _)]); rfl)
    | (apply e_ret'; rfl)
    | (apply w_seq)
    | (apply w_ops; ((conv => lhs; simp only [Nat.reduceAdd]) <;> rfl))
    | (apply w_condT; rfl)
    | (apply w_condF; rfl)
    | ((apply w_condS; rfl) <;> (intro h; try simp only [decide_eq_true_eq, decide_eq_false_iff_not, Bool.not_eq_true, Bool.not_eq_false] at h))
    | (apply e_thenN)
    | (apply w_block)
    | (apply e_thenR)
    | (apply e_thenX)
    | (apply e_blkN)
    | (apply e_blkR)
    | (apply e_blkE)
    | (apply w_exit)
    | (apply w_ret)
    | (apply w_skip)
    | (apply e_blkE'; rfl))
      refine retSD ?_
      rw [List.take_length]
      refine lenS_congr (fun w => ?_) m
      subst h3
      rw [L_k3]
  by_cases h4 : k = 4
  · have e : List.replicate (m + 1) false = lenS (altL (subs.take 0)) m := by
      refine lenS_eq (by simp) fun j hj => ?_
      simp only [List.take_zero, altL]
      constructor
      · intro h; exact absurd h (at_rep _ _)
      · rintro ⟨w, h, _⟩; exact h.elim
    refine b49 (by simp) (by simp) (w_init ?_)
    unfold x49
    repeat' (first
    | (apply r_mvV; rfl)
    | (apply r_mvP; rfl)
    | (apply r_mvPL; rfl)
    | (apply r_mvS; rfl)
    | (apply r_mvSL; rfl)
    | (apply r_mvA; rfl)
    | (apply r_mvT; rfl)
    | (apply r_mvF; rfl)
    | (apply r_mvD; rfl)
    | (apply r_faddD; rfl)
    | (apply r_faddL; rfl)
    | (apply r_l; apply ld_kind; assumption; rfl)
    | (apply r_l; apply ld_mn; assumption; rfl)
    | (apply r_l; apply ld_mx; assumption; rfl)
    | (apply r_l; apply ld_subs; assumption; rfl)
    | (apply r_l; apply ld_set; assumption; rfl)
    | (apply r_l; apply ld_node; assumption; rfl)
    | (apply r_l; apply ld_kind'; assumption; rfl)
    | (apply r_l; apply ld_mn'; assumption; rfl)
    | (apply r_l; apply ld_mx'; assumption; rfl)
    | (apply r_l; apply ld_subs'; assumption; rfl)
    | (apply r_l; apply ld_node'; assumption; rfl)
    | (apply r_mksB (m := m + 1); rfl; rfl; ((conv => lhs; simp only [Nat.reduceAdd]) <;> rfl); omega; omega)
    | (apply r_ldL; rfl; rfl; rfl)
    | (apply r_eql; rfl; rfl; (first | (apply decide_eq_true; omega) | (apply decide_eq_false; omega) | rfl))
    | (apply r_lss; rfl; rfl; (first | (apply decide_eq_true; omega) | (apply decide_eq_false; omega) | rfl))
    | (apply r_leq; rfl; rfl; (first | (apply decide_eq_true; omega) | (apply decide_eq_false; omega) | rfl))
    | (apply r_geq; rfl; rfl; (first | (apply decide_eq_true; omega) | (apply decide_eq_false; omega) | rfl))
    | (apply r_add; rfl; rfl; rfl; omega)
    | (apply r_pickT; rfl)
    | (apply r_pickF; rfl)
    | (apply r_lenD; rfl)
    | (apply r_lenL; rfl)
    | (apply r_len0; rfl)
    | (apply r_gT; rfl)
    | (apply r_gF'; rfl; rfl)
    | (apply r_gN'; rfl)
    | ((apply r_gS (o := default); rfl) <;> (intro h; try simp only [decide_eq_true_eq, decide_eq_false_iff_not, Bool.not_eq_true, Bool.not_eq_false] at h))
    | (apply r_box; ((conv => lhs; simp only [Nat.reduceAdd]) <;> rfl); rfl; rfl; rfl)
    | (apply r_stL; rfl; rfl; rfl; rfl; (first | rfl | (simp only [z_nil, z_add] <;> rfl)); rfl; rfl)
    | (apply r_p; rfl)
    | (apply r_nilK)
    | (apply r_nil)
    | (apply k_V; rfl)
    | (apply k_P; rfl)
    | (apply k_PL; rfl)
    | (apply k_S; rfl)
    | (apply k_SL; rfl)
    | (apply k_A; rfl)
    | (apply k_T; rfl)
    | (apply k_F; rfl)
    | (apply k_D; rfl; rotate_left; rfl)
    | (apply k_nil)
    | (apply e_ret (vs := [.d (.val _)]); rfl)
    | (apply e_ret; rfl)
    | (apply e_ret' (vs := [.d (.val _)]); rfl)
    | (apply e_ret'; rfl)
    | (apply w_seq)
    | (apply w_ops; ((conv => lhs; simp only [Nat.reduceAdd]) <;> rfl))
    | (apply w_condT; rfl)
    | (apply w_condF; rfl)
    | ((apply w_condS; rfl) <;> (intro h; try simp only [decide_eq_true_eq, decide_eq_false_iff_not, Bool.not_eq_true, Bool.not_eq_false] at h))
    | (apply e_thenN)
    | (apply w_block)
    | (apply e_thenR)
    | (apply e_thenX)
    | (apply e_blkN)
    | (apply e_blkR)
    | (apply e_blkE)
    | (apply w_exit)
    | (apply w_ret)
    | (apply w_skip)
    | (apply e_blkE'; rfl))
    apply w_loopI (S := fun i : Nat => ⟨(((Fr.nil.put 1 (.i m)).put 2 (.ptrL 1 0)).put 5 (.slL 50 0 (m + 1) 1)).put 7 (.i i), rowsOf [(1, [.i k, .d (.val (.int .u64 a)), .d (.val (.int .u64 b)), .d (.val (.int .u64 c)), .d (.val (.int .u64 d)), .i mn, .i mx, .d (.sl (encL subs) subs.length)]), (50, (encB (lenS (altL (subs.take i)) m)).map AV.d)], Frz.buts 100 [50], 100⟩) (m := fun i => subs.length - i) (I := fun i => i ≤ subs.length) (i0 := 0)
    · exact Nat.zero_le _
    · rw [← e]
      refine wkM [(50, 5)] [] rfl ?_ ?_ rfl ?_
      · intro p hp; simp only [List.mem_cons, List.not_mem_nil, or_false] at hp; rcases hp with rfl | rfl <;> first | exact ⟨by omega, .inr ⟨rfl, _, rfl, .data rfl⟩⟩ | exact ⟨by omega, .inr ⟨rfl, _, rfl, .data encB_isD⟩⟩
      · intro q hq; simp only [List.mem_cons, List.not_mem_nil, or_false] at hq; rcases hq with rfl <;> rfl
      · repeat' (first
    | exact FWk.nil
    | (apply FWk.i; rfl; (first | rfl | omega | (simp; done)))
    | (apply FWk.sl; rfl; rfl; rfl; rfl; omega; rfl)
    | (apply FWk.ptr; rfl; rfl; rfl; omega; rfl)
    | (apply FWk.d; rfl; rfl)
    | (apply FWk.a; rfl; rfl; rfl)
    | (apply FWk.slN; rfl; omega; rfl))
    intro i K hi hK
    dsimp only
    rcases Nat.lt_or_ge i subs.length with hlt | hge
    · have hs := NodeAt.sub hlt
      have hg := ih' i hlt
      have hna : [nodeA subs[i], .i m].all AV.nrm = true := by rw [List.all_cons, nodeA_nrm]; rfl
      have hfin : ∀ p2, Ored (lenS (altL (subs.take i)) m) (lenS (L subs[i]) m) p2 (m + 1) → p2 = lenS (altL (subs.take (i + 1))) m := by
        intro p2 h
        refine lenS_eq (h.1.trans (lenS_len _ _)) fun j hj => ?_
        rw [h.2 j, at_lenS, at_lenS, List.take_succ_eq_append_getElem hlt]
        simp only [altL_snoc]
        constructor
        · rintro (⟨_, w, hw, hl⟩ | ⟨_, _, w, hw, hl⟩)
          · exact ⟨w, .inl hw, hl⟩
          · exact ⟨w, .inr hw, hl⟩
        · rintro ⟨w, hw | hw, hl⟩
          · exact .inl ⟨hj, w, hw, hl⟩
          · exact .inr ⟨by omega, hj, w, hw, hl⟩
      have hql := lenS_len (L subs[i]) m
      have hpl := lenS_len (altL (subs.take i)) m
      generalize lenS (L subs[i]) m = q at hg hfin hql
      generalize lenS (altL (subs.take i)) m = p at hfin hpl ⊢
      repeat' (first
    | (apply r_mvV; rfl)
    | (apply r_mvP; rfl)
    | (apply r_mvPL; rfl)
    | (apply r_mvS; rfl)
    | (apply r_mvSL; rfl)
    | (apply r_mvA; rfl)
    | (apply r_mvT; rfl)
    | (apply r_mvF; rfl)
    | (apply r_mvD; rfl)
    | (apply r_faddD; rfl)
    | (apply r_faddL; rfl)
    | (apply r_l; apply ld_kind; assumption; rfl)
    | (apply r_l; apply ld_mn; assumption; rfl)
    | (apply r_l; apply ld_mx; assumption; rfl)
    | (apply r_l; apply ld_subs; assumption; rfl)
    | (apply r_l; apply ld_set; assumption; rfl)
    | (apply r_l; apply ld_node; assumption; rfl)
    | (apply r_l; apply ld_kind'; assumption; rfl)
    | (apply r_l; apply ld_mn'; assumption; rfl)
    | (apply r_l; apply ld_mx'; assumption; rfl)
    | (apply r_l; apply ld_subs'; assumption; rfl)
    | (apply r_l; apply ld_node'; assumption; rfl)
    | (apply r_p; apply ix_sub; rfl; rfl; omega)
    | (apply r_callA (ags := [nodeA subs[i], .i m]); rfl; exact hna; exact hg)
    | (apply r_ldL; rfl; rfl; rfl)
    | (apply r_eql; rfl; rfl; (first | (apply decide_eq_true; omega) | (apply decide_eq_false; omega) | rfl))
    | (apply r_lss; rfl; rfl; (first | (apply decide_eq_true; omega) | (apply decide_eq_false; omega) | rfl))
    | (apply r_leq; rfl; rfl; (first | (apply decide_eq_true; omega) | (apply decide_eq_false; omega) | rfl))
    | (apply r_geq; rfl; rfl; (first | (apply decide_eq_true; omega) | (apply decide_eq_false; omega) | rfl))
    | (apply r_add; rfl; rfl; rfl; omega)
    | (apply r_pickT; rfl)
    | (apply r_pickF; rfl)
    | (apply r_lenD; rfl)
    | (apply r_lenL; rfl)
    | (apply r_len0; rfl)
    | (apply r_gT; rfl)
    | (apply r_gF'; rfl; rfl)
    | (apply r_gN'; rfl)
    | ((apply r_gS (o := default); rfl) <;> (intro h; try simp only [decide_eq_true_eq, decide_eq_false_iff_not, Bool.not_eq_true, Bool.not_eq_false] at h))
    | (apply r_box; ((conv => lhs; simp only [Nat.reduceAdd]) <;> rfl); rfl; rfl; rfl)
    | (apply r_stL; rfl; rfl; rfl; rfl; (first | rfl | (simp only [z_nil, z_add] <;> rfl)); rfl; rfl)
    | (apply r_p; rfl)
    | (apply r_nilK)
    | (apply r_nil)
    | (apply k_V; rfl)
    | (apply k_P; rfl)
    | (apply k_PL; rfl)
    | (apply k_S; rfl)
    | (apply k_SL; rfl)
    | (apply k_A; rfl)
    | (apply k_T; rfl)
    | (apply k_F; rfl)
    | (apply k_D; rfl; rotate_left; rfl)
    | (apply k_nil)
    | (apply e_ret (vs := [.d (.val _)]); rfl)
    | (apply e_ret; rfl)
    | (apply e_ret' (vs := [.d (.val _)]); rfl)
    | (apply e_ret'; rfl)
    | (apply w_seq)
    | (apply w_ops; ((conv => lhs; simp only [Nat.reduceAdd]) <;> rfl))
    | (apply w_condT; rfl)
    | (apply w_condF; rfl)
    | ((apply w_condS; rfl) <;> (intro h; try simp only [decide_eq_true_eq, decide_eq_false_iff_not, Bool.not_eq_true, Bool.not_eq_false] at h))
    | (apply e_thenN)
    | (apply w_block)
    | (apply e_thenR)
    | (apply e_thenX)
    | (apply e_blkN)
    | (apply e_blkR)
    | (apply e_blkE)
    | (apply w_exit)
    | (apply w_ret)
    | (apply w_skip)
    | (apply e_blkE'; rfl))
      apply w_loopI (ι := Nat × List Bool) (S := fun z => ⟨(((((Fr.nil.put 1 (.i m)).put 2 (.ptrL 1 0)).put 5 (.slL 50 0 (m + 1) 1)).put 7 (.i i)).put 8 (.d (.sl (encB q) (m + 1)))).put 9 (.i z.1), rowsOf [(1, [.i k, .d (.val (.int .u64 a)), .d (.val (.int .u64 b)), .d (.val (.int .u64 c)), .d (.val (.int .u64 d)), .i mn, .i mx, .d (.sl (encL subs) subs.length)]), (50, (encB z.2).map AV.d)], Frz.buts 200 [50], 200⟩) (m := fun z => m + 1 - z.1) (I := fun z => z.1 ≤ m + 1 ∧ Ored p q z.2 z.1) (i0 := (0, p))
      · exact ⟨Nat.zero_le _, .zero _ _⟩
      · dsimp only
        refine wkM [] [] rfl ?_ ?_ rfl ?_
        · intro p hp; simp only [List.mem_cons, List.not_mem_nil, or_false] at hp; rcases hp with rfl | rfl <;> first | exact ⟨by omega, .inr ⟨rfl, _, rfl, .data rfl⟩⟩ | exact ⟨by omega, .inr ⟨rfl, _, rfl, .data encB_isD⟩⟩
        · intro q hq; simp only [List.mem_cons, List.not_mem_nil, or_false] at hq; rcases hq with rfl <;> rfl
        · repeat' (first
    | exact FWk.nil
    | (apply FWk.i; rfl; (first | rfl | omega | (simp; done)))
    | (apply FWk.sl; rfl; rfl; rfl; rfl; omega; rfl)
    | (apply FWk.ptr; rfl; rfl; rfl; omega; rfl)
    | (apply FWk.d; rfl; rfl)
    | (apply FWk.a; rfl; rfl; rfl)
    | (apply FWk.slN; rfl; omega; rfl))
      rintro ⟨j, p2⟩ K2 ⟨hj, ho⟩ hK2
      dsimp only at hj ho hK2 ⊢
      have hp2 : p2.length = m + 1 := ho.1.trans hpl
      rcases Nat.lt_or_ge j (m + 1) with hlj | hgj
      · have hgp : p2[j]? = some (p2.getD j false) := by rw [List.getD_eq_getElem?_getD, List.getElem?_eq_getElem (by omega)]; rfl
        have hgq : q[j]? = some (q.getD j false) := by rw [List.getD_eq_getElem?_getD, List.getElem?_eq_getElem (by omega)]; rfl
        have hst := ho.step (by omega)
        have fin : ∀ v fr C Z nx, v = (p2.getD j false || q.getD j false) → Wk ⟨fr, C, Z, nx⟩ ⟨(((((Fr.nil.put 1 (.i m)).put 2 (.ptrL 1 0)).put 5 (.slL 50 0 (m + 1) 1)).put 7 (.i i)).put 8 (.d (.sl (encB q) (m + 1)))).put 9 (.i ((j + 1 : Nat) : Int)), rowsOf [(1, [.i k, .d (.val (.int .u64 a)), .d (.val (.int .u64 b)), .d (.val (.int .u64 c)), .d (.val (.int .u64 d)), .i mn, .i mx, .d (.sl (encL subs) subs.length)]), (50, (encB (p2.set j v)).map AV.d)], Frz.buts 200 [50], 200⟩ → K2 ⟨fr, C, Z, nx⟩ := by
          intro v fr C Z nx hv hw
          subst hv
          exact hK2 (j + 1, _) fr C Z nx ⟨by dsimp only; omega, hst⟩ (by dsimp only; omega) hw
        generalize p2.getD j false = v1 at hgp fin
        generalize q.getD j false = v2 at hgq fin
        cases v1
        all_goals
          repeat' (first
    | (apply r_mvV; rfl)
    | (apply r_mvP; rfl)
    | (apply r_mvPL; rfl)
    | (apply r_mvS; rfl)
    | (apply r_mvSL; rfl)
    | (apply r_mvA; rfl)
    | (apply r_mvT; rfl)
    | (apply r_mvF; rfl)
    | (apply r_mvD; rfl)
    | (apply r_faddD; rfl)
    | (apply r_faddL; rfl)
    | (apply r_ixL (j := j); rfl; rfl; omega)
    | (apply r_ldBL (j := j); rfl; rfl; exact hgp)
    | (apply r_ixB' (j := j); rfl; rfl; exact hlj; exact hql)
    | (apply r_ldB (j := j); rfl; exact hgq)
    | (apply r_stB (j := j); rfl; rfl; rfl; rfl; omega)
    | (apply r_ldL; rfl; rfl; rfl)
    | (apply r_eql; rfl; rfl; (first | (apply decide_eq_true; omega) | (apply decide_eq_false; omega) | rfl))
    | (apply r_lss; rfl; rfl; (first | (apply decide_eq_true; omega) | (apply decide_eq_false; omega) | rfl))
    | (apply r_leq; rfl; rfl; (first | (apply decide_eq_true; omega) | (apply decide_eq_false; omega) | rfl))
    | (apply r_geq; rfl; rfl; (first | (apply decide_eq_true; omega) | (apply decide_eq_false; omega) | rfl))
    | (apply r_add; rfl; rfl; rfl; omega)
    | (apply r_pickT; rfl)
    | (apply r_pickF; rfl)
    | (apply r_lenD; rfl)
    | (apply r_lenL; rfl)
    | (apply r_len0; rfl)
    | (apply r_gT; rfl)
    | (apply r_gF'; rfl; rfl)
    | (apply r_gN'; rfl)
    | ((apply r_gS (o := default); rfl) <;> (intro h; try simp only [decide_eq_true_eq, decide_eq_false_iff_not, Bool.not_eq_true, Bool.not_eq_false] at h))
    | (apply r_box; ((conv => lhs; simp only [Nat.reduceAdd]) <;> rfl); rfl; rfl; rfl)
    | (apply r_stL; rfl; rfl; rfl; rfl; (first | rfl | (simp only [z_nil, z_add] <;> rfl)); rfl; rfl)
    | (apply r_p; rfl)
    | (apply r_nilK)
    | (apply r_nil)
    | (apply k_V; rfl)
    | (apply k_P; rfl)
    | (apply k_PL; rfl)
    | (apply k_S; rfl)
    | (apply k_SL; rfl)
    | (apply k_A; rfl)
    | (apply k_T; rfl)
    | (apply k_F; rfl)
    | (apply k_D; rfl; rotate_left; rfl)
    | (apply k_nil)
    | (apply e_ret (vs := [.d (.val _)]); rfl)
    | (apply e_ret; rfl)
    | (apply e_ret' (vs := [.d (.val _)]); rfl)
    | (apply e_ret'; rfl)
    | (apply w_seq)
    | (apply w_ops; ((conv => lhs; simp only [Nat.reduceAdd]) <;> rfl))
    | (apply w_condT; rfl)
    | (apply w_condF; rfl)
    | ((apply w_condS; rfl) <;> (intro h; try simp only [decide_eq_true_eq, decide_eq_false_iff_not, Bool.not_eq_true, Bool.not_eq_false] at h))
    | (apply e_thenN)
    | (apply w_block)
    | (apply e_thenR)
    | (apply e_thenX)
    | (apply e_blkN)
    | (apply e_blkR)
    | (apply e_blkE)
    | (apply w_exit)
    | (apply w_ret)
    | (apply w_skip)
    | (apply e_blkE'; rfl))
          apply e_thenK
          refine fin _ _ _ _ _ (by first | rfl | simp) ?_
          refine wkM [] [] rfl ?_ ?_ rfl ?_
          · intro p hp; simp only [List.mem_cons, List.not_mem_nil, or_false] at hp; rcases hp with rfl | rfl <;> first | exact ⟨by omega, .inr ⟨rfl, _, rfl, .data rfl⟩⟩ | exact ⟨by omega, .inr ⟨rfl, _, rfl, .data encB_isD⟩⟩
          · intro q hq; simp only [List.mem_cons, List.not_mem_nil, or_false] at hq; rcases hq with rfl <;> rfl
          · repeat' (first
    | exact FWk.nil
    | (apply FWk.i; rfl; (first | rfl | omega | (simp; done)))
    | (apply FWk.sl; rfl; rfl; rfl; rfl; omega; rfl)
    | (apply FWk.ptr; rfl; rfl; rfl; omega; rfl)
    | (apply FWk.d; rfl; rfl)
    | (apply FWk.a; rfl; rfl; rfl)
    | (apply FWk.slN; rfl; omega; rfl))
      · have ej : j = m + 1 := by omega
        subst ej
        have e2 := hfin p2 ho
        repeat' (first
    | (apply r_mvV; rfl)
    | (apply r_mvP; rfl)
    | (apply r_mvPL; rfl)
    | (apply r_mvS; rfl)
    | (apply r_mvSL; rfl)
    | (apply r_mvA; rfl)
    | (apply r_mvT; rfl)
    | (apply r_mvF; rfl)
    | (apply r_mvD; rfl)
    | (apply r_faddD; rfl)
    | (apply r_faddL; rfl)
    | (apply r_ldL; rfl; rfl; rfl)
    | (apply r_eql; rfl; rfl; (first | (apply decide_eq_true; omega) | (apply decide_eq_false; omega) | rfl))
    | (apply r_lss; rfl; rfl; (first | (apply decide_eq_true; omega) | (apply decide_eq_false; omega) | rfl))
    | (apply r_leq; rfl; rfl; (first | (apply decide_eq_true; omega) | (apply decide_eq_false; omega) | rfl))
    | (apply r_geq; rfl; rfl; (first | (apply decide_eq_true; omega) | (apply decide_eq_false; omega) | rfl))
    | (apply r_add; rfl; rfl; rfl; omega)
    | (apply r_pickT; rfl)
    | (apply r_pickF; rfl)
    | (apply r_lenD; rfl)
    | (apply r_lenL; rfl)
    | (apply r_len0; rfl)
    | (apply r_gT; rfl)
    | (apply r_gF'; rfl; rfl)
    | (apply r_gN'; rfl)
    | ((apply r_gS (o := default); rfl) <;> (intro h; try simp only [decide_eq_true_eq, decide_eq_false_iff_not, Bool.not_eq_true, Bool.not_eq_false] at h))
    | (apply r_box; ((conv => lhs; simp only [Nat.reduceAdd]) <;> rfl); rfl; rfl; rfl)
    | (apply r_stL; rfl; rfl; rfl; rfl; (first | rfl | (simp only [z_nil, z_add] <;> rfl)); rfl; rfl)
    | (apply r_p; rfl)
    | (apply r_nilK)
    | (apply r_nil)
    | (apply k_V; rfl)
    | (apply k_P; rfl)
    | (apply k_PL; rfl)
    | (apply k_S; rfl)
    | (apply k_SL; rfl)
    | (apply k_A; rfl)
    | (apply k_T; rfl)
    | (apply k_F; rfl)
    | (apply k_D; rfl; rotate_left; rfl)
    | (apply k_nil)
    | (apply e_ret (vs := [.d (.val _)]); rfl)
    | (apply e_ret; rfl)
    | (apply e_ret' (vs := [.d (.val _)]); rfl)
    | (apply e_ret'; rfl)
    | (apply w_seq)
    | (apply w_ops; ((conv => lhs; simp only [Nat.reduceAdd]) <;> rfl))
    | (apply w_condT; rfl)
    | (apply w_condF; rfl)
    | ((apply w_condS; rfl) <;> (intro h; try simp only [decide_eq_true_eq, decide_eq_false_iff_not, Bool.not_eq_true, Bool.not_eq_false] at h))
    | (apply e_thenN)
    | (apply w_block)
    | (apply e_thenR)
    | (apply e_thenX)
    | (apply e_blkN)
    | (apply e_blkR)
    | (apply e_blkE)
    | (apply w_exit)
    | (apply w_ret)
    | (apply w_skip)
    | (apply e_blkE'; rfl))
        apply e_thenK
        apply hK (i + 1)
        · omega
        · omega
        · rw [← e2]
          refine wkM [] [] rfl ?_ ?_ rfl ?_
          · intro p hp; simp only [List.mem_cons, List.not_mem_nil, or_false] at hp; rcases hp with rfl | rfl <;> first | exact ⟨by omega, .inr ⟨rfl, _, rfl, .data rfl⟩⟩ | exact ⟨by omega, .inr ⟨rfl, _, rfl, .data encB_isD⟩⟩
          · intro q hq; simp only [List.mem_cons, List.not_mem_nil, or_false] at hq; rcases hq with rfl <;> rfl
          · repeat' (first
    | exact FWk.nil
    | (apply FWk.i; rfl; (first | rfl | omega | (simp; done)))
    | (apply FWk.sl; rfl; rfl; rfl; rfl; omega; rfl)
    | (apply FWk.ptr; rfl; rfl; rfl; omega; rfl)
    | (apply FWk.d; rfl; rfl)
    | (apply FWk.a; rfl; rfl; rfl)
    | (apply FWk.slN; rfl; omega; rfl))
    · have ei : i = subs.length := by omega
      subst ei
      repeat' (first
    | (apply r_mvV; rfl)
    | (apply r_mvP; rfl)
    | (apply r_mvPL; rfl)
    | (apply r_mvS; rfl)
    | (apply r_mvSL; rfl)
    | (apply r_mvA; rfl)
    | (apply r_mvT; rfl)
    | (apply r_mvF; rfl)
    | (apply r_mvD; rfl)
    | (apply r_faddD; rfl)
    | (apply r_faddL; rfl)
    | (apply r_l; apply ld_kind; assumption; rfl)
    | (apply r_l; apply ld_mn; assumption; rfl)
    | (apply r_l; apply ld_mx; assumption; rfl)
    | (apply r_l; apply ld_subs; assumption; rfl)
    | (apply r_l; apply ld_set; assumption; rfl)
    | (apply r_l; apply ld_node; assumption; rfl)
    | (apply r_l; apply ld_kind'; assumption; rfl)
    | (apply r_l; apply ld_mn'; assumption; rfl)
    | (apply r_l; apply ld_mx'; assumption; rfl)
    | (apply r_l; apply ld_subs'; assumption; rfl)
    | (apply r_l; apply ld_node'; assumption; rfl)
    | (apply r_ldL; rfl; rfl; rfl)
    | (apply r_eql; rfl; rfl; (first | (apply decide_eq_true; omega) | (apply decide_eq_false; omega) | rfl))
    | (apply r_lss; rfl; rfl; (first | (apply decide_eq_true; omega) | (apply decide_eq_false; omega) | rfl))
    | (apply r_leq; rfl; rfl; (first | (apply decide_eq_true; omega) | (apply decide_eq_false; omega) | rfl))
    | (apply r_geq; rfl; rfl; (first | (apply decide_eq_true; omega) | (apply decide_eq_false; omega) | rfl))
    | (apply r_add; rfl; rfl; rfl; omega)
    | (apply r_pickT; rfl)
    | (apply r_pickF; rfl)
    | (apply r_lenD; rfl)
    | (apply r_lenL; rfl)
    | (apply r_len0; rfl)
    | (apply r_gT; rfl)
    | (apply r_gF'; rfl; rfl)
    | (apply r_gN'; rfl)
    | ((apply r_gS (o := default); rfl) <;> (intro h; try simp only [decide_eq_true_eq, decide_eq_false_iff_not, Bool.not_eq_true, Bool.not_eq_false] at h))
    | (apply r_box; ((conv => lhs; simp only [Nat.reduceAdd]) <;> rfl); rfl; rfl; rfl)
    | (apply r_stL; rfl; rfl; rfl; rfl; (first | rfl | (simp only [z_nil, z_add] <;> rfl)); rfl; rfl)
    | (apply r_p; rfl)
    | (apply r_nilK)
    | (apply r_nil)
    | (apply k_V; rfl)
    | (apply k_P; rfl)
    | (apply k_PL; rfl)
    | (apply k_S; rfl)
    | (apply k_SL; rfl)
    | (apply k_A; rfl)
    | (apply k_T; rfl)
    | (apply k_F; rfl)
    | (apply k_D; rfl; rotate_left; rfl)
    | (apply k_nil)
    | (apply e_ret (vs := [.d (.val _)]); rfl)
    | (apply e_ret; rfl)
    | (apply e_ret' (vs := [.d (.val _)]); rfl)
    | (apply e_ret'; rfl)
    | (apply w_seq)
    | (apply w_ops; ((conv => lhs; simp only [Nat.reduceAdd]) <;> rfl))
    | (apply w_condT; rfl)
    | (apply w_condF; rfl)
    | ((apply w_condS; rfl) <;> (intro h; try simp only [decide_eq_true_eq, decide_eq_false_iff_not, Bool.not_eq_true, Bool.not_eq_false] at h))
    | (apply e_thenN)
    | (apply w_block)
    | (apply e_thenR)
    | (apply e_thenX)
    | (apply e_blkN)
    | (apply e_blkR)
    | (apply e_blkE)
    | (apply w_exit)
    | (apply w_ret)
    | (apply w_skip)
    | (apply e_blkE'; rfl))
      have e2 : lenS (altL (subs.take subs.length)) m = lenS (L (.node k a b c d mn mx subs)) m := by
        rw [List.take_length]
        refine lenS_congr (fun w => ?_) m
        subst h4
        rw [L_k4]
      rw [← e2]
      exact retSB rfl (lenS_len _ _)
  have h5 : k = 5 := by omega
  obtain ⟨u, hu⟩ := hk5 h5
  have hl1 : 0 < subs.length := by rw [hu]; simp
  have hg := ih' 0 hl1
  have hs := NodeAt.sub hl1
  have hu0 : subs[0] = u := by simp [hu]
  rw [hu0] at hg hs
  have hr5 := hR h5
  have eL : ∀ w, L (.node k a b c d mn mx subs) w ↔ ∃ r : Nat, mn ≤ r ∧ (mx < 0 ∨ (r : Int) ≤ mx) ∧ powL (L u) r w := by
    intro w
    subst h5
    rw [L_k5, hu]
    have : ∀ w, fstL [u] w ↔ L u w := fun w => by rw [fstL]
    simp only [powL_congr this]
  have hna : [nodeA u, .i m].all AV.nrm = true := by rw [List.all_cons, nodeA_nrm]; rfl
  clear hu0 hu hk5 ih' hkind
  obtain ⟨mnN, rfl⟩ := Int.eq_ofNat_of_zero_le hr5.1.1
  obtain ⟨last, hlast, hfin⟩ : ∃ last : Nat, last ≤ 1100 ∧ ((last : Int) = if mx < 0 then (mnN : Int) + m else mx) ∧ mnN ≤ last ∧ ∀ j, j ≤ m → ((∃ r : Nat, mnN ≤ r ∧ r < last + 1 ∧ ∃ w, powL (L u) r w ∧ w.length = j) ↔ ∃ w, L (.node k a b c d mnN mx subs) w ∧ w.length = j) := by
    by_cases hmx : mx < 0
    · refine ⟨mnN + m, by omega, by rw [if_pos hmx]; omega, by omega, fun j hj => ?_⟩
      constructor
      · rintro ⟨r, g1, g2, w, g3, g4⟩; exact ⟨w, (eL w).2 ⟨r, by omega, .inl hmx, g3⟩, g4⟩
      · rintro ⟨w, hw, g4⟩
        obtain ⟨r, g1, _, g3⟩ := (eL w).1 hw
        by_cases hr : r ≤ mnN + m
        · exact ⟨r, by omega, by omega, w, g3, g4⟩
        · exact ⟨mnN + m, by omega, by omega, w, powL_cut w _ (by omega) r (by omega) g3, g4⟩
    · obtain ⟨x, rfl⟩ := Int.eq_ofNat_of_zero_le (show 0 ≤ mx by omega)
      refine ⟨x, by omega, by rw [if_neg hmx], by omega, fun j hj => ?_⟩
      constructor
      · rintro ⟨r, g1, g2, w, g3, g4⟩; exact ⟨w, (eL w).2 ⟨r, by omega, by omega, g3⟩, g4⟩
      · rintro ⟨w, hw, g4⟩
        obtain ⟨r, g1, g2, g3⟩ := (eL w).1 hw
        exact ⟨r, by omega, by omega, w, g3, g4⟩
  obtain ⟨hle, hml, hfin⟩ := hfin
  have e : (List.replicate (m + 1) false).set 0 true = lenS (powL (L u) 0) m := by
    refine lenS_eq (by simp) fun j hj => ?_
    rw [at_set j (by simp)]
    simp only [powL]
    constructor
    · rintro (⟨rfl, _⟩ | ⟨_, h⟩)
      · exact ⟨[], rfl, rfl⟩
      · exact absurd h (at_rep _ _)
    · rintro ⟨w, rfl, h⟩; exact .inl ⟨h.symm, by simp⟩
  refine b49 (by simp) (by simp) (w_init ?_)
  unfold x49
  repeat' (first
    | (apply r_mvV; rfl)
    | (apply r_mvP; rfl)
    | (apply r_mvPL; rfl)
    | (apply r_mvS; rfl)
    | (apply r_mvSL; rfl)
    | (apply r_mvA; rfl)
    | (apply r_mvT; rfl)
    | (apply r_mvF; rfl)
    | (apply r_mvD; rfl)
    | (apply r_faddD; rfl)
    | (apply r_faddL; rfl)
    | (apply r_l; apply ld_kind; assumption; rfl)
    | (apply r_l; apply ld_mn; assumption; rfl)
    | (apply r_l; apply ld_mx; assumption; rfl)
    | (apply r_l; apply ld_subs; assumption; rfl)
    | (apply r_l; apply ld_set; assumption; rfl)
    | (apply r_l; apply ld_node; assumption; rfl)
    | (apply r_l; apply ld_kind'; assumption; rfl)
    | (apply r_l; apply ld_mn'; assumption; rfl)
    | (apply r_l; apply ld_mx'; assumption; rfl)
    | (apply r_l; apply ld_subs'; assumption; rfl)
    | (apply r_l; apply ld_node'; assumption; rfl)
    | (apply r_mksB (m := m + 1); rfl; rfl; ((conv => lhs; simp only [Nat.reduceAdd]) <;> rfl); omega; omega)
    | (apply r_ixL (j := 0); rfl; rfl; omega)
    | (apply r_stB (j := 0); rfl; rfl; rfl; rfl; omega)
    | (apply r_p (v := .d (.ptr (encL subs) 0)); exact ix_sub0 rfl rfl hl1)
    | (apply r_l; apply ld_node'; exact hs; rfl)
    | (apply r_callA (ags := [nodeA u, .i m]); rfl; exact hna; exact hg)
    | (apply r_ldL; rfl; rfl; rfl)
    | (apply r_eql; rfl; rfl; (first | (apply decide_eq_true; omega) | (apply decide_eq_false; omega) | rfl))
    | (apply r_lss; rfl; rfl; (first | (apply decide_eq_true; omega) | (apply decide_eq_false; omega) | rfl))
    | (apply r_leq; rfl; rfl; (first | (apply decide_eq_true; omega) | (apply decide_eq_false; omega) | rfl))
    | (apply r_geq; rfl; rfl; (first | (apply decide_eq_true; omega) | (apply decide_eq_false; omega) | rfl))
    | (apply r_add; rfl; rfl; rfl; omega)
    | (apply r_pickT; rfl)
    | (apply r_pickF; rfl)
    | (apply r_lenD; rfl)
    | (apply r_lenL; rfl)
    | (apply r_len0; rfl)
    | (apply r_gT; rfl)
    | (apply r_gF'; rfl; rfl)
    | (apply r_gN'; rfl)
    | ((apply r_gS (o := default); rfl) <;> (intro h; try simp only [decide_eq_true_eq, decide_eq_false_iff_not, Bool.not_eq_true, Bool.not_eq_false] at h))
    | (apply r_box; ((conv => lhs; simp only [Nat.reduceAdd]) <;> rfl); rfl; rfl; rfl)
    | (apply r_stL; rfl; rfl; rfl; rfl; (first | rfl | (simp only [z_nil, z_add] <;> rfl)); rfl; rfl)
    | (apply r_p; rfl)
    | (apply r_nilK)
    | (apply r_nil)
    | (apply k_V; rfl)
    | (apply k_P; rfl)
    | (apply k_PL; rfl)
    | (apply k_S; rfl)
    | (apply k_SL; rfl)
    | (apply k_A; rfl)
    | (apply k_T; rfl)
    | (apply k_F; rfl)
    | (apply k_D; rfl; rotate_left; rfl)
    | (apply k_nil)
    | (apply e_ret (vs := [.d (.val _)]); rfl)
    | (apply e_ret; rfl)
    | (apply e_ret' (vs := [.d (.val _)]); rfl)
    | (apply e_ret'; rfl)
    | (apply w_seq)
    | (apply w_ops; ((conv => lhs; simp only [Nat.reduceAdd]) <;> rfl))
    | (apply w_condT; rfl)
    | (apply w_condF; rfl)
    | ((apply w_condS; rfl) <;> (intro h; try simp only [decide_eq_true_eq, decide_eq_false_iff_not, Bool.not_eq_true, Bool.not_eq_false] at h))
    | (apply e_thenN)
    | (apply w_block)
    | (apply e_thenR)
    | (apply e_thenX)
    | (apply e_blkN)
    | (apply e_blkR)
    | (apply e_blkE)
    | (apply w_exit)
    | (apply w_ret)
    | (apply w_skip)
    | (apply e_blkE'; rfl))
  all_goals
    apply w_loopF (ι := Nat × List Bool) (S := fun z => ⟨((((((Fr.nil.put 1 (.i m)).put 2 (.ptrL 1 0)).put 5 (.slL 50 0 (m + 1) 1)).put 10 (.d (.sl (encB (lenS (L u) m)) (m + 1)))).put 11 (.d (.sl (encB (lenS (powL (L u) z.1) m)) (m + 1)))).put 12 (.i last)).put 13 (.i z.1), rowsOf [(1, [.i k, .d (.val (.int .u64 a)), .d (.val (.int .u64 b)), .d (.val (.int .u64 c)), .d (.val (.int .u64 d)), .i mnN, .i mx, .d (.sl (encL subs) subs.length)]), (50, (encB z.2).map AV.d)], Frz.buts 100 [50], 100⟩) (m := fun z => last + 1 - z.1) (I := fun z => z.1 ≤ last + 1 ∧ z.2.length = m + 1 ∧ ∀ j, j ≤ m → (At z.2 j ↔ ∃ r : Nat, mnN ≤ r ∧ r < z.1 ∧ ∃ w, powL (L u) r w ∧ w.length = j)) (i0 := (0, List.replicate (m + 1) false))
    · refine ⟨Nat.zero_le _, by simp, fun j hj => ⟨fun h => absurd h (at_rep _ _), ?_⟩⟩
      rintro ⟨r, _, h, _⟩
      dsimp only at h
      omega
    · refine fzB (k := 11) (b := 28) (m := m + 1) (p := (List.replicate (m + 1) false).set 0 true) rfl rfl (by simp) (by omega) ?_
      rw [e]
      dsimp only
      refine wkM [(50, 5)] [] rfl ?_ ?_ rfl ?_
      · intro p hp; simp only [List.mem_cons, List.not_mem_nil, or_false] at hp; rcases hp with rfl | rfl <;> first | exact ⟨by omega, .inr ⟨rfl, _, rfl, .data rfl⟩⟩ | exact ⟨by omega, .inr ⟨rfl, _, rfl, .data encB_isD⟩⟩
      · intro q hq; simp only [List.mem_cons, List.not_mem_nil, or_false] at hq; rcases hq with rfl <;> rfl
      · repeat' (first
    | exact FWk.nil
    | (apply FWk.i; rfl; (first | rfl | omega | (simp; done)))
    | (apply FWk.sl; rfl; rfl; rfl; rfl; omega; rfl)
    | (apply FWk.ptr; rfl; rfl; rfl; omega; rfl)
    | (apply FWk.d; rfl; rfl)
    | (apply FWk.a; rfl; rfl; rfl)
    | (apply FWk.slN; rfl; omega; rfl))
    rintro ⟨kk, p⟩ K ⟨hk1, hpl, hp⟩ hK
    dsimp only at hk1 hpl hp hK ⊢
    rcases Nat.lt_or_ge last kk with hgt | hlek
    · have ek : kk = last + 1 := by omega
      subst ek
      have e2 : p = lenS (L (.node k a b c d mnN mx subs)) m := lenS_eq hpl fun j hj => by rw [hp j hj, hfin j hj]
      repeat' (first
    | (apply r_mvV; rfl)
    | (apply r_mvP; rfl)
    | (apply r_mvPL; rfl)
    | (apply r_mvS; rfl)
    | (apply r_mvSL; rfl)
    | (apply r_mvA; rfl)
    | (apply r_mvT; rfl)
    | (apply r_mvF; rfl)
    | (apply r_mvD; rfl)
    | (apply r_faddD; rfl)
    | (apply r_faddL; rfl)
    | (apply r_ldL; rfl; rfl; rfl)
    | (apply r_eql; rfl; rfl; (first | (apply decide_eq_true; omega) | (apply decide_eq_false; omega) | rfl))
    | (apply r_lss; rfl; rfl; (first | (apply decide_eq_true; omega) | (apply decide_eq_false; omega) | rfl))
    | (apply r_leq; rfl; rfl; (first | (apply decide_eq_true; omega) | (apply decide_eq_false; omega) | rfl))
    | (apply r_geq; rfl; rfl; (first | (apply decide_eq_true; omega) | (apply decide_eq_false; omega) | rfl))
    | (apply r_add; rfl; rfl; rfl; omega)
    | (apply r_pickT; rfl)
    | (apply r_pickF; rfl)
    | (apply r_lenD; rfl)
    | (apply r_lenL; rfl)
    | (apply r_len0; rfl)
    | (apply r_gT; rfl)
    | (apply r_gF'; rfl; rfl)
    | (apply r_gN'; rfl)
    | ((apply r_gS (o := default); rfl) <;> (intro h; try simp only [decide_eq_true_eq, decide_eq_false_iff_not, Bool.not_eq_true, Bool.not_eq_false] at h))
    | (apply r_box; ((conv => lhs; simp only [Nat.reduceAdd]) <;> rfl); rfl; rfl; rfl)
    | (apply r_stL; rfl; rfl; rfl; rfl; (first | rfl | (simp only [z_nil, z_add] <;> rfl)); rfl; rfl)
    | (apply r_p; rfl)
    | (apply r_nilK)
    | (apply r_nil)
    | (apply k_V; rfl)
    | (apply k_P; rfl)
    | (apply k_PL; rfl)
    | (apply k_S; rfl)
    | (apply k_SL; rfl)
    | (apply k_A; rfl)
    | (apply k_T; rfl)
    | (apply k_F; rfl)
    | (apply k_D; rfl; rotate_left; rfl)
    | (apply k_nil)
    | (apply e_ret (vs := [.d (.val _)]); rfl)
    | (apply e_ret; rfl)
    | (apply e_ret' (vs := [.d (.val _)]); rfl)
    | (apply e_ret'; rfl)
    | (apply w_seq)
    | (apply w_ops; ((conv => lhs; simp only [Nat.reduceAdd]) <;> rfl))
    | (apply w_condT; rfl)
    | (apply w_condF; rfl)
    | ((apply w_condS; rfl) <;> (intro h; try simp only [decide_eq_true_eq, decide_eq_false_iff_not, Bool.not_eq_true, Bool.not_eq_false] at h))
    | (apply e_thenN)
    | (apply w_block)
    | (apply e_thenR)
    | (apply e_thenX)
    | (apply e_blkN)
    | (apply e_blkR)
    | (apply e_blkE)
    | (apply w_exit)
    | (apply w_ret)
    | (apply w_skip)
    | (apply e_blkE'; rfl))
      rw [← e2]
      exact retSB rfl hpl
    have hj98 := join98_good (lenS (powL (L u) kk) m) (lenS (L u) m) (lenS_len _ _) (lenS_len _ _) (by omega)
    have ej : joinB (lenS (powL (L u) kk) m) (lenS (L u) m) = lenS (powL (L u) (kk + 1)) m := by
      rw [joinB_lenS]
      exact lenS_congr (fun w => (powL_snoc (L u) kk w).symm) m
    rw [ej] at hj98
    by_cases hmk : mnN ≤ kk
    · have hfin2 : ∀ p2, Ored p (lenS (powL (L u) kk) m) p2 (m + 1) → ∀ j, j ≤ m → (At p2 j ↔ ∃ r : Nat, mnN ≤ r ∧ r < kk + 1 ∧ ∃ w, powL (L u) r w ∧ w.length = j) := by
        intro p2 h j hj
        rw [h.2 j, at_lenS, hp j hj]
        constructor
        · rintro (⟨r, g1, g2, g3⟩ | ⟨_, _, g3⟩)
          · exact ⟨r, g1, by omega, g3⟩
          · exact ⟨kk, hmk, by omega, g3⟩
        · rintro ⟨r, g1, g2, g3⟩
          by_cases er : r = kk
          · subst er; exact .inr ⟨by omega, hj, g3⟩
          · exact .inl ⟨r, g1, by omega, g3⟩
      have hql := lenS_len (powL (L u) kk) m
      generalize lenS (powL (L u) kk) m = q at hj98 hfin2 hql ⊢
      repeat' (first
    | (apply r_mvV; rfl)
    | (apply r_mvP; rfl)
    | (apply r_mvPL; rfl)
    | (apply r_mvS; rfl)
    | (apply r_mvSL; rfl)
    | (apply r_mvA; rfl)
    | (apply r_mvT; rfl)
    | (apply r_mvF; rfl)
    | (apply r_mvD; rfl)
    | (apply r_faddD; rfl)
    | (apply r_faddL; rfl)
    | (apply r_l; apply ld_kind; assumption; rfl)
    | (apply r_l; apply ld_mn; assumption; rfl)
    | (apply r_l; apply ld_mx; assumption; rfl)
    | (apply r_l; apply ld_subs; assumption; rfl)
    | (apply r_l; apply ld_set; assumption; rfl)
    | (apply r_l; apply ld_node; assumption; rfl)
    | (apply r_l; apply ld_kind'; assumption; rfl)
    | (apply r_l; apply ld_mn'; assumption; rfl)
    | (apply r_l; apply ld_mx'; assumption; rfl)
    | (apply r_l; apply ld_subs'; assumption; rfl)
    | (apply r_l; apply ld_node'; assumption; rfl)
    | (apply r_ldL; rfl; rfl; rfl)
    | (apply r_eql; rfl; rfl; (first | (apply decide_eq_true; omega) | (apply decide_eq_false; omega) | rfl))
    | (apply r_lss; rfl; rfl; (first | (apply decide_eq_true; omega) | (apply decide_eq_false; omega) | rfl))
    | (apply r_leq; rfl; rfl; (first | (apply decide_eq_true; omega) | (apply decide_eq_false; omega) | rfl))
    | (apply r_geq; rfl; rfl; (first | (apply decide_eq_true; omega) | (apply decide_eq_false; omega) | rfl))
    | (apply r_add; rfl; rfl; rfl; omega)
    | (apply r_pickT; rfl)
    | (apply r_pickF; rfl)
    | (apply r_lenD; rfl)
    | (apply r_lenL; rfl)
    | (apply r_len0; rfl)
    | (apply r_gT; rfl)
    | (apply r_gF'; rfl; rfl)
    | (apply r_gN'; rfl)
    | ((apply r_gS (o := default); rfl) <;> (intro h; try simp only [decide_eq_true_eq, decide_eq_false_iff_not, Bool.not_eq_true, Bool.not_eq_false] at h))
    | (apply r_box; ((conv => lhs; simp only [Nat.reduceAdd]) <;> rfl); rfl; rfl; rfl)
    | (apply r_stL; rfl; rfl; rfl; rfl; (first | rfl | (simp only [z_nil, z_add] <;> rfl)); rfl; rfl)
    | (apply r_p; rfl)
    | (apply r_nilK)
    | (apply r_nil)
    | (apply k_V; rfl)
    | (apply k_P; rfl)
    | (apply k_PL; rfl)
    | (apply k_S; rfl)
    | (apply k_SL; rfl)
    | (apply k_A; rfl)
    | (apply k_T; rfl)
    | (apply k_F; rfl)
    | (apply k_D; rfl; rotate_left; rfl)
    | (apply k_nil)
    | (apply e_ret (vs := [.d (.val _)]); rfl)
    | (apply e_ret; rfl)
    | (apply e_ret' (vs := [.d (.val _)]); rfl)
    | (apply e_ret'; rfl)
    | (apply w_seq)
    | (apply w_ops; ((conv => lhs; simp only [Nat.reduceAdd]) <;> rfl))
    | (apply w_condT; rfl)
    | (apply w_condF; rfl)
    | ((apply w_condS; rfl) <;> (intro h; try simp only [decide_eq_true_eq, decide_eq_false_iff_not, Bool.not_eq_true, Bool.not_eq_false] at h))
    | (apply e_thenN)
    | (apply w_block)
    | (apply e_thenR)
    | (apply e_thenX)
    | (apply e_blkN)
    | (apply e_blkR)
    | (apply e_blkE)
    | (apply w_exit)
    | (apply w_ret)
    | (apply w_skip)
    | (apply e_blkE'; rfl))
      apply w_loopI (ι := Nat × List Bool) (S := fun z => ⟨(((((((Fr.nil.put 1 (.i m)).put 2 (.ptrL 1 0)).put 5 (.slL 50 0 (m + 1) 1)).put 10 (.d (.sl (encB (lenS (L u) m)) (m + 1)))).put 11 (.d (.sl (encB q) (m + 1)))).put 12 (.i last)).put 13 (.i kk)).put 14 (.i z.1), rowsOf [(1, [.i k, .d (.val (.int .u64 a)), .d (.val (.int .u64 b)), .d (.val (.int .u64 c)), .d (.val (.int .u64 d)), .i mnN, .i mx, .d (.sl (encL subs) subs.length)]), (50, (encB z.2).map AV.d)], Frz.buts 200 [50], 200⟩) (m := fun z => m + 1 - z.1) (I := fun z => z.1 ≤ m + 1 ∧ Ored p q z.2 z.1) (i0 := (0, p))
      · exact ⟨Nat.zero_le _, .zero _ _⟩
      · dsimp only
        refine wkM [] [] rfl ?_ ?_ rfl ?_
        · intro p hp; simp only [List.mem_cons, List.not_mem_nil, or_false] at hp; rcases hp with rfl | rfl <;> first | exact ⟨by omega, .inr ⟨rfl, _, rfl, .data rfl⟩⟩ | exact ⟨by omega, .inr ⟨rfl, _, rfl, .data encB_isD⟩⟩
        · intro q hq; simp only [List.mem_cons, List.not_mem_nil, or_false] at hq; rcases hq with rfl <;> rfl
        · repeat' (first
    | exact FWk.nil
    | (apply FWk.i; rfl; (first | rfl | omega | (simp; done)))
    | (apply FWk.sl; rfl; rfl; rfl; rfl; omega; rfl)
    | (apply FWk.ptr; rfl; rfl; rfl; omega; rfl)
    | (apply FWk.d; rfl; rfl)
    | (apply FWk.a; rfl; rfl; rfl)
    | (apply FWk.slN; rfl; omega; rfl))
      rintro ⟨j, p2⟩ K2 ⟨hj, ho⟩ hK2
      dsimp only at hj ho hK2 ⊢
      have hp2 : p2.length = m + 1 := ho.1.trans hpl
      rcases Nat.lt_or_ge j (m + 1) with hlj | hgj
      · have hgp : p2[j]? = some (p2.getD j false) := by rw [List.getD_eq_getElem?_getD, List.getElem?_eq_getElem (by omega)]; rfl
        have hgq : q[j]? = some (q.getD j false) := by rw [List.getD_eq_getElem?_getD, List.getElem?_eq_getElem (by omega)]; rfl
        have hst := ho.step (by omega)
        have fin : ∀ v fr C Z nx, v = (p2.getD j false || q.getD j false) → Wk ⟨fr, C, Z, nx⟩ ⟨(((((((Fr.nil.put 1 (.i m)).put 2 (.ptrL 1 0)).put 5 (.slL 50 0 (m + 1) 1)).put 10 (.d (.sl (encB (lenS (L u) m)) (m + 1)))).put 11 (.d (.sl (encB q) (m + 1)))).put 12 (.i last)).put 13 (.i kk)).put 14 (.i ((j + 1 : Nat) : Int)), rowsOf [(1, [.i k, .d (.val (.int .u64 a)), .d (.val (.int .u64 b)), .d (.val (.int .u64 c)), .d (.val (.int .u64 d)), .i mnN, .i mx, .d (.sl (encL subs) subs.length)]), (50, (encB (p2.set j v)).map AV.d)], Frz.buts 200 [50], 200⟩ → K2 ⟨fr, C, Z, nx⟩ := by
          intro v fr C Z nx hv hw
          subst hv
          exact hK2 (j + 1, _) fr C Z nx ⟨by dsimp only; omega, hst⟩ (by dsimp only; omega) hw
        generalize p2.getD j false = v1 at hgp fin
        generalize q.getD j false = v2 at hgq fin
        cases v1
        all_goals
          repeat' (first
    | (apply r_mvV; rfl)
    | (apply r_mvP; rfl)
    | (apply r_mvPL; rfl)
    | (apply r_mvS; rfl)
    | (apply r_mvSL; rfl)
    | (apply r_mvA; rfl)
    | (apply r_mvT; rfl)
    | (apply r_mvF; rfl)
    | (apply r_mvD; rfl)
    | (apply r_faddD; rfl)
    | (apply r_faddL; rfl)
    | (apply r_ixL (j := j); rfl; rfl; omega)
    | (apply r_ldBL (j := j); rfl; rfl; exact hgp)
    | (apply r_ixB' (j := j); rfl; rfl; exact hlj; exact hql)
    | (apply r_ldB (j := j); rfl; exact hgq)
    | (apply r_stB (j := j); rfl; rfl; rfl; rfl; omega)
    | (apply r_ldL; rfl; rfl; rfl)
    | (apply r_eql; rfl; rfl; (first | (apply decide_eq_true; omega) | (apply decide_eq_false; omega) | rfl))
    | (apply r_lss; rfl; rfl; (first | (apply decide_eq_true; omega) | (apply decide_eq_false; omega) | rfl))
    | (apply r_leq; rfl; rfl; (first | (apply decide_eq_true; omega) | (apply decide_eq_false; omega) | rfl))
    | (apply r_geq; rfl; rfl; (first | (apply decide_eq_true; omega) | (apply decide_eq_false; omega) | rfl))
    | (apply r_add; rfl; rfl; rfl; omega)
    | (apply r_pickT; rfl)
    | (apply r_pickF; rfl)
    | (apply r_lenD; rfl)
    | (apply r_lenL; rfl)
    | (apply r_len0; rfl)
    | (apply r_gT; rfl)
    | (apply r_gF'; rfl; rfl)
    | (apply r_gN'; rfl)
    | ((apply r_gS (o := default); rfl) <;> (intro h; try simp only [decide_eq_true_eq, decide_eq_false_iff_not, Bool.not_eq_true, Bool.not_eq_false] at h))
    | (apply r_box; ((conv => lhs; simp only [Nat.reduceAdd]) <;> rfl); rfl; rfl; rfl)
    | (apply r_stL; rfl; rfl; rfl; rfl; (first | rfl | (simp only [z_nil, z_add] <;> rfl)); rfl; rfl)
    | (apply r_p; rfl)
    | (apply r_nilK)
    | (apply r_nil)
    | (apply k_V; rfl)
    | (apply k_P; rfl)
    | (apply k_PL; rfl)
    | (apply k_S; rfl)
    | (apply k_SL; rfl)
    | (apply k_A; rfl)
    | (apply k_T; rfl)
    | (apply k_F; rfl)
    | (apply k_D; rfl; rotate_left; rfl)
    | (apply k_nil)
    | (apply e_ret (vs := [.d (.val _)]); rfl)
    | (apply e_ret; rfl)
    | (apply e_ret' (vs := [.d (.val _)]); rfl)
    | (apply e_ret'; rfl)
    | (apply w_seq)
    | (apply w_ops; ((conv => lhs; simp only [Nat.reduceAdd]) <;> rfl))
    | (apply w_condT; rfl)
    | (apply w_condF; rfl)
    | ((apply w_condS; rfl) <;> (intro h; try simp only [decide_eq_true_eq, decide_eq_false_iff_not, Bool.not_eq_true, Bool.not_eq_false] at h))
    | (apply e_thenN)
    | (apply w_block)
    | (apply e_thenR)
    | (apply e_thenX)
    | (apply e_blkN)
    | (apply e_blkR)
    | (apply e_blkE)
    | (apply w_exit)
    | (apply w_ret)
    | (apply w_skip)
    | (apply e_blkE'; rfl))
          apply e_thenK
          refine fin _ _ _ _ _ (by first | rfl | simp) ?_
          refine wkM [] [] rfl ?_ ?_ rfl ?_
          · intro p hp; simp only [List.mem_cons, List.not_mem_nil, or_false] at hp; rcases hp with rfl | rfl <;> first | exact ⟨by omega, .inr ⟨rfl, _, rfl, .data rfl⟩⟩ | exact ⟨by omega, .inr ⟨rfl, _, rfl, .data encB_isD⟩⟩
          · intro q hq; simp only [List.mem_cons, List.not_mem_nil, or_false] at hq; rcases hq with rfl <;> rfl
          · repeat' (first
    | exact FWk.nil
    | (apply FWk.i; rfl; (first | rfl | omega | (simp; done)))
    | (apply FWk.sl; rfl; rfl; rfl; rfl; omega; rfl)
    | (apply FWk.ptr; rfl; rfl; rfl; omega; rfl)
    | (apply FWk.d; rfl; rfl)
    | (apply FWk.a; rfl; rfl; rfl)
    | (apply FWk.slN; rfl; omega; rfl))
      · have ej2 : j = m + 1 := by omega
        subst ej2
        have e2 := hfin2 p2 ho
        repeat' (first
    | (apply r_mvV; rfl)
    | (apply r_mvP; rfl)
    | (apply r_mvPL; rfl)
    | (apply r_mvS; rfl)
    | (apply r_mvSL; rfl)
    | (apply r_mvA; rfl)
    | (apply r_mvT; rfl)
    | (apply r_mvF; rfl)
    | (apply r_mvD; rfl)
    | (apply r_faddD; rfl)
    | (apply r_faddL; rfl)
    | (apply r_callA; rfl; rfl; exact hj98)
    | (apply r_ldL; rfl; rfl; rfl)
    | (apply r_eql; rfl; rfl; (first | (apply decide_eq_true; omega) | (apply decide_eq_false; omega) | rfl))
    | (apply r_lss; rfl; rfl; (first | (apply decide_eq_true; omega) | (apply decide_eq_false; omega) | rfl))
    | (apply r_leq; rfl; rfl; (first | (apply decide_eq_true; omega) | (apply decide_eq_false; omega) | rfl))
    | (apply r_geq; rfl; rfl; (first | (apply decide_eq_true; omega) | (apply decide_eq_false; omega) | rfl))
    | (apply r_add; rfl; rfl; rfl; omega)
    | (apply r_pickT; rfl)
    | (apply r_pickF; rfl)
    | (apply r_lenD; rfl)
    | (apply r_lenL; rfl)
    | (apply r_len0; rfl)
    | (apply r_gT; rfl)
    | (apply r_gF'; rfl; rfl)
    | (apply r_gN'; rfl)
    | ((apply r_gS (o := default); rfl) <;> (intro h; try simp only [decide_eq_true_eq, decide_eq_false_iff_not, Bool.not_eq_true, Bool.not_eq_false] at h))
    | (apply r_box; ((conv => lhs; simp only [Nat.reduceAdd]) <;> rfl); rfl; rfl; rfl)
    | (apply r_stL; rfl; rfl; rfl; rfl; (first | rfl | (simp only [z_nil, z_add] <;> rfl)); rfl; rfl)
    | (apply r_p; rfl)
    | (apply r_nilK)
    | (apply r_nil)
    | (apply k_V; rfl)
    | (apply k_P; rfl)
    | (apply k_PL; rfl)
    | (apply k_S; rfl)
    | (apply k_SL; rfl)
    | (apply k_A; rfl)
    | (apply k_T; rfl)
    | (apply k_F; rfl)
    | (apply k_D; rfl; rotate_left; rfl)
    | (apply k_nil)
    | (apply e_ret (vs := [.d (.val _)]); rfl)
    | (apply e_ret; rfl)
    | (apply e_ret' (vs := [.d (.val _)]); rfl)
    | (apply e_ret'; rfl)
    | (apply w_seq)
    | (apply w_ops; ((conv => lhs; simp only [Nat.reduceAdd]) <;> rfl))
    | (apply w_condT; rfl)
    | (apply w_condF; rfl)
    | ((apply w_condS; rfl) <;> (intro h; try simp only [decide_eq_true_eq, decide_eq_false_iff_not, Bool.not_eq_true, Bool.not_eq_false] at h))
    | (apply e_thenN)
    | (apply w_block)
    | (apply e_thenR)
    | (apply e_thenX)
    | (apply e_blkN)
    | (apply e_blkR)
    | (apply e_blkE)
    | (apply w_exit)
    | (apply w_ret)
    | (apply w_skip)
    | (apply e_blkE'; rfl))
        apply e_thenK
        apply hK (kk + 1, p2)
        · exact ⟨by dsimp only; omega, hp2, e2⟩
        · dsimp only; omega
        · dsimp only
          refine Wk.f (wkM [] [] rfl ?_ ?_ rfl ?_)
          · intro p hp; simp only [List.mem_cons, List.not_mem_nil, or_false] at hp; rcases hp with rfl | rfl <;> first | exact ⟨by omega, .inr ⟨rfl, _, rfl, .data rfl⟩⟩ | exact ⟨by omega, .inr ⟨rfl, _, rfl, .data encB_isD⟩⟩
          · intro q hq; simp only [List.mem_cons, List.not_mem_nil, or_false] at hq; rcases hq with rfl <;> rfl
          · repeat' (first
    | exact FWk.nil
    | (apply FWk.i; rfl; (first | rfl | omega | (simp; done)))
    | (apply FWk.sl; rfl; rfl; rfl; rfl; omega; rfl)
    | (apply FWk.ptr; rfl; rfl; rfl; omega; rfl)
    | (apply FWk.d; rfl; rfl)
    | (apply FWk.a; rfl; rfl; rfl)
    | (apply FWk.slN; rfl; omega; rfl))
    · repeat' (first
    | (apply r_mvV; rfl)
    | (apply r_mvP; rfl)
    | (apply r_mvPL; rfl)
    | (apply r_mvS; rfl)
    | (apply r_mvSL; rfl)
    | (apply r_mvA; rfl)
    | (apply r_mvT; rfl)
    | (apply r_mvF; rfl)
    | (apply r_mvD; rfl)
    | (apply r_faddD; rfl)
    | (apply r_faddL; rfl)
    | (apply r_l; apply ld_kind; assumption; rfl)
    | (apply r_l; apply ld_mn; assumption; rfl)
    | (apply r_l; apply ld_mx; assumption; rfl)
    | (apply r_l; apply ld_subs; assumption; rfl)
    | (apply r_l; apply ld_set; assumption; rfl)
    | (apply r_l; apply ld_node; assumption; rfl)
    | (apply r_l; apply ld_kind'; assumption; rfl)
    | (apply r_l; apply ld_mn'; assumption; rfl)
    | (apply r_l; apply ld_mx'; assumption; rfl)
    | (apply r_l; apply ld_subs'; assumption; rfl)
    | (apply r_l; apply ld_node'; assumption; rfl)
    | (apply r_callA; rfl; rfl; exact hj98)
    | (apply r_ldL; rfl; rfl; rfl)
    | (apply r_eql; rfl; rfl; (first | (apply decide_eq_true; omega) | (apply decide_eq_false; omega) | rfl))
    | (apply r_lss; rfl; rfl; (first | (apply decide_eq_true; omega) | (apply decide_eq_false; omega) | rfl))
    | (apply r_leq; rfl; rfl; (first | (apply decide_eq_true; omega) | (apply decide_eq_false; omega) | rfl))
    | (apply r_geq; rfl; rfl; (first | (apply decide_eq_true; omega) | (apply decide_eq_false; omega) | rfl))
    | (apply r_add; rfl; rfl; rfl; omega)
    | (apply r_pickT; rfl)
    | (apply r_pickF; rfl)
    | (apply r_lenD; rfl)
    | (apply r_lenL; rfl)
    | (apply r_len0; rfl)
    | (apply r_gT; rfl)
    | (apply r_gF'; rfl; rfl)
    | (apply r_gN'; rfl)
    | ((apply r_gS (o := default); rfl) <;> (intro h; try simp only [decide_eq_true_eq, decide_eq_false_iff_not, Bool.not_eq_true, Bool.not_eq_false] at h))
    | (apply r_box; ((conv => lhs; simp only [Nat.reduceAdd]) <;> rfl); rfl; rfl; rfl)
    | (apply r_stL; rfl; rfl; rfl; rfl; (first | rfl | (simp only [z_nil, z_add] <;> rfl)); rfl; rfl)
    | (apply r_p; rfl)
    | (apply r_nilK)
    | (apply r_nil)
    | (apply k_V; rfl)
    | (apply k_P; rfl)
    | (apply k_PL; rfl)
    | (apply k_S; rfl)
    | (apply k_SL; rfl)
    | (apply k_A; rfl)
    | (apply k_T; rfl)
    | (apply k_F; rfl)
    | (apply k_D; rfl; rotate_left; rfl)
    | (apply k_nil)
    | (apply e_ret (vs := [.d (.val _)]); rfl)
    | (apply e_ret; rfl)
    | (apply e_ret' (vs := [.d (.val _)]); rfl)
    | (apply e_ret'; rfl)
    | (apply w_seq)
    | (apply w_ops; ((conv => lhs; simp only [Nat.reduceAdd]) <;> rfl))
    | (apply w_condT; rfl)
    | (apply w_condF; rfl)
    | ((apply w_condS; rfl) <;> (intro h; try simp only [decide_eq_true_eq, decide_eq_false_iff_not, Bool.not_eq_true, Bool.not_eq_false] at h))
    | (apply e_thenN)
    | (apply w_block)
    | (apply e_thenR)
    | (apply e_thenX)
    | (apply e_blkN)
    | (apply e_blkR)
    | (apply e_blkE)
    | (apply w_exit)
    | (apply w_ret)
    | (apply w_skip)
    | (apply e_blkE'; rfl))
      apply e_thenK
      apply hK (kk + 1, p)
      · refine ⟨by dsimp only; omega, hpl, fun j hj => ?_⟩
        rw [hp j hj]
        dsimp only
        constructor
        · rintro ⟨r, g1, g2, g3⟩; omega
        · rintro ⟨r, g1, g2, g3⟩; omega
      · dsimp only; omega
      · dsimp only
        refine Wk.f (wkM [] [] rfl ?_ ?_ rfl ?_)
        · intro p hp; simp only [List.mem_cons, List.not_mem_nil, or_false] at hp; rcases hp with rfl | rfl <;> first | exact ⟨by omega, .inr ⟨rfl, _, rfl, .data rfl⟩⟩ | exact ⟨by omega, .inr ⟨rfl, _, rfl, .data encB_isD⟩⟩
        · intro q hq; simp only [List.mem_cons, List.not_mem_nil, or_false] at hq; rcases hq with rfl <;> rfl
        · repeat' (first
    | exact FWk.nil
    | (apply FWk.i; rfl; (first | rfl | omega | (simp; done)))
    | (apply FWk.sl; rfl; rfl; rfl; rfl; omega; rfl)
    | (apply FWk.ptr; rfl; rfl; rfl; omega; rfl)
    | (apply FWk.d; rfl; rfl)
    | (apply FWk.a; rfl; rfl; rfl)
    | (apply FWk.slN; rfl; omega; rfl))
noncomputable def nullS (t : T) : Bool := @decide (L t []) (Classical.propDecidable _)
theorem null72_good (t : T) (hc : t.cnt ≤ 1000000) (hok : okT t) : Good Try.prog 72 [nodeA t] none (.b (nullS t)) none none := by
  have h := len49_good 1000000 t hc (Nat.le_refl _) hok 0 (by omega)
  have h0 : (lenS (L t) 0)[0]? = some (nullS t) := by
    have h1 := at_lenS (L t) 0 0
    have hl := lenS_len (L t) 0
    have h2 : (lenS (L t) 0)[0]? = some ((lenS (L t) 0).getD 0 false) := by rw [List.getD_eq_getElem?_getD, List.getElem?_eq_getElem (by omega)]; rfl
    rw [h2]
    congr 1
    unfold At at h1
    rw [Bool.eq_iff_iff, h1]
    simp only [nullS, decide_eq_true_eq]
    constructor
    · rintro ⟨_, w, hw, hl⟩
      have : w = [] := List.length_eq_zero_iff.1 hl
      subst this; exact hw
    · intro hw; exact ⟨Nat.le_refl _, [], hw, rfl⟩
  have hl := lenS_len (L t) 0
  generalize nullS t = v at h0
  generalize lenS (L t) 0 = q at h h0 hl
  obtain ⟨k, a, b, c, d, mn, mx, subs⟩ := t
  have e0 : nodeA (.node k a b c d mn mx subs) = .agg [.i k, .d (.val (.int .u64 a)), .d (.val (.int .u64 b)), .d (.val (.int .u64 c)), .d (.val (.int .u64 d)), .i mn, .i mx, .d (.sl (encL subs) subs.length)] := rfl
  rw [e0] at h ⊢
  refine b72 (by simp) (by simp) (w_init ?_)
  unfold x72
  repeat' (first
    | (apply r_mvV; rfl)
    | (apply r_mvP; rfl)
    | (apply r_mvPL; rfl)
    | (apply r_mvS; rfl)
    | (apply r_mvSL; rfl)
    | (apply r_mvA; rfl)
    | (apply r_mvT; rfl)
    | (apply r_mvF; rfl)
    | (apply r_mvD; rfl)
    | (apply r_l; apply ld_kind; assumption; rfl)
    | (apply r_l; apply ld_mn; assumption; rfl)
    | (apply r_l; apply ld_mx; assumption; rfl)
    | (apply r_l; apply ld_subs; assumption; rfl)
    | (apply r_l; apply ld_set; assumption; rfl)
    | (apply r_l; apply ld_node; assumption; rfl)
    | (apply r_l; apply ld_kind'; assumption; rfl)
    | (apply r_l; apply ld_mn'; assumption; rfl)
    | (apply r_l; apply ld_mx'; assumption; rfl)
    | (apply r_l; apply ld_subs'; assumption; rfl)
    | (apply r_l; apply ld_node'; assumption; rfl)
    | (apply r_callA; rfl; rfl; exact h)
    | (apply r_ixB' (j := 0); rfl; rfl; omega; exact hl)
    | (apply r_ldB (j := 0); rfl; exact h0)
    | (apply r_ldL; rfl; rfl; rfl)
    | (apply r_box; ((conv => lhs; simp only [Nat.reduceAdd]) <;> rfl); rfl; rfl; rfl)
    | (apply r_p; rfl)
    | (apply r_nilK)
    | (apply r_nil)
    | (apply k_V; rfl)
    | (apply k_P; rfl)
    | (apply k_PL; rfl)
    | (apply k_S; rfl)
    | (apply k_SL; rfl)
    | (apply k_A; rfl)
    | (apply k_T; rfl)
    | (apply k_F; rfl)
    | (apply k_D; rfl; rotate_left; rfl)
    | (apply k_nil)
    | (apply e_ret (vs := [.d (.val _)]); rfl)
    | (apply e_ret; rfl)
    | (apply e_ret' (vs := [.d (.val _)]); rfl)
    | (apply e_ret'; rfl)
    | (apply w_seq)
    | (apply w_ops; ((conv => lhs; simp only [Nat.reduceAdd]) <;> rfl))
    | (apply e_thenN)
    | (apply w_block)
    | (apply e_thenR)
    | (apply e_thenX)
    | (apply e_blkN)
    | (apply e_blkR)
    | (apply e_blkE)
    | (apply w_exit)
    | (apply w_ret)
    | (apply w_skip)
    | (apply e_blkE'; rfl))
  exact retB rfl
end Go.Sv
namespace Go.Sv
open Go Go.Proofs
def x50 : XC := (.seq (.ops 2 [
    (0, ⟨(some 1), none, .box (.t 0)⟩),
    (1, ⟨(some 2), none, .alloc [(.int .u64 0), (.int .u64 0), (.int .u64 0), (.int .u64 0)]⟩)] (some [1, 2])) (.seq (.ops 1 [
    (0, ⟨(some 3), none, .mv (.k (.d (.val (.slice none 0 0))))⟩)] (some [1, 2, 3])) (.seq (.seq (.ops 2 [
    (0, ⟨(some 6), none, .load (some 8) (.t 1)⟩),
    (1, ⟨(some 7), none, .call 51 [(.t 6)] none false⟩)] (some [1, 2, 3, 7])) (.cond (.t 7) (.seq (.ops 2 [
    (0, ⟨(some 8), none, .build [(.int .u64 0), (.int .u64 0), (.int .u64 0), (.int .u64 0)] []⟩),
    (1, ⟨none, none, .store 4 (.t 2) (.t 8)⟩)] (some [2])) .ret) .skip)) (.seq (.seq (.ops 2 [
    (0, ⟨(some 9), none, .fadd 0 (.t 1)⟩),
    (1, ⟨(some 10), none, .load none (.t 9)⟩)] (some [1, 2, 3, 10])) (.block 0 (.seq (.ops 2 [
    (0, ⟨(some 12), none, .arith .eql (.t 10) (.k (.d (.val (.int .i64 2))))⟩),
    (1, ⟨(some 11), none, .mv (.t 12)⟩)] (some [1, 2, 3, 10, 11])) (.cond (.t 11) (.seq (.ops 3 [
    (0, ⟨(some 13), none, .fadd 1 (.t 1)⟩),
    (1, ⟨(some 14), none, .load (some 4) (.t 13)⟩),
    (2, ⟨none, none, .store 4 (.t 2) (.t 14)⟩)] (some [2])) .ret) (.seq (.ops 2 [
    (0, ⟨(some 16), none, .arith .eql (.t 10) (.k (.d (.val (.int .i64 3))))⟩),
    (1, ⟨(some 15), none, .mv (.t 16)⟩)] (some [1, 2, 3, 10, 15])) (.cond (.t 15) (.seq (.ops 1 [
    (0, ⟨(some 4), none, .mv (.k (.d (.val (.int .i64 0))))⟩)] (some [1, 2, 3, 4])) (.block 1 (.loop (.seq (.seq (.ops 5 [
    (0, ⟨(some 17), none, .mv (.t 4)⟩),
    (1, ⟨(some 18), none, .fadd 7 (.t 1)⟩),
    (2, ⟨(some 19), none, .load none (.t 18)⟩),
    (3, ⟨(some 20), none, .lenS (.t 19)⟩),
    (4, ⟨(some 21), none, .arith .lss (.t 17) (.t 20)⟩)] (some [1, 2, 3, 4, 21])) (.cond (.t 21) .skip (.exit 1))) (.seq (.block 2 (.seq (.ops 10 [
    (0, ⟨(some 24), none, .mv (.t 3)⟩),
    (1, ⟨(some 25), none, .fadd 7 (.t 1)⟩),
    (2, ⟨(some 26), none, .load none (.t 25)⟩),
    (3, ⟨(some 27), none, .mv (.t 4)⟩),
    (4, ⟨(some 28), none, .idxS 8 (.t 26) (.t 27)⟩),
    (5, ⟨(some 29), none, .load (some 8) (.t 28)⟩),
    (6, ⟨(some 30), none, .call 50 [(.t 29)] none false⟩),
    (7, ⟨(some 31), none, .call 74 [(.t 30)] none false⟩),
    (8, ⟨(some 32), none, .app [(.int .i64 0)] 8 (.t 24) (.t 31)⟩),
    (9, ⟨(some 3), none, .mv (.t 32)⟩)] (some [1, 2, 3, 4])) (.seq (.ops 7 [
    (0, ⟨(some 33), none, .fadd 7 (.t 1)⟩),
    (1, ⟨(some 34), none, .load none (.t 33)⟩),
    (2, ⟨(some 35), none, .mv (.t 4)⟩),
    (3, ⟨(some 36), none, .idxS 8 (.t 34) (.t 35)⟩),
    (4, ⟨(some 37), none, .load (some 8) (.t 36)⟩),
    (5, ⟨(some 38), none, .call 72 [(.t 37)] none false⟩),
    (6, ⟨(some 39), none, .un .not (.t 38)⟩)] (some [1, 2, 3, 4, 39])) (.cond (.t 39) (.exit 1) .skip)))) (.ops 3 [
    (0, ⟨(some 22), none, .mv (.t 4)⟩),
    (1, ⟨(some 23), none, .arith .add (.t 22) (.k (.d (.val (.int .i64 1))))⟩),
    (2, ⟨(some 4), none, .mv (.t 23)⟩)] (some [1, 2, 3, 4]))))))) (.seq (.ops 2 [
    (0, ⟨(some 41), none, .arith .eql (.t 10) (.k (.d (.val (.int .i64 4))))⟩),
    (1, ⟨(some 40), none, .mv (.t 41)⟩)] (some [1, 2, 3, 10, 40])) (.cond (.t 40) (.seq (.ops 1 [
    (0, ⟨(some 5), none, .mv (.k (.d (.val (.int .i64 0))))⟩)] (some [1, 2, 3, 5])) (.block 3 (.loop (.seq (.seq (.ops 5 [
    (0, ⟨(some 42), none, .mv (.t 5)⟩),
    (1, ⟨(some 43), none, .fadd 7 (.t 1)⟩),
    (2, ⟨(some 44), none, .load none (.t 43)⟩),
    (3, ⟨(some 45), none, .lenS (.t 44)⟩),
    (4, ⟨(some 46), none, .arith .lss (.t 42) (.t 45)⟩)] (some [1, 2, 3, 5, 46])) (.cond (.t 46) .skip (.exit 3))) (.seq (.block 4 (.ops 10 [
    (0, ⟨(some 49), none, .mv (.t 3)⟩),
    (1, ⟨(some 50), none, .fadd 7 (.t 1)⟩),
    (2, ⟨(some 51), none, .load none (.t 50)⟩),
    (3, ⟨(some 52), none, .mv (.t 5)⟩),
    (4, ⟨(some 53), none, .idxS 8 (.t 51) (.t 52)⟩),
    (5, ⟨(some 54), none, .load (some 8) (.t 53)⟩),
    (6, ⟨(some 55), none, .call 50 [(.t 54)] none false⟩),
    (7, ⟨(some 56), none, .call 74 [(.t 55)] none false⟩),
    (8, ⟨(some 57), none, .app [(.int .i64 0)] 8 (.t 49) (.t 56)⟩),
    (9, ⟨(some 3), none, .mv (.t 57)⟩)] (some [1, 2, 3, 5]))) (.ops 3 [
    (0, ⟨(some 47), none, .mv (.t 5)⟩),
    (1, ⟨(some 48), none, .arith .add (.t 47) (.k (.d (.val (.int .i64 1))))⟩),
    (2, ⟨(some 5), none, .mv (.t 48)⟩)] (some [1, 2, 3, 5]))))))) (.seq (.ops 2 [
    (0, ⟨(some 59), none, .arith .eql (.t 10) (.k (.d (.val (.int .i64 5))))⟩),
    (1, ⟨(some 58), none, .mv (.t 59)⟩)] (some [1, 2, 3, 58])) (.cond (.t 58) (.seq (.ops 3 [
    (0, ⟨(some 60), none, .fadd 6 (.t 1)⟩),
    (1, ⟨(some 61), none, .load none (.t 60)⟩),
    (2, ⟨(some 62), none, .arith .neq (.t 61) (.k (.d (.val (.int .i64 0))))⟩)] (some [1, 2, 3, 62])) (.cond (.t 62) (.seq (.ops 6 [
    (0, ⟨(some 63), none, .fadd 7 (.t 1)⟩),
    (1, ⟨(some 64), none, .load none (.t 63)⟩),
    (2, ⟨(some 65), none, .idxS 8 (.t 64) (.k (.d (.val (.int .i64 0))))⟩),
    (3, ⟨(some 66), none, .load (some 8) (.t 65)⟩),
    (4, ⟨(some 67), none, .call 50 [(.t 66)] none false⟩),
    (5, ⟨none, none, .store 4 (.t 2) (.t 67)⟩)] (some [2])) .ret) .skip)) .skip)))))))))) (.seq (.ops 3 [
    (0, ⟨(some 68), none, .mv (.t 3)⟩),
    (1, ⟨(some 69), none, .call 99 [(.t 68)] none false⟩),
    (2, ⟨none, none, .store 4 (.t 2) (.t 69)⟩)] (some [2])) .ret)))))
def md50 : FuncId → Option Nat × Bool
  | _ => (none, false)
def od50 : Nat → List (List Nat) × List Nat × Option (List Nat)
  | 0 => ([], [], some [1, 2])
  | 1 => ([], [], some [1, 2, 3])
  | 2 => ([], [], some [1, 2, 3, 7])
  | 3 => ([], [], some [2])
  | 4 => ([], [], some [1, 2, 3, 10])
  | 5 => ([], [], some [1, 2, 3, 10, 11])
  | 6 => ([], [], some [2])
  | 7 => ([], [], some [1, 2, 3, 10, 15])
  | 8 => ([], [], some [1, 2, 3, 4])
  | 9 => ([], [], some [1, 2, 3, 4, 21])
  | 10 => ([], [], some [1, 2, 3, 4])
  | 11 => ([], [], some [1, 2, 3, 4])
  | 12 => ([], [], some [1, 2, 3, 4, 39])
  | 13 => ([], [], some [1, 2, 3, 10, 40])
  | 14 => ([], [], some [1, 2, 3, 5])
  | 15 => ([], [], some [1, 2, 3, 5, 46])
  | 16 => ([], [], some [1, 2, 3, 5])
  | 17 => ([], [], some [1, 2, 3, 5])
  | 18 => ([], [], some [1, 2, 3, 58])
  | 19 => ([], [], some [1, 2, 3, 62])
  | 20 => ([], [], some [2])
  | 21 => ([], [], some [2])
  | _ => ([], [], none)
theorem b50 {ags : List AV} {row : Option (List DV)} {r : AV} {row' nw : Option (List DV)} (hal : ags.length ≤ 70) (hrow : row'.isSome = true → row.isSome = true) (h : xwp Try.prog x50 (retK [.cell 2 (some 4)] row.isSome r row' nw) (St.init ags row)) : Good Try.prog 50 ags row r row' nw :=
  good_of_body' (md := md50) (od := od50) Try.f50 (by kernel_rfl) (by kernel_rfl) (by kernel_rfl) (by kernel_rfl) (by kernel_rfl) hal hrow h

noncomputable def firstW (t : T) : List Int := setWs (firstL (L t))
theorem firstW_ok (t : T) : okWs (firstW t) ∧ ∀ y, y < 256 → (inWs (firstW t) y = true ↔ ∃ w, L t (y :: w)) := by
  obtain ⟨h1, h2⟩ := setWs_ok (firstL_lt (L t))
  refine ⟨h1, fun y hy => ?_⟩
  unfold firstW
  rw [h2 y hy, mem_firstL]
  exact ⟨fun h => h.2, fun h => ⟨hy, h⟩⟩
theorem words4 {ws : List Int} (h : okWs ws) : ∃ w0 w1 w2 w3, ws = [w0, w1, w2, w3] ∧ okW w0 ∧ okW w1 ∧ okW w2 ∧ okW w3 := by
  match ws, h.1, h.2 with
  | [w0, w1, w2, w3], _, h2 => exact ⟨w0, w1, w2, w3, rfl, h2 w0 (by simp), h2 w1 (by simp), h2 w2 (by simp), h2 w3 (by simp)⟩
set_option maxRecDepth 100000
set_option maxHeartbeats 4000000
attribute [local irreducible] W E R KP thenK blockK retK Good xwp aRun
theorem first50_good : ∀ (n : Nat) (t : T), t.cnt ≤ n → n ≤ 300000 → okT t → Good Try.prog 50 [nodeA t] none (.agg (encW (firstW t))) none none := by
  intro n
  induction n with
  | zero => intro t ht; have := cnt_pos t; omega
  | succ n ih =>
  intro t ht hc hok
  have hnn := none51_good 300000 t (by omega) (by omega) hok
  have hnL := nnT_L t hok
  have hS := okT_S hok
  have hfw := firstW_ok t
  have hdef : firstW t = setWs (firstL (L t)) := rfl
  obtain ⟨k, a, b, c, d, mn, mx, subs⟩ := t
  have hR := okT_R hok
  have hoks := okT_subs hok
  have hpl := okT_plain hok
  have hcs : ∀ i (h : i < subs.length), subs[i].cnt ≤ n := fun i h => by
    have := cntL_get subs i h
    simp only [T.cnt] at ht
    omega
  have ih' : ∀ i (h : i < subs.length), Good Try.prog 50 [nodeA subs[i]] none (.agg (encW (firstW subs[i]))) none none := fun i h => ih _ (hcs i h) (by omega) (okL_get subs i h hoks)
  have hnu : ∀ i (h : i < subs.length), Good Try.prog 72 [nodeA subs[i]] none (.b (nullS subs[i])) none none := fun i h => null72_good _ (by have := hcs i h; omega) (okL_get subs i h hoks)
  have hlen : subs.length ≤ 300000 := by
    have := cntL_len subs
    simp only [T.cnt] at ht
    omega
  have e0 : nodeA (.node k a b c d mn mx subs) = .agg [.i k, .d (.val (.int .u64 a)), .d (.val (.int .u64 b)), .d (.val (.int .u64 c)), .d (.val (.int .u64 d)), .i mn, .i mx, .d (.sl (encL subs) subs.length)] := rfl
  have hkind := (plainT_kind hpl).1
  have hk5 : k = 5 → ∃ u, subs = [u] := fun h5 => by subst h5; exact plainT_5 hpl
  rw [e0] at hnn
  rw [e0]
  rcases Bool.eq_false_or_eq_true (nnT (.node k a b c d mn mx subs)) with hq | hq
  · rw [hq] at hnn
    have e : firstW (.node k a b c d mn mx subs) = [0, 0, 0, 0] := by
      rw [hdef, firstL_none (hnL.1 hq)]; rfl
    rw [e]
    refine b50 (by simp) (by simp) (w_init ?_)
    unfold x50
    repeat' (first
    | (apply r_mvV; rfl)
    | (apply r_mvP; rfl)
    | (apply r_mvPL; rfl)
    | (apply r_mvS; rfl)
    | (apply r_mvSL; rfl)
    | (apply r_mvA; rfl)
    | (apply r_mvT; rfl)
    | (apply r_mvF; rfl)
    | (apply r_mvD; rfl)
    | (apply r_faddD; rfl)
    | (apply r_faddL; rfl)
    | (apply r_l; apply ld_kind; assumption; rfl)
    | (apply r_l; apply ld_mn; assumption; rfl)
    | (apply r_l; apply ld_mx; assumption; rfl)
    | (apply r_l; apply ld_subs; assumption; rfl)
    | (apply r_l; apply ld_set; assumption; rfl)
    | (apply r_l; apply ld_node; assumption; rfl)
    | (apply r_l; apply ld_kind'; assumption; rfl)
    | (apply r_l; apply ld_mn'; assumption; rfl)
    | (apply r_l; apply ld_mx'; assumption; rfl)
    | (apply r_l; apply ld_subs'; assumption; rfl)
    | (apply r_l; apply ld_node'; assumption; rfl)
    | (apply r_ldL (v := .agg [.i k, .d (.val (.int .u64 a)), .d (.val (.int .u64 b)), .d (.val (.int .u64 c)), .d (.val (.int .u64 d)), .i mn, .i mx, .d (.sl (encL subs) subs.length)]); rfl; rfl; rfl)
    | (apply r_callA; rfl; rfl; exact hnn)
    | (apply r_p (v := .agg [.d (.val (.int .u64 0)), .d (.val (.int .u64 0)), .d (.val (.int .u64 0)), .d (.val (.int .u64 0))]); rfl)
    | (apply r_ldL (v := .agg [.d (.val (.int .u64 0)), .d (.val (.int .u64 0)), .d (.val (.int .u64 0)), .d (.val (.int .u64 0))]); rfl; rfl; rfl)
    | (apply r_ldL; rfl; rfl; rfl)
    | (apply r_eql; rfl; rfl; (first | (apply decide_eq_true; omega) | (apply decide_eq_false; omega) | rfl))
    | (apply r_neq; rfl; rfl; (first | (apply decide_eq_true; omega) | (apply decide_eq_false; omega) | rfl))
    | (apply r_lss; rfl; rfl; (first | (apply decide_eq_true; omega) | (apply decide_eq_false; omega) | rfl))
    | (apply r_add; rfl; rfl; rfl; omega)
    | (apply r_not; rfl; rfl)
    | (apply r_lenD; rfl)
    | (apply r_lenL; rfl)
    | (apply r_len0; rfl)
    | (apply r_alloc; ((conv => lhs; simp only [Nat.reduceAdd]) <;> rfl); rfl)
    | (apply r_box; ((conv => lhs; simp only [Nat.reduceAdd]) <;> rfl); rfl; rfl; rfl)
    | (apply r_stL; rfl; rfl; rfl; rfl; (first | rfl | (simp only [z_nil, z_add] <;> rfl)); rfl; rfl)
    | (apply r_p; rfl)
    | (apply r_nilK)
    | (apply r_nil)
    | (apply k_V; rfl)
    | (apply k_P; rfl)
    | (apply k_PL; rfl)
    | (apply k_S; rfl)
    | (apply k_SL; rfl)
    | (apply k_A; rfl)
    | (apply k_T; rfl)
    | (apply k_F; rfl)
    | (apply k_D; rfl; rotate_left; rfl)
    | (apply k_nil)
    | (apply e_ret (vs := [.d (.val _)]); rfl)
    | (apply e_ret; rfl)
    | (apply e_ret' (vs := [.d (.val _)]); rfl)
    | (apply e_ret'; rfl)
    | (apply w_seq)
    | (apply w_ops; ((conv => lhs; simp only [Nat.reduceAdd]) <;> rfl))
    | (apply w_condT; rfl)
    | (apply w_condF; rfl)
    | ((apply w_condS; rfl) <;> (intro h; try simp only [decide_eq_true_eq, decide_eq_false_iff_not, Bool.not_eq_true, Bool.not_eq_false] at h))
    | (apply e_thenN)
    | (apply w_block)
    | (apply e_thenR)
    | (apply e_thenX)
    | (apply e_blkN)
    | (apply e_blkR)
    | (apply e_blkE)
    | (apply w_exit)
    | (apply w_ret)
    | (apply w_skip)
    | (apply e_blkE'; rfl))
    exact .data _ rfl
  rw [hq] at hnn
  have hsome : ¬ ∀ w, ¬ L (.node k a b c d mn mx subs) w := fun h => by rw [hnL.2 h] at hq; cases hq
  by_cases h2 : k = 2
  · have e : firstW (.node k a b c d mn mx subs) = [a, b, c, d] := by
      refine words_ext hfw.1 ⟨rfl, fun w hw => ?_⟩ fun y hy => ?_
      · simp only [List.mem_cons, List.not_mem_nil, or_false] at hw
        rcases hw with rfl | rfl | rfl | rfl
        · exact hS.1
        · exact hS.2.1
        · exact hS.2.2.1
        · exact hS.2.2.2
      · rw [Bool.eq_iff_iff, hfw.2 y hy]
        subst h2
        constructor
        · rintro ⟨w, hw⟩
          rw [L_k2] at hw
          obtain ⟨x, e, hx⟩ := hw
          simp only [List.cons.injEq] at e
          obtain ⟨rfl, rfl⟩ := e
          exact hx
        · intro hx; exact ⟨[], L_k2.2 ⟨y, rfl, hx⟩⟩
    rw [e]
    refine b50 (by simp) (by simp) (w_init ?_)
    unfold x50
    repeat' (first
    | (apply r_mvV; rfl)
    | (apply r_mvP; rfl)
    | (apply r_mvPL; rfl)
    | (apply r_mvS; rfl)
    | (apply r_mvSL; rfl)
    | (apply r_mvA; rfl)
    | (apply r_mvT; rfl)
    | (apply r_mvF; rfl)
    | (apply r_mvD; rfl)
    | (apply r_faddD; rfl)
    | (apply r_faddL; rfl)
    | (apply r_l; apply ld_kind; assumption; rfl)
    | (apply r_l; apply ld_mn; assumption; rfl)
    | (apply r_l; apply ld_mx; assumption; rfl)
    | (apply r_l; apply ld_subs; assumption; rfl)
    | (apply r_l; apply ld_set; assumption; rfl)
    | (apply r_l; apply ld_node; assumption; rfl)
    | (apply r_l; apply ld_kind'; assumption; rfl)
    | (apply r_l; apply ld_mn'; assumption; rfl)
    | (apply r_l; apply ld_mx'; assumption; rfl)
    | (apply r_l; apply ld_subs'; assumption; rfl)
    | (apply r_l; apply ld_node'; assumption; rfl)
    | (apply r_ldL (v := .agg [.i k, .d (.val (.int .u64 a)), .d (.val (.int .u64 b)), .d (.val (.int .u64 c)), .d (.val (.int .u64 d)), .i mn, .i mx, .d (.sl (encL subs) subs.length)]); rfl; rfl; rfl)
    | (apply r_callA; rfl; rfl; exact hnn)
    | (apply r_ldL (v := .agg [.d (.val (.int .u64 a)), .d (.val (.int .u64 b)), .d (.val (.int .u64 c)), .d (.val (.int .u64 d))]); rfl; rfl; rfl)
    | (apply r_ldL; rfl; rfl; rfl)
    | (apply r_eql; rfl; rfl; (first | (apply decide_eq_true; omega) | (apply decide_eq_false; omega) | rfl))
    | (apply r_neq; rfl; rfl; (first | (apply decide_eq_true; omega) | (apply decide_eq_false; omega) | rfl))
    | (apply r_lss; rfl; rfl; (first | (apply decide_eq_true; omega) | (apply decide_eq_false; omega) | rfl))
    | (apply r_add; rfl; rfl; rfl; omega)
    | (apply r_not; rfl; rfl)
    | (apply r_lenD; rfl)
    | (apply r_lenL; rfl)
    | (apply r_len0; rfl)
    | (apply r_alloc; ((conv => lhs; simp only [Nat.reduceAdd]) <;> rfl); rfl)
    | (apply r_box; ((conv => lhs; simp only [Nat.reduceAdd]) <;> rfl); rfl; rfl; rfl)
    | (apply r_stL; rfl; rfl; rfl; rfl; (first | rfl | (simp only [z_nil, z_add] <;> rfl)); rfl; rfl)
    | (apply r_p; rfl)
    | (apply r_nilK)
    | (apply r_nil)
    | (apply k_V; rfl)
    | (apply k_P; rfl)
    | (apply k_PL; rfl)
    | (apply k_S; rfl)
    | (apply k_SL; rfl)
    | (apply k_A; rfl)
    | (apply k_T; rfl)
    | (apply k_F; rfl)
    | (apply k_D; rfl; rotate_left; rfl)
    | (apply k_nil)
    | (apply e_ret (vs := [.d (.val _)]); rfl)
    | (apply e_ret; rfl)
    | (apply e_ret' (vs := [.d (.val _)]); rfl)
    | (apply e_ret'; rfl)
    | (apply w_seq)
    | (apply w_ops; ((conv => lhs; simp only [Nat.reduceAdd]) <;> rfl))
    | (apply w_condT; rfl)
    | (apply w_condF; rfl)
    | ((apply w_condS; rfl) <;> (intro h; try simp only [decide_eq_true_eq, decide_eq_false_iff_not, Bool.not_eq_true, Bool.not_eq_false] at h))
    | (apply e_thenN)
    | (apply w_block)
    | (apply e_thenR)
    | (apply e_thenX)
    | (apply e_blkN)
    | (apply e_blkR)
    | (apply e_blkE)
    | (apply w_exit)
    | (apply w_ret)
    | (apply w_skip)
    | (apply e_blkE'; rfl))
    exact .data _ rfl
  by_cases h3 : k = 3
  · have hall : ∀ j (h : j < subs.length), ∃ w, L subs[j] w := by
      intro j hj
      refine Classical.byContradiction fun hcn => ?_
      refine hsome fun w hw => ?_
      subst h3
      rw [L_k3] at hw
      have key : ∀ (l : List T) (w : List Nat), catL l w → ∀ j (h : j < l.length), ∃ w, L l[j] w := by
        intro l
        induction l with
        | nil => intro w _ j h; simp at h
        | cons t l ih =>
          rintro w ⟨u, v, _, hu, hv⟩ j h
          cases j with
          | zero => exact ⟨u, hu⟩
          | succ j => exact ih v hv j (by simpa using h)
      exact hcn (key subs w hw j hj)
    have hcf := catL_first subs hall
    have hend : ∀ (i : Nat) (bytes : List Nat), (∀ x ∈ bytes, x < 256) → bytes.length ≤ 256 * (i + 1) → i ≤ subs.length → (∀ j (h : j < subs.length), j < i → L subs[j] []) → (∀ y, y < 256 → (y ∈ bytes ↔ ∃ j, ∃ h : j < subs.length, j ≤ i ∧ ∃ w, L subs[j] (y :: w))) → (∀ h : i < subs.length, ¬ L subs[i] []) → setWs bytes = firstW (.node k a b c d mn mx subs) := by
      intro i bytes hb _ hi hnul hmem hlast
      rw [hdef]
      refine first_eq hb fun y hy => ?_
      rw [hmem y hy]
      subst h3
      simp only [L_k3]
      rw [hcf y]
      constructor
      · rintro ⟨j, hj, hji, hw⟩
        exact ⟨j, hj, fun i' hi' hlt => hnul i' hi' (by omega), hw⟩
      · rintro ⟨j, hj, hall2, hw⟩
        refine ⟨j, hj, ?_, hw⟩
        rcases Nat.lt_or_ge i j with h | h
        · exact absurd (hall2 i (by omega) h) (hlast (by omega))
        · exact h
    clear hsome hcf hdef ih ht hok hoks hpl hR hS hnL
    generalize firstW (.node k a b c d mn mx subs) = fw at hfw hend ⊢
    obtain ⟨w0, w1, w2, w3, rfl, _⟩ := words4 hfw.1
    clear hfw
    refine b50 (by simp) (by simp) (w_init ?_)
    unfold x50
    repeat' (first
    | (apply r_mvV; rfl)
    | (apply r_mvP; rfl)
    | (apply r_mvPL; rfl)
    | (apply r_mvS; rfl)
    | (apply r_mvSL; rfl)
    | (apply r_mvA; rfl)
    | (apply r_mvT; rfl)
    | (apply r_mvF; rfl)
    | (apply r_mvD; rfl)
    | (apply r_faddD; rfl)
    | (apply r_faddL; rfl)
    | (apply r_l; apply ld_kind; assumption; rfl)
    | (apply r_l; apply ld_mn; assumption; rfl)
    | (apply r_l; apply ld_mx; assumption; rfl)
    | (apply r_l; apply ld_subs; assumption; rfl)
    | (apply r_l; apply ld_set; assumption; rfl)
    | (apply r_l; apply ld_node; assumption; rfl)
    | (apply r_l; apply ld_kind'; assumption; rfl)
    | (apply r_l; apply ld_mn'; assumption; rfl)
    | (apply r_l; apply ld_mx'; assumption; rfl)
    | (apply r_l; apply ld_subs'; assumption; rfl)
    | (apply r_l; apply ld_node'; assumption; rfl)
    | (apply r_ldL (v := .agg [.i k, .d (.val (.int .u64 a)), .d (.val (.int .u64 b)), .d (.val (.int .u64 c)), .d (.val (.int .u64 d)), .i mn, .i mx, .d (.sl (encL subs) subs.length)]); rfl; rfl; rfl)
    | (apply r_callA; rfl; rfl; exact hnn)
    | (apply r_ldL; rfl; rfl; rfl)
    | (apply r_eql; rfl; rfl; (first | (apply decide_eq_true; omega) | (apply decide_eq_false; omega) | rfl))
    | (apply r_neq; rfl; rfl; (first | (apply decide_eq_true; omega) | (apply decide_eq_false; omega) | rfl))
    | (apply r_lss; rfl; rfl; (first | (apply decide_eq_true; omega) | (apply decide_eq_false; omega) | rfl))
    | (apply r_add; rfl; rfl; rfl; omega)
    | (apply r_not; rfl; rfl)
    | (apply r_lenD; rfl)
    | (apply r_lenL; rfl)
    | (apply r_len0; rfl)
    | (apply r_alloc; ((conv => lhs; simp only [Nat.reduceAdd]) <;> rfl); rfl)
    | (apply r_box; ((conv => lhs; simp only [Nat.reduceAdd]) <;> rfl); rfl; rfl; rfl)
    | (apply r_stL; rfl; rfl; rfl; rfl; (first | rfl | (simp only [z_nil, z_add] <;> rfl)); rfl; rfl)
    | (apply r_p; rfl)
    | (apply r_nilK)
    | (apply r_nil)
    | (apply k_V; rfl)
    | (apply k_P; rfl)
    | (apply k_PL; rfl)
    | (apply k_S; rfl)
    | (apply k_SL; rfl)
    | (apply k_A; rfl)
    | (apply k_T; rfl)
    | (apply k_F; rfl)
    | (apply k_D; rfl; rotate_left; rfl)
    | (apply k_nil)
    | (apply e_ret (vs := [.d (.val _)]); rfl)
    | (apply e_ret; rfl)
    | (apply e_ret' (vs := [.d (.val _)]); rfl)
    | (apply e_ret'; rfl)
    | (apply w_seq)
    | (apply w_ops; ((conv => lhs; simp only [Nat.reduceAdd]) <;> rfl))
    | (apply w_condT; rfl)
    | (apply w_condF; rfl)
    | ((apply w_condS; rfl) <;> (intro h; try simp only [decide_eq_true_eq, decide_eq_false_iff_not, Bool.not_eq_true, Bool.not_eq_false] at h))
    | (apply e_thenN)
    | (apply w_block)
    | (apply e_thenR)
    | (apply e_thenX)
    | (apply e_blkN)
    | (apply e_blkR)
    | (apply e_blkE)
    | (apply w_exit)
    | (apply w_ret)
    | (apply w_skip)
    | (apply e_blkE'; rfl))
    apply w_loopI (ι := Nat × List Nat) (S := fun z => ⟨(((Fr.nil.put 1 (.ptrL 1 0)).put 2 (.ptrL 2 0)).put 3 (.slL 50 0 z.2.length 1)).put 4 (.i z.1), rowsOf [(1, [.i k, .d (.val (.int .u64 a)), .d (.val (.int .u64 b)), .d (.val (.int .u64 c)), .d (.val (.int .u64 d)), .i mn, .i mx, .d (.sl (encL subs) subs.length)]), (2, [.d (.val (.int .u64 0)), .d (.val (.int .u64 0)), .d (.val (.int .u64 0)), .d (.val (.int .u64 0))]), (50, (encI (encJ z.2)).map AV.d)], Frz.buts 100 [2, 50], 100⟩) (m := fun z => subs.length - z.1) (I := fun z => z.1 ≤ subs.length ∧ (∀ x ∈ z.2, x < 256) ∧ z.2.length ≤ 256 * z.1 ∧ (∀ j (h : j < subs.length), j < z.1 → L subs[j] []) ∧ ∀ y, y < 256 → (y ∈ z.2 ↔ ∃ j, ∃ h : j < subs.length, j < z.1 ∧ ∃ w, L subs[j] (y :: w))) (i0 := (0, []))
    · exact ⟨Nat.zero_le _, by simp, by simp, fun j _ h => by omega, fun y _ => ⟨fun h => by simp at h, fun ⟨j, _, h, _⟩ => by omega⟩⟩
    · refine wkM [(50, 1000000)] [50] rfl ?_ ?_ rfl ?_
      · intro p hp
        simp only [List.mem_cons, List.not_mem_nil, or_false] at hp
        rcases hp with rfl | rfl | rfl
        · exact ⟨by omega, .inr ⟨rfl, _, rfl, .data rfl⟩⟩
        · exact ⟨by omega, .inr ⟨rfl, _, rfl, .data rfl⟩⟩
        · exact ⟨by omega, .inl ⟨rfl, rfl⟩⟩
      · intro q hq; simp only [List.mem_cons, List.not_mem_nil, or_false] at hq; rcases hq with rfl | rfl <;> rfl
      · dsimp only
        repeat' (first
    | exact FWk.nil
    | (apply FWk.i; rfl; (first | rfl | omega | (simp; done)))
    | (apply FWk.sl; rfl; rfl; rfl; rfl; omega; rfl)
    | (apply FWk.ptr; rfl; rfl; rfl; omega; rfl)
    | (apply FWk.d; rfl; rfl)
    | (apply FWk.a; rfl; rfl; rfl)
    | (apply FWk.slN; rfl; omega; rfl))
    rintro ⟨i, bytes⟩ K ⟨hi, hb, hbl, hnul, hmem⟩ hK
    dsimp only at hi hb hbl hnul hmem hK ⊢
    rcases Nat.lt_or_ge i subs.length with hlt | hge
    · have hs := NodeAt.sub hlt
      have hg := ih' i hlt
      have hn := hnu i hlt
      have hok2 := firstW_ok subs[i]
      have hna : [nodeA subs[i]].all AV.nrm = true := by rw [List.all_cons, nodeA_nrm]; rfl
      have hnb : nullS subs[i] = true ↔ L subs[i] [] := by simp only [nullS, decide_eq_true_eq]
      obtain ⟨v0, v1, v2, v3, hv, g0, g1, g2, g3⟩ := words4 hok2.1
      rw [hv] at hg hok2
      have h74 := list74_good g0 g1 g2 g3
      unfold setA at h74
      have hm2 : ∀ y, y < 256 → (y ∈ bytes ++ listTo v0 v1 v2 v3 256 ↔ ∃ j, ∃ h : j < subs.length, j < i + 1 ∧ ∃ w, L subs[j] (y :: w)) := by
        intro y hy
        rw [List.mem_append, hmem y hy, mem_listTo]
        have h1 : inG v0 v1 v2 v3 y = true ↔ ∃ w, L subs[i] (y :: w) := hok2.2 y hy
        rw [h1]
        constructor
        · rintro (⟨j, hj, hji, hw⟩ | ⟨_, hw⟩)
          · exact ⟨j, hj, by omega, hw⟩
          · exact ⟨i, hlt, by omega, hw⟩
        · rintro ⟨j, hj, hji, hw⟩
          by_cases e : j = i
          · subst e; exact .inr ⟨hy, hw⟩
          · exact .inl ⟨j, hj, by omega, hw⟩
      have hb2 : ∀ x ∈ bytes ++ listTo v0 v1 v2 v3 256, x < 256 := by
        intro x hx
        rcases List.mem_append.1 hx with hx | hx
        · exact hb x hx
        · exact ((mem_listTo _ _ _ _ x 256).1 hx).1
      have hll := listTo_len v0 v1 v2 v3 256
      have hbl2 : (bytes ++ listTo v0 v1 v2 v3 256).length ≤ 256 * (i + 1) := by rw [List.length_append]; omega
      have hjl : (encJ bytes ++ encJ (listTo v0 v1 v2 v3 256)).length = bytes.length + (listTo v0 v1 v2 v3 256).length := by rw [List.length_append, encJ_len, encJ_len]
      clear hok2 hv g0 g1 g2 g3 ih' hnu
      rcases Bool.eq_false_or_eq_true (nullS subs[i]) with hnq | hnq
      · rw [hnq] at hn hnb
        repeat' (first
    | (apply r_mvV; rfl)
    | (apply r_mvP; rfl)
    | (apply r_mvPL; rfl)
    | (apply r_mvS; rfl)
    | (apply r_mvSL; rfl)
    | (apply r_mvA; rfl)
    | (apply r_mvT; rfl)
    | (apply r_mvF; rfl)
    | (apply r_mvD; rfl)
    | (apply r_faddD; rfl)
    | (apply r_faddL; rfl)
    | (apply r_l; apply ld_kind; assumption; rfl)
    | (apply r_l; apply ld_mn; assumption; rfl)
    | (apply r_l; apply ld_mx; assumption; rfl)
    | (apply r_l; apply ld_subs; assumption; rfl)
    | (apply r_l; apply ld_set; assumption; rfl)
    | (apply r_l; apply ld_node; assumption; rfl)
    | (apply r_l; apply ld_kind'; assumption; rfl)
    | (apply r_l; apply ld_mn'; assumption; rfl)
    | (apply r_l; apply ld_mx'; assumption; rfl)
    | (apply r_l; apply ld_subs'; assumption; rfl)
    | (apply r_l; apply ld_node'; assumption; rfl)
    | (apply r_p; apply ix_sub; rfl; rfl; omega)
    | (apply r_callA (f := 50) (ags := [nodeA subs[i]]); rfl; exact hna; exact hg)
    | (apply r_callA (f := 74); rfl; rfl; exact h74)
    | (apply r_appI (b := 50) (id := 113) (K := encJ bytes) (L := encJ (listTo v0 v1 v2 v3 256)); rfl; rfl; rfl; rfl; rfl; exact encJ_len _; exact encJ_len _; omega)
    | (apply r_callA (f := 72) (ags := [nodeA subs[i]]); rfl; exact hna; exact hn)
    | (apply r_ldL; rfl; rfl; rfl)
    | (apply r_eql; rfl; rfl; (first | (apply decide_eq_true; omega) | (apply decide_eq_false; omega) | rfl))
    | (apply r_neq; rfl; rfl; (first | (apply decide_eq_true; omega) | (apply decide_eq_false; omega) | rfl))
    | (apply r_lss; rfl; rfl; (first | (apply decide_eq_true; omega) | (apply decide_eq_false; omega) | rfl))
    | (apply r_add; rfl; rfl; rfl; omega)
    | (apply r_not; rfl; rfl)
    | (apply r_lenD; rfl)
    | (apply r_lenL; rfl)
    | (apply r_len0; rfl)
    | (apply r_alloc; ((conv => lhs; simp only [Nat.reduceAdd]) <;> rfl); rfl)
    | (apply r_box; ((conv => lhs; simp only [Nat.reduceAdd]) <;> rfl); rfl; rfl; rfl)
    | (apply r_stL; rfl; rfl; rfl; rfl; (first | rfl | (simp only [z_nil, z_add] <;> rfl)); rfl; rfl)
    | (apply r_p; rfl)
    | (apply r_nilK)
    | (apply r_nil)
    | (apply k_V; rfl)
    | (apply k_P; rfl)
    | (apply k_PL; rfl)
    | (apply k_S; rfl)
    | (apply k_SL; rfl)
    | (apply k_A; rfl)
    | (apply k_T; rfl)
    | (apply k_F; rfl)
    | (apply k_D; rfl; rotate_left; rfl)
    | (apply k_nil)
    | (apply e_ret (vs := [.d (.val _)]); rfl)
    | (apply e_ret; rfl)
    | (apply e_ret' (vs := [.d (.val _)]); rfl)
    | (apply e_ret'; rfl)
    | (apply w_seq)
    | (apply w_ops; ((conv => lhs; simp only [Nat.reduceAdd]) <;> rfl))
    | (apply w_condT; rfl)
    | (apply w_condF; rfl)
    | ((apply w_condS; rfl) <;> (intro h; try simp only [decide_eq_true_eq, decide_eq_false_iff_not, Bool.not_eq_true, Bool.not_eq_false] at h))
    | (apply e_thenN)
    | (apply w_block)
    | (apply e_thenR)
    | (apply e_thenX)
    | (apply e_blkN)
    | (apply e_blkR)
    | (apply e_blkE)
    | (apply w_exit)
    | (apply w_ret)
    | (apply w_skip)
    | (apply e_blkE'; rfl))
        apply e_thenK
        apply hK (i + 1, bytes ++ listTo v0 v1 v2 v3 256)
        · refine ⟨by dsimp only; omega, hb2, hbl2, fun j hj hji => ?_, hm2⟩
          by_cases e : j = i
          · subst e; exact hnb.1 rfl
          · exact hnul j hj (by dsimp only at hji; omega)
        · dsimp only; omega
        · dsimp only
          rw [encJ_app]
          refine wkM [(50, 113)] [] rfl ?_ ?_ rfl ?_
          · intro p hp; simp only [List.mem_cons, List.not_mem_nil, or_false] at hp; rcases hp with rfl | rfl | rfl <;> first | exact ⟨by omega, .inr ⟨rfl, _, rfl, .data rfl⟩⟩ | exact ⟨by omega, .inr ⟨rfl, _, rfl, .data encI_isD⟩⟩
          · intro q hq; simp only [List.mem_cons, List.not_mem_nil, or_false] at hq; rcases hq with rfl | rfl <;> rfl
          · rw [List.length_append]
            repeat' (first
    | exact FWk.nil
    | (apply FWk.i; rfl; (first | rfl | omega | (simp; done)))
    | (apply FWk.sl; rfl; rfl; rfl; rfl; omega; rfl)
    | (apply FWk.ptr; rfl; rfl; rfl; omega; rfl)
    | (apply FWk.d; rfl; rfl)
    | (apply FWk.a; rfl; rfl; rfl)
    | (apply FWk.slN; rfl; omega; rfl))
      · rw [hnq] at hn hnb
        have hfin := hend i _ hb2 hbl2 hi (fun j hj hji => hnul j hj hji) (fun y hy => by rw [hm2 y hy]; exact ⟨fun ⟨j, hj, h, hw⟩ => ⟨j, hj, by omega, hw⟩, fun ⟨j, hj, h, hw⟩ => ⟨j, hj, by omega, hw⟩⟩) (fun _ h => by have := hnb.2 h; cases this)
        have h99 := set99_good _ hb2 (by omega)
        rw [hfin] at h99
        rw [encJ_app, List.length_append] at h99
        repeat' (first
    | (apply r_mvV; rfl)
    | (apply r_mvP; rfl)
    | (apply r_mvPL; rfl)
    | (apply r_mvS; rfl)
    | (apply r_mvSL; rfl)
    | (apply r_mvA; rfl)
    | (apply r_mvT; rfl)
    | (apply r_mvF; rfl)
    | (apply r_mvD; rfl)
    | (apply r_faddD; rfl)
    | (apply r_faddL; rfl)
    | (apply r_l; apply ld_kind; assumption; rfl)
    | (apply r_l; apply ld_mn; assumption; rfl)
    | (apply r_l; apply ld_mx; assumption; rfl)
    | (apply r_l; apply ld_subs; assumption; rfl)
    | (apply r_l; apply ld_set; assumption; rfl)
    | (apply r_l; apply ld_node; assumption; rfl)
    | (apply r_l; apply ld_kind'; assumption; rfl)
    | (apply r_l; apply ld_mn'; assumption; rfl)
    | (apply r_l; apply ld_mx'; assumption; rfl)
    | (apply r_l; apply ld_subs'; assumption; rfl)
    | (apply r_l; apply ld_node'; assumption; rfl)
    | (apply r_p; apply ix_sub; rfl; rfl; omega)
    | (apply r_callA (f := 50) (ags := [nodeA subs[i]]); rfl; exact hna; exact hg)
    | (apply r_callA (f := 74); rfl; rfl; exact h74)
    | (apply r_appI (b := 50) (id := 113) (K := encJ bytes) (L := encJ (listTo v0 v1 v2 v3 256)); rfl; rfl; rfl; rfl; rfl; exact encJ_len _; exact encJ_len _; omega)
    | (apply r_callA (f := 72) (ags := [nodeA subs[i]]); rfl; exact hna; exact hn)
    | (apply r_callLI (b := 113) (L := encJ bytes ++ encJ (listTo v0 v1 v2 v3 256)) (us := []); rfl; rfl; exact hjl; exact h99; rfl)
    | (apply r_ldL (v := .agg [.d (.val (.int .u64 w0)), .d (.val (.int .u64 w1)), .d (.val (.int .u64 w2)), .d (.val (.int .u64 w3))]); rfl; rfl; rfl)
    | (apply r_ldL; rfl; rfl; rfl)
    | (apply r_eql; rfl; rfl; (first | (apply decide_eq_true; omega) | (apply decide_eq_false; omega) | rfl))
    | (apply r_neq; rfl; rfl; (first | (apply decide_eq_true; omega) | (apply decide_eq_false; omega) | rfl))
    | (apply r_lss; rfl; rfl; (first | (apply decide_eq_true; omega) | (apply decide_eq_false; omega) | rfl))
    | (apply r_add; rfl; rfl; rfl; omega)
    | (apply r_not; rfl; rfl)
    | (apply r_lenD; rfl)
    | (apply r_lenL; rfl)
    | (apply r_len0; rfl)
    | (apply r_alloc; ((conv => lhs; simp only [Nat.reduceAdd]) <;> rfl); rfl)
    | (apply r_box; ((conv => lhs; simp only [Nat.reduceAdd]) <;> rfl); rfl; rfl; rfl)
    | (apply r_stL; rfl; rfl; rfl; rfl; (first | rfl | (simp only [z_nil, z_add] <;> rfl)); rfl; rfl)
    | (apply r_p; rfl)
    | (apply r_nilK)
    | (apply r_nil)
    | (apply k_V; rfl)
    | (apply k_P; rfl)
    | (apply k_PL; rfl)
    | (apply k_S; rfl)
    | (apply k_SL; rfl)
    | (apply k_A; rfl)
    | (apply k_T; rfl)
    | (apply k_F; rfl)
    | (apply k_D; rfl; rotate_left; rfl)
    | (apply k_nil)
    | (apply e_ret (vs := [.d (.val _)]); rfl)
    | (apply e_ret; rfl)
    | (apply e_ret' (vs := [.d (.val _)]); rfl)
    | (apply e_ret'; rfl)
    | (apply w_seq)
    | (apply w_ops; ((conv => lhs; simp only [Nat.reduceAdd]) <;> rfl))
    | (apply w_condT; rfl)
    | (apply w_condF; rfl)
    | ((apply w_condS; rfl) <;> (intro h; try simp only [decide_eq_true_eq, decide_eq_false_iff_not, Bool.not_eq_true, Bool.not_eq_false] at h))
    | (apply e_thenN)
    | (apply w_block)
    | (apply e_thenR)
    | (apply e_thenX)
    | (apply e_blkN)
    | (apply e_blkR)
    | (apply e_blkE)
    | (apply w_exit)
    | (apply w_ret)
    | (apply w_skip)
    | (apply e_blkE'; rfl))
        exact .data _ rfl
    · have ei : i = subs.length := by omega
      subst ei
      have hfin := hend subs.length bytes hb (by omega) (Nat.le_refl _) hnul (fun y hy => by rw [hmem y hy]; exact ⟨fun ⟨j, hj, h, hw⟩ => ⟨j, hj, by omega, hw⟩, fun ⟨j, hj, h, hw⟩ => ⟨j, hj, by omega, hw⟩⟩) (fun h => by omega)
      have h99 := set99_good bytes hb (by omega)
      rw [hfin] at h99
      repeat' (first
    | (apply r_mvV; rfl)
    | (apply r_mvP; rfl)
    | (apply r_mvPL; rfl)
    | (apply r_mvS; rfl)
    | (apply r_mvSL; rfl)
    | (apply r_mvA; rfl)
    | (apply r_mvT; rfl)
    | (apply r_mvF; rfl)
    | (apply r_mvD; rfl)
    | (apply r_faddD; rfl)
    | (apply r_faddL; rfl)
    | (apply r_l; apply ld_kind; assumption; rfl)
    | (apply r_l; apply ld_mn; assumption; rfl)
    | (apply r_l; apply ld_mx; assumption; rfl)
    | (apply r_l; apply ld_subs; assumption; rfl)
    | (apply r_l; apply ld_set; assumption; rfl)
    | (apply r_l; apply ld_node; assumption; rfl)
    | (apply r_l; apply ld_kind'; assumption; rfl)
    | (apply r_l; apply ld_mn'; assumption; rfl)
    | (apply r_l; apply ld_mx'; assumption; rfl)
    | (apply r_l; apply ld_subs'; assumption; rfl)
    | (apply r_l; apply ld_node'; assumption; rfl)
    | (apply r_callLI (b := 50) (L := encJ bytes) (us := []); rfl; rfl; exact encJ_len _; exact h99; rfl)
    | (apply r_ldL (v := .agg [.d (.val (.int .u64 w0)), .d (.val (.int .u64 w1)), .d (.val (.int .u64 w2)), .d (.val (.int .u64 w3))]); rfl; rfl; rfl)
    | (apply r_ldL; rfl; rfl; rfl)
    | (apply r_eql; rfl; rfl; (first | (apply decide_eq_true; omega) | (apply decide_eq_false; omega) | rfl))
    | (apply r_neq; rfl; rfl; (first | (apply decide_eq_true; omega) | (apply decide_eq_false; omega) | rfl))
    | (apply r_lss; rfl; rfl; (first | (apply decide_eq_true; omega) | (apply decide_eq_false; omega) | rfl))
    | (apply r_add; rfl; rfl; rfl; omega)
    | (apply r_not; rfl; rfl)
    | (apply r_lenD; rfl)
    | (apply r_lenL; rfl)
    | (apply r_len0; rfl)
    | (apply r_alloc; ((conv => lhs; simp only [Nat.reduceAdd]) <;> rfl); rfl)
    | (apply r_box; ((conv => lhs; simp only [Nat.reduceAdd]) <;> rfl); rfl; rfl; rfl)
    | (apply r_stL; rfl; rfl; rfl; rfl; (first | rfl | (simp only [z_nil, z_add] <;> rfl)); rfl; rfl)
    | (apply r_p; rfl)
    | (apply r_nilK)
    | (apply r_nil)
    | (apply k_V; rfl)
    | (apply k_P; rfl)
    | (apply k_PL; rfl)
    | (apply k_S; rfl)
    | (apply k_SL; rfl)
    | (apply k_A; rfl)
    | (apply k_T; rfl)
    | (apply k_F; rfl)
    | (apply k_D; rfl; rotate_left; rfl)
    | (apply k_nil)
    | (apply e_ret (vs := [.d (.val _)]); rfl)
    | (apply e_ret; rfl)
    | (apply e_ret' (vs := [.d (.val _)]); rfl)
    | (apply e_ret'; rfl)
    | (apply w_seq)
    | (apply w_ops; ((conv => lhs; simp only [Nat.reduceAdd]) <;> rfl))
    | (apply w_condT; rfl)
    | (apply w_condF; rfl)
    | ((apply w_condS; rfl) <;> (intro h; try simp only [decide_eq_true_eq, decide_eq_false_iff_not, Bool.not_eq_true, Bool.not_eq_false] at h))
    | (apply e_thenN)
    | (apply w_block)
    | (apply e_thenR)
    | (apply e_thenX)
    | (apply e_blkN)
    | (apply e_blkR)
    | (apply e_blkE)
    | (apply w_exit)
    | (apply w_ret)
    | (apply w_skip)
    | (apply e_blkE'; rfl))
      exact .data _ rfl
  by_cases h4 : k = 4
  · have hend : ∀ (bytes : List Nat), (∀ x ∈ bytes, x < 256) → (∀ y, y < 256 → (y ∈ bytes ↔ ∃ j, ∃ h : j < subs.length, j < subs.length ∧ ∃ w, L subs[j] (y :: w))) → setWs bytes = firstW (.node k a b c d mn mx subs) := by
      intro bytes hb hmem
      rw [hdef]
      refine first_eq hb fun y hy => ?_
      rw [hmem y hy]
      subst h4
      simp only [L_k4]
      rw [altL_first]
      exact ⟨fun ⟨j, hj, _, hw⟩ => ⟨j, hj, hw⟩, fun ⟨j, hj, hw⟩ => ⟨j, hj, hj, hw⟩⟩
    clear hsome hdef ih ht hok hoks hpl hR hS hnL hnu
    generalize firstW (.node k a b c d mn mx subs) = fw at hfw hend ⊢
    obtain ⟨w0, w1, w2, w3, rfl, _⟩ := words4 hfw.1
    clear hfw
    refine b50 (by simp) (by simp) (w_init ?_)
    unfold x50
    repeat' (first
    | (apply r_mvV; rfl)
    | (apply r_mvP; rfl)
    | (apply r_mvPL; rfl)
    | (apply r_mvS; rfl)
    | (apply r_mvSL; rfl)
    | (apply r_mvA; rfl)
    | (apply r_mvT; rfl)
    | (apply r_mvF; rfl)
    | (apply r_mvD; rfl)
    | (apply r_faddD; rfl)
    | (apply r_faddL; rfl)
    | (apply r_l; apply ld_kind; assumption; rfl)
    | (apply r_l; apply ld_mn; assumption; rfl)
    | (apply r_l; apply ld_mx; assumption; rfl)
    | (apply r_l; apply ld_subs; assumption; rfl)
    | (apply r_l; apply ld_set; assumption; rfl)
    | (apply r_l; apply ld_node; assumption; rfl)
    | (apply r_l; apply ld_kind'; assumption; rfl)
    | (apply r_l; apply ld_mn'; assumption; rfl)
    | (apply r_l; apply ld_mx'; assumption; rfl)
    | (apply r_l; apply ld_subs'; assumption; rfl)
    | (apply r_l; apply ld_node'; assumption; rfl)
    | (apply r_ldL (v := .agg [.i k, .d (.val (.int .u64 a)), .d (.val (.int .u64 b)), .d (.val (.int .u64 c)), .d (.val (.int .u64 d)), .i mn, .i mx, .d (.sl (encL subs) subs.length)]); rfl; rfl; rfl)
    | (apply r_callA; rfl; rfl; exact hnn)
    | (apply r_ldL; rfl; rfl; rfl)
    | (apply r_eql; rfl; rfl; (first | (apply decide_eq_true; omega) | (apply decide_eq_false; omega) | rfl))
    | (apply r_neq; rfl; rfl; (first | (apply decide_eq_true; omega) | (apply decide_eq_false; omega) | rfl))
    | (apply r_lss; rfl; rfl; (first | (apply decide_eq_true; omega) | (apply decide_eq_false; omega) | rfl))
    | (apply r_add; rfl; rfl; rfl; omega)
    | (apply r_not; rfl; rfl)
    | (apply r_lenD; rfl)
    | (apply r_lenL; rfl)
    | (apply r_len0; rfl)
    | (apply r_alloc; ((conv => lhs; simp only [Nat.reduceAdd]) <;> rfl); rfl)
    | (apply r_box; ((conv => lhs; simp only [Nat.reduceAdd]) <;> rfl); rfl; rfl; rfl)
    | (apply r_stL; rfl; rfl; rfl; rfl; (first | rfl | (simp only [z_nil, z_add] <;> rfl)); rfl; rfl)
    | (apply r_p; rfl)
    | (apply r_nilK)
    | (apply r_nil)
    | (apply k_V; rfl)
    | (apply k_P; rfl)
    | (apply k_PL; rfl)
    | (apply k_S; rfl)
    | (apply k_SL; rfl)
    | (apply k_A; rfl)
    | (apply k_T; rfl)
    | (apply k_F; rfl)
    | (apply k_D; rfl; rotate_left; rfl)
    | (apply k_nil)
    | (apply e_ret (vs := [.d (.val _)]); rfl)
    | (apply e_ret; rfl)
    | (apply e_ret' (vs := [.d (.val _)]); rfl)
    | (apply e_ret'; rfl)
    | (apply w_seq)
    | (apply w_ops; ((conv => lhs; simp only [Nat.reduceAdd]) <;> rfl))
    | (apply w_condT; rfl)
    | (apply w_condF; rfl)
    | ((apply w_condS; rfl) <;> (intro h; try simp only [decide_eq_true_eq, decide_eq_false_iff_not, Bool.not_eq_true, Bool.not_eq_false] at h))
    | (apply e_thenN)
    | (apply w_block)
    | (apply e_thenR)
    | (apply e_thenX)
    | (apply e_blkN)
    | (apply e_blkR)
    | (apply e_blkE)
    | (apply w_exit)
    | (apply w_ret)
    | (apply w_skip)
    | (apply e_blkE'; rfl))
    apply w_loopI (ι := Nat × List Nat) (S := fun z => ⟨(((Fr.nil.put 1 (.ptrL 1 0)).put 2 (.ptrL 2 0)).put 3 (.slL 50 0 z.2.length 1)).put 5 (.i z.1), rowsOf [(1, [.i k, .d (.val (.int .u64 a)), .d (.val (.int .u64 b)), .d (.val (.int .u64 c)), .d (.val (.int .u64 d)), .i mn, .i mx, .d (.sl (encL subs) subs.length)]), (2, [.d (.val (.int .u64 0)), .d (.val (.int .u64 0)), .d (.val (.int .u64 0)), .d (.val (.int .u64 0))]), (50, (encI (encJ z.2)).map AV.d)], Frz.buts 100 [2, 50], 100⟩) (m := fun z => subs.length - z.1) (I := fun z => z.1 ≤ subs.length ∧ (∀ x ∈ z.2, x < 256) ∧ z.2.length ≤ 256 * z.1 ∧ ∀ y, y < 256 → (y ∈ z.2 ↔ ∃ j, ∃ h : j < subs.length, j < z.1 ∧ ∃ w, L subs[j] (y :: w))) (i0 := (0, []))
    · exact ⟨Nat.zero_le _, by simp, by simp, fun y _ => ⟨fun h => by simp at h, fun ⟨j, _, h, _⟩ => by omega⟩⟩
    · refine wkM [(50, 1000000)] [50] rfl ?_ ?_ rfl ?_
      · intro p hp
        simp only [List.mem_cons, List.not_mem_nil, or_false] at hp
        rcases hp with rfl | rfl | rfl
        · exact ⟨by omega, .inr ⟨rfl, _, rfl, .data rfl⟩⟩
        · exact ⟨by omega, .inr ⟨rfl, _, rfl, .data rfl⟩⟩
        · exact ⟨by omega, .inl ⟨rfl, rfl⟩⟩
      · intro q hq; simp only [List.mem_cons, List.not_mem_nil, or_false] at hq; rcases hq with rfl | rfl <;> rfl
      · dsimp only
        repeat' (first
    | exact FWk.nil
    | (apply FWk.i; rfl; (first | rfl | omega | (simp; done)))
    | (apply FWk.sl; rfl; rfl; rfl; rfl; omega; rfl)
    | (apply FWk.ptr; rfl; rfl; rfl; omega; rfl)
    | (apply FWk.d; rfl; rfl)
    | (apply FWk.a; rfl; rfl; rfl)
    | (apply FWk.slN; rfl; omega; rfl))
    rintro ⟨i, bytes⟩ K ⟨hi, hb, hbl, hmem⟩ hK
    dsimp only at hi hb hbl hmem hK ⊢
    rcases Nat.lt_or_ge i subs.length with hlt | hge
    · have hs := NodeAt.sub hlt
      have hg := ih' i hlt
      have hok2 := firstW_ok subs[i]
      have hna : [nodeA subs[i]].all AV.nrm = true := by rw [List.all_cons, nodeA_nrm]; rfl
      obtain ⟨v0, v1, v2, v3, hv, g0, g1, g2, g3⟩ := words4 hok2.1
      rw [hv] at hg hok2
      have h74 := list74_good g0 g1 g2 g3
      unfold setA at h74
      have hm2 : ∀ y, y < 256 → (y ∈ bytes ++ listTo v0 v1 v2 v3 256 ↔ ∃ j, ∃ h : j < subs.length, j < i + 1 ∧ ∃ w, L subs[j] (y :: w)) := by
        intro y hy
        rw [List.mem_append, hmem y hy, mem_listTo]
        have h1 : inG v0 v1 v2 v3 y = true ↔ ∃ w, L subs[i] (y :: w) := hok2.2 y hy
        rw [h1]
        constructor
        · rintro (⟨j, hj, hji, hw⟩ | ⟨_, hw⟩)
          · exact ⟨j, hj, by omega, hw⟩
          · exact ⟨i, hlt, by omega, hw⟩
        · rintro ⟨j, hj, hji, hw⟩
          by_cases e : j = i
          · subst e; exact .inr ⟨hy, hw⟩
          · exact .inl ⟨j, hj, by omega, hw⟩
      have hb2 : ∀ x ∈ bytes ++ listTo v0 v1 v2 v3 256, x < 256 := by
        intro x hx
        rcases List.mem_append.1 hx with hx | hx
        · exact hb x hx
        · exact ((mem_listTo _ _ _ _ x 256).1 hx).1
      have hll := listTo_len v0 v1 v2 v3 256
      have hbl2 : (bytes ++ listTo v0 v1 v2 v3 256).length ≤ 256 * (i + 1) := by rw [List.length_append]; omega
      clear hok2 hv g0 g1 g2 g3 ih'
      repeat' (first
    | (apply r_mvV; rfl)
    | (apply r_mvP; rfl)
    | (apply r_mvPL; rfl)
    | (apply r_mvS; rfl)
    | (apply r_mvSL; rfl)
    | (apply r_mvA; rfl)
    | (apply r_mvT; rfl)
    | (apply r_mvF; rfl)
    | (apply r_mvD; rfl)
    | (apply r_faddD; rfl)
    | (apply r_faddL; rfl)
    | (apply r_l; apply ld_kind; assumption; rfl)
    | (apply r_l; apply ld_mn; assumption; rfl)
    | (apply r_l; apply ld_mx; assumption; rfl)
    | (apply r_l; apply ld_subs; assumption; rfl)
    | (apply r_l; apply ld_set; assumption; rfl)
    | (apply r_l; apply ld_node; assumption; rfl)
    | (apply r_l; apply ld_kind'; assumption; rfl)
    | (apply r_l; apply ld_mn'; assumption; rfl)
    | (apply r_l; apply ld_mx'; assumption; rfl)
    | (apply r_l; apply ld_subs'; assumption; rfl)
    | (apply r_l; apply ld_node'; assumption; rfl)
    | (apply r_p; apply ix_sub; rfl; rfl; omega)
    | (apply r_callA (f := 50) (ags := [nodeA subs[i]]); rfl; exact hna; exact hg)
    | (apply r_callA (f := 74); rfl; rfl; exact h74)
    | (apply r_appI (b := 50) (id := 113) (K := encJ bytes) (L := encJ (listTo v0 v1 v2 v3 256)); rfl; rfl; rfl; rfl; rfl; exact encJ_len _; exact encJ_len _; omega)
    | (apply r_ldL; rfl; rfl; rfl)
    | (apply r_eql; rfl; rfl; (first | (apply decide_eq_true; omega) | (apply decide_eq_false; omega) | rfl))
    | (apply r_neq; rfl; rfl; (first | (apply decide_eq_true; omega) | (apply decide_eq_false; omega) | rfl))
    | (apply r_lss; rfl; rfl; (first | (apply decide_eq_true; omega) | (apply decide_eq_false; omega) | rfl))
    | (apply r_add; rfl; rfl; rfl; omega)
    | (apply r_not; rfl; rfl)
    | (apply r_lenD; rfl)
    | (apply r_lenL; rfl)
    | (apply r_len0; rfl)
    | (apply r_alloc; ((conv => lhs; simp only [Nat.reduceAdd]) <;> rfl); rfl)
    | (apply r_box; ((conv => lhs; simp only [Nat.reduceAdd]) <;> rfl); rfl; rfl; rfl)
    | (apply r_stL; rfl; rfl; rfl; rfl; (first | rfl | (simp only [z_nil, z_add] <;> rfl)); rfl; rfl)
    | (apply r_p; rfl)
    | (apply r_nilK)
    | (apply r_nil)
    | (apply k_V; rfl)
    | (apply k_P; rfl)
    | (apply k_PL; rfl)
    | (apply k_S; rfl)
    | (apply k_SL; rfl)
    | (apply k_A; rfl)
    | (apply k_T; rfl)
    | (apply k_F; rfl)
    | (apply k_D; rfl; rotate_left; rfl)
    | (apply k_nil)
    | (apply e_ret (vs := [.d (.val _)]); rfl)
    | (apply e_ret; rfl)
    | (apply e_ret' (vs := [.d (.val _)]); rfl)
    | (apply e_ret'; rfl)
    | (apply w_seq)
    | (apply w_ops; ((conv => lhs; simp only [Nat.reduceAdd]) <;> rfl))
    | (apply w_condT; rfl)
    | (apply w_condF; rfl)
    | ((apply w_condS; rfl) <;> (intro h; try simp only [decide_eq_true_eq, decide_eq_false_iff_not, Bool.not_eq_true, Bool.not_eq_false] at h))
    | (apply e_thenN)
    | (apply w_block)
    | (apply e_thenR)
    | (apply e_thenX)
    | (apply e_blkN)
    | (apply e_blkR)
    | (apply e_blkE)
    | (apply w_exit)
    | (apply w_ret)
    | (apply w_skip)
    | (apply e_blkE'; rfl))
      apply e_thenK
      apply hK (i + 1, bytes ++ listTo v0 v1 v2 v3 256)
      · exact ⟨by dsimp only; omega, hb2, hbl2, hm2⟩
      · dsimp only; omega
      · dsimp only
        rw [encJ_app]
        refine wkM [(50, 113)] [] rfl ?_ ?_ rfl ?_
        · intro p hp; simp only [List.mem_cons, List.not_mem_nil, or_false] at hp; rcases hp with rfl | rfl | rfl <;> first | exact ⟨by omega, .inr ⟨rfl, _, rfl, .data rfl⟩⟩ | exact ⟨by omega, .inr ⟨rfl, _, rfl, .data encI_isD⟩⟩
        · intro q hq; simp only [List.mem_cons, List.not_mem_nil, or_false] at hq; rcases hq with rfl | rfl <;> rfl
        · rw [List.length_append]
          repeat' (first
    | exact FWk.nil
    | (apply FWk.i; rfl; (first | rfl | omega | (simp; done)))
    | (apply FWk.sl; rfl; rfl; rfl; rfl; omega; rfl)
    | (apply FWk.ptr; rfl; rfl; rfl; omega; rfl)
    | (apply FWk.d; rfl; rfl)
    | (apply FWk.a; rfl; rfl; rfl)
    | (apply FWk.slN; rfl; omega; rfl))
    · have ei : i = subs.length := by omega
      subst ei
      have hfin := hend bytes hb hmem
      have h99 := set99_good bytes hb (by omega)
      rw [hfin] at h99
      repeat' (first
    | (apply r_mvV; rfl)
    | (apply r_mvP; rfl)
    | (apply r_mvPL; rfl)
    | (apply r_mvS; rfl)
    | (apply r_mvSL; rfl)
    | (apply r_mvA; rfl)
    | (apply r_mvT; rfl)
    | (apply r_mvF; rfl)
    | (apply r_mvD; rfl)
    | (apply r_faddD; rfl)
    | (apply r_faddL; rfl)
    | (apply r_l; apply ld_kind; assumption; rfl)
    | (apply r_l; apply ld_mn; assumption; rfl)
    | (apply r_l; apply ld_mx; assumption; rfl)
    | (apply r_l; apply ld_subs; assumption; rfl)
    | (apply r_l; apply ld_set; assumption; rfl)
    | (apply r_l; apply ld_node; assumption; rfl)
    | (apply r_l; apply ld_kind'; assumption; rfl)
    | (apply r_l; apply ld_mn'; assumption; rfl)
    | (apply r_l; apply ld_mx'; assumption; rfl)
    | (apply r_l; apply ld_subs'; assumption; rfl)
    | (apply r_l; apply ld_node'; assumption; rfl)
    | (apply r_callLI (b := 50) (L := encJ bytes) (us := []); rfl; rfl; exact encJ_len _; exact h99; rfl)
    | (apply r_ldL (v := .agg [.d (.val (.int .u64 w0)), .d (.val (.int .u64 w1)), .d (.val (.int .u64 w2)), .d (.val (.int .u64 w3))]); rfl; rfl; rfl)
    | (apply r_ldL; rfl; rfl; rfl)
    | (apply r_eql; rfl; rfl; (first | (apply decide_eq_true; omega) | (apply decide_eq_false; omega) | rfl))
    | (apply r_neq; rfl; rfl; (first | (apply decide_eq_true; omega) | (apply decide_eq_false; omega) | rfl))
    | (apply r_lss; rfl; rfl; (first | (apply decide_eq_true; omega) | (apply decide_eq_false; omega) | rfl))
    | (apply r_add; rfl; rfl; rfl; omega)
    | (apply r_not; rfl; rfl)
    | (apply r_lenD; rfl)
    | (apply r_lenL; rfl)
    | (apply r_len0; rfl)
    | (apply r_alloc; ((conv => lhs; simp only [Nat.reduceAdd]) <;> rfl); rfl)
    | (apply r_box; ((conv => lhs; simp only [Nat.reduceAdd]) <;> rfl); rfl; rfl; rfl)
    | (apply r_stL; rfl; rfl; rfl; rfl; (first | rfl | (simp only [z_nil, z_add] <;> rfl)); rfl; rfl)
    | (apply r_p; rfl)
    | (apply r_nilK)
    | (apply r_nil)
    | (apply k_V; rfl)
    | (apply k_P; rfl)
    | (apply k_PL; rfl)
    | (apply k_S; rfl)
    | (apply k_SL; rfl)
    | (apply k_A; rfl)
    | (apply k_T; rfl)
    | (apply k_F; rfl)
    | (apply k_D; rfl; rotate_left; rfl)
    | (apply k_nil)
    | (apply e_ret (vs := [.d (.val _)]); rfl)
    | (apply e_ret; rfl)
    | (apply e_ret' (vs := [.d (.val _)]); rfl)
    | (apply e_ret'; rfl)
    | (apply w_seq)
    | (apply w_ops; ((conv => lhs; simp only [Nat.reduceAdd]) <;> rfl))
    | (apply w_condT; rfl)
    | (apply w_condF; rfl)
    | ((apply w_condS; rfl) <;> (intro h; try simp only [decide_eq_true_eq, decide_eq_false_iff_not, Bool.not_eq_true, Bool.not_eq_false] at h))
    | (apply e_thenN)
    | (apply w_block)
    | (apply e_thenR)
    | (apply e_thenX)
    | (apply e_blkN)
    | (apply e_blkR)
    | (apply e_blkE)
    | (apply w_exit)
    | (apply w_ret)
    | (apply w_skip)
    | (apply e_blkE'; rfl))
      exact .data _ rfl
  have h990 := set99_good [] (by simp) (by simp)
  by_cases h5 : k = 5 ∧ mx ≠ 0
  · obtain ⟨h5, hx⟩ := h5
    obtain ⟨u, hu⟩ := hk5 h5
    have hl1 : 0 < subs.length := by rw [hu]; simp
    have hg := ih' 0 hl1
    have hs := NodeAt.sub hl1
    have hu0 : subs[0] = u := by simp [hu]
    rw [hu0] at hg hs
    have hr5 := hR h5
    have e : firstW (.node k a b c d mn mx subs) = firstW u := by
      rw [hdef]
      refine (setWs_same (firstL_lt _) (firstL_lt _) fun y hy => ?_)
      rw [mem_firstL, mem_firstL]
      refine and_congr Iff.rfl ?_
      subst h5
      simp only [L_k5]
      rw [hu]
      have : ∀ w, fstL [u] w ↔ L u w := fun w => by rw [fstL]
      simp only [powL_congr this]
      exact rep_first hr5.1.1 (by omega) hx y
    rw [e]
    have hok2 := firstW_ok u
    obtain ⟨w0, w1, w2, w3, hv, _⟩ := words4 hok2.1
    rw [hv] at hg ⊢
    have hna : [nodeA u].all AV.nrm = true := by rw [List.all_cons, nodeA_nrm]; rfl
    clear hu0 hu hk5 ih' hnu hsome hdef ih ht hok hoks hpl hR hS hnL e hok2 hv hfw
    refine b50 (by simp) (by simp) (w_init ?_)
    unfold x50
    repeat' (first
    | (apply r_mvV; rfl)
    | (apply r_mvP; rfl)
    | (apply r_mvPL; rfl)
    | (apply r_mvS; rfl)
    | (apply r_mvSL; rfl)
    | (apply r_mvA; rfl)
    | (apply r_mvT; rfl)
    | (apply r_mvF; rfl)
    | (apply r_mvD; rfl)
    | (apply r_faddD; rfl)
    | (apply r_faddL; rfl)
    | (apply r_l; apply ld_kind; assumption; rfl)
    | (apply r_l; apply ld_mn; assumption; rfl)
    | (apply r_l; apply ld_mx; assumption; rfl)
    | (apply r_l; apply ld_subs; assumption; rfl)
    | (apply r_l; apply ld_set; assumption; rfl)
    | (apply r_l; apply ld_node; assumption; rfl)
    | (apply r_l; apply ld_kind'; assumption; rfl)
    | (apply r_l; apply ld_mn'; assumption; rfl)
    | (apply r_l; apply ld_mx'; assumption; rfl)
    | (apply r_l; apply ld_subs'; assumption; rfl)
    | (apply r_l; apply ld_node'; assumption; rfl)
    | (apply r_ldL (v := .agg [.i k, .d (.val (.int .u64 a)), .d (.val (.int .u64 b)), .d (.val (.int .u64 c)), .d (.val (.int .u64 d)), .i mn, .i mx, .d (.sl (encL subs) subs.length)]); rfl; rfl; rfl)
    | (apply r_callA (f := 51); rfl; rfl; exact hnn)
    | (apply r_p (v := .d (.ptr (encL subs) 0)); exact ix_sub0 rfl rfl hl1)
    | (apply r_l; apply ld_node'; exact hs; rfl)
    | (apply r_callA (ags := [nodeA u]); rfl; exact hna; exact hg)
    | (apply r_ldL (v := .agg [.d (.val (.int .u64 w0)), .d (.val (.int .u64 w1)), .d (.val (.int .u64 w2)), .d (.val (.int .u64 w3))]); rfl; rfl; rfl)
    | (apply r_ldL; rfl; rfl; rfl)
    | (apply r_eql; rfl; rfl; (first | (apply decide_eq_true; omega) | (apply decide_eq_false; omega) | rfl))
    | (apply r_neq; rfl; rfl; (first | (apply decide_eq_true; omega) | (apply decide_eq_false; omega) | rfl))
    | (apply r_lss; rfl; rfl; (first | (apply decide_eq_true; omega) | (apply decide_eq_false; omega) | rfl))
    | (apply r_add; rfl; rfl; rfl; omega)
    | (apply r_not; rfl; rfl)
    | (apply r_lenD; rfl)
    | (apply r_lenL; rfl)
    | (apply r_len0; rfl)
    | (apply r_alloc; ((conv => lhs; simp only [Nat.reduceAdd]) <;> rfl); rfl)
    | (apply r_box; ((conv => lhs; simp only [Nat.reduceAdd]) <;> rfl); rfl; rfl; rfl)
    | (apply r_stL; rfl; rfl; rfl; rfl; (first | rfl | (simp only [z_nil, z_add] <;> rfl)); rfl; rfl)
    | (apply r_p; rfl)
    | (apply r_nilK)
    | (apply r_nil)
    | (apply k_V; rfl)
    | (apply k_P; rfl)
    | (apply k_PL; rfl)
    | (apply k_S; rfl)
    | (apply k_SL; rfl)
    | (apply k_A; rfl)
    | (apply k_T; rfl)
    | (apply k_F; rfl)
    | (apply k_D; rfl; rotate_left; rfl)
    | (apply k_nil)
    | (apply e_ret (vs := [.d (.val _)]); rfl)
    | (apply e_ret; rfl)
    | (apply e_ret' (vs := [.d (.val _)]); rfl)
    | (apply e_ret'; rfl)
    | (apply w_seq)
    | (apply w_ops; ((conv => lhs; simp only [Nat.reduceAdd]) <;> rfl))
    | (apply w_condT; rfl)
    | (apply w_condF; rfl)
    | ((apply w_condS; rfl) <;> (intro h; try simp only [decide_eq_true_eq, decide_eq_false_iff_not, Bool.not_eq_true, Bool.not_eq_false] at h))
    | (apply e_thenN)
    | (apply w_block)
    | (apply e_thenR)
    | (apply e_thenX)
    | (apply e_blkN)
    | (apply e_blkR)
    | (apply e_blkE)
    | (apply w_exit)
    | (apply w_ret)
    | (apply w_skip)
    | (apply e_blkE'; rfl))
    exact .data _ rfl
  · have e : firstW (.node k a b c d mn mx subs) = [0, 0, 0, 0] := by
      have e2 : setWs [] = firstW (.node k a b c d mn mx subs) := by
        rw [hdef]
        refine first_eq (by simp) fun y hy => ⟨fun h => by simp at h, ?_⟩
        rintro ⟨w, hw⟩
        exfalso
        rcases (show k = 1 ∨ k = 5 by omega) with rfl | rfl
        · rw [L_k1] at hw; cases hw
        · have hx : mx = 0 := by
            rcases Int.lt_trichotomy mx 0 with h | h | h
            · exact absurd ⟨rfl, by omega⟩ h5
            · exact h
            · exact absurd ⟨rfl, by omega⟩ h5
          rw [L_k5] at hw
          obtain ⟨r, _, h2, h3⟩ := hw
          have : r = 0 := by omega
          subst this
          simp [powL] at h3
      rw [← e2]; rfl
    rw [e]
    have e2 : setWs [] = [0, 0, 0, 0] := rfl
    rw [e2] at h990
    clear ih' hnu hsome hdef ih ht hok hoks hpl hR hS hnL e hfw hk5
    refine b50 (by simp) (by simp) (w_init ?_)
    unfold x50
    repeat' (first
    | (apply r_mvV; rfl)
    | (apply r_mvP; rfl)
    | (apply r_mvPL; rfl)
    | (apply r_mvS; rfl)
    | (apply r_mvSL; rfl)
    | (apply r_mvA; rfl)
    | (apply r_mvT; rfl)
    | (apply r_mvF; rfl)
    | (apply r_mvD; rfl)
    | (apply r_faddD; rfl)
    | (apply r_faddL; rfl)
    | (apply r_l; apply ld_kind; assumption; rfl)
    | (apply r_l; apply ld_mn; assumption; rfl)
    | (apply r_l; apply ld_mx; assumption; rfl)
    | (apply r_l; apply ld_subs; assumption; rfl)
    | (apply r_l; apply ld_set; assumption; rfl)
    | (apply r_l; apply ld_node; assumption; rfl)
    | (apply r_l; apply ld_kind'; assumption; rfl)
    | (apply r_l; apply ld_mn'; assumption; rfl)
    | (apply r_l; apply ld_mx'; assumption; rfl)
    | (apply r_l; apply ld_subs'; assumption; rfl)
    | (apply r_l; apply ld_node'; assumption; rfl)
    | (apply r_ldL (v := .agg [.i k, .d (.val (.int .u64 a)), .d (.val (.int .u64 b)), .d (.val (.int .u64 c)), .d (.val (.int .u64 d)), .i mn, .i mx, .d (.sl (encL subs) subs.length)]); rfl; rfl; rfl)
    | (apply r_callA (f := 51); rfl; rfl; exact hnn)
    | (apply r_call (bs := [.d (.sl [] 0)]) (us := []); rfl; rfl; exact h990; rfl)
    | (apply r_ldL (v := .agg [.d (.val (.int .u64 0)), .d (.val (.int .u64 0)), .d (.val (.int .u64 0)), .d (.val (.int .u64 0))]); rfl; rfl; rfl)
    | (apply r_ldL; rfl; rfl; rfl)
    | (apply r_eql; rfl; rfl; (first | (apply decide_eq_true; omega) | (apply decide_eq_false; omega) | rfl))
    | (apply r_neq; rfl; rfl; (first | (apply decide_eq_true; omega) | (apply decide_eq_false; omega) | rfl))
    | (apply r_lss; rfl; rfl; (first | (apply decide_eq_true; omega) | (apply decide_eq_false; omega) | rfl))
    | (apply r_add; rfl; rfl; rfl; omega)
    | (apply r_not; rfl; rfl)
    | (apply r_lenD; rfl)
    | (apply r_lenL; rfl)
    | (apply r_len0; rfl)
    | (apply r_alloc; ((conv => lhs; simp only [Nat.reduceAdd]) <;> rfl); rfl)
    | (apply r_box; ((conv => lhs; simp only [Nat.reduceAdd]) <;> rfl); rfl; rfl; rfl)
    | (apply r_stL; rfl; rfl; rfl; rfl; (first | rfl | (simp only [z_nil, z_add] <;> rfl)); rfl; rfl)
    | (apply r_p; rfl)
    | (apply r_nilK)
    | (apply r_nil)
    | (apply k_V; rfl)
    | (apply k_P; rfl)
    | (apply k_PL; rfl)
    | (apply k_S; rfl)
    | (apply k_SL; rfl)
    | (apply k_A; rfl)
    | (apply k_T; rfl)
    | (apply k_F; rfl)
    | (apply k_D; rfl; rotate_left; rfl)
    | (apply k_nil)
    | (apply e_ret (vs := [.d (.val _)]); rfl)
    | (apply e_ret; rfl)
    | (apply e_ret' (vs := [.d (.val _)]); rfl)
    | (apply e_ret'; rfl)
    | (apply w_seq)
    | (apply w_ops; ((conv => lhs; simp only [Nat.reduceAdd]) <;> rfl))
    | (apply w_condT; rfl)
    | (apply w_condF; rfl)
    | ((apply w_condS; rfl) <;> (intro h; try simp only [decide_eq_true_eq, decide_eq_false_iff_not, Bool.not_eq_true, Bool.not_eq_false] at h))
    | (apply e_thenN)
    | (apply w_block)
    | (apply e_thenR)
    | (apply e_thenX)
    | (apply e_blkN)
    | (apply e_blkR)
    | (apply e_blkE)
    | (apply w_exit)
    | (apply w_ret)
    | (apply w_skip)
    | (apply e_blkE'; rfl))
    all_goals exact .data _ rfl
end Go.Sv
namespace Go.Sv
open Go
set_option linter.unusedVariables false
structure FOf (P : List Nat → Prop) (f : Fa) : Prop where
  no : f.no = true → ∀ w, ¬ P w
  lo : f.no = false → (∃ w, P w ∧ (w.length : Int) = f.lo) ∧ ∀ w, P w → f.lo ≤ w.length
  hi : f.no = false → 0 ≤ f.hi → ∀ w, P w → (w.length : Int) ≤ f.hi
  fi : ∀ y, y < 256 → (inG f.a f.b f.c f.d y = true ↔ ∃ w, P (y :: w))
theorem inG_zero (y : Nat) : inG 0 0 0 0 y = false := by
  cases h : inG 0 0 0 0 y with
  | false => rfl
  | true =>
    have h1 := inG_lt h
    have h2 := (zero_iff (a := 0) (b := 0) (c := 0) (d := 0) (by unfold okW; omega) (by unfold okW; omega) (by unfold okW; omega) (by unfold okW; omega)).1 (by decide) y h1
    rw [h] at h2; exact h2
theorem FOf.congr {P Q : List Nat → Prop} {f : Fa} (h : FOf P f) (e : ∀ w, Q w ↔ P w) : FOf Q f := by
  have : Q = P := funext fun w => propext (e w)
  rw [this]; exact h
theorem fof_no {P : List Nat → Prop} (h : ∀ w, ¬ P w) : FOf P faNo :=
  ⟨fun _ => h, fun h => by simp [faNo] at h, fun h => by simp [faNo] at h, fun y hy => by
    simp only [faNo, inG_zero]
    exact ⟨fun h => by simp at h, fun ⟨w, hw⟩ => absurd hw (h _)⟩⟩
theorem fof_E {P : List Nat → Prop} (h : ∀ w, P w ↔ w = []) : FOf P faE :=
  ⟨fun h => by simp [faE] at h, fun _ => ⟨⟨[], (h []).2 rfl, rfl⟩, fun w _ => by simp [faE]⟩, fun _ _ w hw => by rw [(h w).1 hw]; simp [faE], fun y hy => by
    simp only [faE, inG_zero]
    exact ⟨fun h => by simp at h, fun ⟨w, hw⟩ => by have := (h _).1 hw; simp at this⟩⟩
def cat2 (P Q : List Nat → Prop) (w : List Nat) : Prop := ∃ u v, w = u ++ v ∧ P u ∧ Q v
theorem FOf.some {P : List Nat → Prop} {f : Fa} (h : FOf P f) (hn : f.no = false) : ∃ w, P w := by
  obtain ⟨w, hw, _⟩ := (h.lo hn).1
  exact ⟨w, hw⟩
theorem FOf.nil {P : List Nat → Prop} {f : Fa} (h : FOf P f) (hn : f.no = false) (ho : 0 ≤ f.lo) : f.lo = 0 ↔ P [] := by
  obtain ⟨⟨w, hw, hl⟩, h2⟩ := h.lo hn
  constructor
  · intro e
    have : w = [] := List.length_eq_zero_iff.1 (by omega)
    rwa [this] at hw
  · intro hp
    have := h2 [] hp
    simp at this
    omega
theorem fof_then {P Q : List Nat → Prop} {f g : Fa} {X Y : Int} (hf : FOf P f) (hg : FOf Q g) (of : okF f X) (og : okF g Y) : FOf (cat2 P Q) (faThen f g) := by
  obtain ⟨⟨fa, fb, fc, fd⟩, f1, f2, _, _⟩ := of
  obtain ⟨⟨ga, gb, gc, gd⟩, g1, g2, _, _⟩ := og
  unfold faThen
  split
  · rename_i h
    refine fof_no ?_
    rintro w ⟨u, v, _, h1, h2⟩
    rcases h with h | h
    · exact hf.no h u h1
    · exact hg.no h v h2
  · rename_i h
    have hfn : f.no = false := by cases e : f.no <;> simp_all
    have hgn : g.no = false := by cases e : g.no <;> simp_all
    have b1 := f2 hfn
    have b2 := g2 hgn
    have hlo : (∃ w, cat2 P Q w ∧ (w.length : Int) = f.lo + g.lo) ∧ ∀ w, cat2 P Q w → f.lo + g.lo ≤ w.length := by
      obtain ⟨⟨u, hu, lu⟩, mu⟩ := hf.lo hfn
      obtain ⟨⟨v, hv, lv⟩, mv⟩ := hg.lo hgn
      refine ⟨⟨u ++ v, ⟨u, v, rfl, hu, hv⟩, by rw [List.length_append]; omega⟩, ?_⟩
      rintro w ⟨a, b, rfl, ha, hb⟩
      have := mu a ha
      have := mv b hb
      rw [List.length_append]; omega
    have hhi : 0 ≤ plusH f.hi g.hi → ∀ w, cat2 P Q w → (w.length : Int) ≤ plusH f.hi g.hi := by
      intro h0
      unfold plusH at h0 ⊢
      split at h0
      · omega
      · rename_i hne
        rw [if_neg hne]
        rintro w ⟨a, b, rfl, ha, hb⟩
        have := hf.hi hfn (by omega) a ha
        have := hg.hi hgn (by omega) b hb
        rw [List.length_append]; omega
    split
    · rename_i h0
      refine ⟨fun h => by simp at h, fun _ => hlo, fun _ => hhi, fun y hy => ?_⟩
      dsimp only
      rw [inG_or fa fb fc fd ga gb gc gd, Bool.or_eq_true, hf.fi y hy, hg.fi y hy]
      have hn := (hf.nil hfn b1.1).1 h0
      obtain ⟨v0, hv0⟩ := hg.some hgn
      constructor
      · rintro (⟨w, hw⟩ | ⟨w, hw⟩)
        · exact ⟨w ++ v0, y :: w, v0, rfl, hw, hv0⟩
        · exact ⟨w, [], y :: w, rfl, hn, hw⟩
      · rintro ⟨w, u, v, e, hu, hv⟩
        cases u with
        | nil => exact .inr ⟨w, by rw [e]; exact hv⟩
        | cons z u =>
          simp only [List.cons_append, List.cons.injEq] at e
          obtain ⟨rfl, _⟩ := e
          exact .inl ⟨u, hu⟩
    · rename_i h0
      refine ⟨fun h => by simp at h, fun _ => hlo, fun _ => hhi, fun y hy => ?_⟩
      dsimp only
      rw [hf.fi y hy]
      have hn : ¬ P [] := fun h => h0 ((hf.nil hfn b1.1).2 h)
      obtain ⟨v0, hv0⟩ := hg.some hgn
      constructor
      · rintro ⟨w, hw⟩
        exact ⟨w ++ v0, y :: w, v0, rfl, hw, hv0⟩
      · rintro ⟨w, u, v, e, hu, hv⟩
        cases u with
        | nil => exact absurd hu hn
        | cons z u =>
          simp only [List.cons_append, List.cons.injEq] at e
          obtain ⟨rfl, _⟩ := e
          exact ⟨u, hu⟩
theorem fof_or {P Q : List Nat → Prop} {f g : Fa} {X Y : Int} (hf : FOf P f) (hg : FOf Q g) (of : okF f X) (og : okF g Y) : FOf (fun w => P w ∨ Q w) (faOr f g) := by
  obtain ⟨⟨fa, fb, fc, fd⟩, f1, f2, _, _⟩ := of
  obtain ⟨⟨ga, gb, gc, gd⟩, g1, g2, _, _⟩ := og
  unfold faOr
  split
  · rename_i h
    exact hg.congr fun w => ⟨fun h2 => h2.resolve_left (hf.no h w), .inr⟩
  · rename_i h
    have hfn : f.no = false := by simpa using h
    split
    · rename_i h2
      exact hf.congr fun w => ⟨fun h3 => h3.resolve_right (hg.no h2 w), .inl⟩
    · rename_i h2
      have hgn : g.no = false := by simpa using h2
      have b1 := f2 hfn
      have b2 := g2 hgn
      obtain ⟨⟨u, hu, lu⟩, mu⟩ := hf.lo hfn
      obtain ⟨⟨v, hv, lv⟩, mv⟩ := hg.lo hgn
      refine ⟨fun h => by simp at h, fun _ => ⟨?_, ?_⟩, fun _ h0 => ?_, fun y hy => ?_⟩
      · dsimp only
        rcases Int.le_total f.lo g.lo with h3 | h3
        · exact ⟨u, .inl hu, by omega⟩
        · exact ⟨v, .inr hv, by omega⟩
      · dsimp only
        rintro w (h | h)
        · have := mu w h; omega
        · have := mv w h; omega
      · dsimp only at h0 ⊢
        split at h0
        · omega
        · rename_i hne
          rw [if_neg hne]
          rintro w (h | h)
          · have := hf.hi hfn (by omega) w h; omega
          · have := hg.hi hgn (by omega) w h; omega
      · dsimp only
        rw [inG_or fa fb fc fd ga gb gc gd, Bool.or_eq_true, hf.fi y hy, hg.fi y hy]
        constructor
        · rintro (⟨w, hw⟩ | ⟨w, hw⟩)
          · exact ⟨w, .inl hw⟩
          · exact ⟨w, .inr hw⟩
        · rintro ⟨w, hw | hw⟩
          · exact .inl ⟨w, hw⟩
          · exact .inr ⟨w, hw⟩
theorem pow_lo {P : List Nat → Prop} {lo : Int} (h : ∀ w, P w → lo ≤ w.length) : ∀ (r : Nat) (w : List Nat), powL P r w → r * lo ≤ w.length
  | 0, w, _ => by simp
  | r + 1, w, ⟨u, v, e, h1, h2⟩ => by
    have a1 := h u h1
    have a2 := pow_lo h r v h2
    rw [e, List.length_append]
    have : ((r + 1 : Nat) : Int) * lo = r * lo + lo := by rw [Int.natCast_add, Int.add_mul]; simp
    omega
theorem pow_hi {P : List Nat → Prop} {hi : Int} (h : ∀ w, P w → (w.length : Int) ≤ hi) : ∀ (r : Nat) (w : List Nat), powL P r w → (w.length : Int) ≤ r * hi
  | 0, w, h0 => by have h0 : w = [] := h0; subst h0; simp
  | r + 1, w, ⟨u, v, e, h1, h2⟩ => by
    have a1 := h u h1
    have a2 := pow_hi h r v h2
    rw [e, List.length_append]
    have : ((r + 1 : Nat) : Int) * hi = r * hi + hi := by rw [Int.natCast_add, Int.add_mul]; simp
    omega
theorem pow_len {P : List Nat → Prop} {u : List Nat} (h : P u) : ∀ r : Nat, ∃ w, powL P r w ∧ w.length = r * u.length
  | 0 => ⟨[], rfl, by simp⟩
  | r + 1 => by
    obtain ⟨w, hw, hl⟩ := pow_len h r
    exact ⟨u ++ w, ⟨u, w, rfl, h, hw⟩, by rw [List.length_append, hl, Nat.succ_mul]; omega⟩
theorem fof_times {P : List Nat → Prop} {f : Fa} {X mn mx : Int} (hf : FOf P f) (of : okF f X) (h1 : 0 ≤ mn ∧ mn ≤ 20) (h2 : mx = -1 ∨ (mn ≤ mx ∧ mx ≤ 20)) :
    FOf (fun w => ∃ r : Nat, mn ≤ r ∧ (mx < 0 ∨ (r : Int) ≤ mx) ∧ powL P r w) (faTimes f mn mx) := by
  obtain ⟨⟨fa, fb, fc, fd⟩, f1, f2, _, _⟩ := of
  unfold faTimes
  split
  · rename_i h
    refine fof_E fun w => ?_
    constructor
    · rintro ⟨r, a, b, hp⟩
      rcases h with h | ⟨h, h0⟩
      · have : r = 0 := by omega
        subst this; exact hp
      · cases r with
        | zero => exact hp
        | succ r => obtain ⟨u, v, _, hu, _⟩ := hp; exact absurd hu (hf.no h u)
    · rintro rfl
      refine ⟨0, ?_, ?_, rfl⟩
      · rcases h with h | ⟨h, h0⟩ <;> omega
      · rcases h with h | ⟨h, h0⟩ <;> omega
  · rename_i h
    split
    · rename_i hno
      refine fof_no ?_
      rintro w ⟨r, a, b, hp⟩
      cases r with
      | zero => simp [hno] at h; omega
      | succ r => obtain ⟨u, v, _, hu, _⟩ := hp; exact absurd hu (hf.no hno u)
    · rename_i hno
      have hfn : f.no = false := by simpa using hno
      have b1 := f2 hfn
      have hx : mx ≠ 0 := fun e => h (.inl e)
      obtain ⟨⟨u, hu, lu⟩, mu⟩ := hf.lo hfn
      obtain ⟨m, rfl⟩ := Int.eq_ofNat_of_zero_le h1.1
      refine ⟨fun h => by simp at h, fun _ => ⟨?_, ?_⟩, fun _ h0 => ?_, fun y hy => ?_⟩
      · obtain ⟨w, hw, hl⟩ := pow_len hu m
        refine ⟨w, ⟨m, by omega, by omega, hw⟩, ?_⟩
        dsimp only
        rw [hl, Int.natCast_mul, lu, Int.mul_comm]
      · dsimp only
        rintro w ⟨r, a, b, hp⟩
        have := pow_lo mu r w hp
        have : f.lo * (m : Int) ≤ f.lo * r := Int.mul_le_mul_of_nonneg_left a b1.1
        rw [Int.mul_comm (r : Int)] at *
        omega
      · dsimp only at h0 ⊢
        rintro w ⟨r, a, b, hp⟩
        split at h0
        · rename_i hz
          rw [if_pos hz]
          have h3 := hf.hi hfn (by omega)
          have := pow_hi h3 r w hp
          rw [hz] at this; simpa using this
        · rename_i hz
          rw [if_neg hz]
          split at h0
          · omega
          · rename_i hne
            rw [if_neg hne]
            have h3 := hf.hi hfn (by omega)
            have h4 := pow_hi h3 r w hp
            have h5 : f.hi * (r : Int) ≤ f.hi * mx := Int.mul_le_mul_of_nonneg_left (by omega) (by omega)
            rw [Int.mul_comm (r : Int)] at h4
            omega
      · dsimp only
        rw [hf.fi y hy]
        exact (rep_first (P := P) h1.1 (by omega) hx y).symm
theorem knC_of : ∀ (l : List T) (f : Fa) (P : List Nat → Prop) (X : Int) (o : Nat), 0 ≤ X → FOf P f → okF f X → (∀ u ∈ l, okF (knT u) ((u.cnt : Nat) * pw o) ∧ FOf (L u) (knT u)) → FOf (cat2 P (catL l)) (knC l f)
  | [], f, P, X, o, hX, hf, of, _ => by
    rw [knC]
    refine hf.congr fun w => ?_
    constructor
    · rintro ⟨u, v, rfl, hu, hv⟩
      have hv : v = [] := hv
      rw [hv, List.append_nil]; exact hu
    · intro h; exact ⟨w, [], by simp, h, rfl⟩
  | t :: l, f, P, X, o, hX, hf, of, h => by
    have hp := pw_pos o
    have h1 := h t (by simp)
    have h0 : 0 ≤ ((t.cnt : Nat) : Int) * pw o := Int.mul_nonneg (by omega) (by omega)
    have := knC_of l (faThen f (knT t)) (cat2 P (L t)) _ o (by omega) (fof_then hf h1.2 of h1.1) (okF_then of h1.1 hX h0) (fun u hu => h u (by simp [hu]))
    rw [knC]
    refine this.congr fun w => ?_
    constructor
    · rintro ⟨a, b, rfl, ha, c, d, rfl, hc, hd⟩
      exact ⟨a ++ c, d, by simp, ⟨a, c, rfl, ha, hc⟩, hd⟩
    · rintro ⟨a, b, rfl, ⟨c, d, rfl, hc, hd⟩, hb⟩
      exact ⟨c, d ++ b, by simp, hc, d, b, rfl, hd, hb⟩
theorem knO_of : ∀ (l : List T) (f : Fa) (P : List Nat → Prop) (X : Int) (o : Nat), 0 ≤ X → FOf P f → okF f X → (∀ u ∈ l, okF (knT u) ((u.cnt : Nat) * pw o) ∧ FOf (L u) (knT u)) → FOf (fun w => P w ∨ altL l w) (knO l f)
  | [], f, P, X, o, hX, hf, of, _ => by
    rw [knO]
    exact hf.congr fun w => ⟨fun h => h.resolve_right fun h => h.elim, .inl⟩
  | t :: l, f, P, X, o, hX, hf, of, h => by
    have hp := pw_pos o
    have h1 := h t (by simp)
    have h0 : 0 ≤ ((t.cnt : Nat) : Int) * pw o := Int.mul_nonneg (by omega) (by omega)
    have := knO_of l (faOr f (knT t)) (fun w => P w ∨ L t w) _ o (by omega) (fof_or hf h1.2 of h1.1) (okF_or of h1.1 hX h0) (fun u hu => h u (by simp [hu]))
    rw [knO]
    refine this.congr fun w => ?_
    simp only [altL, or_assoc]
mutual
theorem kn_of : ∀ t : T, okT t → FOf (L t) (knT t)
  | .node k a b c d mn mx subs, ho => by
    have hsub := knL_of subs (okT_subs ho)
    have hS := okT_S ho
    obtain ⟨ha, hb, hc, hd⟩ := hS
    have hop := open_nonneg _ ho
    have hsub' : ∀ u ∈ subs, okF (knT u) ((u.cnt : Nat) * pw (openT (.node k a b c d mn mx subs)).toNat) ∧ FOf (L u) (knT u) := fun u hu => by
      refine ⟨okF_mono (kn_ok u ((okL_iff _).1 (okT_subs ho) u hu)) ?_, hsub u hu⟩
      have h1 := sub_open (u := u) ho hu
      exact bT_le (Nat.le_refl _) (by omega)
    have hk := (plainT_kind (okT_plain ho)).1
    rw [knT]
    rcases hk with rfl | rfl | rfl | rfl | rfl
    · exact fof_E fun w => L_k1
    · rw [if_pos rfl]
      split
      · rename_i hz
        refine fof_no fun w hw => ?_
        obtain ⟨x, rfl, hx⟩ := L_k2.1 hw
        have := (zero_iff ha hb hc hd).1 hz x (inG_lt hx)
        rw [this] at hx; cases hx
      · rename_i hz
        have hne : ∃ x, inG a b c d x = true := Classical.byContradiction fun hn => hz ((zero_iff ha hb hc hd).2 fun x _ => by
          cases e : inG a b c d x with
          | false => rfl
          | true => exact absurd ⟨x, e⟩ hn)
        obtain ⟨x, hx⟩ := hne
        refine ⟨fun h => by simp at h, fun _ => ⟨⟨[x], L_k2.2 ⟨x, rfl, hx⟩, rfl⟩, fun w hw => ?_⟩, fun _ _ w hw => ?_, fun y hy => ?_⟩
        · obtain ⟨z, rfl, _⟩ := L_k2.1 hw; simp
        · obtain ⟨z, rfl, _⟩ := L_k2.1 hw; simp
        · dsimp only
          constructor
          · intro h; exact ⟨[], L_k2.2 ⟨y, rfl, h⟩⟩
          · rintro ⟨w, hw⟩
            obtain ⟨z, e, hz⟩ := L_k2.1 hw
            simp only [List.cons.injEq] at e
            obtain ⟨rfl, _⟩ := e
            exact hz
    · rw [if_neg (by omega), if_pos rfl]
      refine (knC_of subs faE (fun w => w = []) 0 _ (Int.le_refl _) (fof_E fun w => Iff.rfl) (okF_E (Int.le_refl _)) hsub').congr fun w => ?_
      rw [L_k3]
      constructor
      · intro h; exact ⟨[], w, rfl, rfl, h⟩
      · rintro ⟨u, v, rfl, rfl, h⟩; exact h
    · rw [if_neg (by omega), if_neg (by omega), if_pos rfl]
      refine (knO_of subs faNo (fun w => False) 0 _ (Int.le_refl _) (fof_no fun w h => h) (okF_no (Int.le_refl _)) hsub').congr fun w => ?_
      rw [L_k4]
      exact ⟨.inr, fun h => h.resolve_left id⟩
    · rw [if_neg (by omega), if_neg (by omega), if_neg (by omega), if_pos rfl]
      obtain ⟨u, rfl⟩ := plainT_5 (okT_plain ho)
      have hR := okT_R ho rfl
      rw [knR]
      refine (fof_times (hsub u (by simp)) (hsub' u (by simp)).1 hR.1 hR.2).congr fun w => ?_
      rw [L_k5]; rfl
theorem knL_of : ∀ l : List T, okL l → ∀ u ∈ l, FOf (L u) (knT u)
  | [], _ => by simp
  | t :: l, h => by
    simp only [okL] at h
    intro u hu
    rcases List.mem_cons.1 hu with e | hu
    · rw [e]; exact kn_of t h.1
    · exact knL_of l h.2 u hu
end
end Go.Sv
namespace Go.Sv
open Go
set_option linter.unusedVariables false
theorem faThen_no {f g : Fa} (h : (faThen f g).no = false) : f.no = false ∧ g.no = false := by
  unfold faThen at h
  split at h
  · simp [faNo] at h
  · rename_i h2
    constructor
    · cases e : f.no <;> simp_all
    · cases e : g.no <;> simp_all
theorem knC_no : ∀ (l : List T) (f : Fa), (knC l f).no = false → f.no = false ∧ ∀ u ∈ l, (knT u).no = false
  | [], f, h => ⟨h, by simp⟩
  | t :: l, f, h => by
    rw [knC] at h
    obtain ⟨h1, h2⟩ := knC_no l _ h
    obtain ⟨h3, h4⟩ := faThen_no h1
    refine ⟨h3, fun u hu => ?_⟩
    rcases List.mem_cons.1 hu with e | hu
    · rw [e]; exact h4
    · exact h2 u hu
theorem faThen_val {f g : Fa} (h1 : f.no = false) (h2 : g.no = false) : (faThen f g).lo = f.lo + g.lo ∧ (faThen f g).hi = plusH f.hi g.hi ∧ (faThen f g).no = false := by
  unfold faThen
  rw [if_neg (by simp [h1, h2])]
  split <;> exact ⟨rfl, rfl, rfl⟩
theorem knC_end : ∀ (l : List T) (f : Fa), (knC l f).no = false → f.hi = -1 → (knC l f).hi = -1
  | [], f, _, h => h
  | t :: l, f, h, h1 => by
    rw [knC] at h ⊢
    obtain ⟨h2, _⟩ := knC_no l _ h
    obtain ⟨h3, h4⟩ := faThen_no h2
    refine knC_end l _ h ?_
    rw [(faThen_val h3 h4).2.1]
    simp [plusH, h1]
theorem faOr_end {f g : Fa} (h1 : f.no = false) (h2 : f.hi = -1) : (faOr f g).no = false ∧ (faOr f g).hi = -1 := by
  unfold faOr
  rw [if_neg (by simp [h1])]
  split
  · exact ⟨h1, h2⟩
  · exact ⟨rfl, by simp [h2]⟩
theorem knO_end : ∀ (l : List T) (f : Fa), f.no = false → f.hi = -1 → (knO l f).hi = -1
  | [], f, _, h => h
  | t :: l, f, h1, h2 => by
    rw [knO]
    obtain ⟨h3, h4⟩ := faOr_end (g := knT t) h1 h2
    exact knO_end l _ h3 h4
theorem nn_kn {t : T} (hok : okT t) : nnT t = (knT t).no := by
  have h := kn_of t hok
  cases hn : (knT t).no with
  | true => exact (nnT_L t hok).2 (h.no hn)
  | false =>
    obtain ⟨w, hw⟩ := h.some hn
    cases e : nnT t with
    | false => rfl
    | true => exact absurd hw ((nnT_L t hok).1 e w)
theorem firstW_kn' {t : T} (hok : okT t) : setWs (firstL (L t)) = [(knT t).a, (knT t).b, (knT t).c, (knT t).d] := by
  have h := kn_of t hok
  obtain ⟨⟨ha, hb, hc, hd⟩, _⟩ := kn_ok t hok
  obtain ⟨h1, h2⟩ := setWs_ok (firstL_lt (L t))
  refine words_ext h1 ⟨rfl, by simp [ha, hb, hc, hd]⟩ fun y hy => ?_
  rw [Bool.eq_iff_iff, h2 y hy, mem_firstL]
  have e : inWs [(knT t).a, (knT t).b, (knT t).c, (knT t).d] y = inG (knT t).a (knT t).b (knT t).c (knT t).d y := rfl
  rw [e, h.fi y hy]
  exact ⟨fun h => h.2, fun h => ⟨hy, h⟩⟩
end Go.Sv
