/- A part of the proof of the law ExpandBudget: that it answers true for every input, and that the input reads behind the call as before (no condition). -/
import Derived.Test.YtcnlgmajkclgjaaExpandBudgetG1
set_option linter.all false
set_option linter.unusedSectionVars false
set_option linter.unusedVariables false
set_option linter.unusedSimpArgs false
namespace Go.Sv
open Go Go.Proofs
def x8 : XC := (.seq (.ops 3 [
    (0, ⟨(some 4), none, .box (.t 0)⟩),
    (1, ⟨(some 5), none, .box (.t 1)⟩),
    (2, ⟨(some 8), none, .mv (.k (.d (.val (.bool false))))⟩)] (some [2, 3, 4, 5])) (.seq (.ops 12 [
    (5, ⟨(some 41), none, .load (some 8) (.t 5)⟩),
    (4, ⟨(some 40), none, .load (some 8) (.t 4)⟩),
    (0, ⟨(some 36), none, .load (some 8) (.t 4)⟩),
    (1, ⟨(some 37), none, .load (some 8) (.t 5)⟩),
    (2, ⟨(some 38), none, .mkrow [(.int .i64 0), (.int .u64 0), (.int .u64 0), (.int .u64 0), (.int .u64 0), (.int .i64 0), (.int .i64 0), (.slice none 0 0)] 2 8 [(0, 8, (.t 36)), (8, 8, (.t 37))]⟩),
    (3, ⟨(some 39), none, .build [(.int .i64 0), (.int .u64 0), (.int .u64 0), (.int .u64 0), (.int .u64 0), (.int .i64 0), (.int .i64 0), (.slice none 0 0)] [(0, 1, (.k (.d (.val (.int .i64 4))))), (7, 1, (.t 38))]⟩),
    (8, ⟨(some 9), none, .alloc [(.int .i64 0), (.int .u64 0), (.int .u64 0), (.int .u64 0), (.int .u64 0), (.int .i64 0), (.int .i64 0), (.slice none 0 0)]⟩),
    (9, ⟨(some 10), none, .alloc [(.int .i64 0), (.int .u64 0), (.int .u64 0), (.int .u64 0), (.int .u64 0), (.int .i64 0), (.int .i64 0), (.slice none 0 0)]⟩),
    (10, ⟨none, none, .storeA 8 (.t 9) (.t 39) [4, 5]⟩),
    (6, ⟨(some 42), none, .mkrow [(.int .i64 0), (.int .u64 0), (.int .u64 0), (.int .u64 0), (.int .u64 0), (.int .i64 0), (.int .i64 0), (.slice none 0 0)] 2 8 [(0, 8, (.t 40)), (8, 8, (.t 41))]⟩),
    (7, ⟨(some 43), none, .build [(.int .i64 0), (.int .u64 0), (.int .u64 0), (.int .u64 0), (.int .u64 0), (.int .i64 0), (.int .i64 0), (.slice none 0 0)] [(0, 1, (.k (.d (.val (.int .i64 3))))), (7, 1, (.t 42))]⟩),
    (11, ⟨none, none, .store 8 (.t 10) (.t 43)⟩)] (some [2, 3, 4, 5, 9, 10])) (.seq (.seq (.ops 28 [
    (0, ⟨(some 44), none, .call 29 [] none false⟩),
    (1, ⟨(some 45), none, .un .not (.t 44)⟩),
    (2, ⟨(some 46), none, .mv (.t 45)⟩),
    (3, ⟨(some 47), (some (46, false)), .load (some 8) (.t 9)⟩),
    (4, ⟨(some 48), (some (46, false)), .mv (.t 2)⟩),
    (5, ⟨(some 49), (some (46, false)), .call 30 [(.t 47), (.t 48)] none false⟩),
    (6, ⟨(some 50), (some (46, false)), .un .not (.t 49)⟩),
    (7, ⟨(some 51), none, .pick (.t 46) (.k (.d (.val (.bool true)))) (.t 50)⟩),
    (8, ⟨(some 52), none, .mv (.t 51)⟩),
    (9, ⟨(some 53), (some (52, false)), .load (some 8) (.t 9)⟩),
    (10, ⟨(some 54), (some (52, false)), .call 32 [(.t 53)] none false⟩),
    (11, ⟨(some 55), (some (52, false)), .un .not (.t 54)⟩),
    (12, ⟨(some 56), none, .pick (.t 52) (.k (.d (.val (.bool true)))) (.t 55)⟩),
    (13, ⟨(some 57), none, .mv (.t 56)⟩),
    (14, ⟨(some 58), (some (57, false)), .load (some 8) (.t 10)⟩),
    (15, ⟨(some 59), (some (57, false)), .call 32 [(.t 58)] none false⟩),
    (16, ⟨(some 60), (some (57, false)), .un .not (.t 59)⟩),
    (17, ⟨(some 61), none, .pick (.t 57) (.k (.d (.val (.bool true)))) (.t 60)⟩),
    (18, ⟨(some 62), none, .mv (.t 61)⟩),
    (19, ⟨(some 63), (some (62, false)), .mv (.t 3)⟩),
    (20, ⟨(some 64), (some (62, false)), .arith .lss (.t 63) (.k (.d (.val (.int .i64 0))))⟩),
    (21, ⟨(some 65), none, .pick (.t 62) (.k (.d (.val (.bool true)))) (.t 64)⟩),
    (22, ⟨(some 66), none, .mv (.t 65)⟩),
    (23, ⟨(some 67), (some (66, false)), .mv (.t 3)⟩),
    (24, ⟨(some 68), (some (66, false)), .mv (.t 2)⟩),
    (25, ⟨(some 69), (some (66, false)), .lenT (.t 68)⟩),
    (26, ⟨(some 70), (some (66, false)), .arith .gtr (.t 67) (.t 69)⟩),
    (27, ⟨(some 71), none, .pick (.t 66) (.k (.d (.val (.bool true)))) (.t 70)⟩)] (some [2, 3, 4, 5, 9, 10, 71])) (.cond (.t 71) (.seq (.ops 2 [
    (0, ⟨(some 72), none, .call 29 [] none false⟩),
    (1, ⟨(some 8), none, .mv (.t 72)⟩)] (some [8])) .ret) .skip)) (.seq (.ops 9 [
    (0, ⟨(some 74), none, .load (some 8) (.t 4)⟩),
    (1, ⟨(some 75), none, .mv (.t 2)⟩),
    (2, ⟨(some 76), none, .mv (.t 3)⟩),
    (3, ⟨(some 77), none, .call 31 [(.t 74), (.t 75), (.t 76)] none false⟩),
    (4, ⟨(some 73), none, .mv (.t 77)⟩),
    (5, ⟨(some 78), none, .ext (.t 73) 0⟩),
    (6, ⟨(some 79), none, .ext (.t 73) 1⟩),
    (7, ⟨(some 11), none, .mv (.t 78)⟩),
    (8, ⟨(some 12), none, .mv (.t 79)⟩)] (some [2, 3, 5, 9, 10, 11])) (.seq (.ops 9 [
    (0, ⟨(some 81), none, .load (some 8) (.t 5)⟩),
    (1, ⟨(some 82), none, .mv (.t 2)⟩),
    (2, ⟨(some 83), none, .mv (.t 3)⟩),
    (3, ⟨(some 84), none, .call 31 [(.t 81), (.t 82), (.t 83)] none false⟩),
    (4, ⟨(some 80), none, .mv (.t 84)⟩),
    (5, ⟨(some 85), none, .ext (.t 80) 0⟩),
    (6, ⟨(some 86), none, .ext (.t 80) 1⟩),
    (7, ⟨(some 13), none, .mv (.t 85)⟩),
    (8, ⟨(some 14), none, .mv (.t 86)⟩)] (some [2, 3, 5, 9, 10, 11, 13])) (.seq (.ops 10 [
    (0, ⟨(some 87), none, .mv (.t 2)⟩),
    (1, ⟨(some 88), none, .lenT (.t 87)⟩),
    (2, ⟨(some 89), none, .arith .add (.t 88) (.k (.d (.val (.int .i64 1))))⟩),
    (3, ⟨(some 90), none, .mks [(.bool false)] 1 (.t 89) (.t 89)⟩),
    (4, ⟨(some 91), none, .mv (.t 2)⟩),
    (5, ⟨(some 92), none, .lenT (.t 91)⟩),
    (6, ⟨(some 93), none, .arith .add (.t 92) (.k (.d (.val (.int .i64 1))))⟩),
    (7, ⟨(some 94), none, .mks [(.bool false)] 1 (.t 93) (.t 93)⟩),
    (8, ⟨(some 15), none, .mv (.t 90)⟩),
    (9, ⟨(some 16), none, .mv (.t 94)⟩)] (some [2, 3, 5, 9, 10, 11, 13, 15, 16])) (.seq (.seq (.ops 3 [
    (0, ⟨(some 95), none, .mv (.t 13)⟩),
    (1, ⟨(some 96), none, .lenS (.t 95)⟩),
    (2, ⟨(some 97), none, .mv (.k (.d (.val (.int .i64 0))))⟩)] (some [2, 3, 5, 9, 10, 11, 15, 16, 95, 96, 97])) (.block 0 (.loop (.seq (.ops 1 [
    (0, ⟨(some 98), none, .arith .lss (.t 97) (.t 96)⟩)] (some [2, 3, 5, 9, 10, 11, 15, 16, 95, 96, 97, 98])) (.seq (.cond (.t 98) .skip (.exit 0)) (.seq (.block 1 (.seq (.ops 3 [
    (0, ⟨(some 99), none, .idxS 1 (.t 95) (.t 97)⟩),
    (1, ⟨(some 100), none, .load none (.t 99)⟩),
    (2, ⟨(some 18), none, .mv (.t 100)⟩)] (some [2, 3, 5, 9, 10, 11, 15, 16, 18, 95, 96, 97])) (.ops 4 [
    (0, ⟨(some 101), none, .mv (.t 15)⟩),
    (1, ⟨(some 102), none, .mv (.t 18)⟩),
    (2, ⟨(some 103), none, .idxS 1 (.t 101) (.t 102)⟩),
    (3, ⟨none, none, .store 1 (.t 103) (.k (.d (.val (.bool true))))⟩)] (some [2, 3, 5, 9, 10, 11, 15, 16, 95, 96, 97])))) (.ops 2 [
    (0, ⟨(some 104), none, .arith .add (.t 97) (.k (.d (.val (.int .i64 1))))⟩),
    (1, ⟨(some 97), none, .mv (.t 104)⟩)] (some [2, 3, 5, 9, 10, 11, 15, 16, 95, 96, 97])))))))) (.seq (.seq (.ops 3 [
    (0, ⟨(some 105), none, .mv (.t 11)⟩),
    (1, ⟨(some 106), none, .lenS (.t 105)⟩),
    (2, ⟨(some 107), none, .mv (.k (.d (.val (.int .i64 0))))⟩)] (some [2, 3, 5, 9, 10, 15, 16, 105, 106, 107])) (.block 2 (.loop (.seq (.ops 1 [
    (0, ⟨(some 108), none, .arith .lss (.t 107) (.t 106)⟩)] (some [2, 3, 5, 9, 10, 15, 16, 105, 106, 107, 108])) (.seq (.cond (.t 108) .skip (.exit 2)) (.seq (.block 3 (.seq (.ops 3 [
    (0, ⟨(some 109), none, .idxS 1 (.t 105) (.t 107)⟩),
    (1, ⟨(some 110), none, .load none (.t 109)⟩),
    (2, ⟨(some 20), none, .mv (.t 110)⟩)] (some [2, 3, 5, 9, 10, 15, 16, 20, 105, 106, 107])) (.seq (.ops 4 [
    (0, ⟨(some 111), none, .mv (.t 15)⟩),
    (1, ⟨(some 112), none, .mv (.t 20)⟩),
    (2, ⟨(some 113), none, .idxS 1 (.t 111) (.t 112)⟩),
    (3, ⟨none, none, .store 1 (.t 113) (.k (.d (.val (.bool true))))⟩)] (some [2, 3, 5, 9, 10, 15, 16, 20, 105, 106, 107])) (.seq (.ops 9 [
    (0, ⟨(some 115), none, .load (some 8) (.t 5)⟩),
    (1, ⟨(some 116), none, .mv (.t 2)⟩),
    (2, ⟨(some 117), none, .mv (.t 20)⟩),
    (3, ⟨(some 118), none, .call 31 [(.t 115), (.t 116), (.t 117)] none false⟩),
    (4, ⟨(some 114), none, .mv (.t 118)⟩),
    (5, ⟨(some 119), none, .ext (.t 114) 0⟩),
    (6, ⟨(some 120), none, .ext (.t 114) 1⟩),
    (7, ⟨(some 21), none, .mv (.t 119)⟩),
    (8, ⟨(some 22), none, .mv (.t 120)⟩)] (some [2, 3, 5, 9, 10, 15, 16, 21, 105, 106, 107])) (.seq (.ops 3 [
    (0, ⟨(some 121), none, .mv (.t 21)⟩),
    (1, ⟨(some 122), none, .lenS (.t 121)⟩),
    (2, ⟨(some 123), none, .mv (.k (.d (.val (.int .i64 0))))⟩)] (some [2, 3, 5, 9, 10, 15, 16, 105, 106, 107, 121, 122, 123])) (.block 4 (.loop (.seq (.ops 1 [
    (0, ⟨(some 124), none, .arith .lss (.t 123) (.t 122)⟩)] (some [2, 3, 5, 9, 10, 15, 16, 105, 106, 107, 121, 122, 123, 124])) (.seq (.cond (.t 124) .skip (.exit 4)) (.seq (.block 5 (.seq (.ops 3 [
    (0, ⟨(some 125), none, .idxS 1 (.t 121) (.t 123)⟩),
    (1, ⟨(some 126), none, .load none (.t 125)⟩),
    (2, ⟨(some 24), none, .mv (.t 126)⟩)] (some [2, 3, 5, 9, 10, 15, 16, 24, 105, 106, 107, 121, 122, 123])) (.ops 4 [
    (0, ⟨(some 127), none, .mv (.t 16)⟩),
    (1, ⟨(some 128), none, .mv (.t 24)⟩),
    (2, ⟨(some 129), none, .idxS 1 (.t 127) (.t 128)⟩),
    (3, ⟨none, none, .store 1 (.t 129) (.k (.d (.val (.bool true))))⟩)] (some [2, 3, 5, 9, 10, 15, 16, 105, 106, 107, 121, 122, 123])))) (.ops 2 [
    (0, ⟨(some 130), none, .arith .add (.t 123) (.k (.d (.val (.int .i64 1))))⟩),
    (1, ⟨(some 123), none, .mv (.t 130)⟩)] (some [2, 3, 5, 9, 10, 15, 16, 105, 106, 107, 121, 122, 123])))))))))))) (.ops 2 [
    (0, ⟨(some 131), none, .arith .add (.t 107) (.k (.d (.val (.int .i64 1))))⟩),
    (1, ⟨(some 107), none, .mv (.t 131)⟩)] (some [2, 3, 5, 9, 10, 15, 16, 105, 106, 107])))))))) (.seq (.ops 9 [
    (0, ⟨(some 133), none, .load (some 8) (.t 9)⟩),
    (1, ⟨(some 134), none, .mv (.t 2)⟩),
    (2, ⟨(some 135), none, .mv (.t 3)⟩),
    (3, ⟨(some 136), none, .call 31 [(.t 133), (.t 134), (.t 135)] none false⟩),
    (4, ⟨(some 132), none, .mv (.t 136)⟩),
    (5, ⟨(some 137), none, .ext (.t 132) 0⟩),
    (6, ⟨(some 138), none, .ext (.t 132) 1⟩),
    (7, ⟨(some 25), none, .mv (.t 137)⟩),
    (8, ⟨(some 26), none, .mv (.t 138)⟩)] (some [2, 3, 10, 15, 16, 25, 26])) (.seq (.ops 9 [
    (0, ⟨(some 140), none, .load (some 8) (.t 10)⟩),
    (1, ⟨(some 141), none, .mv (.t 2)⟩),
    (2, ⟨(some 142), none, .mv (.t 3)⟩),
    (3, ⟨(some 143), none, .call 31 [(.t 140), (.t 141), (.t 142)] none false⟩),
    (4, ⟨(some 139), none, .mv (.t 143)⟩),
    (5, ⟨(some 144), none, .ext (.t 139) 0⟩),
    (6, ⟨(some 145), none, .ext (.t 139) 1⟩),
    (7, ⟨(some 27), none, .mv (.t 144)⟩),
    (8, ⟨(some 28), none, .mv (.t 145)⟩)] (some [15, 16, 25, 26, 27, 28])) (.seq (.ops 2 [
    (0, ⟨(some 29), none, .mv (.k (.d (.val (.int .i64 0))))⟩),
    (1, ⟨(some 30), none, .mv (.k (.d (.val (.int .i64 0))))⟩)] (some [15, 16, 25, 26, 27, 28, 29, 30])) (.seq (.seq (.ops 3 [
    (0, ⟨(some 146), none, .mv (.t 15)⟩),
    (1, ⟨(some 147), none, .lenS (.t 146)⟩),
    (2, ⟨(some 148), none, .mv (.k (.d (.val (.int .i64 0))))⟩)] (some [15, 16, 25, 26, 27, 28, 29, 30, 147, 148])) (.block 6 (.loop (.seq (.ops 1 [
    (0, ⟨(some 149), none, .arith .lss (.t 148) (.t 147)⟩)] (some [15, 16, 25, 26, 27, 28, 29, 30, 147, 148, 149])) (.seq (.cond (.t 149) .skip (.exit 6)) (.seq (.block 7 (.seq (.ops 2 [
    (0, ⟨(some 150), none, .mv (.t 148)⟩),
    (1, ⟨(some 31), none, .mv (.t 150)⟩)] (some [15, 16, 25, 26, 27, 28, 29, 30, 31, 147, 148])) (.seq (.seq (.ops 4 [
    (0, ⟨(some 151), none, .mv (.t 15)⟩),
    (1, ⟨(some 152), none, .mv (.t 31)⟩),
    (2, ⟨(some 153), none, .idxS 1 (.t 151) (.t 152)⟩),
    (3, ⟨(some 154), none, .load none (.t 153)⟩)] (some [15, 16, 25, 26, 27, 28, 29, 30, 31, 147, 148, 154])) (.cond (.t 154) (.ops 3 [
    (0, ⟨(some 155), none, .mv (.t 29)⟩),
    (1, ⟨(some 156), none, .arith .add (.t 155) (.k (.d (.val (.int .i64 1))))⟩),
    (2, ⟨(some 29), none, .mv (.t 156)⟩)] (some [15, 16, 25, 26, 27, 28, 29, 30, 31, 147, 148])) .skip)) (.seq (.ops 4 [
    (0, ⟨(some 157), none, .mv (.t 16)⟩),
    (1, ⟨(some 158), none, .mv (.t 31)⟩),
    (2, ⟨(some 159), none, .idxS 1 (.t 157) (.t 158)⟩),
    (3, ⟨(some 160), none, .load none (.t 159)⟩)] (some [15, 16, 25, 26, 27, 28, 29, 30, 147, 148, 160])) (.cond (.t 160) (.ops 3 [
    (0, ⟨(some 161), none, .mv (.t 30)⟩),
    (1, ⟨(some 162), none, .arith .add (.t 161) (.k (.d (.val (.int .i64 1))))⟩),
    (2, ⟨(some 30), none, .mv (.t 162)⟩)] (some [15, 16, 25, 26, 27, 28, 29, 30, 147, 148])) .skip))))) (.ops 2 [
    (0, ⟨(some 163), none, .arith .add (.t 148) (.k (.d (.val (.int .i64 1))))⟩),
    (1, ⟨(some 148), none, .mv (.t 163)⟩)] (some [15, 16, 25, 26, 27, 28, 29, 30, 147, 148])))))))) (.seq (.seq (.ops 18 [
    (0, ⟨(some 164), none, .mv (.t 26)⟩),
    (1, ⟨(some 165), none, .arith .neq (.t 164) (.k (.d (.val (.int .i64 0))))⟩),
    (2, ⟨(some 166), none, .mv (.t 165)⟩),
    (3, ⟨(some 167), (some (166, false)), .mv (.t 28)⟩),
    (4, ⟨(some 168), (some (166, false)), .arith .neq (.t 167) (.k (.d (.val (.int .i64 0))))⟩),
    (5, ⟨(some 169), none, .pick (.t 166) (.k (.d (.val (.bool true)))) (.t 168)⟩),
    (6, ⟨(some 170), none, .mv (.t 169)⟩),
    (7, ⟨(some 171), (some (170, false)), .mv (.t 25)⟩),
    (8, ⟨(some 172), (some (170, false)), .lenS (.t 171)⟩),
    (9, ⟨(some 173), (some (170, false)), .mv (.t 29)⟩),
    (10, ⟨(some 174), (some (170, false)), .arith .neq (.t 172) (.t 173)⟩),
    (11, ⟨(some 175), none, .pick (.t 170) (.k (.d (.val (.bool true)))) (.t 174)⟩),
    (12, ⟨(some 176), none, .mv (.t 175)⟩),
    (13, ⟨(some 177), (some (176, false)), .mv (.t 27)⟩),
    (14, ⟨(some 178), (some (176, false)), .lenS (.t 177)⟩),
    (15, ⟨(some 179), (some (176, false)), .mv (.t 30)⟩),
    (16, ⟨(some 180), (some (176, false)), .arith .neq (.t 178) (.t 179)⟩),
    (17, ⟨(some 181), none, .pick (.t 176) (.k (.d (.val (.bool true)))) (.t 180)⟩)] (some [15, 16, 25, 27, 181])) (.cond (.t 181) (.seq (.ops 1 [
    (0, ⟨(some 8), none, .mv (.k (.d (.val (.bool false))))⟩)] (some [8])) .ret) .skip)) (.seq (.seq (.ops 3 [
    (0, ⟨(some 182), none, .mv (.t 25)⟩),
    (1, ⟨(some 183), none, .lenS (.t 182)⟩),
    (2, ⟨(some 184), none, .mv (.k (.d (.val (.int .i64 0))))⟩)] (some [15, 16, 27, 182, 183, 184])) (.block 8 (.loop (.seq (.ops 1 [
    (0, ⟨(some 185), none, .arith .lss (.t 184) (.t 183)⟩)] (some [15, 16, 27, 182, 183, 184, 185])) (.seq (.cond (.t 185) .skip (.exit 8)) (.seq (.block 9 (.seq (.ops 3 [
    (0, ⟨(some 186), none, .idxS 1 (.t 182) (.t 184)⟩),
    (1, ⟨(some 187), none, .load none (.t 186)⟩),
    (2, ⟨(some 33), none, .mv (.t 187)⟩)] (some [15, 16, 27, 33, 182, 183, 184])) (.seq (.ops 5 [
    (0, ⟨(some 188), none, .mv (.t 15)⟩),
    (1, ⟨(some 189), none, .mv (.t 33)⟩),
    (2, ⟨(some 190), none, .idxS 1 (.t 188) (.t 189)⟩),
    (3, ⟨(some 191), none, .load none (.t 190)⟩),
    (4, ⟨(some 192), none, .un .not (.t 191)⟩)] (some [15, 16, 27, 182, 183, 184, 192])) (.cond (.t 192) (.seq (.ops 1 [
    (0, ⟨(some 8), none, .mv (.k (.d (.val (.bool false))))⟩)] (some [8])) .ret) .skip)))) (.ops 2 [
    (0, ⟨(some 193), none, .arith .add (.t 184) (.k (.d (.val (.int .i64 1))))⟩),
    (1, ⟨(some 184), none, .mv (.t 193)⟩)] (some [15, 16, 27, 182, 183, 184])))))))) (.seq (.seq (.ops 3 [
    (0, ⟨(some 194), none, .mv (.t 27)⟩),
    (1, ⟨(some 195), none, .lenS (.t 194)⟩),
    (2, ⟨(some 196), none, .mv (.k (.d (.val (.int .i64 0))))⟩)] (some [16, 194, 195, 196])) (.block 10 (.loop (.seq (.ops 1 [
    (0, ⟨(some 197), none, .arith .lss (.t 196) (.t 195)⟩)] (some [16, 194, 195, 196, 197])) (.seq (.cond (.t 197) .skip (.exit 10)) (.seq (.block 11 (.seq (.ops 3 [
    (0, ⟨(some 198), none, .idxS 1 (.t 194) (.t 196)⟩),
    (1, ⟨(some 199), none, .load none (.t 198)⟩),
    (2, ⟨(some 35), none, .mv (.t 199)⟩)] (some [16, 35, 194, 195, 196])) (.seq (.ops 5 [
    (0, ⟨(some 200), none, .mv (.t 16)⟩),
    (1, ⟨(some 201), none, .mv (.t 35)⟩),
    (2, ⟨(some 202), none, .idxS 1 (.t 200) (.t 201)⟩),
    (3, ⟨(some 203), none, .load none (.t 202)⟩),
    (4, ⟨(some 204), none, .un .not (.t 203)⟩)] (some [16, 194, 195, 196, 204])) (.cond (.t 204) (.seq (.ops 1 [
    (0, ⟨(some 8), none, .mv (.k (.d (.val (.bool false))))⟩)] (some [8])) .ret) .skip)))) (.ops 2 [
    (0, ⟨(some 205), none, .arith .add (.t 196) (.k (.d (.val (.int .i64 1))))⟩),
    (1, ⟨(some 196), none, .mv (.t 205)⟩)] (some [16, 194, 195, 196])))))))) (.seq (.ops 1 [
    (0, ⟨(some 8), none, .mv (.k (.d (.val (.bool true))))⟩)] (some [8])) .ret))))))))))))))))
def md8 : FuncId → Option Nat × Bool
  | _ => (none, false)
def od8 : Nat → List (List Nat) × List Nat × Option (List Nat)
  | 0 => ([], [], some [2, 3, 4, 5])
  | 1 => ([[], [], [0, 1], [0, 1, 2], [], [], [4, 5], [4, 5, 6], [], [], [0, 1, 2, 3, 8, 9], [0, 1, 2, 3, 4, 5, 6, 7, 8, 9, 10]], [5, 4, 0, 1, 2, 3, 8, 9, 10, 6, 7, 11], some [2, 3, 4, 5, 9, 10])
  | 2 => ([], [], some [2, 3, 4, 5, 9, 10, 71])
  | 3 => ([], [], some [8])
  | 4 => ([], [], some [2, 3, 5, 9, 10, 11])
  | 5 => ([], [], some [2, 3, 5, 9, 10, 11, 13])
  | 6 => ([[], [0], [0, 1], [0, 1, 2], [], [4], [4, 5], [4, 5, 6], [0, 1, 2, 3], [0, 1, 2, 3, 4, 5, 6, 7, 8]], [0, 1, 2, 3, 4, 5, 6, 7, 8, 9], some [2, 3, 5, 9, 10, 11, 13, 15, 16])
  | 7 => ([], [], some [2, 3, 5, 9, 10, 11, 15, 16, 95, 96, 97])
  | 8 => ([], [], some [2, 3, 5, 9, 10, 11, 15, 16, 95, 96, 97, 98])
  | 9 => ([], [], some [2, 3, 5, 9, 10, 11, 15, 16, 18, 95, 96, 97])
  | 10 => ([], [], some [2, 3, 5, 9, 10, 11, 15, 16, 95, 96, 97])
  | 11 => ([], [], some [2, 3, 5, 9, 10, 11, 15, 16, 95, 96, 97])
  | 12 => ([], [], some [2, 3, 5, 9, 10, 15, 16, 105, 106, 107])
  | 13 => ([], [], some [2, 3, 5, 9, 10, 15, 16, 105, 106, 107, 108])
  | 14 => ([], [], some [2, 3, 5, 9, 10, 15, 16, 20, 105, 106, 107])
  | 15 => ([], [], some [2, 3, 5, 9, 10, 15, 16, 20, 105, 106, 107])
  | 16 => ([], [], some [2, 3, 5, 9, 10, 15, 16, 21, 105, 106, 107])
  | 17 => ([], [], some [2, 3, 5, 9, 10, 15, 16, 105, 106, 107, 121, 122, 123])
  | 18 => ([], [], some [2, 3, 5, 9, 10, 15, 16, 105, 106, 107, 121, 122, 123, 124])
  | 19 => ([], [], some [2, 3, 5, 9, 10, 15, 16, 24, 105, 106, 107, 121, 122, 123])
  | 20 => ([], [], some [2, 3, 5, 9, 10, 15, 16, 105, 106, 107, 121, 122, 123])
  | 21 => ([], [], some [2, 3, 5, 9, 10, 15, 16, 105, 106, 107, 121, 122, 123])
  | 22 => ([], [], some [2, 3, 5, 9, 10, 15, 16, 105, 106, 107])
  | 23 => ([], [], some [2, 3, 10, 15, 16, 25, 26])
  | 24 => ([], [], some [15, 16, 25, 26, 27, 28])
  | 25 => ([], [], some [15, 16, 25, 26, 27, 28, 29, 30])
  | 26 => ([], [], some [15, 16, 25, 26, 27, 28, 29, 30, 147, 148])
  | 27 => ([], [], some [15, 16, 25, 26, 27, 28, 29, 30, 147, 148, 149])
  | 28 => ([], [], some [15, 16, 25, 26, 27, 28, 29, 30, 31, 147, 148])
  | 29 => ([], [], some [15, 16, 25, 26, 27, 28, 29, 30, 31, 147, 148, 154])
  | 30 => ([], [], some [15, 16, 25, 26, 27, 28, 29, 30, 31, 147, 148])
  | 31 => ([], [], some [15, 16, 25, 26, 27, 28, 29, 30, 147, 148, 160])
  | 32 => ([], [], some [15, 16, 25, 26, 27, 28, 29, 30, 147, 148])
  | 33 => ([], [], some [15, 16, 25, 26, 27, 28, 29, 30, 147, 148])
  | 34 => ([], [], some [15, 16, 25, 27, 181])
  | 35 => ([], [], some [8])
  | 36 => ([], [], some [15, 16, 27, 182, 183, 184])
  | 37 => ([], [], some [15, 16, 27, 182, 183, 184, 185])
  | 38 => ([], [], some [15, 16, 27, 33, 182, 183, 184])
  | 39 => ([], [], some [15, 16, 27, 182, 183, 184, 192])
  | 40 => ([], [], some [8])
  | 41 => ([], [], some [15, 16, 27, 182, 183, 184])
  | 42 => ([], [], some [16, 194, 195, 196])
  | 43 => ([], [], some [16, 194, 195, 196, 197])
  | 44 => ([], [], some [16, 35, 194, 195, 196])
  | 45 => ([], [], some [16, 194, 195, 196, 204])
  | 46 => ([], [], some [8])
  | 47 => ([], [], some [16, 194, 195, 196])
  | 48 => ([], [], some [8])
  | _ => ([], [], none)
theorem b8 {ags : List AV} {row : Option (List DV)} {r : AV} {row' nw : Option (List DV)} (hal : ags.length ≤ 206) (hrow : row'.isSome = true → row.isSome = true) (h : xwp Try.prog x8 (retK [.tmp 8] row.isSome r row' nw) (St.init ags row)) : Good Try.prog 8 ags row r row' nw :=
  good_of_body' (md := md8) (od := od8) Try.f8 (by kernel_rfl) (by kernel_rfl) (by kernel_rfl) (by kernel_rfl) (by kernel_rfl) hal hrow h

theorem fzB' {fr : Fr} {C : Heap} {Z : Frz} {nx : Nat} {k b m : Nat} {p : List Bool} (hx : X.ev fr (.t k) = .slL b 0 m 1) (hC : C b = some ((encB p).map AV.d)) (hm : p.length = m) (h0 : 0 < m) {st' : St} (hw : Wkf ⟨fr.put k (.d (.sl (encB p) m)), C, Z.add [b], nx⟩ st') : Wkf ⟨fr, C, Z, nx⟩ st' := by
  refine fz1' (k := k) (v := .d (.sl (encB p) m)) (u := [b]) ?_ hw
  rw [hx]
  simp only [convA, conv_slB (ex := fun _ => false) rfl hC hm h0, Option.map_some]
theorem ends_get {s : ByteArray} {t : T} (hf : fitsT t 12 = true) (hok : okT t) {j : Nat} (hj : j ≤ s.size) (i : Nat) (hi : i < (allG s t j).length) : ∃ kk : Nat, kk ≤ s.size ∧ (allG s t j)[i]? = some ((kk : Nat) : Int) := by
  obtain ⟨k, h1, h2, h3, h4⟩ := (mem_allG hf hok hj _).1 (List.getElem_mem hi)
  exact ⟨k, h3, by rw [List.getElem?_eq_getElem hi, h1]⟩
theorem mark_step {p : List Bool} {l : List Int} {i kk : Nat} {A : Nat → Prop} (hk : kk < p.length) (hi : l[i]? = some ((kk : Nat) : Int)) (h : ∀ k : Nat, At p k ↔ A k ∨ ∃ i', i' < i ∧ l[i']? = some ((k : Nat) : Int)) : ∀ k : Nat, At (p.set kk true) k ↔ A k ∨ ∃ i', i' < i + 1 ∧ l[i']? = some ((k : Nat) : Int) := by
  intro k
  rw [at_set k hk, h k]
  constructor
  · rintro (⟨rfl, _⟩ | ⟨_, h1 | ⟨i', h1, h2⟩⟩)
    · exact .inr ⟨i, by omega, hi⟩
    · exact .inl h1
    · exact .inr ⟨i', by omega, h2⟩
  · rintro (h1 | ⟨i', h1, h2⟩)
    · by_cases e : k = kk
      · exact .inl ⟨e, rfl⟩
      · exact .inr ⟨e, .inl h1⟩
    · by_cases e : k = kk
      · exact .inl ⟨e, rfl⟩
      · refine .inr ⟨e, .inr ⟨i', ?_, h2⟩⟩
        by_cases e2 : i' = i
        · subst e2; rw [hi] at h2; simp at h2; omega
        · omega
theorem mem_lt {l : List Int} {x : Int} : (∃ i', i' < l.length ∧ l[i']? = some x) ↔ x ∈ l := by
  rw [List.mem_iff_getElem?]
  constructor
  · rintro ⟨i, _, h⟩; exact ⟨i, h⟩
  · rintro ⟨i, h⟩; exact ⟨i, (List.getElem?_eq_some_iff.1 h).1, h⟩
theorem ends_len {s : ByteArray} {t : T} (hf : fitsT t 12 = true) {j : Nat} (hj : j ≤ s.size) : (allG s t j).length ≤ s.size + 1 := by
  rw [allG_eq hf hj]; exact idxTo_len _ _
theorem idx_get {p : List Bool} {l : List Int} {n : Nat} (e : l = idxTo p (n + 1)) (hpl : p.length = n + 1) (i : Nat) (hi : i < l.length) : ∃ kk : Nat, kk ≤ n ∧ l[i]? = some ((kk : Nat) : Int) ∧ p[kk]? = some true := by
  subst e
  have h1 := List.getElem_mem hi
  rw [mem_idxTo] at h1
  obtain ⟨k, h1, h2, h3⟩ := h1
  refine ⟨k, by omega, by rw [List.getElem?_eq_getElem hi, h3], ?_⟩
  unfold At at h2
  rw [List.getD_eq_getElem?_getD, List.getElem?_eq_getElem (by omega)] at h2
  rw [List.getElem?_eq_getElem (by omega)]
  simpa using h2
set_option maxRecDepth 100000
set_option maxHeartbeats 4000000
attribute [local irreducible] W E R KP thenK blockK retK Good xwp aRun
theorem law8 (t u : T) (s : ByteArray) (n : Int) (ht : inT t) (hu : inT u) (hs : s.size ≤ 9223372036854775807) (hn : inW n) : Good Try.prog 8 [nodeA t, nodeA u, .d (.val (.string s)), .i n] none (.b true) none none := by
  have haw := awake11_good
  have z : inW 0 := by unfold inW; omega
  have o : okW 0 := by unfold okW; omega
  have k3 : inW 3 := by unfold inW; omega
  have k4 : inW 4 := by unfold inW; omega
  have hina : inT (altT t u) := by simp only [altT, inT, inL, z, o, k4, ht, hu, and_self]
  have hinc : inT (catT t u) := by simp only [catT, inT, inL, z, o, k3, ht, hu, and_self]
  have h30 := few30_good s hs (altT t u) hina
  clear z o k3 k4
  unfold inW at hn
  by_cases hf : few11 s (altT t u) = true
  case neg =>
    have hf : few11 s (altT t u) = false := by simpa using hf
    rw [hf] at h30
    clear ht hu hf hina hinc
    obtain ⟨k, a, b, c, d, mn, mx, subs⟩ := t
    obtain ⟨k2, a2, b2, c2, d2, mn2, mx2, subs2⟩ := u
    have e0 : nodeA (.node k a b c d mn mx subs) = .agg [.i k, .d (.val (.int .u64 a)), .d (.val (.int .u64 b)), .d (.val (.int .u64 c)), .d (.val (.int .u64 d)), .i mn, .i mx, .d (.sl (encL subs) subs.length)] := rfl
    have e1 : nodeA (.node k2 a2 b2 c2 d2 mn2 mx2 subs2) = .agg [.i k2, .d (.val (.int .u64 a2)), .d (.val (.int .u64 b2)), .d (.val (.int .u64 c2)), .d (.val (.int .u64 d2)), .i mn2, .i mx2, .d (.sl (encL subs2) subs2.length)] := rfl
    rw [e0, e1]
    refine b8 (by simp) (by simp) (w_init ?_)
    unfold x8
    repeat' (first
    | (apply r_mvV; rfl)
    | (apply r_mvP; rfl)
    | (apply r_mvPL; rfl)
    | (apply r_mvS; rfl)
    | (apply r_mvSL; rfl)
    | (apply r_mvA; rfl)
    | (apply r_mvT; rfl)
    | (apply r_mvF; rfl)
    | (apply r_mvD; rfl)
    | (apply r_ldL (v := .agg [.i k, .d (.val (.int .u64 a)), .d (.val (.int .u64 b)), .d (.val (.int .u64 c)), .d (.val (.int .u64 d)), .i mn, .i mx, .d (.sl (encL subs) subs.length)]); rfl; rfl; rfl)
    | (apply r_ldL (v := .agg [.i k2, .d (.val (.int .u64 a2)), .d (.val (.int .u64 b2)), .d (.val (.int .u64 c2)), .d (.val (.int .u64 d2)), .i mn2, .i mx2, .d (.sl (encL subs2) subs2.length)]); rfl; rfl; rfl)
    | (apply r_ldL (v := .agg [.i 4, .d (.val (.int .u64 0)), .d (.val (.int .u64 0)), .d (.val (.int .u64 0)), .d (.val (.int .u64 0)), .i 0, .i 0, .slL 6 0 2 8]); rfl; rfl; rfl)
    | (apply r_ldL (v := .agg [.i 3, .d (.val (.int .u64 0)), .d (.val (.int .u64 0)), .d (.val (.int .u64 0)), .d (.val (.int .u64 0)), .i 0, .i 0, .slL 10 0 2 8]); rfl; rfl; rfl)
    | (apply r_n (v := .slL 6 0 2 8) (r := [.i k, .d (.val (.int .u64 a)), .d (.val (.int .u64 b)), .d (.val (.int .u64 c)), .d (.val (.int .u64 d)), .i mn, .i mx, .d (.sl (encL subs) subs.length), .i k2, .d (.val (.int .u64 a2)), .d (.val (.int .u64 b2)), .d (.val (.int .u64 c2)), .d (.val (.int .u64 d2)), .i mn2, .i mx2, .d (.sl (encL subs2) subs2.length)]); rfl)
    | (apply r_n (v := .slL 10 0 2 8) (r := [.i k, .d (.val (.int .u64 a)), .d (.val (.int .u64 b)), .d (.val (.int .u64 c)), .d (.val (.int .u64 d)), .i mn, .i mx, .d (.sl (encL subs) subs.length), .i k2, .d (.val (.int .u64 a2)), .d (.val (.int .u64 b2)), .d (.val (.int .u64 c2)), .d (.val (.int .u64 d2)), .i mn2, .i mx2, .d (.sl (encL subs2) subs2.length)]); rfl)
    | (apply r_p (v := .agg [.i 4, .d (.val (.int .u64 0)), .d (.val (.int .u64 0)), .d (.val (.int .u64 0)), .d (.val (.int .u64 0)), .i 0, .i 0, .slL 6 0 2 8]); rfl)
    | (apply r_p (v := .agg [.i 3, .d (.val (.int .u64 0)), .d (.val (.int .u64 0)), .d (.val (.int .u64 0)), .d (.val (.int .u64 0)), .i 0, .i 0, .slL 10 0 2 8]); rfl)
    | (apply r_callA (ags := []); rfl; rfl; exact haw)
    | (apply r_call (bs := [nodeA (altT (.node k a b c d mn mx subs) (.node k2 a2 b2 c2 d2 mn2 mx2 subs2)), .d (.val (.string s))]) (us := [6]); rfl; rfl; exact h30; rfl)
    | (apply r_ldL; rfl; rfl; rfl)
    | (apply r_neq; rfl; rfl; (first | (apply decide_eq_true; omega) | (apply decide_eq_false; omega) | rfl))
    | (apply r_lss; rfl; rfl; (first | (apply decide_eq_true; omega) | (apply decide_eq_false; omega) | rfl))
    | (apply r_gtr; rfl; rfl; (first | (apply decide_eq_true; omega) | (apply decide_eq_false; omega) | rfl))
    | (apply r_add; rfl; rfl; rfl; omega)
    | (apply r_not; rfl; rfl)
    | (apply r_pickT; rfl)
    | (apply r_pickF; rfl)
    | (apply r_lenD; rfl)
    | (apply r_lenL; rfl)
    | (apply r_len0; rfl)
    | (apply r_lenT; rfl)
    | (apply r_ext; rfl; rfl)
    | (apply r_gT; rfl)
    | (apply r_gF'; rfl; rfl)
    | (apply r_gN'; rfl)
    | ((apply r_gS (o := default); rfl) <;> (intro h; try simp only [decide_eq_true_eq, decide_eq_false_iff_not, Bool.not_eq_true, Bool.not_eq_false] at h))
    | (apply r_alloc; ((conv => lhs; simp only [Nat.reduceAdd]) <;> rfl); rfl)
    | (apply r_box; ((conv => lhs; simp only [Nat.reduceAdd]) <;> rfl); rfl; rfl; rfl)
    | (apply r_avS; rfl)
    | (apply r_stL; rfl; rfl; rfl; rfl; (first | rfl | (simp only [z_nil, z_add] <;> rfl)); rfl; rfl)
    | (apply r_p; rfl)
    | (apply r_nilK)
    | (apply r_nil)
    | (apply k_V; rfl)
    | (apply k_P; rfl)
    | (apply k_PL; rfl)
    | (apply k_S; rfl)
    | (apply k_SL; rfl)
    | (apply k_A; rfl)
    | (apply k_T; rfl)
    | (apply k_F; rfl)
    | (apply k_D; rfl; rotate_left; rfl)
    | (apply k_nil)
    | (apply e_ret (vs := [.d (.val _)]); rfl)
    | (apply e_ret; rfl)
    | (apply e_ret' (vs := [.d (.val _)]); rfl)
    | (apply e_ret'; rfl)
    | (apply w_seq)
    | (apply w_ops; ((conv => lhs; simp only [Nat.reduceAdd]) <;> rfl))
    | (apply w_condT; rfl)
    | (apply w_condF; rfl)
    | ((apply w_condS; rfl) <;> (intro h; try simp only [decide_eq_true_eq, decide_eq_false_iff_not, Bool.not_eq_true, Bool.not_eq_false] at h))
    | (apply e_thenN)
    | (apply w_block)
    | (apply e_thenR)
    | (apply e_thenX)
    | (apply e_blkN)
    | (apply e_blkR)
    | (apply e_blkE)
    | (apply w_exit)
    | (apply w_ret)
    | (apply w_skip)
    | (apply e_blkE'; rfl))
    exact retB rfl
  rw [hf] at h30
  simp only [few11, Bool.and_eq_true, decide_eq_true_eq] at hf
  obtain ⟨hf1, hf2, _⟩ := hf
  have hc := few_cnt hf1
  have hcc : (catT t u).cnt ≤ 200 := by
    have : (catT t u).cnt = (altT t u).cnt := by simp [catT, altT, T.cnt, cntL]
    omega
  have h32 := right8_good (altT t u) (by omega)
  have h32c := right8_good (catT t u) (by omega)
  by_cases hr : rightT (altT t u) = true
  case neg =>
    have hr : rightT (altT t u) = false := by simpa using hr
    rw [hr] at h32
    clear ht hu hina hinc hr hf1 hc hcc h32c
    obtain ⟨k, a, b, c, d, mn, mx, subs⟩ := t
    obtain ⟨k2, a2, b2, c2, d2, mn2, mx2, subs2⟩ := u
    have e0 : nodeA (.node k a b c d mn mx subs) = .agg [.i k, .d (.val (.int .u64 a)), .d (.val (.int .u64 b)), .d (.val (.int .u64 c)), .d (.val (.int .u64 d)), .i mn, .i mx, .d (.sl (encL subs) subs.length)] := rfl
    have e1 : nodeA (.node k2 a2 b2 c2 d2 mn2 mx2 subs2) = .agg [.i k2, .d (.val (.int .u64 a2)), .d (.val (.int .u64 b2)), .d (.val (.int .u64 c2)), .d (.val (.int .u64 d2)), .i mn2, .i mx2, .d (.sl (encL subs2) subs2.length)] := rfl
    rw [e0, e1]
    refine b8 (by simp) (by simp) (w_init ?_)
    unfold x8
    repeat' (first
    | (apply r_mvV; rfl)
    | (apply r_mvP; rfl)
    | (apply r_mvPL; rfl)
    | (apply r_mvS; rfl)
    | (apply r_mvSL; rfl)
    | (apply r_mvA; rfl)
    | (apply r_mvT; rfl)
    | (apply r_mvF; rfl)
    | (apply r_mvD; rfl)
    | (apply r_ldL (v := .agg [.i k, .d (.val (.int .u64 a)), .d (.val (.int .u64 b)), .d (.val (.int .u64 c)), .d (.val (.int .u64 d)), .i mn, .i mx, .d (.sl (encL subs) subs.length)]); rfl; rfl; rfl)
    | (apply r_ldL (v := .agg [.i k2, .d (.val (.int .u64 a2)), .d (.val (.int .u64 b2)), .d (.val (.int .u64 c2)), .d (.val (.int .u64 d2)), .i mn2, .i mx2, .d (.sl (encL subs2) subs2.length)]); rfl; rfl; rfl)
    | (apply r_ldL (v := .agg [.i 4, .d (.val (.int .u64 0)), .d (.val (.int .u64 0)), .d (.val (.int .u64 0)), .d (.val (.int .u64 0)), .i 0, .i 0, .slL 6 0 2 8]); rfl; rfl; rfl)
    | (apply r_ldL (v := .agg [.i 3, .d (.val (.int .u64 0)), .d (.val (.int .u64 0)), .d (.val (.int .u64 0)), .d (.val (.int .u64 0)), .i 0, .i 0, .slL 10 0 2 8]); rfl; rfl; rfl)
    | (apply r_n (v := .slL 6 0 2 8) (r := [.i k, .d (.val (.int .u64 a)), .d (.val (.int .u64 b)), .d (.val (.int .u64 c)), .d (.val (.int .u64 d)), .i mn, .i mx, .d (.sl (encL subs) subs.length), .i k2, .d (.val (.int .u64 a2)), .d (.val (.int .u64 b2)), .d (.val (.int .u64 c2)), .d (.val (.int .u64 d2)), .i mn2, .i mx2, .d (.sl (encL subs2) subs2.length)]); rfl)
    | (apply r_n (v := .slL 10 0 2 8) (r := [.i k, .d (.val (.int .u64 a)), .d (.val (.int .u64 b)), .d (.val (.int .u64 c)), .d (.val (.int .u64 d)), .i mn, .i mx, .d (.sl (encL subs) subs.length), .i k2, .d (.val (.int .u64 a2)), .d (.val (.int .u64 b2)), .d (.val (.int .u64 c2)), .d (.val (.int .u64 d2)), .i mn2, .i mx2, .d (.sl (encL subs2) subs2.length)]); rfl)
    | (apply r_p (v := .agg [.i 4, .d (.val (.int .u64 0)), .d (.val (.int .u64 0)), .d (.val (.int .u64 0)), .d (.val (.int .u64 0)), .i 0, .i 0, .slL 6 0 2 8]); rfl)
    | (apply r_p (v := .agg [.i 3, .d (.val (.int .u64 0)), .d (.val (.int .u64 0)), .d (.val (.int .u64 0)), .d (.val (.int .u64 0)), .i 0, .i 0, .slL 10 0 2 8]); rfl)
    | (apply r_callA (ags := []); rfl; rfl; exact haw)
    | (apply r_call (bs := [nodeA (altT (.node k a b c d mn mx subs) (.node k2 a2 b2 c2 d2 mn2 mx2 subs2)), .d (.val (.string s))]) (us := [6]); rfl; rfl; exact h30; rfl)
    | (apply r_call (bs := [nodeA (altT (.node k a b c d mn mx subs) (.node k2 a2 b2 c2 d2 mn2 mx2 subs2))]) (us := [6]); rfl; rfl; exact h32; rfl)
    | (apply r_ldL; rfl; rfl; rfl)
    | (apply r_neq; rfl; rfl; (first | (apply decide_eq_true; omega) | (apply decide_eq_false; omega) | rfl))
    | (apply r_lss; rfl; rfl; (first | (apply decide_eq_true; omega) | (apply decide_eq_false; omega) | rfl))
    | (apply r_gtr; rfl; rfl; (first | (apply decide_eq_true; omega) | (apply decide_eq_false; omega) | rfl))
    | (apply r_add; rfl; rfl; rfl; omega)
    | (apply r_not; rfl; rfl)
    | (apply r_pickT; rfl)
    | (apply r_pickF; rfl)
    | (apply r_lenD; rfl)
    | (apply r_lenL; rfl)
    | (apply r_len0; rfl)
    | (apply r_lenT; rfl)
    | (apply r_ext; rfl; rfl)
    | (apply r_gT; rfl)
    | (apply r_gF'; rfl; rfl)
    | (apply r_gN'; rfl)
    | ((apply r_gS (o := default); rfl) <;> (intro h; try simp only [decide_eq_true_eq, decide_eq_false_iff_not, Bool.not_eq_true, Bool.not_eq_false] at h))
    | (apply r_alloc; ((conv => lhs; simp only [Nat.reduceAdd]) <;> rfl); rfl)
    | (apply r_box; ((conv => lhs; simp only [Nat.reduceAdd]) <;> rfl); rfl; rfl; rfl)
    | (apply r_avS; rfl)
    | (apply r_stL; rfl; rfl; rfl; rfl; (first | rfl | (simp only [z_nil, z_add] <;> rfl)); rfl; rfl)
    | (apply r_p; rfl)
    | (apply r_nilK)
    | (apply r_nil)
    | (apply k_V; rfl)
    | (apply k_P; rfl)
    | (apply k_PL; rfl)
    | (apply k_S; rfl)
    | (apply k_SL; rfl)
    | (apply k_A; rfl)
    | (apply k_T; rfl)
    | (apply k_F; rfl)
    | (apply k_D; rfl; rotate_left; rfl)
    | (apply k_nil)
    | (apply e_ret (vs := [.d (.val _)]); rfl)
    | (apply e_ret; rfl)
    | (apply e_ret' (vs := [.d (.val _)]); rfl)
    | (apply e_ret'; rfl)
    | (apply w_seq)
    | (apply w_ops; ((conv => lhs; simp only [Nat.reduceAdd]) <;> rfl))
    | (apply w_condT; rfl)
    | (apply w_condF; rfl)
    | ((apply w_condS; rfl) <;> (intro h; try simp only [decide_eq_true_eq, decide_eq_false_iff_not, Bool.not_eq_true, Bool.not_eq_false] at h))
    | (apply e_thenN)
    | (apply w_block)
    | (apply e_thenR)
    | (apply e_thenX)
    | (apply e_blkN)
    | (apply e_blkR)
    | (apply e_blkE)
    | (apply w_exit)
    | (apply w_ret)
    | (apply w_skip)
    | (apply e_blkE'; rfl))
    exact retB rfl
  rw [hr] at h32
  by_cases hrc : rightT (catT t u) = true
  case neg =>
    have hrc : rightT (catT t u) = false := by simpa using hrc
    rw [hrc] at h32c
    clear ht hu hina hinc hr hrc hf1 hc hcc
    obtain ⟨k, a, b, c, d, mn, mx, subs⟩ := t
    obtain ⟨k2, a2, b2, c2, d2, mn2, mx2, subs2⟩ := u
    have e0 : nodeA (.node k a b c d mn mx subs) = .agg [.i k, .d (.val (.int .u64 a)), .d (.val (.int .u64 b)), .d (.val (.int .u64 c)), .d (.val (.int .u64 d)), .i mn, .i mx, .d (.sl (encL subs) subs.length)] := rfl
    have e1 : nodeA (.node k2 a2 b2 c2 d2 mn2 mx2 subs2) = .agg [.i k2, .d (.val (.int .u64 a2)), .d (.val (.int .u64 b2)), .d (.val (.int .u64 c2)), .d (.val (.int .u64 d2)), .i mn2, .i mx2, .d (.sl (encL subs2) subs2.length)] := rfl
    rw [e0, e1]
    refine b8 (by simp) (by simp) (w_init ?_)
    unfold x8
    repeat' (first
    | (apply r_mvV; rfl)
    | (apply r_mvP; rfl)
    | (apply r_mvPL; rfl)
    | (apply r_mvS; rfl)
    | (apply r_mvSL; rfl)
    | (apply r_mvA; rfl)
    | (apply r_mvT; rfl)
    | (apply r_mvF; rfl)
    | (apply r_mvD; rfl)
    | (apply r_ldL (v := .agg [.i k, .d (.val (.int .u64 a)), .d (.val (.int .u64 b)), .d (.val (.int .u64 c)), .d (.val (.int .u64 d)), .i mn, .i mx, .d (.sl (encL subs) subs.length)]); rfl; rfl; rfl)
    | (apply r_ldL (v := .agg [.i k2, .d (.val (.int .u64 a2)), .d (.val (.int .u64 b2)), .d (.val (.int .u64 c2)), .d (.val (.int .u64 d2)), .i mn2, .i mx2, .d (.sl (encL subs2) subs2.length)]); rfl; rfl; rfl)
    | (apply r_ldL (v := .agg [.i 4, .d (.val (.int .u64 0)), .d (.val (.int .u64 0)), .d (.val (.int .u64 0)), .d (.val (.int .u64 0)), .i 0, .i 0, .slL 6 0 2 8]); rfl; rfl; rfl)
    | (apply r_ldL (v := .agg [.i 3, .d (.val (.int .u64 0)), .d (.val (.int .u64 0)), .d (.val (.int .u64 0)), .d (.val (.int .u64 0)), .i 0, .i 0, .slL 10 0 2 8]); rfl; rfl; rfl)
    | (apply r_n (v := .slL 6 0 2 8) (r := [.i k, .d (.val (.int .u64 a)), .d (.val (.int .u64 b)), .d (.val (.int .u64 c)), .d (.val (.int .u64 d)), .i mn, .i mx, .d (.sl (encL subs) subs.length), .i k2, .d (.val (.int .u64 a2)), .d (.val (.int .u64 b2)), .d (.val (.int .u64 c2)), .d (.val (.int .u64 d2)), .i mn2, .i mx2, .d (.sl (encL subs2) subs2.length)]); rfl)
    | (apply r_n (v := .slL 10 0 2 8) (r := [.i k, .d (.val (.int .u64 a)), .d (.val (.int .u64 b)), .d (.val (.int .u64 c)), .d (.val (.int .u64 d)), .i mn, .i mx, .d (.sl (encL subs) subs.length), .i k2, .d (.val (.int .u64 a2)), .d (.val (.int .u64 b2)), .d (.val (.int .u64 c2)), .d (.val (.int .u64 d2)), .i mn2, .i mx2, .d (.sl (encL subs2) subs2.length)]); rfl)
    | (apply r_p (v := .agg [.i 4, .d (.val (.int .u64 0)), .d (.val (.int .u64 0)), .d (.val (.int .u64 0)), .d (.val (.int .u64 0)), .i 0, .i 0, .slL 6 0 2 8]); rfl)
    | (apply r_p (v := .agg [.i 3, .d (.val (.int .u64 0)), .d (.val (.int .u64 0)), .d (.val (.int .u64 0)), .d (.val (.int .u64 0)), .i 0, .i 0, .slL 10 0 2 8]); rfl)
    | (apply r_callA (ags := []); rfl; rfl; exact haw)
    | (apply r_call (bs := [nodeA (altT (.node k a b c d mn mx subs) (.node k2 a2 b2 c2 d2 mn2 mx2 subs2)), .d (.val (.string s))]) (us := [6]); rfl; rfl; exact h30; rfl)
    | (apply r_call (bs := [nodeA (altT (.node k a b c d mn mx subs) (.node k2 a2 b2 c2 d2 mn2 mx2 subs2))]) (us := [6]); rfl; rfl; exact h32; rfl)
    | (apply r_call (bs := [nodeA (catT (.node k a b c d mn mx subs) (.node k2 a2 b2 c2 d2 mn2 mx2 subs2))]) (us := [10]); rfl; rfl; exact h32c; rfl)
    | (apply r_ldL; rfl; rfl; rfl)
    | (apply r_neq; rfl; rfl; (first | (apply decide_eq_true; omega) | (apply decide_eq_false; omega) | rfl))
    | (apply r_lss; rfl; rfl; (first | (apply decide_eq_true; omega) | (apply decide_eq_false; omega) | rfl))
    | (apply r_gtr; rfl; rfl; (first | (apply decide_eq_true; omega) | (apply decide_eq_false; omega) | rfl))
    | (apply r_add; rfl; rfl; rfl; omega)
    | (apply r_not; rfl; rfl)
    | (apply r_pickT; rfl)
    | (apply r_pickF; rfl)
    | (apply r_lenD; rfl)
    | (apply r_lenL; rfl)
    | (apply r_len0; rfl)
    | (apply r_lenT; rfl)
    | (apply r_ext; rfl; rfl)
    | (apply r_gT; rfl)
    | (apply r_gF'; rfl; rfl)
    | (apply r_gN'; rfl)
    | ((apply r_gS (o := default); rfl) <;> (intro h; try simp only [decide_eq_true_eq, decide_eq_false_iff_not, Bool.not_eq_true, Bool.not_eq_false] at h))
    | (apply r_alloc; ((conv => lhs; simp only [Nat.reduceAdd]) <;> rfl); rfl)
    | (apply r_box; ((conv => lhs; simp only [Nat.reduceAdd]) <;> rfl); rfl; rfl; rfl)
    | (apply r_avS; rfl)
    | (apply r_stL; rfl; rfl; rfl; rfl; (first | rfl | (simp only [z_nil, z_add] <;> rfl)); rfl; rfl)
    | (apply r_p; rfl)
    | (apply r_nilK)
    | (apply r_nil)
    | (apply k_V; rfl)
    | (apply k_P; rfl)
    | (apply k_PL; rfl)
    | (apply k_S; rfl)
    | (apply k_SL; rfl)
    | (apply k_A; rfl)
    | (apply k_T; rfl)
    | (apply k_F; rfl)
    | (apply k_D; rfl; rotate_left; rfl)
    | (apply k_nil)
    | (apply e_ret (vs := [.d (.val _)]); rfl)
    | (apply e_ret; rfl)
    | (apply e_ret' (vs := [.d (.val _)]); rfl)
    | (apply e_ret'; rfl)
    | (apply w_seq)
    | (apply w_ops; ((conv => lhs; simp only [Nat.reduceAdd]) <;> rfl))
    | (apply w_condT; rfl)
    | (apply w_condF; rfl)
    | ((apply w_condS; rfl) <;> (intro h; try simp only [decide_eq_true_eq, decide_eq_false_iff_not, Bool.not_eq_true, Bool.not_eq_false] at h))
    | (apply e_thenN)
    | (apply w_block)
    | (apply e_thenR)
    | (apply e_thenX)
    | (apply e_blkN)
    | (apply e_blkR)
    | (apply e_blkE)
    | (apply w_exit)
    | (apply w_ret)
    | (apply w_skip)
    | (apply e_blkE'; rfl))
    exact retB rfl
  rw [hrc] at h32c
  by_cases hfr : 0 ≤ n ∧ n ≤ s.size
  case neg =>
    clear ht hu hina hinc hr hrc hf1 hc hcc
    obtain ⟨k, a, b, c, d, mn, mx, subs⟩ := t
    obtain ⟨k2, a2, b2, c2, d2, mn2, mx2, subs2⟩ := u
    have e0 : nodeA (.node k a b c d mn mx subs) = .agg [.i k, .d (.val (.int .u64 a)), .d (.val (.int .u64 b)), .d (.val (.int .u64 c)), .d (.val (.int .u64 d)), .i mn, .i mx, .d (.sl (encL subs) subs.length)] := rfl
    have e1 : nodeA (.node k2 a2 b2 c2 d2 mn2 mx2 subs2) = .agg [.i k2, .d (.val (.int .u64 a2)), .d (.val (.int .u64 b2)), .d (.val (.int .u64 c2)), .d (.val (.int .u64 d2)), .i mn2, .i mx2, .d (.sl (encL subs2) subs2.length)] := rfl
    rw [e0, e1]
    by_cases hneg : n < 0
    · refine b8 (by simp) (by simp) (w_init ?_)
      unfold x8
      repeat' (first
    | (apply r_mvV; rfl)
    | (apply r_mvP; rfl)
    | (apply r_mvPL; rfl)
    | (apply r_mvS; rfl)
    | (apply r_mvSL; rfl)
    | (apply r_mvA; rfl)
    | (apply r_mvT; rfl)
    | (apply r_mvF; rfl)
    | (apply r_mvD; rfl)
    | (apply r_ldL (v := .agg [.i k, .d (.val (.int .u64 a)), .d (.val (.int .u64 b)), .d (.val (.int .u64 c)), .d (.val (.int .u64 d)), .i mn, .i mx, .d (.sl (encL subs) subs.length)]); rfl; rfl; rfl)
    | (apply r_ldL (v := .agg [.i k2, .d (.val (.int .u64 a2)), .d (.val (.int .u64 b2)), .d (.val (.int .u64 c2)), .d (.val (.int .u64 d2)), .i mn2, .i mx2, .d (.sl (encL subs2) subs2.length)]); rfl; rfl; rfl)
    | (apply r_ldL (v := .agg [.i 4, .d (.val (.int .u64 0)), .d (.val (.int .u64 0)), .d (.val (.int .u64 0)), .d (.val (.int .u64 0)), .i 0, .i 0, .slL 6 0 2 8]); rfl; rfl; rfl)
    | (apply r_ldL (v := .agg [.i 3, .d (.val (.int .u64 0)), .d (.val (.int .u64 0)), .d (.val (.int .u64 0)), .d (.val (.int .u64 0)), .i 0, .i 0, .slL 10 0 2 8]); rfl; rfl; rfl)
    | (apply r_n (v := .slL 6 0 2 8) (r := [.i k, .d (.val (.int .u64 a)), .d (.val (.int .u64 b)), .d (.val (.int .u64 c)), .d (.val (.int .u64 d)), .i mn, .i mx, .d (.sl (encL subs) subs.length), .i k2, .d (.val (.int .u64 a2)), .d (.val (.int .u64 b2)), .d (.val (.int .u64 c2)), .d (.val (.int .u64 d2)), .i mn2, .i mx2, .d (.sl (encL subs2) subs2.length)]); rfl)
    | (apply r_n (v := .slL 10 0 2 8) (r := [.i k, .d (.val (.int .u64 a)), .d (.val (.int .u64 b)), .d (.val (.int .u64 c)), .d (.val (.int .u64 d)), .i mn, .i mx, .d (.sl (encL subs) subs.length), .i k2, .d (.val (.int .u64 a2)), .d (.val (.int .u64 b2)), .d (.val (.int .u64 c2)), .d (.val (.int .u64 d2)), .i mn2, .i mx2, .d (.sl (encL subs2) subs2.length)]); rfl)
    | (apply r_p (v := .agg [.i 4, .d (.val (.int .u64 0)), .d (.val (.int .u64 0)), .d (.val (.int .u64 0)), .d (.val (.int .u64 0)), .i 0, .i 0, .slL 6 0 2 8]); rfl)
    | (apply r_p (v := .agg [.i 3, .d (.val (.int .u64 0)), .d (.val (.int .u64 0)), .d (.val (.int .u64 0)), .d (.val (.int .u64 0)), .i 0, .i 0, .slL 10 0 2 8]); rfl)
    | (apply r_callA (ags := []); rfl; rfl; exact haw)
    | (apply r_call (bs := [nodeA (altT (.node k a b c d mn mx subs) (.node k2 a2 b2 c2 d2 mn2 mx2 subs2)), .d (.val (.string s))]) (us := [6]); rfl; rfl; exact h30; rfl)
    | (apply r_call (bs := [nodeA (altT (.node k a b c d mn mx subs) (.node k2 a2 b2 c2 d2 mn2 mx2 subs2))]) (us := [6]); rfl; rfl; exact h32; rfl)
    | (apply r_call (bs := [nodeA (catT (.node k a b c d mn mx subs) (.node k2 a2 b2 c2 d2 mn2 mx2 subs2))]) (us := [10]); rfl; rfl; exact h32c; rfl)
    | (apply r_ldL; rfl; rfl; rfl)
    | (apply r_neq; rfl; rfl; (first | (apply decide_eq_true; omega) | (apply decide_eq_false; omega) | rfl))
    | (apply r_lss; rfl; rfl; (first | (apply decide_eq_true; omega) | (apply decide_eq_false; omega) | rfl))
    | (apply r_gtr; rfl; rfl; (first | (apply decide_eq_true; omega) | (apply decide_eq_false; omega) | rfl))
    | (apply r_add; rfl; rfl; rfl; omega)
    | (apply r_not; rfl; rfl)
    | (apply r_pickT; rfl)
    | (apply r_pickF; rfl)
    | (apply r_lenD; rfl)
    | (apply r_lenL; rfl)
    | (apply r_len0; rfl)
    | (apply r_lenT; rfl)
    | (apply r_ext; rfl; rfl)
    | (apply r_gT; rfl)
    | (apply r_gF'; rfl; rfl)
    | (apply r_gN'; rfl)
    | ((apply r_gS (o := default); rfl) <;> (intro h; try simp only [decide_eq_true_eq, decide_eq_false_iff_not, Bool.not_eq_true, Bool.not_eq_false] at h))
    | (apply r_alloc; ((conv => lhs; simp only [Nat.reduceAdd]) <;> rfl); rfl)
    | (apply r_box; ((conv => lhs; simp only [Nat.reduceAdd]) <;> rfl); rfl; rfl; rfl)
    | (apply r_avS; rfl)
    | (apply r_stL; rfl; rfl; rfl; rfl; (first | rfl | (simp only [z_nil, z_add] <;> rfl)); rfl; rfl)
    | (apply r_p; rfl)
    | (apply r_nilK)
    | (apply r_nil)
    | (apply k_V; rfl)
    | (apply k_P; rfl)
    | (apply k_PL; rfl)
    | (apply k_S; rfl)
    | (apply k_SL; rfl)
    | (apply k_A; rfl)
    | (apply k_T; rfl)
    | (apply k_F; rfl)
    | (apply k_D; rfl; rotate_left; rfl)
    | (apply k_nil)
    | (apply e_ret (vs := [.d (.val _)]); rfl)
    | (apply e_ret; rfl)
    | (apply e_ret' (vs := [.d (.val _)]); rfl)
    | (apply e_ret'; rfl)
    | (apply w_seq)
    | (apply w_ops; ((conv => lhs; simp only [Nat.reduceAdd]) <;> rfl))
    | (apply w_condT; rfl)
    | (apply w_condF; rfl)
    | ((apply w_condS; rfl) <;> (intro h; try simp only [decide_eq_true_eq, decide_eq_false_iff_not, Bool.not_eq_true, Bool.not_eq_false] at h))
    | (apply e_thenN)
    | (apply w_block)
    | (apply e_thenR)
    | (apply e_thenX)
    | (apply e_blkN)
    | (apply e_blkR)
    | (apply e_blkE)
    | (apply w_exit)
    | (apply w_ret)
    | (apply w_skip)
    | (apply e_blkE'; rfl))
      exact retB rfl
    · refine b8 (by simp) (by simp) (w_init ?_)
      unfold x8
      repeat' (first
    | (apply r_mvV; rfl)
    | (apply r_mvP; rfl)
    | (apply r_mvPL; rfl)
    | (apply r_mvS; rfl)
    | (apply r_mvSL; rfl)
    | (apply r_mvA; rfl)
    | (apply r_mvT; rfl)
    | (apply r_mvF; rfl)
    | (apply r_mvD; rfl)
    | (apply r_ldL (v := .agg [.i k, .d (.val (.int .u64 a)), .d (.val (.int .u64 b)), .d (.val (.int .u64 c)), .d (.val (.int .u64 d)), .i mn, .i mx, .d (.sl (encL subs) subs.length)]); rfl; rfl; rfl)
    | (apply r_ldL (v := .agg [.i k2, .d (.val (.int .u64 a2)), .d (.val (.int .u64 b2)), .d (.val (.int .u64 c2)), .d (.val (.int .u64 d2)), .i mn2, .i mx2, .d (.sl (encL subs2) subs2.length)]); rfl; rfl; rfl)
    | (apply r_ldL (v := .agg [.i 4, .d (.val (.int .u64 0)), .d (.val (.int .u64 0)), .d (.val (.int .u64 0)), .d (.val (.int .u64 0)), .i 0, .i 0, .slL 6 0 2 8]); rfl; rfl; rfl)
    | (apply r_ldL (v := .agg [.i 3, .d (.val (.int .u64 0)), .d (.val (.int .u64 0)), .d (.val (.int .u64 0)), .d (.val (.int .u64 0)), .i 0, .i 0, .slL 10 0 2 8]); rfl; rfl; rfl)
    | (apply r_n (v := .slL 6 0 2 8) (r := [.i k, .d (.val (.int .u64 a)), .d (.val (.int .u64 b)), .d (.val (.int .u64 c)), .d (.val (.int .u64 d)), .i mn, .i mx, .d (.sl (encL subs) subs.length), .i k2, .d (.val (.int .u64 a2)), .d (.val (.int .u64 b2)), .d (.val (.int .u64 c2)), .d (.val (.int .u64 d2)), .i mn2, .i mx2, .d (.sl (encL subs2) subs2.length)]); rfl)
    | (apply r_n (v := .slL 10 0 2 8) (r := [.i k, .d (.val (.int .u64 a)), .d (.val (.int .u64 b)), .d (.val (.int .u64 c)), .d (.val (.int .u64 d)), .i mn, .i mx, .d (.sl (encL subs) subs.length), .i k2, .d (.val (.int .u64 a2)), .d (.val (.int .u64 b2)), .d (.val (.int .u64 c2)), .d (.val (.int .u64 d2)), .i mn2, .i mx2, .d (.sl (encL subs2) subs2.length)]); rfl)
    | (apply r_p (v := .agg [.i 4, .d (.val (.int .u64 0)), .d (.val (.int .u64 0)), .d (.val (.int .u64 0)), .d (.val (.int .u64 0)), .i 0, .i 0, .slL 6 0 2 8]); rfl)
    | (apply r_p (v := .agg [.i 3, .d (.val (.int .u64 0)), .d (.val (.int .u64 0)), .d (.val (.int .u64 0)), .d (.val (.int .u64 0)), .i 0, .i 0, .slL 10 0 2 8]); rfl)
    | (apply r_callA (ags := []); rfl; rfl; exact haw)
    | (apply r_call (bs := [nodeA (altT (.node k a b c d mn mx subs) (.node k2 a2 b2 c2 d2 mn2 mx2 subs2)), .d (.val (.string s))]) (us := [6]); rfl; rfl; exact h30; rfl)
    | (apply r_call (bs := [nodeA (altT (.node k a b c d mn mx subs) (.node k2 a2 b2 c2 d2 mn2 mx2 subs2))]) (us := [6]); rfl; rfl; exact h32; rfl)
    | (apply r_call (bs := [nodeA (catT (.node k a b c d mn mx subs) (.node k2 a2 b2 c2 d2 mn2 mx2 subs2))]) (us := [10]); rfl; rfl; exact h32c; rfl)
    | (apply r_ldL; rfl; rfl; rfl)
    | (apply r_neq; rfl; rfl; (first | (apply decide_eq_true; omega) | (apply decide_eq_false; omega) | rfl))
    | (apply r_lss; rfl; rfl; (first | (apply decide_eq_true; omega) | (apply decide_eq_false; omega) | rfl))
    | (apply r_gtr; rfl; rfl; (first | (apply decide_eq_true; omega) | (apply decide_eq_false; omega) | rfl))
    | (apply r_add; rfl; rfl; rfl; omega)
    | (apply r_not; rfl; rfl)
    | (apply r_pickT; rfl)
    | (apply r_pickF; rfl)
    | (apply r_lenD; rfl)
    | (apply r_lenL; rfl)
    | (apply r_len0; rfl)
    | (apply r_lenT; rfl)
    | (apply r_ext; rfl; rfl)
    | (apply r_gT; rfl)
    | (apply r_gF'; rfl; rfl)
    | (apply r_gN'; rfl)
    | ((apply r_gS (o := default); rfl) <;> (intro h; try simp only [decide_eq_true_eq, decide_eq_false_iff_not, Bool.not_eq_true, Bool.not_eq_false] at h))
    | (apply r_alloc; ((conv => lhs; simp only [Nat.reduceAdd]) <;> rfl); rfl)
    | (apply r_box; ((conv => lhs; simp only [Nat.reduceAdd]) <;> rfl); rfl; rfl; rfl)
    | (apply r_avS; rfl)
    | (apply r_stL; rfl; rfl; rfl; rfl; (first | rfl | (simp only [z_nil, z_add] <;> rfl)); rfl; rfl)
    | (apply r_p; rfl)
    | (apply r_nilK)
    | (apply r_nil)
    | (apply k_V; rfl)
    | (apply k_P; rfl)
    | (apply k_PL; rfl)
    | (apply k_S; rfl)
    | (apply k_SL; rfl)
    | (apply k_A; rfl)
    | (apply k_T; rfl)
    | (apply k_F; rfl)
    | (apply k_D; rfl; rotate_left; rfl)
    | (apply k_nil)
    | (apply e_ret (vs := [.d (.val _)]); rfl)
    | (apply e_ret; rfl)
    | (apply e_ret' (vs := [.d (.val _)]); rfl)
    | (apply e_ret'; rfl)
    | (apply w_seq)
    | (apply w_ops; ((conv => lhs; simp only [Nat.reduceAdd]) <;> rfl))
    | (apply w_condT; rfl)
    | (apply w_condF; rfl)
    | ((apply w_condS; rfl) <;> (intro h; try simp only [decide_eq_true_eq, decide_eq_false_iff_not, Bool.not_eq_true, Bool.not_eq_false] at h))
    | (apply e_thenN)
    | (apply w_block)
    | (apply e_thenR)
    | (apply e_thenX)
    | (apply e_blkN)
    | (apply e_blkR)
    | (apply e_blkE)
    | (apply w_exit)
    | (apply w_ret)
    | (apply w_skip)
    | (apply e_blkE'; rfl))
      exact retB rfl
  obtain ⟨j, rfl⟩ := Int.eq_ofNat_of_zero_le hfr.1
  have hj : j ≤ s.size := by omega
  have hrt : rightT t = true := right_sub hr 0 (by simp)
  have hru : rightT u = true := right_sub hr 1 (by simp)
  have hft : fitsT t 12 = true := by rw [← right_fits]; exact hrt
  have hfu : fitsT u 12 = true := by rw [← right_fits]; exact hru
  have hfa : fitsT (altT t u) 12 = true := by rw [← right_fits]; exact hr
  have hfc : fitsT (catT t u) 12 = true := by rw [← right_fits]; exact hrc
  have hokt : okT t := ok_of_right ht hrt
  have hoku : okT u := ok_of_right hu hru
  have hoka : okT (altT t u) := ok_of_right hina hr
  have hokc : okT (catT t u) := ok_of_right hinc hrc
  have hct : t.cnt ≤ 200 := by
    have : t.cnt ≤ (altT t u).cnt := by simp [altT, T.cnt, cntL]; omega
    omega
  have hcu : u.cnt ≤ 200 := by
    have : u.cnt ≤ (altT t u).cnt := by simp [altT, T.cnt, cntL]; omega
    omega
  have cont : ∀ (v : T), v.cnt ≤ 200 → okT v → fitsT v 12 = true → ∀ i : Nat, i ≤ s.size → Good Try.prog 31 [nodeA v, .d (.val (.string s)), .i i] none (.tup [.d (.sl (encI (allG s v i)) (allG s v i).length), .i 0]) none none := by
    intro v hv hok hf i hi
    have g := all_good s (by omega) v (by omega) (fun _ => hok) i
    have hfr : 0 ≤ ((i : Nat) : Int) ∧ ((i : Nat) : Int) ≤ s.size := by omega
    rwa [show allE s v (i : Nat) = 0 by simp only [allE, hf, hfr, and_self, if_true]] at g
  have gX := cont t hct hokt hft j hj
  have gU := cont u hcu hoku hfu
  have gY := gU j hj
  have gA := cont (altT t u) hc hoka hfa j hj
  have gC := cont (catT t u) hcc hokc hfc j hj
  have mA := fun x => alt_mem hft hfu hfa hokt hoku hoka hj x
  have mC := fun x => cat_mem hft hfu hfc hokt hoku hokc hj x
  have iA := fun (p : List Bool) => idx_of (p := p) hfa hoka hj
  have iC := fun (p : List Bool) => idx_of (p := p) hfc hokc hj
  have nX := fun i => ends_get hft hokt hj i
  have nY := fun i => ends_get hfu hoku hj i
  have nU := fun (a : Nat) (ha : a ≤ s.size) i => ends_get hfu hoku ha i
  have lX := ends_len hft hj
  have lY := ends_len hfu hj
  have lU := fun (a : Nat) (ha : a ≤ s.size) => ends_len hfu ha
  generalize hX : allG s t j = X at gX mA mC nX lX
  generalize hY : allG s u j = Y at gY mA nY lY
  generalize hGA : allG s (altT t u) j = GA at gA mA iA
  generalize hGC : allG s (catT t u) j = GC at gC mC iC
  generalize hGU : allG s u = U at gU mC nU lU
  clear cont hX hY hGA hGC hGU ht hu hina hinc hr hrc hf1 hc hcc hrt hru hft hfu hfa hfc hokt hoku hoka hokc hct hcu hfr
  obtain ⟨k, a, b, c, d, mn, mx, subs⟩ := t
  obtain ⟨k2, a2, b2, c2, d2, mn2, mx2, subs2⟩ := u
  have e0 : nodeA (.node k a b c d mn mx subs) = .agg [.i k, .d (.val (.int .u64 a)), .d (.val (.int .u64 b)), .d (.val (.int .u64 c)), .d (.val (.int .u64 d)), .i mn, .i mx, .d (.sl (encL subs) subs.length)] := rfl
  have e1 : nodeA (.node k2 a2 b2 c2 d2 mn2 mx2 subs2) = .agg [.i k2, .d (.val (.int .u64 a2)), .d (.val (.int .u64 b2)), .d (.val (.int .u64 c2)), .d (.val (.int .u64 d2)), .i mn2, .i mx2, .d (.sl (encL subs2) subs2.length)] := rfl
  rw [e0, e1]
  rw [e0] at gX
  rw [e1] at gY
  refine b8 (by simp) (by simp) (w_init ?_)
  unfold x8
  repeat' (first
    | (apply r_mvV; rfl)
    | (apply r_mvP; rfl)
    | (apply r_mvPL; rfl)
    | (apply r_mvS; rfl)
    | (apply r_mvSL; rfl)
    | (apply r_mvA; rfl)
    | (apply r_mvT; rfl)
    | (apply r_mvF; rfl)
    | (apply r_mvD; rfl)
    | (apply r_ldL (v := .agg [.i k, .d (.val (.int .u64 a)), .d (.val (.int .u64 b)), .d (.val (.int .u64 c)), .d (.val (.int .u64 d)), .i mn, .i mx, .d (.sl (encL subs) subs.length)]); rfl; rfl; rfl)
    | (apply r_ldL (v := .agg [.i k2, .d (.val (.int .u64 a2)), .d (.val (.int .u64 b2)), .d (.val (.int .u64 c2)), .d (.val (.int .u64 d2)), .i mn2, .i mx2, .d (.sl (encL subs2) subs2.length)]); rfl; rfl; rfl)
    | (apply r_ldL (v := .agg [.i 4, .d (.val (.int .u64 0)), .d (.val (.int .u64 0)), .d (.val (.int .u64 0)), .d (.val (.int .u64 0)), .i 0, .i 0, .slL 6 0 2 8]); rfl; rfl; rfl)
    | (apply r_ldL (v := .agg [.i 3, .d (.val (.int .u64 0)), .d (.val (.int .u64 0)), .d (.val (.int .u64 0)), .d (.val (.int .u64 0)), .i 0, .i 0, .slL 10 0 2 8]); rfl; rfl; rfl)
    | (apply r_n (v := .slL 6 0 2 8) (r := [.i k, .d (.val (.int .u64 a)), .d (.val (.int .u64 b)), .d (.val (.int .u64 c)), .d (.val (.int .u64 d)), .i mn, .i mx, .d (.sl (encL subs) subs.length), .i k2, .d (.val (.int .u64 a2)), .d (.val (.int .u64 b2)), .d (.val (.int .u64 c2)), .d (.val (.int .u64 d2)), .i mn2, .i mx2, .d (.sl (encL subs2) subs2.length)]); rfl)
    | (apply r_n (v := .slL 10 0 2 8) (r := [.i k, .d (.val (.int .u64 a)), .d (.val (.int .u64 b)), .d (.val (.int .u64 c)), .d (.val (.int .u64 d)), .i mn, .i mx, .d (.sl (encL subs) subs.length), .i k2, .d (.val (.int .u64 a2)), .d (.val (.int .u64 b2)), .d (.val (.int .u64 c2)), .d (.val (.int .u64 d2)), .i mn2, .i mx2, .d (.sl (encL subs2) subs2.length)]); rfl)
    | (apply r_p (v := .agg [.i 4, .d (.val (.int .u64 0)), .d (.val (.int .u64 0)), .d (.val (.int .u64 0)), .d (.val (.int .u64 0)), .i 0, .i 0, .slL 6 0 2 8]); rfl)
    | (apply r_p (v := .agg [.i 3, .d (.val (.int .u64 0)), .d (.val (.int .u64 0)), .d (.val (.int .u64 0)), .d (.val (.int .u64 0)), .i 0, .i 0, .slL 10 0 2 8]); rfl)
    | (apply r_callA (ags := []); rfl; rfl; exact haw)
    | (apply r_call (bs := [nodeA (altT (.node k a b c d mn mx subs) (.node k2 a2 b2 c2 d2 mn2 mx2 subs2)), .d (.val (.string s))]) (us := [6]); rfl; rfl; exact h30; rfl)
    | (apply r_call (bs := [nodeA (altT (.node k a b c d mn mx subs) (.node k2 a2 b2 c2 d2 mn2 mx2 subs2))]) (us := [6]); rfl; rfl; exact h32; rfl)
    | (apply r_call (bs := [nodeA (catT (.node k a b c d mn mx subs) (.node k2 a2 b2 c2 d2 mn2 mx2 subs2))]) (us := [10]); rfl; rfl; exact h32c; rfl)
    | (apply r_callA (ags := [.agg [.i k, .d (.val (.int .u64 a)), .d (.val (.int .u64 b)), .d (.val (.int .u64 c)), .d (.val (.int .u64 d)), .i mn, .i mx, .d (.sl (encL subs) subs.length)], .d (.val (.string s)), .i j]); rfl; rfl; exact gX)
    | (apply r_callA (ags := [.agg [.i k2, .d (.val (.int .u64 a2)), .d (.val (.int .u64 b2)), .d (.val (.int .u64 c2)), .d (.val (.int .u64 d2)), .i mn2, .i mx2, .d (.sl (encL subs2) subs2.length)], .d (.val (.string s)), .i j]); rfl; rfl; exact gY)
    | (apply r_mksB (m := s.size + 1); rfl; rfl; ((conv => lhs; simp only [Nat.reduceAdd]) <;> rfl); omega; omega)
    | (apply r_ldL; rfl; rfl; rfl)
    | (apply r_neq; rfl; rfl; (first | (apply decide_eq_true; omega) | (apply decide_eq_false; omega) | rfl))
    | (apply r_lss; rfl; rfl; (first | (apply decide_eq_true; omega) | (apply decide_eq_false; omega) | rfl))
    | (apply r_gtr; rfl; rfl; (first | (apply decide_eq_true; omega) | (apply decide_eq_false; omega) | rfl))
    | (apply r_add; rfl; rfl; rfl; omega)
    | (apply r_not; rfl; rfl)
    | (apply r_pickT; rfl)
    | (apply r_pickF; rfl)
    | (apply r_lenD; rfl)
    | (apply r_lenL; rfl)
    | (apply r_len0; rfl)
    | (apply r_lenT; rfl)
    | (apply r_ext; rfl; rfl)
    | (apply r_gT; rfl)
    | (apply r_gF'; rfl; rfl)
    | (apply r_gN'; rfl)
    | ((apply r_gS (o := default); rfl) <;> (intro h; try simp only [decide_eq_true_eq, decide_eq_false_iff_not, Bool.not_eq_true, Bool.not_eq_false] at h))
    | (apply r_alloc; ((conv => lhs; simp only [Nat.reduceAdd]) <;> rfl); rfl)
    | (apply r_box; ((conv => lhs; simp only [Nat.reduceAdd]) <;> rfl); rfl; rfl; rfl)
    | (apply r_avS; rfl)
    | (apply r_stL; rfl; rfl; rfl; rfl; (first | rfl | (simp only [z_nil, z_add] <;> rfl)); rfl; rfl)
    | (apply r_p; rfl)
    | (apply r_nilK)
    | (apply r_nil)
    | (apply k_V; rfl)
    | (apply k_P; rfl)
    | (apply k_PL; rfl)
    | (apply k_S; rfl)
    | (apply k_SL; rfl)
    | (apply k_A; rfl)
    | (apply k_T; rfl)
    | (apply k_F; rfl)
    | (apply k_D; rfl; rotate_left; rfl)
    | (apply k_nil)
    | (apply e_ret (vs := [.d (.val _)]); rfl)
    | (apply e_ret; rfl)
    | (apply e_ret' (vs := [.d (.val _)]); rfl)
    | (apply e_ret'; rfl)
    | (apply w_seq)
    | (apply w_ops; ((conv => lhs; simp only [Nat.reduceAdd]) <;> rfl))
    | (apply w_condT; rfl)
    | (apply w_condF; rfl)
    | ((apply w_condS; rfl) <;> (intro h; try simp only [decide_eq_true_eq, decide_eq_false_iff_not, Bool.not_eq_true, Bool.not_eq_false] at h))
    | (apply e_thenN)
    | (apply w_block)
    | (apply e_thenR)
    | (apply e_thenX)
    | (apply e_blkN)
    | (apply e_blkR)
    | (apply e_blkE)
    | (apply w_exit)
    | (apply w_ret)
    | (apply w_skip)
    | (apply e_blkE'; rfl))
  apply w_loopF (ι := Nat × List Bool) (S := fun q => ⟨(((((((((Fr.nil.put 2 (.d (.val (.string s)))).put 3 (.i j)).put 5 (.ptrL 2 0)).put 9 (.ptrL 12 0)).put 10 (.ptrL 13 0)).put 11 (.d (.sl (encI X) X.length))).put 15 (.slL 65 0 (s.size + 1) 1)).put 16 (.slL 69 0 (s.size + 1) 1)).put 95 (.d (.sl (encI Y) Y.length))).put 96 (.i Y.length) |>.put 97 (.i q.1), rowsOf [(2, [.i k2, .d (.val (.int .u64 a2)), .d (.val (.int .u64 b2)), .d (.val (.int .u64 c2)), .d (.val (.int .u64 d2)), .i mn2, .i mx2, .d (.sl (encL subs2) subs2.length)]), (12, (encN (altT (.node k a b c d mn mx subs) (.node k2 a2 b2 c2 d2 mn2 mx2 subs2))).map AV.d), (13, (encN (catT (.node k a b c d mn mx subs) (.node k2 a2 b2 c2 d2 mn2 mx2 subs2))).map AV.d), (65, (encB q.2).map AV.d), (69, (encB (List.replicate (s.size + 1) false)).map AV.d)], Frz.buts 200 [65, 69], 200⟩) (m := fun q => Y.length - q.1) (I := fun q => q.1 ≤ Y.length ∧ q.2.length = s.size + 1 ∧ ∀ k : Nat, At q.2 k ↔ False ∨ ∃ i', i' < q.1 ∧ Y[i']? = some ((k : Nat) : Int)) (i0 := (0, List.replicate (s.size + 1) false))
  · refine ⟨Nat.zero_le _, by simp, fun k => ?_⟩
    simp [at_rep]
  · refine fzRow (b := 12) (r' := (encN (altT (.node k a b c d mn mx subs) (.node k2 a2 b2 c2 d2 mn2 mx2 subs2))).map AV.d) (u := [6]) rfl rfl (fzRow (b := 13) (r' := (encN (catT (.node k a b c d mn mx subs) (.node k2 a2 b2 c2 d2 mn2 mx2 subs2))).map AV.d) (u := [10]) rfl rfl ?_)
    refine (wkL (by omega) (by intro q hq; simp only [List.mem_cons, List.not_mem_nil, or_false] at hq; rcases hq with rfl | rfl | rfl | rfl | rfl <;> first | exact ⟨by omega, rfl, encB_isD⟩ | exact ⟨by omega, rfl, rfl⟩) (by intro q hq; simp only [List.mem_cons, List.not_mem_nil, or_false] at hq; rcases hq with rfl | rfl <;> rfl) ?_).f
    repeat' (first
    | exact FWk.nil
    | (apply FWk.i; rfl; (first | rfl | omega | (simp; done)))
    | (apply FWk.sl; rfl; rfl; rfl; rfl; omega; rfl)
    | (apply FWk.ptr; rfl; rfl; rfl; omega; rfl)
    | (apply FWk.d; rfl; rfl)
    | (apply FWk.a; rfl; rfl; rfl)
    | (apply FWk.slN; rfl; omega; rfl))
  rintro ⟨i, p⟩ K ⟨hi, hpl, hp⟩ hK
  dsimp only at hi hpl hp ⊢
  rcases Nat.lt_or_ge i Y.length with hlt | hge
  · obtain ⟨kk, hkk, hyi⟩ := nY i hlt
    repeat' (first
    | (apply r_mvV; rfl)
    | (apply r_mvP; rfl)
    | (apply r_mvPL; rfl)
    | (apply r_mvS; rfl)
    | (apply r_mvSL; rfl)
    | (apply r_mvA; rfl)
    | (apply r_mvT; rfl)
    | (apply r_mvF; rfl)
    | (apply r_mvD; rfl)
    | (apply r_ixI (j := i); rfl; rfl; rfl; rfl; exact hlt)
    | (apply r_ldI; rfl; exact hyi)
    | (apply r_ixL; rfl; rfl; omega)
    | (apply r_stB; rfl; rfl; rfl; rfl; omega)
    | (apply r_ldL; rfl; rfl; rfl)
    | (apply r_neq; rfl; rfl; (first | (apply decide_eq_true; omega) | (apply decide_eq_false; omega) | rfl))
    | (apply r_lss; rfl; rfl; (first | (apply decide_eq_true; omega) | (apply decide_eq_false; omega) | rfl))
    | (apply r_gtr; rfl; rfl; (first | (apply decide_eq_true; omega) | (apply decide_eq_false; omega) | rfl))
    | (apply r_add; rfl; rfl; rfl; omega)
    | (apply r_not; rfl; rfl)
    | (apply r_pickT; rfl)
    | (apply r_pickF; rfl)
    | (apply r_lenD; rfl)
    | (apply r_lenL; rfl)
    | (apply r_len0; rfl)
    | (apply r_lenT; rfl)
    | (apply r_ext; rfl; rfl)
    | (apply r_gT; rfl)
    | (apply r_gF'; rfl; rfl)
    | (apply r_gN'; rfl)
    | ((apply r_gS (o := default); rfl) <;> (intro h; try simp only [decide_eq_true_eq, decide_eq_false_iff_not, Bool.not_eq_true, Bool.not_eq_false] at h))
    | (apply r_alloc; ((conv => lhs; simp only [Nat.reduceAdd]) <;> rfl); rfl)
    | (apply r_box; ((conv => lhs; simp only [Nat.reduceAdd]) <;> rfl); rfl; rfl; rfl)
    | (apply r_avS; rfl)
    | (apply r_stL; rfl; rfl; rfl; rfl; (first | rfl | (simp only [z_nil, z_add] <;> rfl)); rfl; rfl)
    | (apply r_p; rfl)
    | (apply r_nilK)
    | (apply r_nil)
    | (apply k_V; rfl)
    | (apply k_P; rfl)
    | (apply k_PL; rfl)
    | (apply k_S; rfl)
    | (apply k_SL; rfl)
    | (apply k_A; rfl)
    | (apply k_T; rfl)
    | (apply k_F; rfl)
    | (apply k_D; rfl; rotate_left; rfl)
    | (apply k_nil)
    | (apply e_ret (vs := [.d (.val _)]); rfl)
    | (apply e_ret; rfl)
    | (apply e_ret' (vs := [.d (.val _)]); rfl)
    | (apply e_ret'; rfl)
    | (apply w_seq)
    | (apply w_ops; ((conv => lhs; simp only [Nat.reduceAdd]) <;> rfl))
    | (apply w_condT; rfl)
    | (apply w_condF; rfl)
    | ((apply w_condS; rfl) <;> (intro h; try simp only [decide_eq_true_eq, decide_eq_false_iff_not, Bool.not_eq_true, Bool.not_eq_false] at h))
    | (apply e_thenN)
    | (apply w_block)
    | (apply e_thenR)
    | (apply e_thenX)
    | (apply e_blkN)
    | (apply e_blkR)
    | (apply e_blkE)
    | (apply w_exit)
    | (apply w_ret)
    | (apply w_skip)
    | (apply e_blkE'; rfl))
    apply e_thenK
    apply hK (i + 1, p.set kk true)
    · exact ⟨by dsimp only; omega, by simp [hpl], mark_step (by omega) hyi hp⟩
    · dsimp only; omega
    · dsimp only
      refine (wkL (by omega) (by intro q hq; simp only [List.mem_cons, List.not_mem_nil, or_false] at hq; rcases hq with rfl | rfl | rfl | rfl | rfl <;> first | exact ⟨by omega, rfl, encB_isD⟩ | exact ⟨by omega, rfl, rfl⟩) (by intro q hq; simp only [List.mem_cons, List.not_mem_nil, or_false] at hq; rcases hq with rfl | rfl <;> rfl) ?_).f
      repeat' (first
    | exact FWk.nil
    | (apply FWk.i; rfl; (first | rfl | omega | (simp; done)))
    | (apply FWk.sl; rfl; rfl; rfl; rfl; omega; rfl)
    | (apply FWk.ptr; rfl; rfl; rfl; omega; rfl)
    | (apply FWk.d; rfl; rfl)
    | (apply FWk.a; rfl; rfl; rfl)
    | (apply FWk.slN; rfl; omega; rfl))
  have ei : i = Y.length := by omega
  subst ei
  have hp : ∀ k : Nat, At p k ↔ ((k : Nat) : Int) ∈ Y := fun k => by rw [hp k, false_or]; exact mem_lt
  repeat' (first
    | (apply r_mvV; rfl)
    | (apply r_mvP; rfl)
    | (apply r_mvPL; rfl)
    | (apply r_mvS; rfl)
    | (apply r_mvSL; rfl)
    | (apply r_mvA; rfl)
    | (apply r_mvT; rfl)
    | (apply r_mvF; rfl)
    | (apply r_mvD; rfl)
    | (apply r_ldL; rfl; rfl; rfl)
    | (apply r_neq; rfl; rfl; (first | (apply decide_eq_true; omega) | (apply decide_eq_false; omega) | rfl))
    | (apply r_lss; rfl; rfl; (first | (apply decide_eq_true; omega) | (apply decide_eq_false; omega) | rfl))
    | (apply r_gtr; rfl; rfl; (first | (apply decide_eq_true; omega) | (apply decide_eq_false; omega) | rfl))
    | (apply r_add; rfl; rfl; rfl; omega)
    | (apply r_not; rfl; rfl)
    | (apply r_pickT; rfl)
    | (apply r_pickF; rfl)
    | (apply r_lenD; rfl)
    | (apply r_lenL; rfl)
    | (apply r_len0; rfl)
    | (apply r_lenT; rfl)
    | (apply r_ext; rfl; rfl)
    | (apply r_gT; rfl)
    | (apply r_gF'; rfl; rfl)
    | (apply r_gN'; rfl)
    | ((apply r_gS (o := default); rfl) <;> (intro h; try simp only [decide_eq_true_eq, decide_eq_false_iff_not, Bool.not_eq_true, Bool.not_eq_false] at h))
    | (apply r_alloc; ((conv => lhs; simp only [Nat.reduceAdd]) <;> rfl); rfl)
    | (apply r_box; ((conv => lhs; simp only [Nat.reduceAdd]) <;> rfl); rfl; rfl; rfl)
    | (apply r_avS; rfl)
    | (apply r_stL; rfl; rfl; rfl; rfl; (first | rfl | (simp only [z_nil, z_add] <;> rfl)); rfl; rfl)
    | (apply r_p; rfl)
    | (apply r_nilK)
    | (apply r_nil)
    | (apply k_V; rfl)
    | (apply k_P; rfl)
    | (apply k_PL; rfl)
    | (apply k_S; rfl)
    | (apply k_SL; rfl)
    | (apply k_A; rfl)
    | (apply k_T; rfl)
    | (apply k_F; rfl)
    | (apply k_D; rfl; rotate_left; rfl)
    | (apply k_nil)
    | (apply e_ret (vs := [.d (.val _)]); rfl)
    | (apply e_ret; rfl)
    | (apply e_ret' (vs := [.d (.val _)]); rfl)
    | (apply e_ret'; rfl)
    | (apply w_seq)
    | (apply w_ops; ((conv => lhs; simp only [Nat.reduceAdd]) <;> rfl))
    | (apply w_condT; rfl)
    | (apply w_condF; rfl)
    | ((apply w_condS; rfl) <;> (intro h; try simp only [decide_eq_true_eq, decide_eq_false_iff_not, Bool.not_eq_true, Bool.not_eq_false] at h))
    | (apply e_thenN)
    | (apply w_block)
    | (apply e_thenR)
    | (apply e_thenX)
    | (apply e_blkN)
    | (apply e_blkR)
    | (apply e_blkE)
    | (apply w_exit)
    | (apply w_ret)
    | (apply w_skip)
    | (apply e_blkE'; rfl))
  clear hK hge hi
  apply w_loopF (ι := Nat × List Bool × List Bool) (S := fun q => ⟨(((((((Fr.nil.put 2 (.d (.val (.string s)))).put 3 (.i j)).put 5 (.ptrL 2 0)).put 9 (.ptrL 12 0)).put 10 (.ptrL 13 0)).put 15 (.slL 65 0 (s.size + 1) 1)).put 16 (.slL 69 0 (s.size + 1) 1)).put 105 (.d (.sl (encI X) X.length)) |>.put 106 (.i X.length) |>.put 107 (.i q.1), rowsOf [(2, [.i k2, .d (.val (.int .u64 a2)), .d (.val (.int .u64 b2)), .d (.val (.int .u64 c2)), .d (.val (.int .u64 d2)), .i mn2, .i mx2, .d (.sl (encL subs2) subs2.length)]), (12, (encN (altT (.node k a b c d mn mx subs) (.node k2 a2 b2 c2 d2 mn2 mx2 subs2))).map AV.d), (13, (encN (catT (.node k a b c d mn mx subs) (.node k2 a2 b2 c2 d2 mn2 mx2 subs2))).map AV.d), (65, (encB q.2.1).map AV.d), (69, (encB q.2.2).map AV.d)], Frz.buts 400 [65, 69], 400⟩) (m := fun q => X.length - q.1) (I := fun q => q.1 ≤ X.length ∧ q.2.1.length = s.size + 1 ∧ q.2.2.length = s.size + 1 ∧ (∀ k : Nat, At q.2.1 k ↔ ((k : Nat) : Int) ∈ Y ∨ ∃ i', i' < q.1 ∧ X[i']? = some ((k : Nat) : Int)) ∧ (∀ k : Nat, At q.2.2 k ↔ ∃ i' a : Nat, i' < q.1 ∧ X[i']? = some ((a : Nat) : Int) ∧ ((k : Nat) : Int) ∈ U a)) (i0 := (0, p, List.replicate (s.size + 1) false))
  · refine ⟨Nat.zero_le _, hpl, by simp, fun k => ?_, fun k => ?_⟩
    · rw [hp k]; simp
    · simp [at_rep]
  · dsimp only
    refine (wkL (by omega) (by intro q hq; simp only [List.mem_cons, List.not_mem_nil, or_false] at hq; rcases hq with rfl | rfl | rfl | rfl | rfl <;> first | exact ⟨by omega, rfl, encB_isD⟩ | exact ⟨by omega, rfl, rfl⟩) (by intro q hq; simp only [List.mem_cons, List.not_mem_nil, or_false] at hq; rcases hq with rfl | rfl <;> rfl) ?_).f
    repeat' (first
    | exact FWk.nil
    | (apply FWk.i; rfl; (first | rfl | omega | (simp; done)))
    | (apply FWk.sl; rfl; rfl; rfl; rfl; omega; rfl)
    | (apply FWk.ptr; rfl; rfl; rfl; omega; rfl)
    | (apply FWk.d; rfl; rfl)
    | (apply FWk.a; rfl; rfl; rfl)
    | (apply FWk.slN; rfl; omega; rfl))
  rintro ⟨i, p, b'⟩ K ⟨hi, hpl, hbl, hp, hb⟩ hK
  dsimp only at hi hpl hbl hp hb ⊢
  rcases Nat.lt_or_ge i X.length with hlt | hge
  · obtain ⟨kk, hkk, hxi⟩ := nX i hlt
    have gz := gU kk hkk
    have nz := nU kk hkk
    have lz := lU kk hkk
    rw [e1] at gz
    repeat' (first
    | (apply r_mvV; rfl)
    | (apply r_mvP; rfl)
    | (apply r_mvPL; rfl)
    | (apply r_mvS; rfl)
    | (apply r_mvSL; rfl)
    | (apply r_mvA; rfl)
    | (apply r_mvT; rfl)
    | (apply r_mvF; rfl)
    | (apply r_mvD; rfl)
    | (apply r_ixI (j := i); rfl; rfl; rfl; rfl; exact hlt)
    | (apply r_ldI; rfl; exact hxi)
    | (apply r_ixL; rfl; rfl; omega)
    | (apply r_stB; rfl; rfl; rfl; rfl; omega)
    | (apply r_ldL (v := .agg [.i k2, .d (.val (.int .u64 a2)), .d (.val (.int .u64 b2)), .d (.val (.int .u64 c2)), .d (.val (.int .u64 d2)), .i mn2, .i mx2, .d (.sl (encL subs2) subs2.length)]); rfl; rfl; rfl)
    | (apply r_callA (ags := [.agg [.i k2, .d (.val (.int .u64 a2)), .d (.val (.int .u64 b2)), .d (.val (.int .u64 c2)), .d (.val (.int .u64 d2)), .i mn2, .i mx2, .d (.sl (encL subs2) subs2.length)], .d (.val (.string s)), .i kk]); rfl; rfl; exact gz)
    | (apply r_ldL; rfl; rfl; rfl)
    | (apply r_neq; rfl; rfl; (first | (apply decide_eq_true; omega) | (apply decide_eq_false; omega) | rfl))
    | (apply r_lss; rfl; rfl; (first | (apply decide_eq_true; omega) | (apply decide_eq_false; omega) | rfl))
    | (apply r_gtr; rfl; rfl; (first | (apply decide_eq_true; omega) | (apply decide_eq_false; omega) | rfl))
    | (apply r_add; rfl; rfl; rfl; omega)
    | (apply r_not; rfl; rfl)
    | (apply r_pickT; rfl)
    | (apply r_pickF; rfl)
    | (apply r_lenD; rfl)
    | (apply r_lenL; rfl)
    | (apply r_len0; rfl)
    | (apply r_lenT; rfl)
    | (apply r_ext; rfl; rfl)
    | (apply r_gT; rfl)
    | (apply r_gF'; rfl; rfl)
    | (apply r_gN'; rfl)
    | ((apply r_gS (o := default); rfl) <;> (intro h; try simp only [decide_eq_true_eq, decide_eq_false_iff_not, Bool.not_eq_true, Bool.not_eq_false] at h))
    | (apply r_alloc; ((conv => lhs; simp only [Nat.reduceAdd]) <;> rfl); rfl)
    | (apply r_box; ((conv => lhs; simp only [Nat.reduceAdd]) <;> rfl); rfl; rfl; rfl)
    | (apply r_avS; rfl)
    | (apply r_stL; rfl; rfl; rfl; rfl; (first | rfl | (simp only [z_nil, z_add] <;> rfl)); rfl; rfl)
    | (apply r_p; rfl)
    | (apply r_nilK)
    | (apply r_nil)
    | (apply k_V; rfl)
    | (apply k_P; rfl)
    | (apply k_PL; rfl)
    | (apply k_S; rfl)
    | (apply k_SL; rfl)
    | (apply k_A; rfl)
    | (apply k_T; rfl)
    | (apply k_F; rfl)
    | (apply k_D; rfl; rotate_left; rfl)
    | (apply k_nil)
    | (apply e_ret (vs := [.d (.val _)]); rfl)
    | (apply e_ret; rfl)
    | (apply e_ret' (vs := [.d (.val _)]); rfl)
    | (apply e_ret'; rfl)
    | (apply w_seq)
    | (apply w_ops; ((conv => lhs; simp only [Nat.reduceAdd]) <;> rfl))
    | (apply w_condT; rfl)
    | (apply w_condF; rfl)
    | ((apply w_condS; rfl) <;> (intro h; try simp only [decide_eq_true_eq, decide_eq_false_iff_not, Bool.not_eq_true, Bool.not_eq_false] at h))
    | (apply e_thenN)
    | (apply w_block)
    | (apply e_thenR)
    | (apply e_thenX)
    | (apply e_blkN)
    | (apply e_blkR)
    | (apply e_blkE)
    | (apply w_exit)
    | (apply w_ret)
    | (apply w_skip)
    | (apply e_blkE'; rfl))
    generalize hZ : U kk = ZZ at nz lz
    apply w_loopF (ι := Nat × List Bool) (S := fun q => ⟨(((((((Fr.nil.put 2 (.d (.val (.string s)))).put 3 (.i j)).put 5 (.ptrL 2 0)).put 9 (.ptrL 12 0)).put 10 (.ptrL 13 0)).put 15 (.slL 65 0 (s.size + 1) 1)).put 16 (.slL 69 0 (s.size + 1) 1)).put 105 (.d (.sl (encI X) X.length)) |>.put 106 (.i X.length) |>.put 107 (.i i) |>.put 121 (.d (.sl (encI ZZ) ZZ.length)) |>.put 122 (.i ZZ.length) |>.put 123 (.i q.1), rowsOf [(2, [.i k2, .d (.val (.int .u64 a2)), .d (.val (.int .u64 b2)), .d (.val (.int .u64 c2)), .d (.val (.int .u64 d2)), .i mn2, .i mx2, .d (.sl (encL subs2) subs2.length)]), (12, (encN (altT (.node k a b c d mn mx subs) (.node k2 a2 b2 c2 d2 mn2 mx2 subs2))).map AV.d), (13, (encN (catT (.node k a b c d mn mx subs) (.node k2 a2 b2 c2 d2 mn2 mx2 subs2))).map AV.d), (65, (encB (p.set kk true)).map AV.d), (69, (encB q.2).map AV.d)], Frz.buts 600 [65, 69], 600⟩) (m := fun q => ZZ.length - q.1) (I := fun q => q.1 ≤ ZZ.length ∧ q.2.length = s.size + 1 ∧ ∀ k : Nat, At q.2 k ↔ At b' k ∨ ∃ i', i' < q.1 ∧ ZZ[i']? = some ((k : Nat) : Int)) (i0 := (0, b'))
    · exact ⟨Nat.zero_le _, hbl, fun k => by simp⟩
    · dsimp only
      refine (wkL (by omega) (by intro q hq; simp only [List.mem_cons, List.not_mem_nil, or_false] at hq; rcases hq with rfl | rfl | rfl | rfl | rfl <;> first | exact ⟨by omega, rfl, encB_isD⟩ | exact ⟨by omega, rfl, rfl⟩) (by intro q hq; simp only [List.mem_cons, List.not_mem_nil, or_false] at hq; rcases hq with rfl | rfl <;> rfl) ?_).f
      repeat' (first
    | exact FWk.nil
    | (apply FWk.i; rfl; (first | rfl | omega | (simp; done)))
    | (apply FWk.sl; rfl; rfl; rfl; rfl; omega; rfl)
    | (apply FWk.ptr; rfl; rfl; rfl; omega; rfl)
    | (apply FWk.d; rfl; rfl)
    | (apply FWk.a; rfl; rfl; rfl)
    | (apply FWk.slN; rfl; omega; rfl))
    rintro ⟨i2, q⟩ K2 ⟨hi2, hql, hq⟩ hK2
    dsimp only at hi2 hql hq ⊢
    rcases Nat.lt_or_ge i2 ZZ.length with hlt2 | hge2
    · obtain ⟨k3, hk3, hzi⟩ := nz i2 hlt2
      repeat' (first
    | (apply r_mvV; rfl)
    | (apply r_mvP; rfl)
    | (apply r_mvPL; rfl)
    | (apply r_mvS; rfl)
    | (apply r_mvSL; rfl)
    | (apply r_mvA; rfl)
    | (apply r_mvT; rfl)
    | (apply r_mvF; rfl)
    | (apply r_mvD; rfl)
    | (apply r_ixI (j := i2); rfl; rfl; rfl; rfl; exact hlt2)
    | (apply r_ldI; rfl; exact hzi)
    | (apply r_ixL; rfl; rfl; omega)
    | (apply r_stB; rfl; rfl; rfl; rfl; omega)
    | (apply r_ldL; rfl; rfl; rfl)
    | (apply r_neq; rfl; rfl; (first | (apply decide_eq_true; omega) | (apply decide_eq_false; omega) | rfl))
    | (apply r_lss; rfl; rfl; (first | (apply decide_eq_true; omega) | (apply decide_eq_false; omega) | rfl))
    | (apply r_gtr; rfl; rfl; (first | (apply decide_eq_true; omega) | (apply decide_eq_false; omega) | rfl))
    | (apply r_add; rfl; rfl; rfl; omega)
    | (apply r_not; rfl; rfl)
    | (apply r_pickT; rfl)
    | (apply r_pickF; rfl)
    | (apply r_lenD; rfl)
    | (apply r_lenL; rfl)
    | (apply r_len0; rfl)
    | (apply r_lenT; rfl)
    | (apply r_ext; rfl; rfl)
    | (apply r_gT; rfl)
    | (apply r_gF'; rfl; rfl)
    | (apply r_gN'; rfl)
    | ((apply r_gS (o := default); rfl) <;> (intro h; try simp only [decide_eq_true_eq, decide_eq_false_iff_not, Bool.not_eq_true, Bool.not_eq_false] at h))
    | (apply r_alloc; ((conv => lhs; simp only [Nat.reduceAdd]) <;> rfl); rfl)
    | (apply r_box; ((conv => lhs; simp only [Nat.reduceAdd]) <;> rfl); rfl; rfl; rfl)
    | (apply r_avS; rfl)
    | (apply r_stL; rfl; rfl; rfl; rfl; (first | rfl | (simp only [z_nil, z_add] <;> rfl)); rfl; rfl)
    | (apply r_p; rfl)
    | (apply r_nilK)
    | (apply r_nil)
    | (apply k_V; rfl)
    | (apply k_P; rfl)
    | (apply k_PL; rfl)
    | (apply k_S; rfl)
    | (apply k_SL; rfl)
    | (apply k_A; rfl)
    | (apply k_T; rfl)
    | (apply k_F; rfl)
    | (apply k_D; rfl; rotate_left; rfl)
    | (apply k_nil)
    | (apply e_ret (vs := [.d (.val _)]); rfl)
    | (apply e_ret; rfl)
    | (apply e_ret' (vs := [.d (.val _)]); rfl)
    | (apply e_ret'; rfl)
    | (apply w_seq)
    | (apply w_ops; ((conv => lhs; simp only [Nat.reduceAdd]) <;> rfl))
    | (apply w_condT; rfl)
    | (apply w_condF; rfl)
    | ((apply w_condS; rfl) <;> (intro h; try simp only [decide_eq_true_eq, decide_eq_false_iff_not, Bool.not_eq_true, Bool.not_eq_false] at h))
    | (apply e_thenN)
    | (apply w_block)
    | (apply e_thenR)
    | (apply e_thenX)
    | (apply e_blkN)
    | (apply e_blkR)
    | (apply e_blkE)
    | (apply w_exit)
    | (apply w_ret)
    | (apply w_skip)
    | (apply e_blkE'; rfl))
      apply e_thenK
      apply hK2 (i2 + 1, q.set k3 true)
      · exact ⟨by dsimp only; omega, by simp [hql], mark_step (by omega) hzi hq⟩
      · dsimp only; omega
      · dsimp only
        refine (wkL (by omega) (by intro q hq; simp only [List.mem_cons, List.not_mem_nil, or_false] at hq; rcases hq with rfl | rfl | rfl | rfl | rfl <;> first | exact ⟨by omega, rfl, encB_isD⟩ | exact ⟨by omega, rfl, rfl⟩) (by intro q hq; simp only [List.mem_cons, List.not_mem_nil, or_false] at hq; rcases hq with rfl | rfl <;> rfl) ?_).f
        repeat' (first
    | exact FWk.nil
    | (apply FWk.i; rfl; (first | rfl | omega | (simp; done)))
    | (apply FWk.sl; rfl; rfl; rfl; rfl; omega; rfl)
    | (apply FWk.ptr; rfl; rfl; rfl; omega; rfl)
    | (apply FWk.d; rfl; rfl)
    | (apply FWk.a; rfl; rfl; rfl)
    | (apply FWk.slN; rfl; omega; rfl))
    · have ei : i2 = ZZ.length := by omega
      subst ei
      have hq : ∀ k : Nat, At q k ↔ At b' k ∨ ((k : Nat) : Int) ∈ U kk := fun k => by rw [hq k, mem_lt, hZ]
      repeat' (first
    | (apply r_mvV; rfl)
    | (apply r_mvP; rfl)
    | (apply r_mvPL; rfl)
    | (apply r_mvS; rfl)
    | (apply r_mvSL; rfl)
    | (apply r_mvA; rfl)
    | (apply r_mvT; rfl)
    | (apply r_mvF; rfl)
    | (apply r_mvD; rfl)
    | (apply r_ldL; rfl; rfl; rfl)
    | (apply r_neq; rfl; rfl; (first | (apply decide_eq_true; omega) | (apply decide_eq_false; omega) | rfl))
    | (apply r_lss; rfl; rfl; (first | (apply decide_eq_true; omega) | (apply decide_eq_false; omega) | rfl))
    | (apply r_gtr; rfl; rfl; (first | (apply decide_eq_true; omega) | (apply decide_eq_false; omega) | rfl))
    | (apply r_add; rfl; rfl; rfl; omega)
    | (apply r_not; rfl; rfl)
    | (apply r_pickT; rfl)
    | (apply r_pickF; rfl)
    | (apply r_lenD; rfl)
    | (apply r_lenL; rfl)
    | (apply r_len0; rfl)
    | (apply r_lenT; rfl)
    | (apply r_ext; rfl; rfl)
    | (apply r_gT; rfl)
    | (apply r_gF'; rfl; rfl)
    | (apply r_gN'; rfl)
    | ((apply r_gS (o := default); rfl) <;> (intro h; try simp only [decide_eq_true_eq, decide_eq_false_iff_not, Bool.not_eq_true, Bool.not_eq_false] at h))
    | (apply r_alloc; ((conv => lhs; simp only [Nat.reduceAdd]) <;> rfl); rfl)
    | (apply r_box; ((conv => lhs; simp only [Nat.reduceAdd]) <;> rfl); rfl; rfl; rfl)
    | (apply r_avS; rfl)
    | (apply r_stL; rfl; rfl; rfl; rfl; (first | rfl | (simp only [z_nil, z_add] <;> rfl)); rfl; rfl)
    | (apply r_p; rfl)
    | (apply r_nilK)
    | (apply r_nil)
    | (apply k_V; rfl)
    | (apply k_P; rfl)
    | (apply k_PL; rfl)
    | (apply k_S; rfl)
    | (apply k_SL; rfl)
    | (apply k_A; rfl)
    | (apply k_T; rfl)
    | (apply k_F; rfl)
    | (apply k_D; rfl; rotate_left; rfl)
    | (apply k_nil)
    | (apply e_ret (vs := [.d (.val _)]); rfl)
    | (apply e_ret; rfl)
    | (apply e_ret' (vs := [.d (.val _)]); rfl)
    | (apply e_ret'; rfl)
    | (apply w_seq)
    | (apply w_ops; ((conv => lhs; simp only [Nat.reduceAdd]) <;> rfl))
    | (apply w_condT; rfl)
    | (apply w_condF; rfl)
    | ((apply w_condS; rfl) <;> (intro h; try simp only [decide_eq_true_eq, decide_eq_false_iff_not, Bool.not_eq_true, Bool.not_eq_false] at h))
    | (apply e_thenN)
    | (apply w_block)
    | (apply e_thenR)
    | (apply e_thenX)
    | (apply e_blkN)
    | (apply e_blkR)
    | (apply e_blkE)
    | (apply w_exit)
    | (apply w_ret)
    | (apply w_skip)
    | (apply e_blkE'; rfl))
      apply e_thenK
      apply hK (i + 1, p.set kk true, q)
      · refine ⟨by dsimp only; omega, by simp [hpl], hql, mark_step (by omega) hxi hp, fun k => ?_⟩
        dsimp only
        rw [hq k, hb k]
        constructor
        · rintro (⟨i', a, h1, h2, h3⟩ | h)
          · exact ⟨i', a, by omega, h2, h3⟩
          · exact ⟨i, kk, by omega, hxi, h⟩
        · rintro ⟨i', a, h1, h2, h3⟩
          by_cases e : i' = i
          · subst e
            rw [hxi] at h2
            have : kk = a := by simp at h2; omega
            subst this
            exact .inr h3
          · exact .inl ⟨i', a, by omega, h2, h3⟩
      · dsimp only; omega
      · dsimp only
        refine (wkL (by omega) (by intro q hq; simp only [List.mem_cons, List.not_mem_nil, or_false] at hq; rcases hq with rfl | rfl | rfl | rfl | rfl <;> first | exact ⟨by omega, rfl, encB_isD⟩ | exact ⟨by omega, rfl, rfl⟩) (by intro q hq; simp only [List.mem_cons, List.not_mem_nil, or_false] at hq; rcases hq with rfl | rfl <;> rfl) ?_).f
        repeat' (first
    | exact FWk.nil
    | (apply FWk.i; rfl; (first | rfl | omega | (simp; done)))
    | (apply FWk.sl; rfl; rfl; rfl; rfl; omega; rfl)
    | (apply FWk.ptr; rfl; rfl; rfl; omega; rfl)
    | (apply FWk.d; rfl; rfl)
    | (apply FWk.a; rfl; rfl; rfl)
    | (apply FWk.slN; rfl; omega; rfl))
  have ei : i = X.length := by omega
  subst ei
  have hp : ∀ k : Nat, At p k ↔ ((k : Nat) : Int) ∈ GA := fun k => by rw [hp k, mem_lt, mA]
  have hb : ∀ k : Nat, At b' k ↔ ((k : Nat) : Int) ∈ GC := fun k => by
    rw [hb k, mC]
    constructor
    · rintro ⟨i', a, h1, h2, h3⟩; exact ⟨a, List.mem_of_getElem? h2, h3⟩
    · rintro ⟨a, h1, h2⟩
      obtain ⟨i', h3⟩ := List.mem_iff_getElem?.1 h1
      exact ⟨i', a, (List.getElem?_eq_some_iff.1 h3).1, h3, h2⟩
  have eA : GA = idxTo p (s.size + 1) := iA p fun k _ => hp k
  have eC : GC = idxTo b' (s.size + 1) := iC b' fun k _ => hb k
  have lA : GA.length ≤ s.size + 1 := by rw [eA]; exact idxTo_len _ _
  have lC : GC.length ≤ s.size + 1 := by rw [eC]; exact idxTo_len _ _
  have nA := idx_get eA hpl
  have nC := idx_get eC hbl
  have eAl : GA.length = (idxTo p (s.size + 1)).length := congrArg List.length eA
  have eCl : GC.length = (idxTo b' (s.size + 1)).length := congrArg List.length eC
  repeat' (first
    | (apply r_mvV; rfl)
    | (apply r_mvP; rfl)
    | (apply r_mvPL; rfl)
    | (apply r_mvS; rfl)
    | (apply r_mvSL; rfl)
    | (apply r_mvA; rfl)
    | (apply r_mvT; rfl)
    | (apply r_mvF; rfl)
    | (apply r_mvD; rfl)
    | (apply r_ldL (v := .agg [.i 4, .d (.val (.int .u64 0)), .d (.val (.int .u64 0)), .d (.val (.int .u64 0)), .d (.val (.int .u64 0)), .i 0, .i 0, .slL 6 0 2 8]); rfl; rfl; rfl)
    | (apply r_callA (ags := [nodeA (altT (.node k a b c d mn mx subs) (.node k2 a2 b2 c2 d2 mn2 mx2 subs2)), .d (.val (.string s)), .i j]); rfl; rfl; exact gA)
    | (apply r_callA (ags := [nodeA (catT (.node k a b c d mn mx subs) (.node k2 a2 b2 c2 d2 mn2 mx2 subs2)), .d (.val (.string s)), .i j]); rfl; rfl; exact gC)
    | (apply r_ldL (v := nodeA (altT (.node k a b c d mn mx subs) (.node k2 a2 b2 c2 d2 mn2 mx2 subs2))); rfl; rfl; rfl)
    | (apply r_ldL (v := nodeA (catT (.node k a b c d mn mx subs) (.node k2 a2 b2 c2 d2 mn2 mx2 subs2))); rfl; rfl; rfl)
    | (apply r_ldL; rfl; rfl; rfl)
    | (apply r_neq; rfl; rfl; (first | (apply decide_eq_true; omega) | (apply decide_eq_false; omega) | rfl))
    | (apply r_lss; rfl; rfl; (first | (apply decide_eq_true; omega) | (apply decide_eq_false; omega) | rfl))
    | (apply r_gtr; rfl; rfl; (first | (apply decide_eq_true; omega) | (apply decide_eq_false; omega) | rfl))
    | (apply r_add; rfl; rfl; rfl; omega)
    | (apply r_not; rfl; rfl)
    | (apply r_pickT; rfl)
    | (apply r_pickF; rfl)
    | (apply r_lenD; rfl)
    | (apply r_lenL; rfl)
    | (apply r_len0; rfl)
    | (apply r_lenT; rfl)
    | (apply r_ext; rfl; rfl)
    | (apply r_gT; rfl)
    | (apply r_gF'; rfl; rfl)
    | (apply r_gN'; rfl)
    | ((apply r_gS (o := default); rfl) <;> (intro h; try simp only [decide_eq_true_eq, decide_eq_false_iff_not, Bool.not_eq_true, Bool.not_eq_false] at h))
    | (apply r_alloc; ((conv => lhs; simp only [Nat.reduceAdd]) <;> rfl); rfl)
    | (apply r_box; ((conv => lhs; simp only [Nat.reduceAdd]) <;> rfl); rfl; rfl; rfl)
    | (apply r_avS; rfl)
    | (apply r_stL; rfl; rfl; rfl; rfl; (first | rfl | (simp only [z_nil, z_add] <;> rfl)); rfl; rfl)
    | (apply r_p; rfl)
    | (apply r_nilK)
    | (apply r_nil)
    | (apply k_V; rfl)
    | (apply k_P; rfl)
    | (apply k_PL; rfl)
    | (apply k_S; rfl)
    | (apply k_SL; rfl)
    | (apply k_A; rfl)
    | (apply k_T; rfl)
    | (apply k_F; rfl)
    | (apply k_D; rfl; rotate_left; rfl)
    | (apply k_nil)
    | (apply e_ret (vs := [.d (.val _)]); rfl)
    | (apply e_ret; rfl)
    | (apply e_ret' (vs := [.d (.val _)]); rfl)
    | (apply e_ret'; rfl)
    | (apply w_seq)
    | (apply w_ops; ((conv => lhs; simp only [Nat.reduceAdd]) <;> rfl))
    | (apply w_condT; rfl)
    | (apply w_condF; rfl)
    | ((apply w_condS; rfl) <;> (intro h; try simp only [decide_eq_true_eq, decide_eq_false_iff_not, Bool.not_eq_true, Bool.not_eq_false] at h))
    | (apply e_thenN)
    | (apply w_block)
    | (apply e_thenR)
    | (apply e_thenX)
    | (apply e_blkN)
    | (apply e_blkR)
    | (apply e_blkE)
    | (apply w_exit)
    | (apply w_ret)
    | (apply w_skip)
    | (apply e_blkE'; rfl))
  clear hK hge hi gX gY gU gA gC mA mC iA iC nX nY nU lX lY lU h30 h32 h32c haw hp hb eA eC
  apply w_loopF (ι := Nat) (S := fun i => ⟨(((((((((Fr.nil.put 15 (.d (.sl (encB p) (s.size + 1)))).put 16 (.d (.sl (encB b') (s.size + 1)))).put 25 (.d (.sl (encI GA) GA.length))).put 26 (.i 0)).put 27 (.d (.sl (encI GC) GC.length))).put 28 (.i 0)).put 29 (.i (idxTo p i).length)).put 30 (.i (idxTo b' i).length)).put 147 (.i ((s.size + 1 : Nat) : Int))).put 148 (.i i), Heap.nil, Frz.lo 600, 600⟩) (m := fun i => s.size + 1 - i) (I := fun i => i ≤ s.size + 1) (i0 := 0)
  · exact Nat.zero_le _
  · refine fzB' (k := 15) (b := 65) (m := s.size + 1) (p := p) rfl rfl hpl (by omega) (fzB' (k := 16) (b := 69) (m := s.size + 1) (p := b') rfl rfl hbl (by omega) (Wk.f (wk0 (by omega) ?_)))
    repeat' (first
    | exact FWk.nil
    | (apply FWk.i; rfl; (first | rfl | omega | (simp; done)))
    | (apply FWk.sl; rfl; rfl; rfl; rfl; omega; rfl)
    | (apply FWk.ptr; rfl; rfl; rfl; omega; rfl)
    | (apply FWk.d; rfl; rfl)
    | (apply FWk.a; rfl; rfl; rfl)
    | (apply FWk.slN; rfl; omega; rfl))
  intro i K hi hK
  dsimp only
  rcases Nat.lt_or_ge i (s.size + 1) with hlt | hge
  · have hgp : p[i]? = some (p.getD i false) := by
      rw [List.getD_eq_getElem?_getD, List.getElem?_eq_getElem (by omega)]; rfl
    have hgb : b'[i]? = some (b'.getD i false) := by
      rw [List.getD_eq_getElem?_getD, List.getElem?_eq_getElem (by omega)]; rfl
    have lp := idxTo_len p i
    have lb := idxTo_len b' i
    have sp : ((idxTo p (i + 1)).length : Int) = (idxTo p i).length + if p.getD i false = true then 1 else 0 := by
      rw [idxTo]; split <;> simp
    have sb : ((idxTo b' (i + 1)).length : Int) = (idxTo b' i).length + if b'.getD i false = true then 1 else 0 := by
      rw [idxTo]; split <;> simp
    generalize p.getD i false = vp at hgp sp
    generalize b'.getD i false = vb at hgb sb
    cases vp <;> cases vb
    all_goals
      simp only [if_true, if_false, Bool.false_eq_true] at sp sb
      repeat' (first
    | (apply r_mvV; rfl)
    | (apply r_mvP; rfl)
    | (apply r_mvPL; rfl)
    | (apply r_mvS; rfl)
    | (apply r_mvSL; rfl)
    | (apply r_mvA; rfl)
    | (apply r_mvT; rfl)
    | (apply r_mvF; rfl)
    | (apply r_mvD; rfl)
    | (apply r_ixB'; rfl; rfl; exact hlt; exact hpl)
    | (apply r_ldB; rfl; exact hgp)
    | (apply r_ixB'; rfl; rfl; exact hlt; exact hbl)
    | (apply r_ldB; rfl; exact hgb)
    | (apply r_ldL; rfl; rfl; rfl)
    | (apply r_neq; rfl; rfl; (first | (apply decide_eq_true; omega) | (apply decide_eq_false; omega) | rfl))
    | (apply r_lss; rfl; rfl; (first | (apply decide_eq_true; omega) | (apply decide_eq_false; omega) | rfl))
    | (apply r_gtr; rfl; rfl; (first | (apply decide_eq_true; omega) | (apply decide_eq_false; omega) | rfl))
    | (apply r_add; rfl; rfl; rfl; omega)
    | (apply r_not; rfl; rfl)
    | (apply r_pickT; rfl)
    | (apply r_pickF; rfl)
    | (apply r_lenD; rfl)
    | (apply r_lenL; rfl)
    | (apply r_len0; rfl)
    | (apply r_lenT; rfl)
    | (apply r_ext; rfl; rfl)
    | (apply r_gT; rfl)
    | (apply r_gF'; rfl; rfl)
    | (apply r_gN'; rfl)
    | ((apply r_gS (o := default); rfl) <;> (intro h; try simp only [decide_eq_true_eq, decide_eq_false_iff_not, Bool.not_eq_true, Bool.not_eq_false] at h))
    | (apply r_alloc; ((conv => lhs; simp only [Nat.reduceAdd]) <;> rfl); rfl)
    | (apply r_box; ((conv => lhs; simp only [Nat.reduceAdd]) <;> rfl); rfl; rfl; rfl)
    | (apply r_avS; rfl)
    | (apply r_stL; rfl; rfl; rfl; rfl; (first | rfl | (simp only [z_nil, z_add] <;> rfl)); rfl; rfl)
    | (apply r_p; rfl)
    | (apply r_nilK)
    | (apply r_nil)
    | (apply k_V; rfl)
    | (apply k_P; rfl)
    | (apply k_PL; rfl)
    | (apply k_S; rfl)
    | (apply k_SL; rfl)
    | (apply k_A; rfl)
    | (apply k_T; rfl)
    | (apply k_F; rfl)
    | (apply k_D; rfl; rotate_left; rfl)
    | (apply k_nil)
    | (apply e_ret (vs := [.d (.val _)]); rfl)
    | (apply e_ret; rfl)
    | (apply e_ret' (vs := [.d (.val _)]); rfl)
    | (apply e_ret'; rfl)
    | (apply w_seq)
    | (apply w_ops; ((conv => lhs; simp only [Nat.reduceAdd]) <;> rfl))
    | (apply w_condT; rfl)
    | (apply w_condF; rfl)
    | ((apply w_condS; rfl) <;> (intro h; try simp only [decide_eq_true_eq, decide_eq_false_iff_not, Bool.not_eq_true, Bool.not_eq_false] at h))
    | (apply e_thenN)
    | (apply w_block)
    | (apply e_thenR)
    | (apply e_thenX)
    | (apply e_blkN)
    | (apply e_blkR)
    | (apply e_blkE)
    | (apply w_exit)
    | (apply w_ret)
    | (apply w_skip)
    | (apply e_blkE'; rfl))
      apply e_thenK
      apply hK (i + 1)
      · omega
      · omega
      · refine (wk0 (by omega) ?_).f
        repeat' (first
    | exact FWk.nil
    | (apply FWk.i; rfl; (first | rfl | omega | (simp; done)))
    | (apply FWk.sl; rfl; rfl; rfl; rfl; omega; rfl)
    | (apply FWk.ptr; rfl; rfl; rfl; omega; rfl)
    | (apply FWk.d; rfl; rfl)
    | (apply FWk.a; rfl; rfl; rfl)
    | (apply FWk.slN; rfl; omega; rfl))
  have ei : i = s.size + 1 := by omega
  subst ei
  repeat' (first
    | (apply r_mvV; rfl)
    | (apply r_mvP; rfl)
    | (apply r_mvPL; rfl)
    | (apply r_mvS; rfl)
    | (apply r_mvSL; rfl)
    | (apply r_mvA; rfl)
    | (apply r_mvT; rfl)
    | (apply r_mvF; rfl)
    | (apply r_mvD; rfl)
    | (apply r_ldL; rfl; rfl; rfl)
    | (apply r_neq; rfl; rfl; (first | (apply decide_eq_true; omega) | (apply decide_eq_false; omega) | rfl))
    | (apply r_lss; rfl; rfl; (first | (apply decide_eq_true; omega) | (apply decide_eq_false; omega) | rfl))
    | (apply r_gtr; rfl; rfl; (first | (apply decide_eq_true; omega) | (apply decide_eq_false; omega) | rfl))
    | (apply r_add; rfl; rfl; rfl; omega)
    | (apply r_not; rfl; rfl)
    | (apply r_pickT; rfl)
    | (apply r_pickF; rfl)
    | (apply r_lenD; rfl)
    | (apply r_lenL; rfl)
    | (apply r_len0; rfl)
    | (apply r_lenT; rfl)
    | (apply r_ext; rfl; rfl)
    | (apply r_gT; rfl)
    | (apply r_gF'; rfl; rfl)
    | (apply r_gN'; rfl)
    | ((apply r_gS (o := default); rfl) <;> (intro h; try simp only [decide_eq_true_eq, decide_eq_false_iff_not, Bool.not_eq_true, Bool.not_eq_false] at h))
    | (apply r_alloc; ((conv => lhs; simp only [Nat.reduceAdd]) <;> rfl); rfl)
    | (apply r_box; ((conv => lhs; simp only [Nat.reduceAdd]) <;> rfl); rfl; rfl; rfl)
    | (apply r_avS; rfl)
    | (apply r_stL; rfl; rfl; rfl; rfl; (first | rfl | (simp only [z_nil, z_add] <;> rfl)); rfl; rfl)
    | (apply r_p; rfl)
    | (apply r_nilK)
    | (apply r_nil)
    | (apply k_V; rfl)
    | (apply k_P; rfl)
    | (apply k_PL; rfl)
    | (apply k_S; rfl)
    | (apply k_SL; rfl)
    | (apply k_A; rfl)
    | (apply k_T; rfl)
    | (apply k_F; rfl)
    | (apply k_D; rfl; rotate_left; rfl)
    | (apply k_nil)
    | (apply e_ret (vs := [.d (.val _)]); rfl)
    | (apply e_ret; rfl)
    | (apply e_ret' (vs := [.d (.val _)]); rfl)
    | (apply e_ret'; rfl)
    | (apply w_seq)
    | (apply w_ops; ((conv => lhs; simp only [Nat.reduceAdd]) <;> rfl))
    | (apply w_condT; rfl)
    | (apply w_condF; rfl)
    | ((apply w_condS; rfl) <;> (intro h; try simp only [decide_eq_true_eq, decide_eq_false_iff_not, Bool.not_eq_true, Bool.not_eq_false] at h))
    | (apply e_thenN)
    | (apply w_block)
    | (apply e_thenR)
    | (apply e_thenX)
    | (apply e_blkN)
    | (apply e_blkR)
    | (apply e_blkE)
    | (apply w_exit)
    | (apply w_ret)
    | (apply w_skip)
    | (apply e_blkE'; rfl))
  clear hK hge hi
  apply w_loopF (ι := Nat) (S := fun i => ⟨(((((Fr.nil.put 15 (.d (.sl (encB p) (s.size + 1)))).put 16 (.d (.sl (encB b') (s.size + 1)))).put 27 (.d (.sl (encI GC) GC.length))).put 182 (.d (.sl (encI GA) GA.length))).put 183 (.i GA.length)).put 184 (.i i), Heap.nil, Frz.lo 700, 700⟩) (m := fun i => GA.length - i) (I := fun i => i ≤ GA.length) (i0 := 0)
  · exact Nat.zero_le _
  · refine (wk0 (by omega) ?_).f
    repeat' (first
    | exact FWk.nil
    | (apply FWk.i; rfl; (first | rfl | omega | (simp; done)))
    | (apply FWk.sl; rfl; rfl; rfl; rfl; omega; rfl)
    | (apply FWk.ptr; rfl; rfl; rfl; omega; rfl)
    | (apply FWk.d; rfl; rfl)
    | (apply FWk.a; rfl; rfl; rfl)
    | (apply FWk.slN; rfl; omega; rfl))
  intro i K hi hK
  dsimp only
  rcases Nat.lt_or_ge i GA.length with hlt | hge
  · obtain ⟨kk, hkk, hgi, hpk⟩ := nA i hlt
    repeat' (first
    | (apply r_mvV; rfl)
    | (apply r_mvP; rfl)
    | (apply r_mvPL; rfl)
    | (apply r_mvS; rfl)
    | (apply r_mvSL; rfl)
    | (apply r_mvA; rfl)
    | (apply r_mvT; rfl)
    | (apply r_mvF; rfl)
    | (apply r_mvD; rfl)
    | (apply r_ixI (j := i); rfl; rfl; rfl; rfl; exact hlt)
    | (apply r_ldI; rfl; exact hgi)
    | (apply r_ixB' (j := kk); rfl; rfl; omega; exact hpl)
    | (apply r_ldB; rfl; exact hpk)
    | (apply r_ldL; rfl; rfl; rfl)
    | (apply r_neq; rfl; rfl; (first | (apply decide_eq_true; omega) | (apply decide_eq_false; omega) | rfl))
    | (apply r_lss; rfl; rfl; (first | (apply decide_eq_true; omega) | (apply decide_eq_false; omega) | rfl))
    | (apply r_gtr; rfl; rfl; (first | (apply decide_eq_true; omega) | (apply decide_eq_false; omega) | rfl))
    | (apply r_add; rfl; rfl; rfl; omega)
    | (apply r_not; rfl; rfl)
    | (apply r_pickT; rfl)
    | (apply r_pickF; rfl)
    | (apply r_lenD; rfl)
    | (apply r_lenL; rfl)
    | (apply r_len0; rfl)
    | (apply r_lenT; rfl)
    | (apply r_ext; rfl; rfl)
    | (apply r_gT; rfl)
    | (apply r_gF'; rfl; rfl)
    | (apply r_gN'; rfl)
    | ((apply r_gS (o := default); rfl) <;> (intro h; try simp only [decide_eq_true_eq, decide_eq_false_iff_not, Bool.not_eq_true, Bool.not_eq_false] at h))
    | (apply r_alloc; ((conv => lhs; simp only [Nat.reduceAdd]) <;> rfl); rfl)
    | (apply r_box; ((conv => lhs; simp only [Nat.reduceAdd]) <;> rfl); rfl; rfl; rfl)
    | (apply r_avS; rfl)
    | (apply r_stL; rfl; rfl; rfl; rfl; (first | rfl | (simp only [z_nil, z_add] <;> rfl)); rfl; rfl)
    | (apply r_p; rfl)
    | (apply r_nilK)
    | (apply r_nil)
    | (apply k_V; rfl)
    | (apply k_P; rfl)
    | (apply k_PL; rfl)
    | (apply k_S; rfl)
    | (apply k_SL; rfl)
    | (apply k_A; rfl)
    | (apply k_T; rfl)
    | (apply k_F; rfl)
    | (apply k_D; rfl; rotate_left; rfl)
    | (apply k_nil)
    | (apply e_ret (vs := [.d (.val _)]); rfl)
    | (apply e_ret; rfl)
    | (apply e_ret' (vs := [.d (.val _)]); rfl)
    | (apply e_ret'; rfl)
    | (apply w_seq)
    | (apply w_ops; ((conv => lhs; simp only [Nat.reduceAdd]) <;> rfl))
    | (apply w_condT; rfl)
    | (apply w_condF; rfl)
    | ((apply w_condS; rfl) <;> (intro h; try simp only [decide_eq_true_eq, decide_eq_false_iff_not, Bool.not_eq_true, Bool.not_eq_false] at h))
    | (apply e_thenN)
    | (apply w_block)
    | (apply e_thenR)
    | (apply e_thenX)
    | (apply e_blkN)
    | (apply e_blkR)
    | (apply e_blkE)
    | (apply w_exit)
    | (apply w_ret)
    | (apply w_skip)
    | (apply e_blkE'; rfl))
    apply e_thenK
    apply hK (i + 1)
    · omega
    · omega
    · refine (wk0 (by omega) ?_).f
      repeat' (first
    | exact FWk.nil
    | (apply FWk.i; rfl; (first | rfl | omega | (simp; done)))
    | (apply FWk.sl; rfl; rfl; rfl; rfl; omega; rfl)
    | (apply FWk.ptr; rfl; rfl; rfl; omega; rfl)
    | (apply FWk.d; rfl; rfl)
    | (apply FWk.a; rfl; rfl; rfl)
    | (apply FWk.slN; rfl; omega; rfl))
  have ei : i = GA.length := by omega
  subst ei
  repeat' (first
    | (apply r_mvV; rfl)
    | (apply r_mvP; rfl)
    | (apply r_mvPL; rfl)
    | (apply r_mvS; rfl)
    | (apply r_mvSL; rfl)
    | (apply r_mvA; rfl)
    | (apply r_mvT; rfl)
    | (apply r_mvF; rfl)
    | (apply r_mvD; rfl)
    | (apply r_ldL; rfl; rfl; rfl)
    | (apply r_neq; rfl; rfl; (first | (apply decide_eq_true; omega) | (apply decide_eq_false; omega) | rfl))
    | (apply r_lss; rfl; rfl; (first | (apply decide_eq_true; omega) | (apply decide_eq_false; omega) | rfl))
    | (apply r_gtr; rfl; rfl; (first | (apply decide_eq_true; omega) | (apply decide_eq_false; omega) | rfl))
    | (apply r_add; rfl; rfl; rfl; omega)
    | (apply r_not; rfl; rfl)
    | (apply r_pickT; rfl)
    | (apply r_pickF; rfl)
    | (apply r_lenD; rfl)
    | (apply r_lenL; rfl)
    | (apply r_len0; rfl)
    | (apply r_lenT; rfl)
    | (apply r_ext; rfl; rfl)
    | (apply r_gT; rfl)
    | (apply r_gF'; rfl; rfl)
    | (apply r_gN'; rfl)
    | ((apply r_gS (o := default); rfl) <;> (intro h; try simp only [decide_eq_true_eq, decide_eq_false_iff_not, Bool.not_eq_true, Bool.not_eq_false] at h))
    | (apply r_alloc; ((conv => lhs; simp only [Nat.reduceAdd]) <;> rfl); rfl)
    | (apply r_box; ((conv => lhs; simp only [Nat.reduceAdd]) <;> rfl); rfl; rfl; rfl)
    | (apply r_avS; rfl)
    | (apply r_stL; rfl; rfl; rfl; rfl; (first | rfl | (simp only [z_nil, z_add] <;> rfl)); rfl; rfl)
    | (apply r_p; rfl)
    | (apply r_nilK)
    | (apply r_nil)
    | (apply k_V; rfl)
    | (apply k_P; rfl)
    | (apply k_PL; rfl)
    | (apply k_S; rfl)
    | (apply k_SL; rfl)
    | (apply k_A; rfl)
    | (apply k_T; rfl)
    | (apply k_F; rfl)
    | (apply k_D; rfl; rotate_left; rfl)
    | (apply k_nil)
    | (apply e_ret (vs := [.d (.val _)]); rfl)
    | (apply e_ret; rfl)
    | (apply e_ret' (vs := [.d (.val _)]); rfl)
    | (apply e_ret'; rfl)
    | (apply w_seq)
    | (apply w_ops; ((conv => lhs; simp only [Nat.reduceAdd]) <;> rfl))
    | (apply w_condT; rfl)
    | (apply w_condF; rfl)
    | ((apply w_condS; rfl) <;> (intro h; try simp only [decide_eq_true_eq, decide_eq_false_iff_not, Bool.not_eq_true, Bool.not_eq_false] at h))
    | (apply e_thenN)
    | (apply w_block)
    | (apply e_thenR)
    | (apply e_thenX)
    | (apply e_blkN)
    | (apply e_blkR)
    | (apply e_blkE)
    | (apply w_exit)
    | (apply w_ret)
    | (apply w_skip)
    | (apply e_blkE'; rfl))
  clear hK hge hi
  apply w_loopF (ι := Nat) (S := fun i => ⟨(((Fr.nil.put 16 (.d (.sl (encB b') (s.size + 1)))).put 194 (.d (.sl (encI GC) GC.length))).put 195 (.i GC.length)).put 196 (.i i), Heap.nil, Frz.lo 900, 900⟩) (m := fun i => GC.length - i) (I := fun i => i ≤ GC.length) (i0 := 0)
  · exact Nat.zero_le _
  · refine (wk0 (by omega) ?_).f
    repeat' (first
    | exact FWk.nil
    | (apply FWk.i; rfl; (first | rfl | omega | (simp; done)))
    | (apply FWk.sl; rfl; rfl; rfl; rfl; omega; rfl)
    | (apply FWk.ptr; rfl; rfl; rfl; omega; rfl)
    | (apply FWk.d; rfl; rfl)
    | (apply FWk.a; rfl; rfl; rfl)
    | (apply FWk.slN; rfl; omega; rfl))
  intro i K hi hK
  dsimp only
  rcases Nat.lt_or_ge i GC.length with hlt | hge
  · obtain ⟨kk, hkk, hgi, hpk⟩ := nC i hlt
    repeat' (first
    | (apply r_mvV; rfl)
    | (apply r_mvP; rfl)
    | (apply r_mvPL; rfl)
    | (apply r_mvS; rfl)
    | (apply r_mvSL; rfl)
    | (apply r_mvA; rfl)
    | (apply r_mvT; rfl)
    | (apply r_mvF; rfl)
    | (apply r_mvD; rfl)
    | (apply r_ixI (j := i); rfl; rfl; rfl; rfl; exact hlt)
    | (apply r_ldI; rfl; exact hgi)
    | (apply r_ixB' (j := kk); rfl; rfl; omega; exact hbl)
    | (apply r_ldB; rfl; exact hpk)
    | (apply r_ldL; rfl; rfl; rfl)
    | (apply r_neq; rfl; rfl; (first | (apply decide_eq_true; omega) | (apply decide_eq_false; omega) | rfl))
    | (apply r_lss; rfl; rfl; (first | (apply decide_eq_true; omega) | (apply decide_eq_false; omega) | rfl))
    | (apply r_gtr; rfl; rfl; (first | (apply decide_eq_true; omega) | (apply decide_eq_false; omega) | rfl))
    | (apply r_add; rfl; rfl; rfl; omega)
    | (apply r_not; rfl; rfl)
    | (apply r_pickT; rfl)
    | (apply r_pickF; rfl)
    | (apply r_lenD; rfl)
    | (apply r_lenL; rfl)
    | (apply r_len0; rfl)
    | (apply r_lenT; rfl)
    | (apply r_ext; rfl; rfl)
    | (apply r_gT; rfl)
    | (apply r_gF'; rfl; rfl)
    | (apply r_gN'; rfl)
    | ((apply r_gS (o := default); rfl) <;> (intro h; try simp only [decide_eq_true_eq, decide_eq_false_iff_not, Bool.not_eq_true, Bool.not_eq_false] at h))
    | (apply r_alloc; ((conv => lhs; simp only [Nat.reduceAdd]) <;> rfl); rfl)
    | (apply r_box; ((conv => lhs; simp only [Nat.reduceAdd]) <;> rfl); rfl; rfl; rfl)
    | (apply r_avS; rfl)
    | (apply r_stL; rfl; rfl; rfl; rfl; (first | rfl | (simp only [z_nil, z_add] <;> rfl)); rfl; rfl)
    | (apply r_p; rfl)
    | (apply r_nilK)
    | (apply r_nil)
    | (apply k_V; rfl)
    | (apply k_P; rfl)
    | (apply k_PL; rfl)
    | (apply k_S; rfl)
    | (apply k_SL; rfl)
    | (apply k_A; rfl)
    | (apply k_T; rfl)
    | (apply k_F; rfl)
    | (apply k_D; rfl; rotate_left; rfl)
    | (apply k_nil)
    | (apply e_ret (vs := [.d (.val _)]); rfl)
    | (apply e_ret; rfl)
    | (apply e_ret' (vs := [.d (.val _)]); rfl)
    | (apply e_ret'; rfl)
    | (apply w_seq)
    | (apply w_ops; ((conv => lhs; simp only [Nat.reduceAdd]) <;> rfl))
    | (apply w_condT; rfl)
    | (apply w_condF; rfl)
    | ((apply w_condS; rfl) <;> (intro h; try simp only [decide_eq_true_eq, decide_eq_false_iff_not, Bool.not_eq_true, Bool.not_eq_false] at h))
    | (apply e_thenN)
    | (apply w_block)
    | (apply e_thenR)
    | (apply e_thenX)
    | (apply e_blkN)
    | (apply e_blkR)
    | (apply e_blkE)
    | (apply w_exit)
    | (apply w_ret)
    | (apply w_skip)
    | (apply e_blkE'; rfl))
    apply e_thenK
    apply hK (i + 1)
    · omega
    · omega
    · refine (wk0 (by omega) ?_).f
      repeat' (first
    | exact FWk.nil
    | (apply FWk.i; rfl; (first | rfl | omega | (simp; done)))
    | (apply FWk.sl; rfl; rfl; rfl; rfl; omega; rfl)
    | (apply FWk.ptr; rfl; rfl; rfl; omega; rfl)
    | (apply FWk.d; rfl; rfl)
    | (apply FWk.a; rfl; rfl; rfl)
    | (apply FWk.slN; rfl; omega; rfl))
  have ei : i = GC.length := by omega
  subst ei
  repeat' (first
    | (apply r_mvV; rfl)
    | (apply r_mvP; rfl)
    | (apply r_mvPL; rfl)
    | (apply r_mvS; rfl)
    | (apply r_mvSL; rfl)
    | (apply r_mvA; rfl)
    | (apply r_mvT; rfl)
    | (apply r_mvF; rfl)
    | (apply r_mvD; rfl)
    | (apply r_ldL; rfl; rfl; rfl)
    | (apply r_neq; rfl; rfl; (first | (apply decide_eq_true; omega) | (apply decide_eq_false; omega) | rfl))
    | (apply r_lss; rfl; rfl; (first | (apply decide_eq_true; omega) | (apply decide_eq_false; omega) | rfl))
    | (apply r_gtr; rfl; rfl; (first | (apply decide_eq_true; omega) | (apply decide_eq_false; omega) | rfl))
    | (apply r_add; rfl; rfl; rfl; omega)
    | (apply r_not; rfl; rfl)
    | (apply r_pickT; rfl)
    | (apply r_pickF; rfl)
    | (apply r_lenD; rfl)
    | (apply r_lenL; rfl)
    | (apply r_len0; rfl)
    | (apply r_lenT; rfl)
    | (apply r_ext; rfl; rfl)
    | (apply r_gT; rfl)
    | (apply r_gF'; rfl; rfl)
    | (apply r_gN'; rfl)
    | ((apply r_gS (o := default); rfl) <;> (intro h; try simp only [decide_eq_true_eq, decide_eq_false_iff_not, Bool.not_eq_true, Bool.not_eq_false] at h))
    | (apply r_alloc; ((conv => lhs; simp only [Nat.reduceAdd]) <;> rfl); rfl)
    | (apply r_box; ((conv => lhs; simp only [Nat.reduceAdd]) <;> rfl); rfl; rfl; rfl)
    | (apply r_avS; rfl)
    | (apply r_stL; rfl; rfl; rfl; rfl; (first | rfl | (simp only [z_nil, z_add] <;> rfl)); rfl; rfl)
    | (apply r_p; rfl)
    | (apply r_nilK)
    | (apply r_nil)
    | (apply k_V; rfl)
    | (apply k_P; rfl)
    | (apply k_PL; rfl)
    | (apply k_S; rfl)
    | (apply k_SL; rfl)
    | (apply k_A; rfl)
    | (apply k_T; rfl)
    | (apply k_F; rfl)
    | (apply k_D; rfl; rotate_left; rfl)
    | (apply k_nil)
    | (apply e_ret (vs := [.d (.val _)]); rfl)
    | (apply e_ret; rfl)
    | (apply e_ret' (vs := [.d (.val _)]); rfl)
    | (apply e_ret'; rfl)
    | (apply w_seq)
    | (apply w_ops; ((conv => lhs; simp only [Nat.reduceAdd]) <;> rfl))
    | (apply w_condT; rfl)
    | (apply w_condF; rfl)
    | ((apply w_condS; rfl) <;> (intro h; try simp only [decide_eq_true_eq, decide_eq_false_iff_not, Bool.not_eq_true, Bool.not_eq_false] at h))
    | (apply e_thenN)
    | (apply w_block)
    | (apply e_thenR)
    | (apply e_thenX)
    | (apply e_blkN)
    | (apply e_blkR)
    | (apply e_blkE)
    | (apply w_exit)
    | (apply w_ret)
    | (apply w_skip)
    | (apply e_blkE'; rfl))
  exact retB rfl
end Go.Sv
namespace Go.Sv
open Go Go.Proofs
theorem encL_rep (t : T) : ∀ m, encL (List.replicate m t) = (List.replicate m (encN t)).flatten
  | 0 => rfl
  | m + 1 => by rw [List.replicate_succ, encL, encL_rep t m, List.replicate_succ, List.flatten_cons]
theorem encL_app : ∀ (l r : List T), encL (l ++ r) = encL l ++ encL r
  | [], r => rfl
  | t :: l, r => by rw [List.cons_append, encL, encL_app l r, encL, List.append_assoc]
theorem encN_norm (t : T) : (encN t).map DV.norm = encN t := by cases t; rfl
theorem encL_norm : ∀ l : List T, (encL l).map DV.norm = encL l
  | [] => rfl
  | t :: l => by rw [encL, List.map_append, encN_norm, encL_norm l]
theorem encL_length : ∀ l : List T, (encL l).length = l.length * 8
  | [] => rfl
  | t :: l => by rw [encL, List.length_append, encN_len, encL_length l, List.length_cons]; omega
theorem mapO_app (g : AV → Option (DV × List Nat)) : ∀ (a b : List AV) (x y : List DV) (u v : List Nat), mapO g a = some (x, u) → mapO g b = some (y, v) → mapO g (a ++ b) = some (x ++ y, u ++ v)
  | [], b, x, y, u, v, h1, h2 => by cases h1; exact h2
  | c :: a, b, x, y, u, v, h1, h2 => by
    simp only [mapO] at h1
    obtain ⟨⟨p, q⟩, h3, h4⟩ := Option.bind_eq_some_iff.1 h1
    obtain ⟨⟨p', q'⟩, h5, h6⟩ := Option.map_eq_some_iff.1 h4
    cases h6
    simp only [List.cons_append, mapO, h3, Option.bind_some, mapO_app g a b p' y q' v h5 h2, Option.map_some, List.append_assoc]
theorem mapO_encL {C : Heap} {ex : Nat → Bool} (l : List T) : mapO (convC C ex 8) ((encL l).map AV.d) = some (encL l, []) := by
  rw [mapO_d, encL_norm]
theorem one_encL (l : List T) : ((encL l).map AV.d).all AV.one = true := by
  rw [List.all_map]; simp [AV.one]
section
variable {P : Program} {Q : Cont} {fr : Fr} {C : Heap} {Z : Frz} {nx : Nat} {base n d : Nat} {l : List (Nat × XO)} {kp : Option (List Nat)} {x i y s : X}
theorem r_appN {b c id m j : Nat} {r src : List AV} (hs : s.ev fr = .slL b 0 m 8) (hx : x.ev fr = .slL c 0 j 8) (hC : C b = some r) (hCc : C c = some src) (hr : r.length = m * 8) (hsl : src.length = j * 8) (h1 : src.all AV.one = true) (hz : Z b = false) (hid : base + n = id) (hb : m + j ≤ 1000000)
    (k : R P l base kp Q nx (fr.put d (.slL id 0 (m + j) 8)) ((C.del b).put id (r ++ src)) Z) : R P ((n, ⟨some d, none, .app [.int .i64 0, .int .u64 0, .int .u64 0, .int .u64 0, .int .u64 0, .int .i64 0, .int .i64 0, .slice none 0 0] 80 s x⟩) :: l) base kp Q nx fr C Z := by
  subst hid
  refine r_w (v := .slL (base + n) 0 (m + j) 8) (C' := (C.del b).put (base + n) (r ++ src)) ?_ k
  have h2 : srcOf C 8 (.slL c 0 j 8) = some (src, j) := by
    simp only [srcOf, if_true, hCc, Option.bind_some]
    rw [if_pos (by omega), List.drop_zero, List.take_of_length_le (by omega)]
  simp only [xw, List.length_cons, List.length_nil, Nat.zero_add, Nat.reduceAdd, hx, h2, Option.bind_some, hs, hC]
  rw [if_pos h1, if_pos ⟨trivial, hz, by omega, by omega⟩, List.take_of_length_le (by omega)]
end
theorem r_callMN {P : Program} {Q : Cont} {fr : Fr} {C : Heap} {Z Z' : Frz} {nx : Nat} {base n d : Nat} {l : List (Nat × XO)} {kp : Option (List Nat)} {f : FuncId} {xs : List X} {ags bs : List AV} {us : List Nat} {id m sz : Nat} {ds : List DV} (ha : xs.map (X.ev fr) = ags) (hc : convAs C (fun _ => false) ags = some (bs, us)) (hid : base + n = id) (hg : Good P f bs none (.slL 1 0 m sz) none (some ds)) (hz : Z.add us = Z')
    (k : R P l base kp Q nx (fr.put d (.slL id 0 m sz)) (C.put id (ds.map AV.d)) Z') : R P ((n, ⟨some d, none, .call f xs none true⟩) :: l) base kp Q nx fr C Z := by
  subst hid
  exact s_callN ha hc hg hz rfl k
def starN (t : T) : T := .node 5 0 0 0 0 0 (-1) [t]
def maybeN (t : T) : T := .node 4 0 0 0 0 0 0 [t, .node 1 0 0 0 0 0 0 []]
def repRow (t : T) (lo : Nat) (hi : Int) : List T := List.replicate lo t ++ (if hi < 0 then [starN t] else List.replicate (hi.toNat - lo) (maybeN t))
def repT (t : T) (lo : Nat) (hi : Int) : T := match repRow t lo hi with
  | [] => .node 1 0 0 0 0 0 0 []
  | [u] => u
  | l => .node 3 0 0 0 0 0 0 l
set_option maxRecDepth 100000
set_option maxHeartbeats 4000000
attribute [local irreducible] W E R KP thenK blockK retK Good xwp aRun
theorem conv_row {C : Heap} {ex : Nat → Bool} {k id m : Nat} {row : List AV} {ds : List DV} {us : List Nat} (hC : C id = some row) (hm : row.length = m * 8) (h0 : 0 < m) (hex : ex id = false) (hr : mapO (convC C ex k) row = some (ds, us)) : convC C ex (k + 1) (.slL id 0 m 8) = some (.sl ds m, id :: us) := by
  simp only [convC]
  rw [if_neg (by omega), if_neg (by simp [hex])]
  simp only [hC, Option.bind_some]
  rw [if_pos (by omega), List.drop_zero, List.take_of_length_le (by omega), hr]
  rfl
theorem ret_cat {C : Heap} {Z : Frz} {live : Bool} {id m : Nat} {row : List AV} {L : List T} {us : List Nat} (hC : C id = some row) (hm : L.length = m) (hl : row.length = m * 8) (h0 : 0 < m) (hr : mapO (convC C (fun _ => false) 8) row = some (encL L, us)) : RetOK C Z (tupOf [.agg [.i 3, .d (.val (.int .u64 0)), .d (.val (.int .u64 0)), .d (.val (.int .u64 0)), .d (.val (.int .u64 0)), .i 0, .i 0, .slL id 0 m 8]]) live (nodeA (.node 3 0 0 0 0 0 0 L)) none none := by
  refine .data _ ?_
  have h := conv_row (ex := fun _ => false) hC hl h0 rfl hr
  have hd : ∀ z : Value, (z = .int .i64 3 ∨ z = .int .u64 0 ∨ z = .int .i64 0) → convC C (fun _ => false) 9 (.d (.val z)) = some (.val z, []) := by
    rintro z (rfl | rfl | rfl) <;> rfl
  simp only [tupOf, convT, convA, mapO, h, hd _ (.inl rfl), hd _ (.inr (.inl rfl)), hd _ (.inr (.inr rfl)), Option.bind_some, Option.map_some]
  subst hm
  rfl
theorem repT_cat {t : T} {lo : Nat} {hi : Int} (h : 2 ≤ (repRow t lo hi).length) : repT t lo hi = .node 3 0 0 0 0 0 0 (repRow t lo hi) := by
  unfold repT
  split
  · rename_i e; rw [e] at h; simp at h
  · rename_i e; rw [e] at h; simp at h
  · rfl
theorem row_facts (t : T) (lo : Nat) : (((List.replicate lo (encN t)).flatten).map AV.d).length = lo * 8 ∧ ∀ C, mapO (convC C (fun _ => false) 8) (((List.replicate lo (encN t)).flatten).map AV.d) = some (encL (List.replicate lo t), []) := by
  constructor
  · rw [← encL_rep, List.length_map, encL_length, List.length_replicate]
  · intro C; rw [← encL_rep]; exact mapO_encL _
theorem rep_neg (t : T) (lo : Nat) (hlo : lo < 21) : Good Try.prog 147 [nodeA t, .i (lo : Nat), .i (-1)] none (nodeA (repT t lo (-1))) none none := by
  have hrp := repeat_good (encN t) (encN_len t) (by have := one_encL [t]; simpa [encL] using this)
  have h1 := hrp lo hlo
  obtain ⟨hl1, hm1⟩ := row_facts t lo
  have er : 0 < lo → repT t lo (-1) = .node 3 0 0 0 0 0 0 (List.replicate lo t ++ [starN t]) := fun h => by
    rw [repT_cat (by simp [repRow]; omega)]; rfl
  clear hrp
  obtain ⟨k, a, b, c, d, mn, mx, subs⟩ := t
  have e0 : nodeA (.node k a b c d mn mx subs) = .agg [.i k, .d (.val (.int .u64 a)), .d (.val (.int .u64 b)), .d (.val (.int .u64 c)), .d (.val (.int .u64 d)), .i mn, .i mx, .d (.sl (encL subs) subs.length)] := rfl
  rw [e0]
  refine b147 (by simp) (by simp) (w_init ?_)
  unfold x147
  cases lo with
  | zero =>
    repeat' (first
    | (apply r_mvV; rfl)
    | (apply r_mvP; rfl)
    | (apply r_mvPL; rfl)
    | (apply r_mvS; rfl)
    | (apply r_mvSL; rfl)
    | (apply r_mvA; rfl)
    | (apply r_mvT; rfl)
    | (apply r_mvF; rfl)
    | (apply r_mvD; rfl)
    | (apply r_ldL (v := .agg [.i k, .d (.val (.int .u64 a)), .d (.val (.int .u64 b)), .d (.val (.int .u64 c)), .d (.val (.int .u64 d)), .i mn, .i mx, .d (.sl (encL subs) subs.length)]); rfl; rfl; rfl)
    | (apply r_n (v := .slL 4 0 1 8) (r := [.i k, .d (.val (.int .u64 a)), .d (.val (.int .u64 b)), .d (.val (.int .u64 c)), .d (.val (.int .u64 d)), .i mn, .i mx, .d (.sl (encL subs) subs.length)]); rfl)
    | (apply r_n (v := .slL 13 0 1 8) (r := [.i k, .d (.val (.int .u64 a)), .d (.val (.int .u64 b)), .d (.val (.int .u64 c)), .d (.val (.int .u64 d)), .i mn, .i mx, .d (.sl (encL subs) subs.length)]); rfl)
    | (apply r_p (v := .agg [.i 5, .d (.val (.int .u64 0)), .d (.val (.int .u64 0)), .d (.val (.int .u64 0)), .d (.val (.int .u64 0)), .i 0, .i (-1), .slL 13 0 1 8]); rfl)
    | (apply r_n (v := .slL 15 0 1 8) (r := [.i 5, .d (.val (.int .u64 0)), .d (.val (.int .u64 0)), .d (.val (.int .u64 0)), .d (.val (.int .u64 0)), .i 0, .i (-1), .slL 13 0 1 8]); rfl)
    | (apply r_callMN (id := 6) (us := [4]) (bs := [.d (.sl (encN (.node k a b c d mn mx subs)) 1), .i (0 : Nat)]); rfl; rfl; rfl; exact h1; rfl)
    | (apply r_appN (b := 6) (c := 15) (id := 16) (m := 0) (j := 1) (r := []) (src := [.i 5, .d (.val (.int .u64 0)), .d (.val (.int .u64 0)), .d (.val (.int .u64 0)), .d (.val (.int .u64 0)), .i 0, .i (-1), .slL 13 0 1 8]); rfl; rfl; rfl; rfl; rfl; rfl; rfl; rfl; rfl; omega)
    | (apply r_ldL (v := .agg [.i 5, .d (.val (.int .u64 0)), .d (.val (.int .u64 0)), .d (.val (.int .u64 0)), .d (.val (.int .u64 0)), .i 0, .i (-1), .slL 13 0 1 8]); rfl; rfl; rfl)
    | (apply r_ldL; rfl; rfl; rfl)
    | (apply r_eql; rfl; rfl; (first | (apply decide_eq_true; omega) | (apply decide_eq_false; omega) | rfl))
    | (apply r_lss; rfl; rfl; (first | (apply decide_eq_true; omega) | (apply decide_eq_false; omega) | rfl))
    | (apply r_gtr; rfl; rfl; (first | (apply decide_eq_true; omega) | (apply decide_eq_false; omega) | rfl))
    | (apply r_sub; rfl; rfl; rfl; omega)
    | (apply r_lenD; rfl)
    | (apply r_lenL; rfl)
    | (apply r_len0; rfl)
    | (apply r_alloc; ((conv => lhs; simp only [Nat.reduceAdd]) <;> rfl); rfl)
    | (apply r_box; ((conv => lhs; simp only [Nat.reduceAdd]) <;> rfl); rfl; rfl; rfl)
    | (apply r_stL; rfl; rfl; rfl; rfl; (first | rfl | (simp only [z_nil, z_add] <;> rfl)); rfl; rfl)
    | (apply r_p; rfl)
    | (apply r_nilK)
    | (apply r_nil)
    | (apply k_V; rfl)
    | (apply k_P; rfl)
    | (apply k_PL; rfl)
    | (apply k_S; rfl)
    | (apply k_SL; rfl)
    | (apply k_A; rfl)
    | (apply k_T; rfl)
    | (apply k_F; rfl)
    | (apply k_D; rfl; rotate_left; rfl)
    | (apply k_nil)
    | (apply e_ret (vs := [.d (.val _)]); rfl)
    | (apply e_ret; rfl)
    | (apply e_ret' (vs := [.d (.val _)]); rfl)
    | (apply e_ret'; rfl)
    | (apply w_seq)
    | (apply w_ops; ((conv => lhs; simp only [Nat.reduceAdd]) <;> rfl))
    | (apply w_condT; rfl)
    | (apply w_condF; rfl)
    | ((apply w_condS; rfl) <;> (intro h; try simp only [decide_eq_true_eq, decide_eq_false_iff_not, Bool.not_eq_true, Bool.not_eq_false] at h))
    | (apply e_thenN)
    | (apply w_block)
    | (apply e_thenR)
    | (apply e_thenX)
    | (apply e_blkN)
    | (apply e_blkR)
    | (apply e_blkE)
    | (apply w_exit)
    | (apply w_ret)
    | (apply w_skip)
    | (apply e_blkE'; rfl))
    exact .data _ rfl
  | succ lo =>
    rw [er (by omega)]
    repeat' (first
    | (apply r_mvV; rfl)
    | (apply r_mvP; rfl)
    | (apply r_mvPL; rfl)
    | (apply r_mvS; rfl)
    | (apply r_mvSL; rfl)
    | (apply r_mvA; rfl)
    | (apply r_mvT; rfl)
    | (apply r_mvF; rfl)
    | (apply r_mvD; rfl)
    | (apply r_ldL (v := .agg [.i k, .d (.val (.int .u64 a)), .d (.val (.int .u64 b)), .d (.val (.int .u64 c)), .d (.val (.int .u64 d)), .i mn, .i mx, .d (.sl (encL subs) subs.length)]); rfl; rfl; rfl)
    | (apply r_n (v := .slL 4 0 1 8) (r := [.i k, .d (.val (.int .u64 a)), .d (.val (.int .u64 b)), .d (.val (.int .u64 c)), .d (.val (.int .u64 d)), .i mn, .i mx, .d (.sl (encL subs) subs.length)]); rfl)
    | (apply r_n (v := .slL 13 0 1 8) (r := [.i k, .d (.val (.int .u64 a)), .d (.val (.int .u64 b)), .d (.val (.int .u64 c)), .d (.val (.int .u64 d)), .i mn, .i mx, .d (.sl (encL subs) subs.length)]); rfl)
    | (apply r_p (v := .agg [.i 5, .d (.val (.int .u64 0)), .d (.val (.int .u64 0)), .d (.val (.int .u64 0)), .d (.val (.int .u64 0)), .i 0, .i (-1), .slL 13 0 1 8]); rfl)
    | (apply r_n (v := .slL 15 0 1 8) (r := [.i 5, .d (.val (.int .u64 0)), .d (.val (.int .u64 0)), .d (.val (.int .u64 0)), .d (.val (.int .u64 0)), .i 0, .i (-1), .slL 13 0 1 8]); rfl)
    | (apply r_callMN (id := 6) (us := [4]) (bs := [.d (.sl (encN (.node k a b c d mn mx subs)) 1), .i ((lo + 1 : Nat) : Int)]); rfl; rfl; rfl; exact h1; rfl)
    | (apply r_appN (b := 6) (c := 15) (id := 16) (m := lo + 1) (j := 1) (r := ((List.replicate (lo + 1) (encN (.node k a b c d mn mx subs))).flatten).map AV.d) (src := [.i 5, .d (.val (.int .u64 0)), .d (.val (.int .u64 0)), .d (.val (.int .u64 0)), .d (.val (.int .u64 0)), .i 0, .i (-1), .slL 13 0 1 8]); rfl; rfl; rfl; rfl; exact hl1; rfl; rfl; rfl; rfl; omega)
    | (apply r_p (v := .agg [.i 3, .d (.val (.int .u64 0)), .d (.val (.int .u64 0)), .d (.val (.int .u64 0)), .d (.val (.int .u64 0)), .i 0, .i 0, .slL 16 0 (lo + 1 + 1) 8]); rfl)
    | (apply r_ldL (v := .agg [.i 3, .d (.val (.int .u64 0)), .d (.val (.int .u64 0)), .d (.val (.int .u64 0)), .d (.val (.int .u64 0)), .i 0, .i 0, .slL 16 0 (lo + 1 + 1) 8]); rfl; rfl; rfl)
    | (apply r_ldL; rfl; rfl; rfl)
    | (apply r_eql; rfl; rfl; (first | (apply decide_eq_true; omega) | (apply decide_eq_false; omega) | rfl))
    | (apply r_lss; rfl; rfl; (first | (apply decide_eq_true; omega) | (apply decide_eq_false; omega) | rfl))
    | (apply r_gtr; rfl; rfl; (first | (apply decide_eq_true; omega) | (apply decide_eq_false; omega) | rfl))
    | (apply r_sub; rfl; rfl; rfl; omega)
    | (apply r_lenD; rfl)
    | (apply r_lenL; rfl)
    | (apply r_len0; rfl)
    | (apply r_alloc; ((conv => lhs; simp only [Nat.reduceAdd]) <;> rfl); rfl)
    | (apply r_box; ((conv => lhs; simp only [Nat.reduceAdd]) <;> rfl); rfl; rfl; rfl)
    | (apply r_stL; rfl; rfl; rfl; rfl; (first | rfl | (simp only [z_nil, z_add] <;> rfl)); rfl; rfl)
    | (apply r_p; rfl)
    | (apply r_nilK)
    | (apply r_nil)
    | (apply k_V; rfl)
    | (apply k_P; rfl)
    | (apply k_PL; rfl)
    | (apply k_S; rfl)
    | (apply k_SL; rfl)
    | (apply k_A; rfl)
    | (apply k_T; rfl)
    | (apply k_F; rfl)
    | (apply k_D; rfl; rotate_left; rfl)
    | (apply k_nil)
    | (apply e_ret (vs := [.d (.val _)]); rfl)
    | (apply e_ret; rfl)
    | (apply e_ret' (vs := [.d (.val _)]); rfl)
    | (apply e_ret'; rfl)
    | (apply w_seq)
    | (apply w_ops; ((conv => lhs; simp only [Nat.reduceAdd]) <;> rfl))
    | (apply w_condT; rfl)
    | (apply w_condF; rfl)
    | ((apply w_condS; rfl) <;> (intro h; try simp only [decide_eq_true_eq, decide_eq_false_iff_not, Bool.not_eq_true, Bool.not_eq_false] at h))
    | (apply e_thenN)
    | (apply w_block)
    | (apply e_thenR)
    | (apply e_thenX)
    | (apply e_blkN)
    | (apply e_blkR)
    | (apply e_blkE)
    | (apply w_exit)
    | (apply w_ret)
    | (apply w_skip)
    | (apply e_blkE'; rfl))
    refine ret_cat (id := 16) (row := ((List.replicate (lo + 1) (encN (.node k a b c d mn mx subs))).flatten).map AV.d ++ [.i 5, .d (.val (.int .u64 0)), .d (.val (.int .u64 0)), .d (.val (.int .u64 0)), .d (.val (.int .u64 0)), .i 0, .i (-1), .slL 13 0 1 8]) (us := [] ++ [13]) rfl (by simp) (by rw [List.length_append, hl1]; simp; omega) (by omega) ?_
    rw [encL_app]
    exact mapO_app _ _ _ _ _ _ _ (hm1 _) rfl
theorem rep_pos (t : T) (lo hi : Nat) (hlo : lo ≤ hi) (hhi : hi < 21) : Good Try.prog 147 [nodeA t, .i (lo : Nat), .i (hi : Nat)] none (nodeA (repT t lo (hi : Nat))) none none := by
  have hrp := repeat_good (encN t) (encN_len t) (by have := one_encL [t]; simpa [encL] using this)
  have h1 := hrp lo (by omega)
  obtain ⟨hl1, hm1⟩ := row_facts t lo
  clear hrp
  have hrp2 := repeat_good (encN (maybeN t)) (encN_len _) (by have := one_encL [maybeN t]; simpa [encL] using this)
  have h2 := hrp2 (hi - lo) (by omega)
  obtain ⟨hl2, hm2⟩ := row_facts (maybeN t) (hi - lo)
  clear hrp2
  have er : 2 ≤ hi → repT t lo (hi : Nat) = .node 3 0 0 0 0 0 0 (List.replicate lo t ++ List.replicate (hi - lo) (maybeN t)) := fun h => by
    have e : repRow t lo (hi : Nat) = List.replicate lo t ++ List.replicate (hi - lo) (maybeN t) := by
      rw [repRow, if_neg (by omega), Int.toNat_natCast]
    rw [repT_cat (by rw [e]; simp; omega), e]
  have one2 : (((List.replicate (hi - lo) (encN (maybeN t))).flatten).map AV.d).all AV.one = true := by rw [List.all_map]; simp [AV.one]
  have h2' : (hi : Int) - (lo : Int) = ((hi - lo : Nat) : Int) := by omega
  obtain ⟨k, a, b, c, d, mn, mx, subs⟩ := t
  have e0 : nodeA (.node k a b c d mn mx subs) = .agg [.i k, .d (.val (.int .u64 a)), .d (.val (.int .u64 b)), .d (.val (.int .u64 c)), .d (.val (.int .u64 d)), .i mn, .i mx, .d (.sl (encL subs) subs.length)] := rfl
  rw [e0]
  refine b147 (by simp) (by simp) (w_init ?_)
  unfold x147
  rcases Nat.lt_or_ge lo hi with hlt | hge
  · rcases Nat.lt_or_ge 1 hi with h3 | h3
    · rw [er h3]
      repeat' (first
    | (apply r_mvV; rfl)
    | (apply r_mvP; rfl)
    | (apply r_mvPL; rfl)
    | (apply r_mvS; rfl)
    | (apply r_mvSL; rfl)
    | (apply r_mvA; rfl)
    | (apply r_mvT; rfl)
    | (apply r_mvF; rfl)
    | (apply r_mvD; rfl)
    | (apply r_ldL (v := .agg [.i k, .d (.val (.int .u64 a)), .d (.val (.int .u64 b)), .d (.val (.int .u64 c)), .d (.val (.int .u64 d)), .i mn, .i mx, .d (.sl (encL subs) subs.length)]); rfl; rfl; rfl)
    | (apply r_n (v := .slL 4 0 1 8) (r := [.i k, .d (.val (.int .u64 a)), .d (.val (.int .u64 b)), .d (.val (.int .u64 c)), .d (.val (.int .u64 d)), .i mn, .i mx, .d (.sl (encL subs) subs.length)]); rfl)
    | (apply r_n (v := .slL 17 0 2 8) (r := [.i k, .d (.val (.int .u64 a)), .d (.val (.int .u64 b)), .d (.val (.int .u64 c)), .d (.val (.int .u64 d)), .i mn, .i mx, .d (.sl (encL subs) subs.length), .i 1, .d (.val (.int .u64 0)), .d (.val (.int .u64 0)), .d (.val (.int .u64 0)), .d (.val (.int .u64 0)), .i 0, .i 0, .d (.val (.slice none 0 0))]); rfl)
    | (apply r_p (v := .agg [.i 1, .d (.val (.int .u64 0)), .d (.val (.int .u64 0)), .d (.val (.int .u64 0)), .d (.val (.int .u64 0)), .i 0, .i 0, .d (.val (.slice none 0 0))]); rfl)
    | (apply r_p (v := .agg [.i 4, .d (.val (.int .u64 0)), .d (.val (.int .u64 0)), .d (.val (.int .u64 0)), .d (.val (.int .u64 0)), .i 0, .i 0, .slL 17 0 2 8]); rfl)
    | (apply r_n (v := .slL 23 0 1 8) (r := [.i 4, .d (.val (.int .u64 0)), .d (.val (.int .u64 0)), .d (.val (.int .u64 0)), .d (.val (.int .u64 0)), .i 0, .i 0, .slL 17 0 2 8]); rfl)
    | (apply r_ldL (v := .agg [.i 4, .d (.val (.int .u64 0)), .d (.val (.int .u64 0)), .d (.val (.int .u64 0)), .d (.val (.int .u64 0)), .i 0, .i 0, .slL 17 0 2 8]); rfl; rfl; rfl)
    | (apply r_callMN (id := 6) (us := [4]) (bs := [.d (.sl (encN (.node k a b c d mn mx subs)) 1), .i (lo : Nat)]); rfl; rfl; rfl; exact h1; rfl)
    | (apply r_sub (c := ((hi - lo : Nat) : Int)); rfl; rfl; exact h2'; omega)
    | (apply r_callMN (id := 27) (us := [23, 17]) (bs := [.d (.sl (encN (maybeN (.node k a b c d mn mx subs))) 1), .i ((hi - lo : Nat) : Int)]); rfl; rfl; rfl; exact h2; rfl)
    | (apply r_appN (b := 6) (c := 27) (id := 28) (m := lo) (j := hi - lo) (r := ((List.replicate lo (encN (.node k a b c d mn mx subs))).flatten).map AV.d) (src := ((List.replicate (hi - lo) (encN (maybeN (.node k a b c d mn mx subs)))).flatten).map AV.d); rfl; rfl; rfl; rfl; exact hl1; exact hl2; exact one2; rfl; rfl; omega)
    | (apply r_p (v := .agg [.i 3, .d (.val (.int .u64 0)), .d (.val (.int .u64 0)), .d (.val (.int .u64 0)), .d (.val (.int .u64 0)), .i 0, .i 0, .slL 28 0 (lo + (hi - lo)) 8]); rfl)
    | (apply r_ldL (v := .agg [.i 3, .d (.val (.int .u64 0)), .d (.val (.int .u64 0)), .d (.val (.int .u64 0)), .d (.val (.int .u64 0)), .i 0, .i 0, .slL 28 0 (lo + (hi - lo)) 8]); rfl; rfl; rfl)
    | (apply r_ldL; rfl; rfl; rfl)
    | (apply r_eql; rfl; rfl; (first | (apply decide_eq_true; omega) | (apply decide_eq_false; omega) | rfl))
    | (apply r_lss; rfl; rfl; (first | (apply decide_eq_true; omega) | (apply decide_eq_false; omega) | rfl))
    | (apply r_gtr; rfl; rfl; (first | (apply decide_eq_true; omega) | (apply decide_eq_false; omega) | rfl))
    | (apply r_sub; rfl; rfl; rfl; omega)
    | (apply r_lenD; rfl)
    | (apply r_lenL; rfl)
    | (apply r_len0; rfl)
    | (apply r_alloc; ((conv => lhs; simp only [Nat.reduceAdd]) <;> rfl); rfl)
    | (apply r_box; ((conv => lhs; simp only [Nat.reduceAdd]) <;> rfl); rfl; rfl; rfl)
    | (apply r_stL; rfl; rfl; rfl; rfl; (first | rfl | (simp only [z_nil, z_add] <;> rfl)); rfl; rfl)
    | (apply r_p; rfl)
    | (apply r_nilK)
    | (apply r_nil)
    | (apply k_V; rfl)
    | (apply k_P; rfl)
    | (apply k_PL; rfl)
    | (apply k_S; rfl)
    | (apply k_SL; rfl)
    | (apply k_A; rfl)
    | (apply k_T; rfl)
    | (apply k_F; rfl)
    | (apply k_D; rfl; rotate_left; rfl)
    | (apply k_nil)
    | (apply e_ret (vs := [.d (.val _)]); rfl)
    | (apply e_ret; rfl)
    | (apply e_ret' (vs := [.d (.val _)]); rfl)
    | (apply e_ret'; rfl)
    | (apply w_seq)
    | (apply w_ops; ((conv => lhs; simp only [Nat.reduceAdd]) <;> rfl))
    | (apply w_condT; rfl)
    | (apply w_condF; rfl)
    | ((apply w_condS; rfl) <;> (intro h; try simp only [decide_eq_true_eq, decide_eq_false_iff_not, Bool.not_eq_true, Bool.not_eq_false] at h))
    | (apply e_thenN)
    | (apply w_block)
    | (apply e_thenR)
    | (apply e_thenX)
    | (apply e_blkN)
    | (apply e_blkR)
    | (apply e_blkE)
    | (apply w_exit)
    | (apply w_ret)
    | (apply w_skip)
    | (apply e_blkE'; rfl))
      refine ret_cat (id := 28) (row := ((List.replicate lo (encN (.node k a b c d mn mx subs))).flatten).map AV.d ++ ((List.replicate (hi - lo) (encN (maybeN (.node k a b c d mn mx subs)))).flatten).map AV.d) (us := [] ++ []) rfl (by simp) (by rw [List.length_append, hl1, hl2]; omega) (by omega) ?_
      rw [encL_app]
      exact mapO_app _ _ _ _ _ _ _ (hm1 _) (hm2 _)
    · have e1 : hi = 1 := by omega
      have e2 : lo = 0 := by omega
      subst e1 e2
      repeat' (first
    | (apply r_mvV; rfl)
    | (apply r_mvP; rfl)
    | (apply r_mvPL; rfl)
    | (apply r_mvS; rfl)
    | (apply r_mvSL; rfl)
    | (apply r_mvA; rfl)
    | (apply r_mvT; rfl)
    | (apply r_mvF; rfl)
    | (apply r_mvD; rfl)
    | (apply r_ldL (v := .agg [.i k, .d (.val (.int .u64 a)), .d (.val (.int .u64 b)), .d (.val (.int .u64 c)), .d (.val (.int .u64 d)), .i mn, .i mx, .d (.sl (encL subs) subs.length)]); rfl; rfl; rfl)
    | (apply r_n (v := .slL 4 0 1 8) (r := [.i k, .d (.val (.int .u64 a)), .d (.val (.int .u64 b)), .d (.val (.int .u64 c)), .d (.val (.int .u64 d)), .i mn, .i mx, .d (.sl (encL subs) subs.length)]); rfl)
    | (apply r_n (v := .slL 17 0 2 8) (r := [.i k, .d (.val (.int .u64 a)), .d (.val (.int .u64 b)), .d (.val (.int .u64 c)), .d (.val (.int .u64 d)), .i mn, .i mx, .d (.sl (encL subs) subs.length), .i 1, .d (.val (.int .u64 0)), .d (.val (.int .u64 0)), .d (.val (.int .u64 0)), .d (.val (.int .u64 0)), .i 0, .i 0, .d (.val (.slice none 0 0))]); rfl)
    | (apply r_p (v := .agg [.i 1, .d (.val (.int .u64 0)), .d (.val (.int .u64 0)), .d (.val (.int .u64 0)), .d (.val (.int .u64 0)), .i 0, .i 0, .d (.val (.slice none 0 0))]); rfl)
    | (apply r_p (v := .agg [.i 4, .d (.val (.int .u64 0)), .d (.val (.int .u64 0)), .d (.val (.int .u64 0)), .d (.val (.int .u64 0)), .i 0, .i 0, .slL 17 0 2 8]); rfl)
    | (apply r_n (v := .slL 23 0 1 8) (r := [.i 4, .d (.val (.int .u64 0)), .d (.val (.int .u64 0)), .d (.val (.int .u64 0)), .d (.val (.int .u64 0)), .i 0, .i 0, .slL 17 0 2 8]); rfl)
    | (apply r_ldL (v := .agg [.i 4, .d (.val (.int .u64 0)), .d (.val (.int .u64 0)), .d (.val (.int .u64 0)), .d (.val (.int .u64 0)), .i 0, .i 0, .slL 17 0 2 8]); rfl; rfl; rfl)
    | (apply r_callMN (id := 6) (us := [4]) (bs := [.d (.sl (encN (.node k a b c d mn mx subs)) 1), .i (0 : Nat)]); rfl; rfl; rfl; exact h1; rfl)
    | (apply r_callMN (id := 27) (us := [23, 17]) (bs := [.d (.sl (encN (maybeN (.node k a b c d mn mx subs))) 1), .i (1 : Nat)]); rfl; rfl; rfl; exact h2; rfl)
    | (apply r_appN (b := 6) (c := 27) (id := 28) (m := 0) (j := 1) (r := []) (src := (encN (maybeN (.node k a b c d mn mx subs))).map AV.d); rfl; rfl; rfl; rfl; rfl; rfl; rfl; rfl; rfl; omega)
    | (apply r_ldL (v := nodeA (maybeN (.node k a b c d mn mx subs))); rfl; rfl; rfl)
    | (apply r_ldL; rfl; rfl; rfl)
    | (apply r_eql; rfl; rfl; (first | (apply decide_eq_true; omega) | (apply decide_eq_false; omega) | rfl))
    | (apply r_lss; rfl; rfl; (first | (apply decide_eq_true; omega) | (apply decide_eq_false; omega) | rfl))
    | (apply r_gtr; rfl; rfl; (first | (apply decide_eq_true; omega) | (apply decide_eq_false; omega) | rfl))
    | (apply r_sub; rfl; rfl; rfl; omega)
    | (apply r_lenD; rfl)
    | (apply r_lenL; rfl)
    | (apply r_len0; rfl)
    | (apply r_alloc; ((conv => lhs; simp only [Nat.reduceAdd]) <;> rfl); rfl)
    | (apply r_box; ((conv => lhs; simp only [Nat.reduceAdd]) <;> rfl); rfl; rfl; rfl)
    | (apply r_stL; rfl; rfl; rfl; rfl; (first | rfl | (simp only [z_nil, z_add] <;> rfl)); rfl; rfl)
    | (apply r_p; rfl)
    | (apply r_nilK)
    | (apply r_nil)
    | (apply k_V; rfl)
    | (apply k_P; rfl)
    | (apply k_PL; rfl)
    | (apply k_S; rfl)
    | (apply k_SL; rfl)
    | (apply k_A; rfl)
    | (apply k_T; rfl)
    | (apply k_F; rfl)
    | (apply k_D; rfl; rotate_left; rfl)
    | (apply k_nil)
    | (apply e_ret (vs := [.d (.val _)]); rfl)
    | (apply e_ret; rfl)
    | (apply e_ret' (vs := [.d (.val _)]); rfl)
    | (apply e_ret'; rfl)
    | (apply w_seq)
    | (apply w_ops; ((conv => lhs; simp only [Nat.reduceAdd]) <;> rfl))
    | (apply w_condT; rfl)
    | (apply w_condF; rfl)
    | ((apply w_condS; rfl) <;> (intro h; try simp only [decide_eq_true_eq, decide_eq_false_iff_not, Bool.not_eq_true, Bool.not_eq_false] at h))
    | (apply e_thenN)
    | (apply w_block)
    | (apply e_thenR)
    | (apply e_thenX)
    | (apply e_blkN)
    | (apply e_blkR)
    | (apply e_blkE)
    | (apply w_exit)
    | (apply w_ret)
    | (apply w_skip)
    | (apply e_blkE'; rfl))
      exact .data _ rfl
  · have e : hi = lo := by omega
    subst e
    rcases Nat.lt_or_ge 1 hi with h3 | h3
    · rw [er h3]
      repeat' (first
    | (apply r_mvV; rfl)
    | (apply r_mvP; rfl)
    | (apply r_mvPL; rfl)
    | (apply r_mvS; rfl)
    | (apply r_mvSL; rfl)
    | (apply r_mvA; rfl)
    | (apply r_mvT; rfl)
    | (apply r_mvF; rfl)
    | (apply r_mvD; rfl)
    | (apply r_ldL (v := .agg [.i k, .d (.val (.int .u64 a)), .d (.val (.int .u64 b)), .d (.val (.int .u64 c)), .d (.val (.int .u64 d)), .i mn, .i mx, .d (.sl (encL subs) subs.length)]); rfl; rfl; rfl)
    | (apply r_n (v := .slL 4 0 1 8) (r := [.i k, .d (.val (.int .u64 a)), .d (.val (.int .u64 b)), .d (.val (.int .u64 c)), .d (.val (.int .u64 d)), .i mn, .i mx, .d (.sl (encL subs) subs.length)]); rfl)
    | (apply r_callMN (id := 6) (us := [4]) (bs := [.d (.sl (encN (.node k a b c d mn mx subs)) 1), .i (hi : Nat)]); rfl; rfl; rfl; exact h1; rfl)
    | (apply r_p (v := .agg [.i 3, .d (.val (.int .u64 0)), .d (.val (.int .u64 0)), .d (.val (.int .u64 0)), .d (.val (.int .u64 0)), .i 0, .i 0, .slL 6 0 hi 8]); rfl)
    | (apply r_ldL (v := .agg [.i 3, .d (.val (.int .u64 0)), .d (.val (.int .u64 0)), .d (.val (.int .u64 0)), .d (.val (.int .u64 0)), .i 0, .i 0, .slL 6 0 hi 8]); rfl; rfl; rfl)
    | (apply r_ldL; rfl; rfl; rfl)
    | (apply r_eql; rfl; rfl; (first | (apply decide_eq_true; omega) | (apply decide_eq_false; omega) | rfl))
    | (apply r_lss; rfl; rfl; (first | (apply decide_eq_true; omega) | (apply decide_eq_false; omega) | rfl))
    | (apply r_gtr; rfl; rfl; (first | (apply decide_eq_true; omega) | (apply decide_eq_false; omega) | rfl))
    | (apply r_sub; rfl; rfl; rfl; omega)
    | (apply r_lenD; rfl)
    | (apply r_lenL; rfl)
    | (apply r_len0; rfl)
    | (apply r_alloc; ((conv => lhs; simp only [Nat.reduceAdd]) <;> rfl); rfl)
    | (apply r_box; ((conv => lhs; simp only [Nat.reduceAdd]) <;> rfl); rfl; rfl; rfl)
    | (apply r_stL; rfl; rfl; rfl; rfl; (first | rfl | (simp only [z_nil, z_add] <;> rfl)); rfl; rfl)
    | (apply r_p; rfl)
    | (apply r_nilK)
    | (apply r_nil)
    | (apply k_V; rfl)
    | (apply k_P; rfl)
    | (apply k_PL; rfl)
    | (apply k_S; rfl)
    | (apply k_SL; rfl)
    | (apply k_A; rfl)
    | (apply k_T; rfl)
    | (apply k_F; rfl)
    | (apply k_D; rfl; rotate_left; rfl)
    | (apply k_nil)
    | (apply e_ret (vs := [.d (.val _)]); rfl)
    | (apply e_ret; rfl)
    | (apply e_ret' (vs := [.d (.val _)]); rfl)
    | (apply e_ret'; rfl)
    | (apply w_seq)
    | (apply w_ops; ((conv => lhs; simp only [Nat.reduceAdd]) <;> rfl))
    | (apply w_condT; rfl)
    | (apply w_condF; rfl)
    | ((apply w_condS; rfl) <;> (intro h; try simp only [decide_eq_true_eq, decide_eq_false_iff_not, Bool.not_eq_true, Bool.not_eq_false] at h))
    | (apply e_thenN)
    | (apply w_block)
    | (apply e_thenR)
    | (apply e_thenX)
    | (apply e_blkN)
    | (apply e_blkR)
    | (apply e_blkE)
    | (apply w_exit)
    | (apply w_ret)
    | (apply w_skip)
    | (apply e_blkE'; rfl))
      refine ret_cat (id := 6) (row := ((List.replicate hi (encN (.node k a b c d mn mx subs))).flatten).map AV.d) (us := []) rfl (by simp) hl1 (by omega) ?_
      rw [Nat.sub_self, List.replicate_zero, List.append_nil]
      exact hm1 _
    · rcases Nat.lt_or_ge 0 hi with h4 | h4
      · have e1 : hi = 1 := by omega
        subst e1
        repeat' (first
    | (apply r_mvV; rfl)
    | (apply r_mvP; rfl)
    | (apply r_mvPL; rfl)
    | (apply r_mvS; rfl)
    | (apply r_mvSL; rfl)
    | (apply r_mvA; rfl)
    | (apply r_mvT; rfl)
    | (apply r_mvF; rfl)
    | (apply r_mvD; rfl)
    | (apply r_ldL (v := .agg [.i k, .d (.val (.int .u64 a)), .d (.val (.int .u64 b)), .d (.val (.int .u64 c)), .d (.val (.int .u64 d)), .i mn, .i mx, .d (.sl (encL subs) subs.length)]); rfl; rfl; rfl)
    | (apply r_n (v := .slL 4 0 1 8) (r := [.i k, .d (.val (.int .u64 a)), .d (.val (.int .u64 b)), .d (.val (.int .u64 c)), .d (.val (.int .u64 d)), .i mn, .i mx, .d (.sl (encL subs) subs.length)]); rfl)
    | (apply r_callMN (id := 6) (us := [4]) (bs := [.d (.sl (encN (.node k a b c d mn mx subs)) 1), .i (1 : Nat)]); rfl; rfl; rfl; exact h1; rfl)
    | (apply r_ldL; rfl; rfl; rfl)
    | (apply r_eql; rfl; rfl; (first | (apply decide_eq_true; omega) | (apply decide_eq_false; omega) | rfl))
    | (apply r_lss; rfl; rfl; (first | (apply decide_eq_true; omega) | (apply decide_eq_false; omega) | rfl))
    | (apply r_gtr; rfl; rfl; (first | (apply decide_eq_true; omega) | (apply decide_eq_false; omega) | rfl))
    | (apply r_sub; rfl; rfl; rfl; omega)
    | (apply r_lenD; rfl)
    | (apply r_lenL; rfl)
    | (apply r_len0; rfl)
    | (apply r_alloc; ((conv => lhs; simp only [Nat.reduceAdd]) <;> rfl); rfl)
    | (apply r_box; ((conv => lhs; simp only [Nat.reduceAdd]) <;> rfl); rfl; rfl; rfl)
    | (apply r_stL; rfl; rfl; rfl; rfl; (first | rfl | (simp only [z_nil, z_add] <;> rfl)); rfl; rfl)
    | (apply r_p; rfl)
    | (apply r_nilK)
    | (apply r_nil)
    | (apply k_V; rfl)
    | (apply k_P; rfl)
    | (apply k_PL; rfl)
    | (apply k_S; rfl)
    | (apply k_SL; rfl)
    | (apply k_A; rfl)
    | (apply k_T; rfl)
    | (apply k_F; rfl)
    | (apply k_D; rfl; rotate_left; rfl)
    | (apply k_nil)
    | (apply e_ret (vs := [.d (.val _)]); rfl)
    | (apply e_ret; rfl)
    | (apply e_ret' (vs := [.d (.val _)]); rfl)
    | (apply e_ret'; rfl)
    | (apply w_seq)
    | (apply w_ops; ((conv => lhs; simp only [Nat.reduceAdd]) <;> rfl))
    | (apply w_condT; rfl)
    | (apply w_condF; rfl)
    | ((apply w_condS; rfl) <;> (intro h; try simp only [decide_eq_true_eq, decide_eq_false_iff_not, Bool.not_eq_true, Bool.not_eq_false] at h))
    | (apply e_thenN)
    | (apply w_block)
    | (apply e_thenR)
    | (apply e_thenX)
    | (apply e_blkN)
    | (apply e_blkR)
    | (apply e_blkE)
    | (apply w_exit)
    | (apply w_ret)
    | (apply w_skip)
    | (apply e_blkE'; rfl))
        exact .data _ rfl
      · have e1 : hi = 0 := by omega
        subst e1
        repeat' (first
    | (apply r_mvV; rfl)
    | (apply r_mvP; rfl)
    | (apply r_mvPL; rfl)
    | (apply r_mvS; rfl)
    | (apply r_mvSL; rfl)
    | (apply r_mvA; rfl)
    | (apply r_mvT; rfl)
    | (apply r_mvF; rfl)
    | (apply r_mvD; rfl)
    | (apply r_ldL (v := .agg [.i k, .d (.val (.int .u64 a)), .d (.val (.int .u64 b)), .d (.val (.int .u64 c)), .d (.val (.int .u64 d)), .i mn, .i mx, .d (.sl (encL subs) subs.length)]); rfl; rfl; rfl)
    | (apply r_n (v := .slL 4 0 1 8) (r := [.i k, .d (.val (.int .u64 a)), .d (.val (.int .u64 b)), .d (.val (.int .u64 c)), .d (.val (.int .u64 d)), .i mn, .i mx, .d (.sl (encL subs) subs.length)]); rfl)
    | (apply r_callMN (id := 6) (us := [4]) (bs := [.d (.sl (encN (.node k a b c d mn mx subs)) 1), .i (0 : Nat)]); rfl; rfl; rfl; exact h1; rfl)
    | (apply r_p (v := .agg [.i 1, .d (.val (.int .u64 0)), .d (.val (.int .u64 0)), .d (.val (.int .u64 0)), .d (.val (.int .u64 0)), .i 0, .i 0, .d (.val (.slice none 0 0))]); rfl)
    | (apply r_ldL (v := .agg [.i 1, .d (.val (.int .u64 0)), .d (.val (.int .u64 0)), .d (.val (.int .u64 0)), .d (.val (.int .u64 0)), .i 0, .i 0, .d (.val (.slice none 0 0))]); rfl; rfl; rfl)
    | (apply r_ldL; rfl; rfl; rfl)
    | (apply r_eql; rfl; rfl; (first | (apply decide_eq_true; omega) | (apply decide_eq_false; omega) | rfl))
    | (apply r_lss; rfl; rfl; (first | (apply decide_eq_true; omega) | (apply decide_eq_false; omega) | rfl))
    | (apply r_gtr; rfl; rfl; (first | (apply decide_eq_true; omega) | (apply decide_eq_false; omega) | rfl))
    | (apply r_sub; rfl; rfl; rfl; omega)
    | (apply r_lenD; rfl)
    | (apply r_lenL; rfl)
    | (apply r_len0; rfl)
    | (apply r_alloc; ((conv => lhs; simp only [Nat.reduceAdd]) <;> rfl); rfl)
    | (apply r_box; ((conv => lhs; simp only [Nat.reduceAdd]) <;> rfl); rfl; rfl; rfl)
    | (apply r_stL; rfl; rfl; rfl; rfl; (first | rfl | (simp only [z_nil, z_add] <;> rfl)); rfl; rfl)
    | (apply r_p; rfl)
    | (apply r_nilK)
    | (apply r_nil)
    | (apply k_V; rfl)
    | (apply k_P; rfl)
    | (apply k_PL; rfl)
    | (apply k_S; rfl)
    | (apply k_SL; rfl)
    | (apply k_A; rfl)
    | (apply k_T; rfl)
    | (apply k_F; rfl)
    | (apply k_D; rfl; rotate_left; rfl)
    | (apply k_nil)
    | (apply e_ret (vs := [.d (.val _)]); rfl)
    | (apply e_ret; rfl)
    | (apply e_ret' (vs := [.d (.val _)]); rfl)
    | (apply e_ret'; rfl)
    | (apply w_seq)
    | (apply w_ops; ((conv => lhs; simp only [Nat.reduceAdd]) <;> rfl))
    | (apply w_condT; rfl)
    | (apply w_condF; rfl)
    | ((apply w_condS; rfl) <;> (intro h; try simp only [decide_eq_true_eq, decide_eq_false_iff_not, Bool.not_eq_true, Bool.not_eq_false] at h))
    | (apply e_thenN)
    | (apply w_block)
    | (apply e_thenR)
    | (apply e_thenX)
    | (apply e_blkN)
    | (apply e_blkR)
    | (apply e_blkE)
    | (apply w_exit)
    | (apply w_ret)
    | (apply w_skip)
    | (apply e_blkE'; rfl))
        exact .data _ rfl
end Go.Sv
namespace Go.Sv
open Go Go.Proofs
set_option maxRecDepth 100000
set_option maxHeartbeats 4000000
attribute [local irreducible] W E R KP thenK blockK retK Good xwp aRun
theorem mwide_good : ∀ (n : Nat) (t : T) (cs : List DV) (off : Nat), NodeAt cs off t → t.cnt ≤ n → n ≤ 1000000 → okT t → Good Try.prog 123 [.d (.ptr cs off)] none (.i (wideT t)) none none := by
  intro n
  induction n with
  | zero => intro t cs off _ ht; have := cnt_pos t; omega
  | succ n ih =>
  intro t cs off hs ht hc hok
  obtain ⟨k, a, b, c, d, mn, mx, subs⟩ := t
  have hR := okT_R hok
  have hoks : okL subs := by simp only [okT] at hok; exact hok.2
  have ih' : ∀ i (h : i < subs.length), Good Try.prog 123 [.d (.ptr (encL subs) (i * 8))] none (.i (wideT subs[i])) none none := by
    intro i h
    refine ih _ _ _ (NodeAt.sub h) ?_ (by omega) (okL_get subs i h hoks)
    have := cntL_get subs i h
    simp only [T.cnt] at ht
    omega
  have hlen : subs.length ≤ 1000000 := by
    have := cntL_len subs
    simp only [T.cnt] at ht
    omega
  refine b123 (by simp) (by simp) (w_init ?_)
  unfold x123
  repeat' (first
    | (apply r_mvV; rfl)
    | (apply r_mvP; rfl)
    | (apply r_mvPL; rfl)
    | (apply r_mvS; rfl)
    | (apply r_mvSL; rfl)
    | (apply r_mvA; rfl)
    | (apply r_mvT; rfl)
    | (apply r_mvF; rfl)
    | (apply r_mvD; rfl)
    | (apply r_nckD; rfl)
    | (apply r_faddD; rfl)
    | (apply r_nckL; rfl)
    | (apply r_faddL; rfl)
    | (apply r_l; apply ld_kind; assumption; rfl)
    | (apply r_l; apply ld_mn; assumption; rfl)
    | (apply r_l; apply ld_mx; assumption; rfl)
    | (apply r_l; apply ld_subs; assumption; rfl)
    | (apply r_l; apply ld_set; assumption; rfl)
    | (apply r_l; apply ld_node; assumption; rfl)
    | (apply r_l; apply ld_kind'; assumption; rfl)
    | (apply r_l; apply ld_mn'; assumption; rfl)
    | (apply r_l; apply ld_mx'; assumption; rfl)
    | (apply r_l; apply ld_subs'; assumption; rfl)
    | (apply r_l; apply ld_node'; assumption; rfl)
    | (apply r_ldL; rfl; rfl; rfl)
    | (apply r_eql; rfl; rfl; (first | (apply decide_eq_true; omega) | (apply decide_eq_false; omega) | rfl))
    | (apply r_neq; rfl; rfl; (first | (apply decide_eq_true; omega) | (apply decide_eq_false; omega) | rfl))
    | (apply r_lss; rfl; rfl; (first | (apply decide_eq_true; omega) | (apply decide_eq_false; omega) | rfl))
    | (apply r_add; rfl; rfl; rfl; omega)
    | (apply r_min2; rfl; rfl; rfl)
    | (apply r_lenD; rfl)
    | (apply r_lenL; rfl)
    | (apply r_len0; rfl)
    | (apply r_p; rfl)
    | (apply r_nilK)
    | (apply r_nil)
    | (apply k_V; rfl)
    | (apply k_P; rfl)
    | (apply k_PL; rfl)
    | (apply k_S; rfl)
    | (apply k_SL; rfl)
    | (apply k_A; rfl)
    | (apply k_T; rfl)
    | (apply k_F; rfl)
    | (apply k_D; rfl; rotate_left; rfl)
    | (apply k_nil)
    | (apply e_ret (vs := [.d (.val _)]); rfl)
    | (apply e_ret; rfl)
    | (apply e_ret' (vs := [.d (.val _)]); rfl)
    | (apply e_ret'; rfl)
    | (apply w_seq)
    | (apply w_ops; ((conv => lhs; simp only [Nat.reduceAdd]) <;> rfl))
    | (apply w_condT; rfl)
    | (apply w_condF; rfl)
    | ((apply w_condS; rfl) <;> (intro h; try simp only [decide_eq_true_eq, decide_eq_false_iff_not, Bool.not_eq_true, Bool.not_eq_false] at h))
    | (apply e_thenN)
    | (apply w_block)
    | (apply e_thenR)
    | (apply e_thenX)
    | (apply e_blkN)
    | (apply e_blkR)
    | (apply e_blkE)
    | (apply w_exit)
    | (apply w_ret)
    | (apply w_skip)
    | (apply e_blkE'; rfl))
  apply w_loopI (ι := Nat × Int) (S := fun p => ⟨(((Fr.nil.put 0 (.d (.ptr cs off))).put 3 (.i p.2)).put 10 (.i subs.length)).put 11 (.i p.1), Heap.nil, Frz.lo 100, 100⟩) (m := fun p => subs.length - p.1)
    (I := fun p => p.1 ≤ subs.length ∧ (1 ≤ p.2 ∧ p.2 ≤ 1073741824) ∧ wideT (.node k a b c d mn mx subs) = wideL k mn mx (subs.drop p.1) p.2) (i0 := (0, 1))
  · refine ⟨Nat.zero_le _, by simp, ?_⟩
    simp [wideT]
  · refine wk0 (by omega) ?_
    repeat' (first
    | exact FWk.nil
    | (apply FWk.i; rfl; (first | rfl | omega | (simp; done)))
    | (apply FWk.sl; rfl; rfl; rfl; rfl; omega; rfl)
    | (apply FWk.ptr; rfl; rfl; rfl; omega; rfl)
    | (apply FWk.d; rfl; rfl)
    | (apply FWk.a; rfl; rfl; rfl)
    | (apply FWk.slN; rfl; omega; rfl))
  rintro ⟨i, w⟩ K hi hK
  dsimp only at hi hK ⊢
  rcases Nat.lt_or_ge i subs.length with hlt | hge
  · have hd := wideL_drop k mn mx subs w i hlt
    have hb := wideT_in subs[i] (okL_get subs i hlt hoks)
    have hq := wideQ_in hR (q := wideT subs[i]) (by omega)
    have fin : ∀ fr C Z nx, Wk ⟨fr, C, Z, nx⟩ ⟨(((Fr.nil.put 0 (.d (.ptr cs off))).put 3 (.i (min (w + wideQ k mn mx (wideT subs[i])) 1073741824))).put 10 (.i subs.length)).put 11 (.i ((i + 1 : Nat) : Int)), Heap.nil, Frz.lo 100, 100⟩ → K ⟨fr, C, Z, nx⟩ := by
      intro fr C Z nx hw
      refine hK (i + 1, _) fr C Z nx ⟨by omega, by dsimp only; omega, ?_⟩ (by dsimp only; omega) hw
      rw [hi.2.2, hd]
    by_cases h5 : k = 5
    · have hr5 := hR h5
      by_cases hm : mx = -1
      · have hmul := mul_in (show 0 ≤ wideT subs[i] ∧ wideT subs[i] ≤ 1073741824 by omega) (show 0 ≤ mn + 1 ∧ mn + 1 ≤ 21 by omega)
        have eq : wideQ k mn mx (wideT subs[i]) = wideT subs[i] * (mn + 1) + 1 := by rw [wideQ, if_pos h5, if_pos hm]
        rw [eq] at fin hq
        repeat' (first
    | (apply r_mvV; rfl)
    | (apply r_mvP; rfl)
    | (apply r_mvPL; rfl)
    | (apply r_mvS; rfl)
    | (apply r_mvSL; rfl)
    | (apply r_mvA; rfl)
    | (apply r_mvT; rfl)
    | (apply r_mvF; rfl)
    | (apply r_mvD; rfl)
    | (apply r_nckD; rfl)
    | (apply r_faddD; rfl)
    | (apply r_nckL; rfl)
    | (apply r_faddL; rfl)
    | (apply r_l; apply ld_kind; assumption; rfl)
    | (apply r_l; apply ld_mn; assumption; rfl)
    | (apply r_l; apply ld_mx; assumption; rfl)
    | (apply r_l; apply ld_subs; assumption; rfl)
    | (apply r_l; apply ld_set; assumption; rfl)
    | (apply r_l; apply ld_node; assumption; rfl)
    | (apply r_l; apply ld_kind'; assumption; rfl)
    | (apply r_l; apply ld_mn'; assumption; rfl)
    | (apply r_l; apply ld_mx'; assumption; rfl)
    | (apply r_l; apply ld_subs'; assumption; rfl)
    | (apply r_l; apply ld_node'; assumption; rfl)
    | (apply r_p; apply ix_sub; rfl; rfl; omega)
    | (apply r_callA; rfl; rfl; apply ih' i hlt)
    | (apply r_mul; rfl; rfl; rfl; omega)
    | (apply r_ldL; rfl; rfl; rfl)
    | (apply r_eql; rfl; rfl; (first | (apply decide_eq_true; omega) | (apply decide_eq_false; omega) | rfl))
    | (apply r_neq; rfl; rfl; (first | (apply decide_eq_true; omega) | (apply decide_eq_false; omega) | rfl))
    | (apply r_lss; rfl; rfl; (first | (apply decide_eq_true; omega) | (apply decide_eq_false; omega) | rfl))
    | (apply r_add; rfl; rfl; rfl; omega)
    | (apply r_min2; rfl; rfl; rfl)
    | (apply r_lenD; rfl)
    | (apply r_lenL; rfl)
    | (apply r_len0; rfl)
    | (apply r_p; rfl)
    | (apply r_nilK)
    | (apply r_nil)
    | (apply k_V; rfl)
    | (apply k_P; rfl)
    | (apply k_PL; rfl)
    | (apply k_S; rfl)
    | (apply k_SL; rfl)
    | (apply k_A; rfl)
    | (apply k_T; rfl)
    | (apply k_F; rfl)
    | (apply k_D; rfl; rotate_left; rfl)
    | (apply k_nil)
    | (apply e_ret (vs := [.d (.val _)]); rfl)
    | (apply e_ret; rfl)
    | (apply e_ret' (vs := [.d (.val _)]); rfl)
    | (apply e_ret'; rfl)
    | (apply w_seq)
    | (apply w_ops; ((conv => lhs; simp only [Nat.reduceAdd]) <;> rfl))
    | (apply w_condT; rfl)
    | (apply w_condF; rfl)
    | ((apply w_condS; rfl) <;> (intro h; try simp only [decide_eq_true_eq, decide_eq_false_iff_not, Bool.not_eq_true, Bool.not_eq_false] at h))
    | (apply e_thenN)
    | (apply w_block)
    | (apply e_thenR)
    | (apply e_thenX)
    | (apply e_blkN)
    | (apply e_blkR)
    | (apply e_blkE)
    | (apply w_exit)
    | (apply w_ret)
    | (apply w_skip)
    | (apply e_blkE'; rfl))
        all_goals
          apply e_thenK; apply fin
          refine wk0 (by omega) ?_
          repeat' (first
    | exact FWk.nil
    | (apply FWk.i; rfl; (first | rfl | omega | (simp; done)))
    | (apply FWk.sl; rfl; rfl; rfl; rfl; omega; rfl)
    | (apply FWk.ptr; rfl; rfl; rfl; omega; rfl)
    | (apply FWk.d; rfl; rfl)
    | (apply FWk.a; rfl; rfl; rfl)
    | (apply FWk.slN; rfl; omega; rfl))
      · have hmul := mul_in (show 0 ≤ wideT subs[i] + 2 ∧ wideT subs[i] + 2 ≤ 1073741826 by omega) (show 0 ≤ mx ∧ mx ≤ 20 by omega)
        have eq : wideQ k mn mx (wideT subs[i]) = (wideT subs[i] + 2) * mx := by rw [wideQ, if_pos h5, if_neg hm]
        rw [eq] at fin hq
        repeat' (first
    | (apply r_mvV; rfl)
    | (apply r_mvP; rfl)
    | (apply r_mvPL; rfl)
    | (apply r_mvS; rfl)
    | (apply r_mvSL; rfl)
    | (apply r_mvA; rfl)
    | (apply r_mvT; rfl)
    | (apply r_mvF; rfl)
    | (apply r_mvD; rfl)
    | (apply r_nckD; rfl)
    | (apply r_faddD; rfl)
    | (apply r_nckL; rfl)
    | (apply r_faddL; rfl)
    | (apply r_l; apply ld_kind; assumption; rfl)
    | (apply r_l; apply ld_mn; assumption; rfl)
    | (apply r_l; apply ld_mx; assumption; rfl)
    | (apply r_l; apply ld_subs; assumption; rfl)
    | (apply r_l; apply ld_set; assumption; rfl)
    | (apply r_l; apply ld_node; assumption; rfl)
    | (apply r_l; apply ld_kind'; assumption; rfl)
    | (apply r_l; apply ld_mn'; assumption; rfl)
    | (apply r_l; apply ld_mx'; assumption; rfl)
    | (apply r_l; apply ld_subs'; assumption; rfl)
    | (apply r_l; apply ld_node'; assumption; rfl)
    | (apply r_p; apply ix_sub; rfl; rfl; omega)
    | (apply r_callA; rfl; rfl; apply ih' i hlt)
    | (apply r_mul; rfl; rfl; rfl; omega)
    | (apply r_ldL; rfl; rfl; rfl)
    | (apply r_eql; rfl; rfl; (first | (apply decide_eq_true; omega) | (apply decide_eq_false; omega) | rfl))
    | (apply r_neq; rfl; rfl; (first | (apply decide_eq_true; omega) | (apply decide_eq_false; omega) | rfl))
    | (apply r_lss; rfl; rfl; (first | (apply decide_eq_true; omega) | (apply decide_eq_false; omega) | rfl))
    | (apply r_add; rfl; rfl; rfl; omega)
    | (apply r_min2; rfl; rfl; rfl)
    | (apply r_lenD; rfl)
    | (apply r_lenL; rfl)
    | (apply r_len0; rfl)
    | (apply r_p; rfl)
    | (apply r_nilK)
    | (apply r_nil)
    | (apply k_V; rfl)
    | (apply k_P; rfl)
    | (apply k_PL; rfl)
    | (apply k_S; rfl)
    | (apply k_SL; rfl)
    | (apply k_A; rfl)
    | (apply k_T; rfl)
    | (apply k_F; rfl)
    | (apply k_D; rfl; rotate_left; rfl)
    | (apply k_nil)
    | (apply e_ret (vs := [.d (.val _)]); rfl)
    | (apply e_ret; rfl)
    | (apply e_ret' (vs := [.d (.val _)]); rfl)
    | (apply e_ret'; rfl)
    | (apply w_seq)
    | (apply w_ops; ((conv => lhs; simp only [Nat.reduceAdd]) <;> rfl))
    | (apply w_condT; rfl)
    | (apply w_condF; rfl)
    | ((apply w_condS; rfl) <;> (intro h; try simp only [decide_eq_true_eq, decide_eq_false_iff_not, Bool.not_eq_true, Bool.not_eq_false] at h))
    | (apply e_thenN)
    | (apply w_block)
    | (apply e_thenR)
    | (apply e_thenX)
    | (apply e_blkN)
    | (apply e_blkR)
    | (apply e_blkE)
    | (apply w_exit)
    | (apply w_ret)
    | (apply w_skip)
    | (apply e_blkE'; rfl))
        all_goals
          apply e_thenK; apply fin
          refine wk0 (by omega) ?_
          repeat' (first
    | exact FWk.nil
    | (apply FWk.i; rfl; (first | rfl | omega | (simp; done)))
    | (apply FWk.sl; rfl; rfl; rfl; rfl; omega; rfl)
    | (apply FWk.ptr; rfl; rfl; rfl; omega; rfl)
    | (apply FWk.d; rfl; rfl)
    | (apply FWk.a; rfl; rfl; rfl)
    | (apply FWk.slN; rfl; omega; rfl))
    · have eq : wideQ k mn mx (wideT subs[i]) = wideT subs[i] := by rw [wideQ, if_neg h5]
      rw [eq] at fin hq
      repeat' (first
    | (apply r_mvV; rfl)
    | (apply r_mvP; rfl)
    | (apply r_mvPL; rfl)
    | (apply r_mvS; rfl)
    | (apply r_mvSL; rfl)
    | (apply r_mvA; rfl)
    | (apply r_mvT; rfl)
    | (apply r_mvF; rfl)
    | (apply r_mvD; rfl)
    | (apply r_nckD; rfl)
    | (apply r_faddD; rfl)
    | (apply r_nckL; rfl)
    | (apply r_faddL; rfl)
    | (apply r_l; apply ld_kind; assumption; rfl)
    | (apply r_l; apply ld_mn; assumption; rfl)
    | (apply r_l; apply ld_mx; assumption; rfl)
    | (apply r_l; apply ld_subs; assumption; rfl)
    | (apply r_l; apply ld_set; assumption; rfl)
    | (apply r_l; apply ld_node; assumption; rfl)
    | (apply r_l; apply ld_kind'; assumption; rfl)
    | (apply r_l; apply ld_mn'; assumption; rfl)
    | (apply r_l; apply ld_mx'; assumption; rfl)
    | (apply r_l; apply ld_subs'; assumption; rfl)
    | (apply r_l; apply ld_node'; assumption; rfl)
    | (apply r_p; apply ix_sub; rfl; rfl; omega)
    | (apply r_callA; rfl; rfl; apply ih' i hlt)
    | (apply r_mul; rfl; rfl; rfl; omega)
    | (apply r_ldL; rfl; rfl; rfl)
    | (apply r_eql; rfl; rfl; (first | (apply decide_eq_true; omega) | (apply decide_eq_false; omega) | rfl))
    | (apply r_neq; rfl; rfl; (first | (apply decide_eq_true; omega) | (apply decide_eq_false; omega) | rfl))
    | (apply r_lss; rfl; rfl; (first | (apply decide_eq_true; omega) | (apply decide_eq_false; omega) | rfl))
    | (apply r_add; rfl; rfl; rfl; omega)
    | (apply r_min2; rfl; rfl; rfl)
    | (apply r_lenD; rfl)
    | (apply r_lenL; rfl)
    | (apply r_len0; rfl)
    | (apply r_p; rfl)
    | (apply r_nilK)
    | (apply r_nil)
    | (apply k_V; rfl)
    | (apply k_P; rfl)
    | (apply k_PL; rfl)
    | (apply k_S; rfl)
    | (apply k_SL; rfl)
    | (apply k_A; rfl)
    | (apply k_T; rfl)
    | (apply k_F; rfl)
    | (apply k_D; rfl; rotate_left; rfl)
    | (apply k_nil)
    | (apply e_ret (vs := [.d (.val _)]); rfl)
    | (apply e_ret; rfl)
    | (apply e_ret' (vs := [.d (.val _)]); rfl)
    | (apply e_ret'; rfl)
    | (apply w_seq)
    | (apply w_ops; ((conv => lhs; simp only [Nat.reduceAdd]) <;> rfl))
    | (apply w_condT; rfl)
    | (apply w_condF; rfl)
    | ((apply w_condS; rfl) <;> (intro h; try simp only [decide_eq_true_eq, decide_eq_false_iff_not, Bool.not_eq_true, Bool.not_eq_false] at h))
    | (apply e_thenN)
    | (apply w_block)
    | (apply e_thenR)
    | (apply e_thenX)
    | (apply e_blkN)
    | (apply e_blkR)
    | (apply e_blkE)
    | (apply w_exit)
    | (apply w_ret)
    | (apply w_skip)
    | (apply e_blkE'; rfl))
      all_goals
        apply e_thenK; apply fin
        refine wk0 (by omega) ?_
        repeat' (first
    | exact FWk.nil
    | (apply FWk.i; rfl; (first | rfl | omega | (simp; done)))
    | (apply FWk.sl; rfl; rfl; rfl; rfl; omega; rfl)
    | (apply FWk.ptr; rfl; rfl; rfl; omega; rfl)
    | (apply FWk.d; rfl; rfl)
    | (apply FWk.a; rfl; rfl; rfl)
    | (apply FWk.slN; rfl; omega; rfl))
  · have e : wideT (.node k a b c d mn mx subs) = w := by
      rw [hi.2.2, List.drop_of_length_le (by omega), wideL]
    repeat' (first
    | (apply r_mvV; rfl)
    | (apply r_mvP; rfl)
    | (apply r_mvPL; rfl)
    | (apply r_mvS; rfl)
    | (apply r_mvSL; rfl)
    | (apply r_mvA; rfl)
    | (apply r_mvT; rfl)
    | (apply r_mvF; rfl)
    | (apply r_mvD; rfl)
    | (apply r_nckD; rfl)
    | (apply r_faddD; rfl)
    | (apply r_nckL; rfl)
    | (apply r_faddL; rfl)
    | (apply r_l; apply ld_kind; assumption; rfl)
    | (apply r_l; apply ld_mn; assumption; rfl)
    | (apply r_l; apply ld_mx; assumption; rfl)
    | (apply r_l; apply ld_subs; assumption; rfl)
    | (apply r_l; apply ld_set; assumption; rfl)
    | (apply r_l; apply ld_node; assumption; rfl)
    | (apply r_l; apply ld_kind'; assumption; rfl)
    | (apply r_l; apply ld_mn'; assumption; rfl)
    | (apply r_l; apply ld_mx'; assumption; rfl)
    | (apply r_l; apply ld_subs'; assumption; rfl)
    | (apply r_l; apply ld_node'; assumption; rfl)
    | (apply r_ldL; rfl; rfl; rfl)
    | (apply r_eql; rfl; rfl; (first | (apply decide_eq_true; omega) | (apply decide_eq_false; omega) | rfl))
    | (apply r_neq; rfl; rfl; (first | (apply decide_eq_true; omega) | (apply decide_eq_false; omega) | rfl))
    | (apply r_lss; rfl; rfl; (first | (apply decide_eq_true; omega) | (apply decide_eq_false; omega) | rfl))
    | (apply r_add; rfl; rfl; rfl; omega)
    | (apply r_min2; rfl; rfl; rfl)
    | (apply r_lenD; rfl)
    | (apply r_lenL; rfl)
    | (apply r_len0; rfl)
    | (apply r_p; rfl)
    | (apply r_nilK)
    | (apply r_nil)
    | (apply k_V; rfl)
    | (apply k_P; rfl)
    | (apply k_PL; rfl)
    | (apply k_S; rfl)
    | (apply k_SL; rfl)
    | (apply k_A; rfl)
    | (apply k_T; rfl)
    | (apply k_F; rfl)
    | (apply k_D; rfl; rotate_left; rfl)
    | (apply k_nil)
    | (apply e_ret (vs := [.d (.val _)]); rfl)
    | (apply e_ret; rfl)
    | (apply e_ret' (vs := [.d (.val _)]); rfl)
    | (apply e_ret'; rfl)
    | (apply w_seq)
    | (apply w_ops; ((conv => lhs; simp only [Nat.reduceAdd]) <;> rfl))
    | (apply w_condT; rfl)
    | (apply w_condF; rfl)
    | ((apply w_condS; rfl) <;> (intro h; try simp only [decide_eq_true_eq, decide_eq_false_iff_not, Bool.not_eq_true, Bool.not_eq_false] at h))
    | (apply e_thenN)
    | (apply w_block)
    | (apply e_thenR)
    | (apply e_thenX)
    | (apply e_blkN)
    | (apply e_blkR)
    | (apply e_blkE)
    | (apply w_exit)
    | (apply w_ret)
    | (apply w_skip)
    | (apply e_blkE'; rfl))
    exact retI e.symm
theorem mWide_good (t : T) (hc : t.cnt ≤ 1000000) (hok : fitsT t 12 = true → okT t) : Good Try.prog 68 [nodeA t] none (.i (if fitsT t 12 = true then wideT t else 0)) none none := by
  have hright := right_good t hc
  have hw := fun (h : fitsT t 12 = true) => mwide_good 1000000 t (encN t) 0 (NodeAt.self _) hc (Nat.le_refl _) (hok h)
  obtain ⟨k, a, b, c, d, mn, mx, subs⟩ := t
  have e0 : nodeA (.node k a b c d mn mx subs) = .agg [.i k, .d (.val (.int .u64 a)), .d (.val (.int .u64 b)), .d (.val (.int .u64 c)), .d (.val (.int .u64 d)), .i mn, .i mx, .d (.sl (encL subs) subs.length)] := rfl
  rw [e0] at hright ⊢
  refine b68 (by simp) (by simp) (w_init ?_)
  unfold x68
  rcases Bool.eq_false_or_eq_true (fitsT (.node k a b c d mn mx subs) 12) with hR | hR
  case inr =>
    rw [hR] at hright
    repeat' (first
    | (apply r_mvV; rfl)
    | (apply r_mvP; rfl)
    | (apply r_mvPL; rfl)
    | (apply r_mvS; rfl)
    | (apply r_mvSL; rfl)
    | (apply r_mvA; rfl)
    | (apply r_mvT; rfl)
    | (apply r_mvF; rfl)
    | (apply r_mvD; rfl)
    | (apply r_l; apply ld_kind; assumption; rfl)
    | (apply r_l; apply ld_mn; assumption; rfl)
    | (apply r_l; apply ld_mx; assumption; rfl)
    | (apply r_l; apply ld_subs; assumption; rfl)
    | (apply r_l; apply ld_set; assumption; rfl)
    | (apply r_l; apply ld_node; assumption; rfl)
    | (apply r_l; apply ld_kind'; assumption; rfl)
    | (apply r_l; apply ld_mn'; assumption; rfl)
    | (apply r_l; apply ld_mx'; assumption; rfl)
    | (apply r_l; apply ld_subs'; assumption; rfl)
    | (apply r_l; apply ld_node'; assumption; rfl)
    | (apply r_callA; rfl; rfl; exact hright)
    | (apply r_ldL; rfl; rfl; rfl)
    | (apply r_not; rfl; rfl)
    | (apply r_box; ((conv => lhs; simp only [Nat.reduceAdd]) <;> rfl); rfl; rfl; rfl)
    | (apply r_nilK)
    | (apply r_nil)
    | (apply k_V; rfl)
    | (apply k_P; rfl)
    | (apply k_PL; rfl)
    | (apply k_S; rfl)
    | (apply k_SL; rfl)
    | (apply k_A; rfl)
    | (apply k_T; rfl)
    | (apply k_F; rfl)
    | (apply k_D; rfl; rotate_left; rfl)
    | (apply k_nil)
    | (apply e_ret (vs := [.d (.val _)]); rfl)
    | (apply e_ret; rfl)
    | (apply e_ret' (vs := [.d (.val _)]); rfl)
    | (apply e_ret'; rfl)
    | (apply w_seq)
    | (apply w_ops; ((conv => lhs; simp only [Nat.reduceAdd]) <;> rfl))
    | (apply w_condT; rfl)
    | (apply w_condF; rfl)
    | ((apply w_condS; rfl) <;> (intro h; try simp only [decide_eq_true_eq, decide_eq_false_iff_not, Bool.not_eq_true, Bool.not_eq_false] at h))
    | (apply e_thenN)
    | (apply w_block)
    | (apply e_thenR)
    | (apply e_thenX)
    | (apply e_blkN)
    | (apply e_blkR)
    | (apply e_blkE)
    | (apply w_exit)
    | (apply w_ret)
    | (apply w_skip)
    | (apply e_blkE'; rfl))
    exact retI (by simp [hR])
  rw [hR] at hright
  have hw := hw hR
  repeat' (first
    | (apply r_mvV; rfl)
    | (apply r_mvP; rfl)
    | (apply r_mvPL; rfl)
    | (apply r_mvS; rfl)
    | (apply r_mvSL; rfl)
    | (apply r_mvA; rfl)
    | (apply r_mvT; rfl)
    | (apply r_mvF; rfl)
    | (apply r_mvD; rfl)
    | (apply r_l; apply ld_kind; assumption; rfl)
    | (apply r_l; apply ld_mn; assumption; rfl)
    | (apply r_l; apply ld_mx; assumption; rfl)
    | (apply r_l; apply ld_subs; assumption; rfl)
    | (apply r_l; apply ld_set; assumption; rfl)
    | (apply r_l; apply ld_node; assumption; rfl)
    | (apply r_l; apply ld_kind'; assumption; rfl)
    | (apply r_l; apply ld_mn'; assumption; rfl)
    | (apply r_l; apply ld_mx'; assumption; rfl)
    | (apply r_l; apply ld_subs'; assumption; rfl)
    | (apply r_l; apply ld_node'; assumption; rfl)
    | (apply r_callA; rfl; rfl; exact hright)
    | (apply r_call (bs := [.d (.ptr (encN (.node k a b c d mn mx subs)) 0)]) (us := [1]); rfl; rfl; exact hw; rfl)
    | (apply r_ldL; rfl; rfl; rfl)
    | (apply r_not; rfl; rfl)
    | (apply r_box; ((conv => lhs; simp only [Nat.reduceAdd]) <;> rfl); rfl; rfl; rfl)
    | (apply r_nilK)
    | (apply r_nil)
    | (apply k_V; rfl)
    | (apply k_P; rfl)
    | (apply k_PL; rfl)
    | (apply k_S; rfl)
    | (apply k_SL; rfl)
    | (apply k_A; rfl)
    | (apply k_T; rfl)
    | (apply k_F; rfl)
    | (apply k_D; rfl; rotate_left; rfl)
    | (apply k_nil)
    | (apply e_ret (vs := [.d (.val _)]); rfl)
    | (apply e_ret; rfl)
    | (apply e_ret' (vs := [.d (.val _)]); rfl)
    | (apply e_ret'; rfl)
    | (apply w_seq)
    | (apply w_ops; ((conv => lhs; simp only [Nat.reduceAdd]) <;> rfl))
    | (apply w_condT; rfl)
    | (apply w_condF; rfl)
    | ((apply w_condS; rfl) <;> (intro h; try simp only [decide_eq_true_eq, decide_eq_false_iff_not, Bool.not_eq_true, Bool.not_eq_false] at h))
    | (apply e_thenN)
    | (apply w_block)
    | (apply e_thenR)
    | (apply e_thenX)
    | (apply e_blkN)
    | (apply e_blkR)
    | (apply e_blkE)
    | (apply w_exit)
    | (apply w_ret)
    | (apply w_skip)
    | (apply e_blkE'; rfl))
  exact retI (by simp [hR])
end Go.Sv
namespace Go.Sv
open Go Go.Proofs
mutual
def xT : T → T
  | .node k a b c d mn mx subs => if k = 5 then repT ((xL subs).headD (.node 1 0 0 0 0 0 0 [])) mn.toNat mx else if k = 3 ∨ k = 4 then .node k 0 0 0 0 0 0 (xL subs) else .node k a b c d mn mx subs
def xL : List T → List T
  | [] => []
  | t :: l => xT t :: xL l
end
theorem xL_len : ∀ l : List T, (xL l).length = l.length
  | [] => rfl
  | t :: l => by rw [xL, List.length_cons, xL_len l, List.length_cons]
theorem xL_get : ∀ (l : List T) (i : Nat) (h : i < l.length) (h2 : i < (xL l).length), (xL l)[i] = xT l[i]
  | t :: l, 0, _, _ => by simp [xL]
  | t :: l, i + 1, h, h2 => by
    simp only [xL, List.getElem_cons_succ]
    exact xL_get l i (by simpa using h) _
theorem xL_take (l : List T) (i : Nat) (h : i < l.length) : encL ((xL l).take (i + 1)) = encL ((xL l).take i) ++ encN (xT l[i]) := by
  have h2 : i < (xL l).length := by rw [xL_len]; exact h
  rw [List.take_succ_eq_append_getElem h2, encL_app, xL_get l i h h2, encL, encL, List.append_nil]
theorem ret_catK {C : Heap} {Z : Frz} {live : Bool} {k : Int} {id m : Nat} {row : List AV} {L : List T} {us : List Nat} (hC : C id = some row) (hm : L.length = m) (hl : row.length = m * 8) (h0 : 0 < m) (hr : mapO (convC C (fun _ => false) 8) row = some (encL L, us)) : RetOK C Z (tupOf [.agg [.i k, .d (.val (.int .u64 0)), .d (.val (.int .u64 0)), .d (.val (.int .u64 0)), .d (.val (.int .u64 0)), .i 0, .i 0, .slL id 0 m 8]]) live (nodeA (.node k 0 0 0 0 0 0 L)) none none := by
  refine .data _ ?_
  have h := conv_row (ex := fun _ => false) hC hl h0 rfl hr
  have hd : ∀ z : Value, (z = .int .i64 k ∨ z = .int .u64 0 ∨ z = .int .i64 0) → convC C (fun _ => false) 9 (.d (.val z)) = some (.val z, []) := by
    rintro z (rfl | rfl | rfl) <;> rfl
  simp only [tupOf, convT, convA, mapO, h, hd _ (.inl rfl), hd _ (.inr (.inl rfl)), hd _ (.inr (.inr rfl)), Option.bind_some, Option.map_some]
  subst hm
  rfl
set_option maxRecDepth 100000
set_option maxHeartbeats 4000000
attribute [local irreducible] W E R KP thenK blockK retK Good xwp aRun
theorem xrep_good (t : T) (mn mx : Int) (h : 0 ≤ mn ∧ mn ≤ 20) (h2 : mx = -1 ∨ (mn ≤ mx ∧ mx ≤ 20)) : Good Try.prog 147 [nodeA t, .i mn, .i mx] none (nodeA (repT t mn.toNat mx)) none none := by
  obtain ⟨lo, rfl⟩ := Int.eq_ofNat_of_zero_le h.1
  rcases h2 with rfl | h2
  · exact rep_neg t lo (by omega)
  · obtain ⟨hi, rfl⟩ := Int.eq_ofNat_of_zero_le (show 0 ≤ mx by omega)
    exact rep_pos t lo hi (by omega) (by omega)
theorem xplain_good : ∀ (n : Nat) (t : T), t.cnt ≤ n → n ≤ 1000000 → okT t → Good Try.prog 115 [nodeA t] none (nodeA (xT t)) none none := by
  intro n
  induction n with
  | zero => intro t ht; have := cnt_pos t; omega
  | succ n ih =>
  intro t ht hc hok
  obtain ⟨k, a, b, c, d, mn, mx, subs⟩ := t
  have hR := okT_R hok
  have hoks : okL subs := by simp only [okT] at hok; exact hok.2
  have hpl : plainT (.node k a b c d mn mx subs) = true := by simp only [okT, okN] at hok; exact hok.1.2.2.2.2
  have ih' : ∀ i (h : i < subs.length), Good Try.prog 115 [nodeA subs[i]] none (nodeA (xT subs[i])) none none := by
    intro i h
    refine ih _ ?_ (by omega) (okL_get subs i h hoks)
    have := cntL_get subs i h
    simp only [T.cnt] at ht
    omega
  have hlen : subs.length ≤ 1000000 := by
    have := cntL_len subs
    simp only [T.cnt] at ht
    omega
  have e0 : nodeA (.node k a b c d mn mx subs) = .agg [.i k, .d (.val (.int .u64 a)), .d (.val (.int .u64 b)), .d (.val (.int .u64 c)), .d (.val (.int .u64 d)), .i mn, .i mx, .d (.sl (encL subs) subs.length)] := rfl
  clear hok
  by_cases h5 : k = 5
  · have hl0 : 0 < subs.length := by
      simp [plainT, h5] at hpl
      omega
    have hs := NodeAt.sub hl0
    have hi0 := ih' 0 hl0
    have ex : xT (.node k a b c d mn mx subs) = repT (xT (subs[0]'hl0)) mn.toNat mx := by
      rw [xT, if_pos h5]
      match subs, hl0 with
      | u :: l, _ => rfl
    have hr := xrep_good (xT (subs[0]'hl0)) mn mx (hR h5).1 (hR h5).2
    rw [ex, e0]
    clear ex
    generalize xT (subs[0]'hl0) = u at hi0 hr
    generalize repT u mn.toNat mx = v at hr
    have hna : [nodeA (subs[0]'hl0)].all AV.nrm = true := by rw [List.all_cons, nodeA_nrm]; rfl
    have hnb : [nodeA u, .i mn, .i mx].all AV.nrm = true := by rw [List.all_cons, nodeA_nrm]; rfl
    obtain ⟨k2, a2, b2, c2, d2, mn2, mx2, subs2⟩ := v
    refine b115 (by simp) (by simp) (w_init ?_)
    unfold x115
    repeat' (first
    | (apply r_mvV; rfl)
    | (apply r_mvP; rfl)
    | (apply r_mvPL; rfl)
    | (apply r_mvS; rfl)
    | (apply r_mvSL; rfl)
    | (apply r_mvA; rfl)
    | (apply r_mvT; rfl)
    | (apply r_mvF; rfl)
    | (apply r_mvD; rfl)
    | (apply r_faddD; rfl)
    | (apply r_faddL; rfl)
    | (apply r_l; apply ld_kind; assumption; rfl)
    | (apply r_l; apply ld_mn; assumption; rfl)
    | (apply r_l; apply ld_mx; assumption; rfl)
    | (apply r_l; apply ld_subs; assumption; rfl)
    | (apply r_l; apply ld_set; assumption; rfl)
    | (apply r_l; apply ld_node; assumption; rfl)
    | (apply r_l; apply ld_kind'; assumption; rfl)
    | (apply r_l; apply ld_mn'; assumption; rfl)
    | (apply r_l; apply ld_mx'; assumption; rfl)
    | (apply r_l; apply ld_subs'; assumption; rfl)
    | (apply r_l; apply ld_node'; assumption; rfl)
    | (apply r_p; apply ix_sub0; rfl; rfl; exact hl0)
    | (apply r_l; apply ld_node'; exact hs; rfl)
    | (apply r_callA (ags := [nodeA (subs[0]'hl0)]); rfl; exact hna; exact hi0)
    | (apply r_callA (ags := [nodeA u, .i mn, .i mx]); rfl; exact hnb; exact hr)
    | (apply r_ldL; rfl; rfl; rfl)
    | (apply r_eql; rfl; rfl; (first | (apply decide_eq_true; omega) | (apply decide_eq_false; omega) | rfl))
    | (apply r_lss; rfl; rfl; (first | (apply decide_eq_true; omega) | (apply decide_eq_false; omega) | rfl))
    | (apply r_add; rfl; rfl; rfl; omega)
    | (apply r_lenD; rfl)
    | (apply r_lenL; rfl)
    | (apply r_len0; rfl)
    | (apply r_alloc; ((conv => lhs; simp only [Nat.reduceAdd]) <;> rfl); rfl)
    | (apply r_box; ((conv => lhs; simp only [Nat.reduceAdd]) <;> rfl); rfl; rfl; rfl)
    | (apply r_stL; rfl; rfl; rfl; rfl; (first | rfl | (simp only [z_nil, z_add] <;> rfl)); rfl; rfl)
    | (apply r_p; rfl)
    | (apply r_nilK)
    | (apply r_nil)
    | (apply k_V; rfl)
    | (apply k_P; rfl)
    | (apply k_PL; rfl)
    | (apply k_S; rfl)
    | (apply k_SL; rfl)
    | (apply k_A; rfl)
    | (apply k_T; rfl)
    | (apply k_F; rfl)
    | (apply k_D; rfl; rotate_left; rfl)
    | (apply k_nil)
    | (apply e_ret (vs := [.d (.val _)]); rfl)
    | (apply e_ret; rfl)
    | (apply e_ret' (vs := [.d (.val _)]); rfl)
    | (apply e_ret'; rfl)
    | (apply w_seq)
    | (apply w_ops; ((conv => lhs; simp only [Nat.reduceAdd]) <;> rfl))
    | (apply w_condT; rfl)
    | (apply w_condF; rfl)
    | ((apply w_condS; rfl) <;> (intro h; try simp only [decide_eq_true_eq, decide_eq_false_iff_not, Bool.not_eq_true, Bool.not_eq_false] at h))
    | (apply e_thenN)
    | (apply w_block)
    | (apply e_thenR)
    | (apply e_thenX)
    | (apply e_blkN)
    | (apply e_blkR)
    | (apply e_blkE)
    | (apply w_exit)
    | (apply w_ret)
    | (apply w_skip)
    | (apply e_blkE'; rfl))
    trace_state
    exact .data _ rfl
  by_cases h34 : k = 3 ∨ k = 4
  case neg =>
    have ex : xT (.node k a b c d mn mx subs) = .node k a b c d mn mx subs := by rw [xT, if_neg h5, if_neg h34]
    rw [ex, e0]
    have h3 : k ≠ 3 := fun h => h34 (.inl h)
    have h4 : k ≠ 4 := fun h => h34 (.inr h)
    refine b115 (by simp) (by simp) (w_init ?_)
    unfold x115
    repeat' (first
    | (apply r_mvV; rfl)
    | (apply r_mvP; rfl)
    | (apply r_mvPL; rfl)
    | (apply r_mvS; rfl)
    | (apply r_mvSL; rfl)
    | (apply r_mvA; rfl)
    | (apply r_mvT; rfl)
    | (apply r_mvF; rfl)
    | (apply r_mvD; rfl)
    | (apply r_faddD; rfl)
    | (apply r_faddL; rfl)
    | (apply r_l; apply ld_kind; assumption; rfl)
    | (apply r_l; apply ld_mn; assumption; rfl)
    | (apply r_l; apply ld_mx; assumption; rfl)
    | (apply r_l; apply ld_subs; assumption; rfl)
    | (apply r_l; apply ld_set; assumption; rfl)
    | (apply r_l; apply ld_node; assumption; rfl)
    | (apply r_l; apply ld_kind'; assumption; rfl)
    | (apply r_l; apply ld_mn'; assumption; rfl)
    | (apply r_l; apply ld_mx'; assumption; rfl)
    | (apply r_l; apply ld_subs'; assumption; rfl)
    | (apply r_l; apply ld_node'; assumption; rfl)
    | (apply r_ldL; rfl; rfl; rfl)
    | (apply r_eql; rfl; rfl; (first | (apply decide_eq_true; omega) | (apply decide_eq_false; omega) | rfl))
    | (apply r_lss; rfl; rfl; (first | (apply decide_eq_true; omega) | (apply decide_eq_false; omega) | rfl))
    | (apply r_add; rfl; rfl; rfl; omega)
    | (apply r_lenD; rfl)
    | (apply r_lenL; rfl)
    | (apply r_len0; rfl)
    | (apply r_alloc; ((conv => lhs; simp only [Nat.reduceAdd]) <;> rfl); rfl)
    | (apply r_box; ((conv => lhs; simp only [Nat.reduceAdd]) <;> rfl); rfl; rfl; rfl)
    | (apply r_stL; rfl; rfl; rfl; rfl; (first | rfl | (simp only [z_nil, z_add] <;> rfl)); rfl; rfl)
    | (apply r_p; rfl)
    | (apply r_nilK)
    | (apply r_nil)
    | (apply k_V; rfl)
    | (apply k_P; rfl)
    | (apply k_PL; rfl)
    | (apply k_S; rfl)
    | (apply k_SL; rfl)
    | (apply k_A; rfl)
    | (apply k_T; rfl)
    | (apply k_F; rfl)
    | (apply k_D; rfl; rotate_left; rfl)
    | (apply k_nil)
    | (apply e_ret (vs := [.d (.val _)]); rfl)
    | (apply e_ret; rfl)
    | (apply e_ret' (vs := [.d (.val _)]); rfl)
    | (apply e_ret'; rfl)
    | (apply w_seq)
    | (apply w_ops; ((conv => lhs; simp only [Nat.reduceAdd]) <;> rfl))
    | (apply w_condT; rfl)
    | (apply w_condF; rfl)
    | ((apply w_condS; rfl) <;> (intro h; try simp only [decide_eq_true_eq, decide_eq_false_iff_not, Bool.not_eq_true, Bool.not_eq_false] at h))
    | (apply e_thenN)
    | (apply w_block)
    | (apply e_thenR)
    | (apply e_thenX)
    | (apply e_blkN)
    | (apply e_blkR)
    | (apply e_blkE)
    | (apply w_exit)
    | (apply w_ret)
    | (apply w_skip)
    | (apply e_blkE'; rfl))
    exact .data _ rfl
  have ex : xT (.node k a b c d mn mx subs) = .node k 0 0 0 0 0 0 (xL subs) := by rw [xT, if_neg h5, if_pos h34]
  rw [ex, e0]
  have hl0 : 0 < subs.length := by
    rcases h34 with h | h <;> (simp [plainT, h] at hpl; omega)
  rcases h34 with h3 | h4
  · subst h3
    refine b115 (by simp) (by simp) (w_init ?_)
    unfold x115
    repeat' (first
    | (apply r_mvV; rfl)
    | (apply r_mvP; rfl)
    | (apply r_mvPL; rfl)
    | (apply r_mvS; rfl)
    | (apply r_mvSL; rfl)
    | (apply r_mvA; rfl)
    | (apply r_mvT; rfl)
    | (apply r_mvF; rfl)
    | (apply r_mvD; rfl)
    | (apply r_faddD; rfl)
    | (apply r_faddL; rfl)
    | (apply r_l; apply ld_kind; assumption; rfl)
    | (apply r_l; apply ld_mn; assumption; rfl)
    | (apply r_l; apply ld_mx; assumption; rfl)
    | (apply r_l; apply ld_subs; assumption; rfl)
    | (apply r_l; apply ld_set; assumption; rfl)
    | (apply r_l; apply ld_node; assumption; rfl)
    | (apply r_l; apply ld_kind'; assumption; rfl)
    | (apply r_l; apply ld_mn'; assumption; rfl)
    | (apply r_l; apply ld_mx'; assumption; rfl)
    | (apply r_l; apply ld_subs'; assumption; rfl)
    | (apply r_l; apply ld_node'; assumption; rfl)
    | (apply r_ldL; rfl; rfl; rfl)
    | (apply r_eql; rfl; rfl; (first | (apply decide_eq_true; omega) | (apply decide_eq_false; omega) | rfl))
    | (apply r_lss; rfl; rfl; (first | (apply decide_eq_true; omega) | (apply decide_eq_false; omega) | rfl))
    | (apply r_add; rfl; rfl; rfl; omega)
    | (apply r_lenD; rfl)
    | (apply r_lenL; rfl)
    | (apply r_len0; rfl)
    | (apply r_alloc; ((conv => lhs; simp only [Nat.reduceAdd]) <;> rfl); rfl)
    | (apply r_box; ((conv => lhs; simp only [Nat.reduceAdd]) <;> rfl); rfl; rfl; rfl)
    | (apply r_stL; rfl; rfl; rfl; rfl; (first | rfl | (simp only [z_nil, z_add] <;> rfl)); rfl; rfl)
    | (apply r_p; rfl)
    | (apply r_nilK)
    | (apply r_nil)
    | (apply k_V; rfl)
    | (apply k_P; rfl)
    | (apply k_PL; rfl)
    | (apply k_S; rfl)
    | (apply k_SL; rfl)
    | (apply k_A; rfl)
    | (apply k_T; rfl)
    | (apply k_F; rfl)
    | (apply k_D; rfl; rotate_left; rfl)
    | (apply k_nil)
    | (apply e_ret (vs := [.d (.val _)]); rfl)
    | (apply e_ret; rfl)
    | (apply e_ret' (vs := [.d (.val _)]); rfl)
    | (apply e_ret'; rfl)
    | (apply w_seq)
    | (apply w_ops; ((conv => lhs; simp only [Nat.reduceAdd]) <;> rfl))
    | (apply w_condT; rfl)
    | (apply w_condF; rfl)
    | ((apply w_condS; rfl) <;> (intro h; try simp only [decide_eq_true_eq, decide_eq_false_iff_not, Bool.not_eq_true, Bool.not_eq_false] at h))
    | (apply e_thenN)
    | (apply w_block)
    | (apply e_thenR)
    | (apply e_thenX)
    | (apply e_blkN)
    | (apply e_blkR)
    | (apply e_blkE)
    | (apply w_exit)
    | (apply w_ret)
    | (apply w_skip)
    | (apply e_blkE'; rfl))
    apply w_loopI (S := fun i : Nat => ⟨((((Fr.nil.put 2 (.ptrL 2 0)).put 3 (.ptrL 12 0)).put 27 (.d (.sl (encL subs) subs.length))).put 28 (.i subs.length)).put 29 (.i i), rowsOf [(2, zeroA zsN), (12, [.i 3, .d (.val (.int .u64 0)), .d (.val (.int .u64 0)), .d (.val (.int .u64 0)), .d (.val (.int .u64 0)), .i 0, .i 0, .slL 50 0 i 8]), (50, (encL ((xL subs).take i)).map AV.d)], Frz.buts 100 [2, 12, 50], 100⟩) (m := fun i => subs.length - i) (I := fun i => i ≤ subs.length) (i0 := 0)
    · exact Nat.zero_le _
    · refine wkG 50 1000000 true (by omega) (by omega) ?_ ?_ ?_ ?_
      · intro p hp
        simp only [List.mem_cons, List.not_mem_nil, or_false] at hp
        rcases hp with rfl | rfl | rfl
        · exact ⟨by omega, .inr ⟨rfl, _, rfl, .data rfl⟩⟩
        · exact ⟨by omega, .inr ⟨rfl, _, rfl, .cons (.d _) (.cons (.d _) (.cons (.d _) (.cons (.d _) (.cons (.d _) (.cons (.d _) (.cons (.d _) (.cons (.slN _ _ (by omega) rfl) .nil)))))))⟩⟩
        · exact ⟨by omega, .inl ⟨rfl, rfl, rfl⟩⟩
      · intro q hq; simp only [List.mem_cons, List.not_mem_nil, or_false] at hq; rcases hq with rfl | rfl | rfl <;> rfl
      · intro p hp
        simp only [List.mem_cons, List.not_mem_nil, or_false] at hp
        rcases hp with rfl | rfl | rfl <;> (intro _; simp)
      · repeat' (first
    | exact FWk.nil
    | (apply FWk.i; rfl; (first | rfl | omega | (simp; done)))
    | (apply FWk.sl; rfl; rfl; rfl; rfl; omega; rfl)
    | (apply FWk.ptr; rfl; rfl; rfl; omega; rfl)
    | (apply FWk.d; rfl; rfl)
    | (apply FWk.a; rfl; rfl; rfl)
    | (apply FWk.slN; rfl; omega; rfl))
    intro i K hi hK
    dsimp only
    rcases Nat.lt_or_ge i subs.length with hlt | hge
    · have hs := NodeAt.sub hlt
      have hg := ih' i hlt
      have htk := xL_take subs i hlt
      have hrl : ((encL ((xL subs).take i)).map AV.d).length = i * 8 := by
        rw [List.length_map, encL_length, List.length_take, xL_len]; omega
      have hna : [nodeA subs[i]].all AV.nrm = true := by rw [List.all_cons, nodeA_nrm]; rfl
      generalize xT subs[i] = u at hg htk
      generalize subs[i] = v at hs hg hna
      obtain ⟨k2, a2, b2, c2, d2, mn2, mx2, subs2⟩ := u
      obtain ⟨k3, a3, b3, c3, d3, mn3, mx3, subs3⟩ := v
      repeat' (first
    | (apply r_mvV; rfl)
    | (apply r_mvP; rfl)
    | (apply r_mvPL; rfl)
    | (apply r_mvS; rfl)
    | (apply r_mvSL; rfl)
    | (apply r_mvA; rfl)
    | (apply r_mvT; rfl)
    | (apply r_mvF; rfl)
    | (apply r_mvD; rfl)
    | (apply r_faddD; rfl)
    | (apply r_faddL; rfl)
    | (apply r_p; apply ix_sub; rfl; rfl; omega)
    | (apply r_l; apply ld_node'; exact hs; rfl)
    | (apply r_callA (ags := [nodeA (.node k3 a3 b3 c3 d3 mn3 mx3 subs3)]); rfl; exact hna; exact hg)
    | (apply r_ldL (v := nodeA (.node k3 a3 b3 c3 d3 mn3 mx3 subs3)); rfl; rfl; rfl)
    | (apply r_n (v := .slL 109 0 1 8) (r := [.i k2, .d (.val (.int .u64 a2)), .d (.val (.int .u64 b2)), .d (.val (.int .u64 c2)), .d (.val (.int .u64 d2)), .i mn2, .i mx2, .d (.sl (encL subs2) subs2.length)]); rfl)
    | (apply r_appN (b := 50) (c := 109) (id := 110) (m := i) (j := 1) (r := (encL ((xL subs).take i)).map AV.d) (src := [.i k2, .d (.val (.int .u64 a2)), .d (.val (.int .u64 b2)), .d (.val (.int .u64 c2)), .d (.val (.int .u64 d2)), .i mn2, .i mx2, .d (.sl (encL subs2) subs2.length)]); rfl; rfl; rfl; rfl; exact hrl; rfl; rfl; rfl; rfl; omega)
    | (apply r_ldL; rfl; rfl; rfl)
    | (apply r_eql; rfl; rfl; (first | (apply decide_eq_true; omega) | (apply decide_eq_false; omega) | rfl))
    | (apply r_lss; rfl; rfl; (first | (apply decide_eq_true; omega) | (apply decide_eq_false; omega) | rfl))
    | (apply r_add; rfl; rfl; rfl; omega)
    | (apply r_lenD; rfl)
    | (apply r_lenL; rfl)
    | (apply r_len0; rfl)
    | (apply r_alloc; ((conv => lhs; simp only [Nat.reduceAdd]) <;> rfl); rfl)
    | (apply r_box; ((conv => lhs; simp only [Nat.reduceAdd]) <;> rfl); rfl; rfl; rfl)
    | (apply r_stL; rfl; rfl; rfl; rfl; (first | rfl | (simp only [z_nil, z_add] <;> rfl)); rfl; rfl)
    | (apply r_p; rfl)
    | (apply r_nilK)
    | (apply r_nil)
    | (apply k_V; rfl)
    | (apply k_P; rfl)
    | (apply k_PL; rfl)
    | (apply k_S; rfl)
    | (apply k_SL; rfl)
    | (apply k_A; rfl)
    | (apply k_T; rfl)
    | (apply k_F; rfl)
    | (apply k_D; rfl; rotate_left; rfl)
    | (apply k_nil)
    | (apply e_ret (vs := [.d (.val _)]); rfl)
    | (apply e_ret; rfl)
    | (apply e_ret' (vs := [.d (.val _)]); rfl)
    | (apply e_ret'; rfl)
    | (apply w_seq)
    | (apply w_ops; ((conv => lhs; simp only [Nat.reduceAdd]) <;> rfl))
    | (apply w_condT; rfl)
    | (apply w_condF; rfl)
    | ((apply w_condS; rfl) <;> (intro h; try simp only [decide_eq_true_eq, decide_eq_false_iff_not, Bool.not_eq_true, Bool.not_eq_false] at h))
    | (apply e_thenN)
    | (apply w_block)
    | (apply e_thenR)
    | (apply e_thenX)
    | (apply e_blkN)
    | (apply e_blkR)
    | (apply e_blkE)
    | (apply w_exit)
    | (apply w_ret)
    | (apply w_skip)
    | (apply e_blkE'; rfl))
      trace_state
      apply e_thenK
      apply hK (i + 1)
      · omega
      · omega
      · refine wkG 50 110 false (by omega) (by omega) ?_ ?_ ?_ ?_
        · intro p hp
          simp only [List.mem_cons, List.not_mem_nil, or_false] at hp
          rcases hp with rfl | rfl | rfl
          · exact ⟨by omega, .inr ⟨rfl, _, rfl, .data rfl⟩⟩
          · exact ⟨by omega, .inr ⟨rfl, _, rfl, .cons (.d _) (.cons (.d _) (.cons (.d _) (.cons (.d _) (.cons (.d _) (.cons (.d _) (.cons (.d _) (.cons (.slL _ _ _ _ _ rfl (by omega) rfl) .nil)))))))⟩⟩
          · refine ⟨by omega, .inr ⟨rfl, (encL ((xL subs).take (i + 1))).map AV.d, ?_, .data (by rw [List.all_map]; simp [AV.isD])⟩⟩
            rw [htk, List.map_append]; rfl
        · intro q hq; simp only [List.mem_cons, List.not_mem_nil, or_false] at hq; rcases hq with rfl | rfl | rfl <;> rfl
        · intro p hp
          simp only [List.mem_cons, List.not_mem_nil, or_false] at hp
          rcases hp with rfl | rfl | rfl <;> (intro _; simp)
        · repeat' (first
    | exact FWk.nil
    | (apply FWk.i; rfl; (first | rfl | omega | (simp; done)))
    | (apply FWk.sl; rfl; rfl; rfl; rfl; omega; rfl)
    | (apply FWk.ptr; rfl; rfl; rfl; omega; rfl)
    | (apply FWk.d; rfl; rfl)
    | (apply FWk.a; rfl; rfl; rfl)
    | (apply FWk.slN; rfl; omega; rfl))
    · have ei : i = subs.length := by omega
      subst ei
      repeat' (first
    | (apply r_mvV; rfl)
    | (apply r_mvP; rfl)
    | (apply r_mvPL; rfl)
    | (apply r_mvS; rfl)
    | (apply r_mvSL; rfl)
    | (apply r_mvA; rfl)
    | (apply r_mvT; rfl)
    | (apply r_mvF; rfl)
    | (apply r_mvD; rfl)
    | (apply r_faddD; rfl)
    | (apply r_faddL; rfl)
    | (apply r_ldL (v := .agg [.i 3, .d (.val (.int .u64 0)), .d (.val (.int .u64 0)), .d (.val (.int .u64 0)), .d (.val (.int .u64 0)), .i 0, .i 0, .slL 50 0 subs.length 8]); rfl; rfl; rfl)
    | (apply r_ldL; rfl; rfl; rfl)
    | (apply r_eql; rfl; rfl; (first | (apply decide_eq_true; omega) | (apply decide_eq_false; omega) | rfl))
    | (apply r_lss; rfl; rfl; (first | (apply decide_eq_true; omega) | (apply decide_eq_false; omega) | rfl))
    | (apply r_add; rfl; rfl; rfl; omega)
    | (apply r_lenD; rfl)
    | (apply r_lenL; rfl)
    | (apply r_len0; rfl)
    | (apply r_alloc; ((conv => lhs; simp only [Nat.reduceAdd]) <;> rfl); rfl)
    | (apply r_box; ((conv => lhs; simp only [Nat.reduceAdd]) <;> rfl); rfl; rfl; rfl)
    | (apply r_stL; rfl; rfl; rfl; rfl; (first | rfl | (simp only [z_nil, z_add] <;> rfl)); rfl; rfl)
    | (apply r_p; rfl)
    | (apply r_nilK)
    | (apply r_nil)
    | (apply k_V; rfl)
    | (apply k_P; rfl)
    | (apply k_PL; rfl)
    | (apply k_S; rfl)
    | (apply k_SL; rfl)
    | (apply k_A; rfl)
    | (apply k_T; rfl)
    | (apply k_F; rfl)
    | (apply k_D; rfl; rotate_left; rfl)
    | (apply k_nil)
    | (apply e_ret (vs := [.d (.val _)]); rfl)
    | (apply e_ret; rfl)
    | (apply e_ret' (vs := [.d (.val _)]); rfl)
    | (apply e_ret'; rfl)
    | (apply w_seq)
    | (apply w_ops; ((conv => lhs; simp only [Nat.reduceAdd]) <;> rfl))
    | (apply w_condT; rfl)
    | (apply w_condF; rfl)
    | ((apply w_condS; rfl) <;> (intro h; try simp only [decide_eq_true_eq, decide_eq_false_iff_not, Bool.not_eq_true, Bool.not_eq_false] at h))
    | (apply e_thenN)
    | (apply w_block)
    | (apply e_thenR)
    | (apply e_thenX)
    | (apply e_blkN)
    | (apply e_blkR)
    | (apply e_blkE)
    | (apply w_exit)
    | (apply w_ret)
    | (apply w_skip)
    | (apply e_blkE'; rfl))
      refine ret_catK (id := 50) (row := (encL ((xL subs).take subs.length)).map AV.d) (us := []) rfl (xL_len _) (by rw [List.length_map, encL_length, List.length_take, xL_len]; omega) hl0 ?_
      rw [List.take_of_length_le (by rw [xL_len]; omega)]
      exact mapO_encL _
  · subst h4
    refine b115 (by simp) (by simp) (w_init ?_)
    unfold x115
    repeat' (first
    | (apply r_mvV; rfl)
    | (apply r_mvP; rfl)
    | (apply r_mvPL; rfl)
    | (apply r_mvS; rfl)
    | (apply r_mvSL; rfl)
    | (apply r_mvA; rfl)
    | (apply r_mvT; rfl)
    | (apply r_mvF; rfl)
    | (apply r_mvD; rfl)
    | (apply r_faddD; rfl)
    | (apply r_faddL; rfl)
    | (apply r_l; apply ld_kind; assumption; rfl)
    | (apply r_l; apply ld_mn; assumption; rfl)
    | (apply r_l; apply ld_mx; assumption; rfl)
    | (apply r_l; apply ld_subs; assumption; rfl)
    | (apply r_l; apply ld_set; assumption; rfl)
    | (apply r_l; apply ld_node; assumption; rfl)
    | (apply r_l; apply ld_kind'; assumption; rfl)
    | (apply r_l; apply ld_mn'; assumption; rfl)
    | (apply r_l; apply ld_mx'; assumption; rfl)
    | (apply r_l; apply ld_subs'; assumption; rfl)
    | (apply r_l; apply ld_node'; assumption; rfl)
    | (apply r_ldL; rfl; rfl; rfl)
    | (apply r_eql; rfl; rfl; (first | (apply decide_eq_true; omega) | (apply decide_eq_false; omega) | rfl))
    | (apply r_lss; rfl; rfl; (first | (apply decide_eq_true; omega) | (apply decide_eq_false; omega) | rfl))
    | (apply r_add; rfl; rfl; rfl; omega)
    | (apply r_lenD; rfl)
    | (apply r_lenL; rfl)
    | (apply r_len0; rfl)
    | (apply r_alloc; ((conv => lhs; simp only [Nat.reduceAdd]) <;> rfl); rfl)
    | (apply r_box; ((conv => lhs; simp only [Nat.reduceAdd]) <;> rfl); rfl; rfl; rfl)
    | (apply r_stL; rfl; rfl; rfl; rfl; (first | rfl | (simp only [z_nil, z_add] <;> rfl)); rfl; rfl)
    | (apply r_p; rfl)
    | (apply r_nilK)
    | (apply r_nil)
    | (apply k_V; rfl)
    | (apply k_P; rfl)
    | (apply k_PL; rfl)
    | (apply k_S; rfl)
    | (apply k_SL; rfl)
    | (apply k_A; rfl)
    | (apply k_T; rfl)
    | (apply k_F; rfl)
    | (apply k_D; rfl; rotate_left; rfl)
    | (apply k_nil)
    | (apply e_ret (vs := [.d (.val _)]); rfl)
    | (apply e_ret; rfl)
    | (apply e_ret' (vs := [.d (.val _)]); rfl)
    | (apply e_ret'; rfl)
    | (apply w_seq)
    | (apply w_ops; ((conv => lhs; simp only [Nat.reduceAdd]) <;> rfl))
    | (apply w_condT; rfl)
    | (apply w_condF; rfl)
    | ((apply w_condS; rfl) <;> (intro h; try simp only [decide_eq_true_eq, decide_eq_false_iff_not, Bool.not_eq_true, Bool.not_eq_false] at h))
    | (apply e_thenN)
    | (apply w_block)
    | (apply e_thenR)
    | (apply e_thenX)
    | (apply e_blkN)
    | (apply e_blkR)
    | (apply e_blkE)
    | (apply w_exit)
    | (apply w_ret)
    | (apply w_skip)
    | (apply e_blkE'; rfl))
    apply w_loopI (S := fun i : Nat => ⟨((((Fr.nil.put 2 (.ptrL 2 0)).put 3 (.ptrL 14 0)).put 27 (.d (.sl (encL subs) subs.length))).put 28 (.i subs.length)).put 29 (.i i), rowsOf [(2, zeroA zsN), (14, [.i 4, .d (.val (.int .u64 0)), .d (.val (.int .u64 0)), .d (.val (.int .u64 0)), .d (.val (.int .u64 0)), .i 0, .i 0, .slL 50 0 i 8]), (50, (encL ((xL subs).take i)).map AV.d)], Frz.buts 100 [2, 14, 50], 100⟩) (m := fun i => subs.length - i) (I := fun i => i ≤ subs.length) (i0 := 0)
    · exact Nat.zero_le _
    · refine wkG 50 1000000 true (by omega) (by omega) ?_ ?_ ?_ ?_
      · intro p hp
        simp only [List.mem_cons, List.not_mem_nil, or_false] at hp
        rcases hp with rfl | rfl | rfl
        · exact ⟨by omega, .inr ⟨rfl, _, rfl, .data rfl⟩⟩
        · exact ⟨by omega, .inr ⟨rfl, _, rfl, .cons (.d _) (.cons (.d _) (.cons (.d _) (.cons (.d _) (.cons (.d _) (.cons (.d _) (.cons (.d _) (.cons (.slN _ _ (by omega) rfl) .nil)))))))⟩⟩
        · exact ⟨by omega, .inl ⟨rfl, rfl, rfl⟩⟩
      · intro q hq; simp only [List.mem_cons, List.not_mem_nil, or_false] at hq; rcases hq with rfl | rfl | rfl <;> rfl
      · intro p hp
        simp only [List.mem_cons, List.not_mem_nil, or_false] at hp
        rcases hp with rfl | rfl | rfl <;> (intro _; simp)
      · repeat' (first
    | exact FWk.nil
    | (apply FWk.i; rfl; (first | rfl | omega | (simp; done)))
    | (apply FWk.sl; rfl; rfl; rfl; rfl; omega; rfl)
    | (apply FWk.ptr; rfl; rfl; rfl; omega; rfl)
    | (apply FWk.d; rfl; rfl)
    | (apply FWk.a; rfl; rfl; rfl)
    | (apply FWk.slN; rfl; omega; rfl))
    intro i K hi hK
    dsimp only
    rcases Nat.lt_or_ge i subs.length with hlt | hge
    · have hs := NodeAt.sub hlt
      have hg := ih' i hlt
      have htk := xL_take subs i hlt
      have hrl : ((encL ((xL subs).take i)).map AV.d).length = i * 8 := by
        rw [List.length_map, encL_length, List.length_take, xL_len]; omega
      have hna : [nodeA subs[i]].all AV.nrm = true := by rw [List.all_cons, nodeA_nrm]; rfl
      generalize xT subs[i] = u at hg htk
      generalize subs[i] = v at hs hg hna
      obtain ⟨k2, a2, b2, c2, d2, mn2, mx2, subs2⟩ := u
      obtain ⟨k3, a3, b3, c3, d3, mn3, mx3, subs3⟩ := v
      repeat' (first
    | (apply r_mvV; rfl)
    | (apply r_mvP; rfl)
    | (apply r_mvPL; rfl)
    | (apply r_mvS; rfl)
    | (apply r_mvSL; rfl)
    | (apply r_mvA; rfl)
    | (apply r_mvT; rfl)
    | (apply r_mvF; rfl)
    | (apply r_mvD; rfl)
    | (apply r_faddD; rfl)
    | (apply r_faddL; rfl)
    | (apply r_p; apply ix_sub; rfl; rfl; omega)
    | (apply r_l; apply ld_node'; exact hs; rfl)
    | (apply r_callA (ags := [nodeA (.node k3 a3 b3 c3 d3 mn3 mx3 subs3)]); rfl; exact hna; exact hg)
    | (apply r_ldL (v := nodeA (.node k3 a3 b3 c3 d3 mn3 mx3 subs3)); rfl; rfl; rfl)
    | (apply r_n (v := .slL 109 0 1 8) (r := [.i k2, .d (.val (.int .u64 a2)), .d (.val (.int .u64 b2)), .d (.val (.int .u64 c2)), .d (.val (.int .u64 d2)), .i mn2, .i mx2, .d (.sl (encL subs2) subs2.length)]); rfl)
    | (apply r_appN (b := 50) (c := 109) (id := 110) (m := i) (j := 1) (r := (encL ((xL subs).take i)).map AV.d) (src := [.i k2, .d (.val (.int .u64 a2)), .d (.val (.int .u64 b2)), .d (.val (.int .u64 c2)), .d (.val (.int .u64 d2)), .i mn2, .i mx2, .d (.sl (encL subs2) subs2.length)]); rfl; rfl; rfl; rfl; exact hrl; rfl; rfl; rfl; rfl; omega)
    | (apply r_ldL; rfl; rfl; rfl)
    | (apply r_eql; rfl; rfl; (first | (apply decide_eq_true; omega) | (apply decide_eq_false; omega) | rfl))
    | (apply r_lss; rfl; rfl; (first | (apply decide_eq_true; omega) | (apply decide_eq_false; omega) | rfl))
    | (apply r_add; rfl; rfl; rfl; omega)
    | (apply r_lenD; rfl)
    | (apply r_lenL; rfl)
    | (apply r_len0; rfl)
    | (apply r_alloc; ((conv => lhs; simp only [Nat.reduceAdd]) <;> rfl); rfl)
    | (apply r_box; ((conv => lhs; simp only [Nat.reduceAdd]) <;> rfl); rfl; rfl; rfl)
    | (apply r_stL; rfl; rfl; rfl; rfl; (first | rfl | (simp only [z_nil, z_add] <;> rfl)); rfl; rfl)
    | (apply r_p; rfl)
    | (apply r_nilK)
    | (apply r_nil)
    | (apply k_V; rfl)
    | (apply k_P; rfl)
    | (apply k_PL; rfl)
    | (apply k_S; rfl)
    | (apply k_SL; rfl)
    | (apply k_A; rfl)
    | (apply k_T; rfl)
    | (apply k_F; rfl)
    | (apply k_D; rfl; rotate_left; rfl)
    | (apply k_nil)
    | (apply e_ret (vs := [.d (.val _)]); rfl)
    | (apply e_ret; rfl)
    | (apply e_ret' (vs := [.d (.val _)]); rfl)
    | (apply e_ret'; rfl)
    | (apply w_seq)
    | (apply w_ops; ((conv => lhs; simp only [Nat.reduceAdd]) <;> rfl))
    | (apply w_condT; rfl)
    | (apply w_condF; rfl)
    | ((apply w_condS; rfl) <;> (intro h; try simp only [decide_eq_true_eq, decide_eq_false_iff_not, Bool.not_eq_true, Bool.not_eq_false] at h))
    | (apply e_thenN)
    | (apply w_block)
    | (apply e_thenR)
    | (apply e_thenX)
    | (apply e_blkN)
    | (apply e_blkR)
    | (apply e_blkE)
    | (apply w_exit)
    | (apply w_ret)
    | (apply w_skip)
    | (apply e_blkE'; rfl))
      trace_state
      apply e_thenK
      apply hK (i + 1)
      · omega
      · omega
      · refine wkG 50 110 false (by omega) (by omega) ?_ ?_ ?_ ?_
        · intro p hp
          simp only [List.mem_cons, List.not_mem_nil, or_false] at hp
          rcases hp with rfl | rfl | rfl
          · exact ⟨by omega, .inr ⟨rfl, _, rfl, .data rfl⟩⟩
          · exact ⟨by omega, .inr ⟨rfl, _, rfl, .cons (.d _) (.cons (.d _) (.cons (.d _) (.cons (.d _) (.cons (.d _) (.cons (.d _) (.cons (.d _) (.cons (.slL _ _ _ _ _ rfl (by omega) rfl) .nil)))))))⟩⟩
          · refine ⟨by omega, .inr ⟨rfl, (encL ((xL subs).take (i + 1))).map AV.d, ?_, .data (by rw [List.all_map]; simp [AV.isD])⟩⟩
            rw [htk, List.map_append]; rfl
        · intro q hq; simp only [List.mem_cons, List.not_mem_nil, or_false] at hq; rcases hq with rfl | rfl | rfl <;> rfl
        · intro p hp
          simp only [List.mem_cons, List.not_mem_nil, or_false] at hp
          rcases hp with rfl | rfl | rfl <;> (intro _; simp)
        · repeat' (first
    | exact FWk.nil
    | (apply FWk.i; rfl; (first | rfl | omega | (simp; done)))
    | (apply FWk.sl; rfl; rfl; rfl; rfl; omega; rfl)
    | (apply FWk.ptr; rfl; rfl; rfl; omega; rfl)
    | (apply FWk.d; rfl; rfl)
    | (apply FWk.a; rfl; rfl; rfl)
    | (apply FWk.slN; rfl; omega; rfl))
    · have ei : i = subs.length := by omega
      subst ei
      repeat' (first
    | (apply r_mvV; rfl)
    | (apply r_mvP; rfl)
    | (apply r_mvPL; rfl)
    | (apply r_mvS; rfl)
    | (apply r_mvSL; rfl)
    | (apply r_mvA; rfl)
    | (apply r_mvT; rfl)
    | (apply r_mvF; rfl)
    | (apply r_mvD; rfl)
    | (apply r_faddD; rfl)
    | (apply r_faddL; rfl)
    | (apply r_ldL (v := .agg [.i 4, .d (.val (.int .u64 0)), .d (.val (.int .u64 0)), .d (.val (.int .u64 0)), .d (.val (.int .u64 0)), .i 0, .i 0, .slL 50 0 subs.length 8]); rfl; rfl; rfl)
    | (apply r_ldL; rfl; rfl; rfl)
    | (apply r_eql; rfl; rfl; (first | (apply decide_eq_true; omega) | (apply decide_eq_false; omega) | rfl))
    | (apply r_lss; rfl; rfl; (first | (apply decide_eq_true; omega) | (apply decide_eq_false; omega) | rfl))
    | (apply r_add; rfl; rfl; rfl; omega)
    | (apply r_lenD; rfl)
    | (apply r_lenL; rfl)
    | (apply r_len0; rfl)
    | (apply r_alloc; ((conv => lhs; simp only [Nat.reduceAdd]) <;> rfl); rfl)
    | (apply r_box; ((conv => lhs; simp only [Nat.reduceAdd]) <;> rfl); rfl; rfl; rfl)
    | (apply r_stL; rfl; rfl; rfl; rfl; (first | rfl | (simp only [z_nil, z_add] <;> rfl)); rfl; rfl)
    | (apply r_p; rfl)
    | (apply r_nilK)
    | (apply r_nil)
    | (apply k_V; rfl)
    | (apply k_P; rfl)
    | (apply k_PL; rfl)
    | (apply k_S; rfl)
    | (apply k_SL; rfl)
    | (apply k_A; rfl)
    | (apply k_T; rfl)
    | (apply k_F; rfl)
    | (apply k_D; rfl; rotate_left; rfl)
    | (apply k_nil)
    | (apply e_ret (vs := [.d (.val _)]); rfl)
    | (apply e_ret; rfl)
    | (apply e_ret' (vs := [.d (.val _)]); rfl)
    | (apply e_ret'; rfl)
    | (apply w_seq)
    | (apply w_ops; ((conv => lhs; simp only [Nat.reduceAdd]) <;> rfl))
    | (apply w_condT; rfl)
    | (apply w_condF; rfl)
    | ((apply w_condS; rfl) <;> (intro h; try simp only [decide_eq_true_eq, decide_eq_false_iff_not, Bool.not_eq_true, Bool.not_eq_false] at h))
    | (apply e_thenN)
    | (apply w_block)
    | (apply e_thenR)
    | (apply e_thenX)
    | (apply e_blkN)
    | (apply e_blkR)
    | (apply e_blkE)
    | (apply w_exit)
    | (apply w_ret)
    | (apply w_skip)
    | (apply e_blkE'; rfl))
      refine ret_catK (id := 50) (row := (encL ((xL subs).take subs.length)).map AV.d) (us := []) rfl (xL_len _) (by rw [List.length_map, encL_length, List.length_take, xL_len]; omega) hl0 ?_
      rw [List.take_of_length_le (by rw [xL_len]; omega)]
      exact mapO_encL _
end Go.Sv
namespace Go.Sv
open Go Go.Proofs
set_option maxRecDepth 100000
theorem awake13_ev : evF tabC (spP 100) 100 40 56 [] none = some (.b true, none, none) := by kernel_rfl
theorem awake13_good : Good Try.prog 56 [] none (.b true) none none := evF_sound tabC_ok (spP_ok 100) 40 56 [] none _ _ _ awake13_ev
end Go.Sv
namespace Go.Sv
open Go Go.Proofs
def x17 : XC := (.seq (.ops 2 [
    (0, ⟨(some 1), none, .box (.t 0)⟩),
    (1, ⟨(some 2), none, .mv (.k (.d (.val (.bool false))))⟩)] (some [1])) (.seq (.seq (.ops 12 [
    (0, ⟨(some 8), none, .call 56 [] none false⟩),
    (1, ⟨(some 9), none, .un .not (.t 8)⟩),
    (2, ⟨(some 10), none, .mv (.t 9)⟩),
    (3, ⟨(some 11), (some (10, false)), .load (some 8) (.t 1)⟩),
    (4, ⟨(some 12), (some (10, false)), .call 45 [(.t 11)] none false⟩),
    (5, ⟨(some 13), (some (10, false)), .un .not (.t 12)⟩),
    (6, ⟨(some 14), none, .pick (.t 10) (.k (.d (.val (.bool true)))) (.t 13)⟩),
    (7, ⟨(some 15), none, .mv (.t 14)⟩),
    (8, ⟨(some 16), (some (15, false)), .load (some 8) (.t 1)⟩),
    (9, ⟨(some 17), (some (15, false)), .call 32 [(.t 16)] none false⟩),
    (10, ⟨(some 18), (some (15, false)), .un .not (.t 17)⟩),
    (11, ⟨(some 19), none, .pick (.t 15) (.k (.d (.val (.bool true)))) (.t 18)⟩)] (some [1, 19])) (.cond (.t 19) (.seq (.ops 2 [
    (0, ⟨(some 20), none, .call 56 [] none false⟩),
    (1, ⟨(some 2), none, .mv (.t 20)⟩)] (some [2])) .ret) .skip)) (.seq (.ops 3 [
    (0, ⟨(some 21), none, .load (some 8) (.t 1)⟩),
    (1, ⟨(some 22), none, .call 38 [(.t 21)] none false⟩),
    (2, ⟨(some 3), none, .mv (.t 22)⟩)] (some [1, 3])) (.seq (.ops 9 [
    (0, ⟨(some 24), none, .load (some 8) (.t 1)⟩),
    (1, ⟨(some 25), none, .mv (.t 3)⟩),
    (2, ⟨(some 26), none, .call 57 [(.t 24), (.t 25)] none false⟩),
    (3, ⟨(some 23), none, .mv (.t 26)⟩),
    (4, ⟨(some 27), none, .ext (.t 23) 0⟩),
    (5, ⟨(some 28), none, .ext (.t 23) 1⟩),
    (6, ⟨(some 4), none, .alloc [(.int .i64 0), (.int .u64 0), (.int .u64 0), (.int .u64 0), (.int .u64 0), (.int .i64 0), (.int .i64 0), (.slice none 0 0)]⟩),
    (7, ⟨none, none, .store 8 (.t 4) (.t 27)⟩),
    (8, ⟨(some 5), none, .mv (.t 28)⟩)] (some [1, 3, 5])) (.seq (.ops 10 [
    (0, ⟨(some 30), none, .load (some 8) (.t 1)⟩),
    (1, ⟨(some 31), none, .mv (.t 3)⟩),
    (2, ⟨(some 32), none, .arith .sub (.t 31) (.k (.d (.val (.int .i64 1))))⟩),
    (3, ⟨(some 33), none, .call 57 [(.t 30), (.t 32)] none false⟩),
    (4, ⟨(some 29), none, .mv (.t 33)⟩),
    (5, ⟨(some 34), none, .ext (.t 29) 0⟩),
    (6, ⟨(some 35), none, .ext (.t 29) 1⟩),
    (7, ⟨(some 6), none, .alloc [(.int .i64 0), (.int .u64 0), (.int .u64 0), (.int .u64 0), (.int .u64 0), (.int .i64 0), (.int .i64 0), (.slice none 0 0)]⟩),
    (8, ⟨none, none, .store 8 (.t 6) (.t 34)⟩),
    (9, ⟨(some 7), none, .mv (.t 35)⟩)] (some [3, 5, 7])) (.seq (.ops 18 [
    (0, ⟨(some 36), none, .mv (.t 5)⟩),
    (1, ⟨(some 37), none, .arith .eql (.t 36) (.k (.d (.val (.int .i64 0))))⟩),
    (2, ⟨(some 38), none, .mv (.t 3)⟩),
    (3, ⟨(some 39), none, .arith .leq (.t 38) (.k (.d (.val (.int .i64 400))))⟩),
    (4, ⟨(some 40), none, .beq false (.t 37) (.t 39)⟩),
    (5, ⟨(some 41), none, .mv (.t 40)⟩),
    (6, ⟨(some 42), (some (41, true)), .mv (.t 7)⟩),
    (7, ⟨(some 43), (some (41, true)), .arith .eql (.t 42) (.k (.d (.val (.int .i64 11))))⟩),
    (8, ⟨(some 44), none, .pick (.t 41) (.t 43) (.k (.d (.val (.bool false))))⟩),
    (9, ⟨(some 45), none, .mv (.t 44)⟩),
    (10, ⟨(some 46), (some (45, true)), .mv (.t 5)⟩),
    (11, ⟨(some 47), (some (45, true)), .arith .eql (.t 46) (.k (.d (.val (.int .i64 0))))⟩),
    (12, ⟨(some 48), (some (45, true)), .mv (.t 47)⟩),
    (13, ⟨(some 49), (some (48, false)), .mv (.t 5)⟩),
    (14, ⟨(some 50), (some (48, false)), .arith .eql (.t 49) (.k (.d (.val (.int .i64 11))))⟩),
    (15, ⟨(some 51), (some (45, true)), .pick (.t 48) (.k (.d (.val (.bool true)))) (.t 50)⟩),
    (16, ⟨(some 52), none, .pick (.t 45) (.t 51) (.k (.d (.val (.bool false))))⟩),
    (17, ⟨(some 2), none, .mv (.t 52)⟩)] (some [2])) .ret))))))
def md17 : FuncId → Option Nat × Bool
  | _ => (none, false)
def od17 : Nat → List (List Nat) × List Nat × Option (List Nat)
  | 0 => ([], [], some [1])
  | 1 => ([], [], some [1, 19])
  | 2 => ([], [], some [2])
  | 3 => ([], [], some [1, 3])
  | 4 => ([], [], some [1, 3, 5])
  | 5 => ([], [], some [3, 5, 7])
  | 6 => ([], [], some [2])
  | _ => ([], [], none)
theorem b17 {ags : List AV} {row : Option (List DV)} {r : AV} {row' nw : Option (List DV)} (hal : ags.length ≤ 53) (hrow : row'.isSome = true → row.isSome = true) (h : xwp Try.prog x17 (retK [.tmp 2] row.isSome r row' nw) (St.init ags row)) : Good Try.prog 17 ags row r row' nw :=
  good_of_body' (md := md17) (od := od17) Try.f17 (by kernel_rfl) (by kernel_rfl) (by kernel_rfl) (by kernel_rfl) (by kernel_rfl) hal hrow h

set_option maxRecDepth 100000
set_option maxHeartbeats 4000000
attribute [local irreducible] W E R KP thenK blockK retK Good xwp aRun
def zT : T := .node 0 0 0 0 0 0 0 []
def eE (t : T) (n : Int) : Int := if fitsT t 12 = true then (if min n 400 < wideT t then 11 else 0) else 1
def eN (t : T) (n : Int) : T := if eE t n = 0 then xT t else zT
theorem xPlain_good (t : T) (hc : t.cnt ≤ 1000000) (hok : fitsT t 12 = true → okT t) (n : Int) : Good Try.prog 57 [nodeA t, .i n] none (.tup [nodeA (eN t n), .i (eE t n)]) none none := by
  have hright := right_good t hc
  have hw := mWide_good t hc hok
  rcases Bool.eq_false_or_eq_true (fitsT t 12) with hR | hR
  case inr =>
    have e1 : eE t n = 1 := by simp [eE, hR]
    have e2 : eN t n = zT := by simp [eN, e1]
    rw [e1, e2]
    rw [hR] at hright
    clear e1 e2 hw hok hc hR
    obtain ⟨k, a, b, c, d, mn, mx, subs⟩ := t
    have e0 : nodeA (.node k a b c d mn mx subs) = .agg [.i k, .d (.val (.int .u64 a)), .d (.val (.int .u64 b)), .d (.val (.int .u64 c)), .d (.val (.int .u64 d)), .i mn, .i mx, .d (.sl (encL subs) subs.length)] := rfl
    rw [e0] at hright ⊢
    refine b57 (by simp) (by simp) (w_init ?_)
    unfold x57
    repeat' (first
    | (apply r_mvV; rfl)
    | (apply r_mvP; rfl)
    | (apply r_mvPL; rfl)
    | (apply r_mvS; rfl)
    | (apply r_mvSL; rfl)
    | (apply r_mvA; rfl)
    | (apply r_mvT; rfl)
    | (apply r_mvF; rfl)
    | (apply r_mvD; rfl)
    | (apply r_l; apply ld_kind; assumption; rfl)
    | (apply r_l; apply ld_mn; assumption; rfl)
    | (apply r_l; apply ld_mx; assumption; rfl)
    | (apply r_l; apply ld_subs; assumption; rfl)
    | (apply r_l; apply ld_set; assumption; rfl)
    | (apply r_l; apply ld_node; assumption; rfl)
    | (apply r_l; apply ld_kind'; assumption; rfl)
    | (apply r_l; apply ld_mn'; assumption; rfl)
    | (apply r_l; apply ld_mx'; assumption; rfl)
    | (apply r_l; apply ld_subs'; assumption; rfl)
    | (apply r_l; apply ld_node'; assumption; rfl)
    | (apply r_callA; rfl; rfl; exact hright)
    | (apply r_ldL; rfl; rfl; rfl)
    | (apply r_gtr; rfl; rfl; (first | (apply decide_eq_true; omega) | (apply decide_eq_false; omega) | rfl))
    | (apply r_min2; rfl; rfl; rfl)
    | (apply r_not; rfl; rfl)
    | (apply r_alloc; ((conv => lhs; simp only [Nat.reduceAdd]) <;> rfl); rfl)
    | (apply r_box; ((conv => lhs; simp only [Nat.reduceAdd]) <;> rfl); rfl; rfl; rfl)
    | (apply r_stL; rfl; rfl; rfl; rfl; (first | rfl | (simp only [z_nil, z_add] <;> rfl)); rfl; rfl)
    | (apply r_p; rfl)
    | (apply r_nilK)
    | (apply r_nil)
    | (apply k_V; rfl)
    | (apply k_P; rfl)
    | (apply k_PL; rfl)
    | (apply k_S; rfl)
    | (apply k_SL; rfl)
    | (apply k_A; rfl)
    | (apply k_T; rfl)
    | (apply k_F; rfl)
    | (apply k_D; rfl; rotate_left; rfl)
    | (apply k_nil)
    | (apply e_ret (vs := [.d (.val _)]); rfl)
    | (apply e_ret; rfl)
    | (apply e_ret' (vs := [.d (.val _)]); rfl)
    | (apply e_ret'; rfl)
    | (apply w_seq)
    | (apply w_ops; ((conv => lhs; simp only [Nat.reduceAdd]) <;> rfl))
    | (apply w_condT; rfl)
    | (apply w_condF; rfl)
    | ((apply w_condS; rfl) <;> (intro h; try simp only [decide_eq_true_eq, decide_eq_false_iff_not, Bool.not_eq_true, Bool.not_eq_false] at h))
    | (apply e_thenN)
    | (apply w_block)
    | (apply e_thenR)
    | (apply e_thenX)
    | (apply e_blkN)
    | (apply e_blkR)
    | (apply e_blkE)
    | (apply w_exit)
    | (apply w_ret)
    | (apply w_skip)
    | (apply e_blkE'; rfl))
    exact .data _ rfl
  rw [hR] at hright
  rw [if_pos hR] at hw
  by_cases hb : min n 400 < wideT t
  · have e1 : eE t n = 11 := by simp only [eE, hR, hb, if_true]
    have e2 : eN t n = zT := by simp [eN, e1]
    rw [e1, e2]
    clear e1 e2 hok hc hR
    generalize wideT t = w at hw hb
    obtain ⟨k, a, b, c, d, mn, mx, subs⟩ := t
    have e0 : nodeA (.node k a b c d mn mx subs) = .agg [.i k, .d (.val (.int .u64 a)), .d (.val (.int .u64 b)), .d (.val (.int .u64 c)), .d (.val (.int .u64 d)), .i mn, .i mx, .d (.sl (encL subs) subs.length)] := rfl
    rw [e0] at hright hw ⊢
    refine b57 (by simp) (by simp) (w_init ?_)
    unfold x57
    repeat' (first
    | (apply r_mvV; rfl)
    | (apply r_mvP; rfl)
    | (apply r_mvPL; rfl)
    | (apply r_mvS; rfl)
    | (apply r_mvSL; rfl)
    | (apply r_mvA; rfl)
    | (apply r_mvT; rfl)
    | (apply r_mvF; rfl)
    | (apply r_mvD; rfl)
    | (apply r_l; apply ld_kind; assumption; rfl)
    | (apply r_l; apply ld_mn; assumption; rfl)
    | (apply r_l; apply ld_mx; assumption; rfl)
    | (apply r_l; apply ld_subs; assumption; rfl)
    | (apply r_l; apply ld_set; assumption; rfl)
    | (apply r_l; apply ld_node; assumption; rfl)
    | (apply r_l; apply ld_kind'; assumption; rfl)
    | (apply r_l; apply ld_mn'; assumption; rfl)
    | (apply r_l; apply ld_mx'; assumption; rfl)
    | (apply r_l; apply ld_subs'; assumption; rfl)
    | (apply r_l; apply ld_node'; assumption; rfl)
    | (apply r_callA; rfl; rfl; exact hright)
    | (apply r_callA; rfl; rfl; exact hw)
    | (apply r_ldL; rfl; rfl; rfl)
    | (apply r_gtr; rfl; rfl; (first | (apply decide_eq_true; omega) | (apply decide_eq_false; omega) | rfl))
    | (apply r_min2; rfl; rfl; rfl)
    | (apply r_not; rfl; rfl)
    | (apply r_alloc; ((conv => lhs; simp only [Nat.reduceAdd]) <;> rfl); rfl)
    | (apply r_box; ((conv => lhs; simp only [Nat.reduceAdd]) <;> rfl); rfl; rfl; rfl)
    | (apply r_stL; rfl; rfl; rfl; rfl; (first | rfl | (simp only [z_nil, z_add] <;> rfl)); rfl; rfl)
    | (apply r_p; rfl)
    | (apply r_nilK)
    | (apply r_nil)
    | (apply k_V; rfl)
    | (apply k_P; rfl)
    | (apply k_PL; rfl)
    | (apply k_S; rfl)
    | (apply k_SL; rfl)
    | (apply k_A; rfl)
    | (apply k_T; rfl)
    | (apply k_F; rfl)
    | (apply k_D; rfl; rotate_left; rfl)
    | (apply k_nil)
    | (apply e_ret (vs := [.d (.val _)]); rfl)
    | (apply e_ret; rfl)
    | (apply e_ret' (vs := [.d (.val _)]); rfl)
    | (apply e_ret'; rfl)
    | (apply w_seq)
    | (apply w_ops; ((conv => lhs; simp only [Nat.reduceAdd]) <;> rfl))
    | (apply w_condT; rfl)
    | (apply w_condF; rfl)
    | ((apply w_condS; rfl) <;> (intro h; try simp only [decide_eq_true_eq, decide_eq_false_iff_not, Bool.not_eq_true, Bool.not_eq_false] at h))
    | (apply e_thenN)
    | (apply w_block)
    | (apply e_thenR)
    | (apply e_thenX)
    | (apply e_blkN)
    | (apply e_blkR)
    | (apply e_blkE)
    | (apply w_exit)
    | (apply w_ret)
    | (apply w_skip)
    | (apply e_blkE'; rfl))
    exact .data _ rfl
  · have e1 : eE t n = 0 := by simp only [eE, hR, hb, if_true, if_false]
    have e2 : eN t n = xT t := by simp only [eN, e1, if_true]
    rw [e1, e2]
    have hx := xplain_good 1000000 t hc (Nat.le_refl _) (hok hR)
    clear e1 e2 hok hc hR
    generalize wideT t = w at hw hb
    generalize xT t = u at hx
    obtain ⟨k2, a2, b2, c2, d2, mn2, mx2, subs2⟩ := u
    obtain ⟨k, a, b, c, d, mn, mx, subs⟩ := t
    have e0 : nodeA (.node k a b c d mn mx subs) = .agg [.i k, .d (.val (.int .u64 a)), .d (.val (.int .u64 b)), .d (.val (.int .u64 c)), .d (.val (.int .u64 d)), .i mn, .i mx, .d (.sl (encL subs) subs.length)] := rfl
    rw [e0] at hright hw hx ⊢
    refine b57 (by simp) (by simp) (w_init ?_)
    unfold x57
    repeat' (first
    | (apply r_mvV; rfl)
    | (apply r_mvP; rfl)
    | (apply r_mvPL; rfl)
    | (apply r_mvS; rfl)
    | (apply r_mvSL; rfl)
    | (apply r_mvA; rfl)
    | (apply r_mvT; rfl)
    | (apply r_mvF; rfl)
    | (apply r_mvD; rfl)
    | (apply r_l; apply ld_kind; assumption; rfl)
    | (apply r_l; apply ld_mn; assumption; rfl)
    | (apply r_l; apply ld_mx; assumption; rfl)
    | (apply r_l; apply ld_subs; assumption; rfl)
    | (apply r_l; apply ld_set; assumption; rfl)
    | (apply r_l; apply ld_node; assumption; rfl)
    | (apply r_l; apply ld_kind'; assumption; rfl)
    | (apply r_l; apply ld_mn'; assumption; rfl)
    | (apply r_l; apply ld_mx'; assumption; rfl)
    | (apply r_l; apply ld_subs'; assumption; rfl)
    | (apply r_l; apply ld_node'; assumption; rfl)
    | (apply r_callA; rfl; rfl; exact hright)
    | (apply r_callA; rfl; rfl; exact hw)
    | (apply r_callA; rfl; rfl; exact hx)
    | (apply r_ldL; rfl; rfl; rfl)
    | (apply r_gtr; rfl; rfl; (first | (apply decide_eq_true; omega) | (apply decide_eq_false; omega) | rfl))
    | (apply r_min2; rfl; rfl; rfl)
    | (apply r_not; rfl; rfl)
    | (apply r_alloc; ((conv => lhs; simp only [Nat.reduceAdd]) <;> rfl); rfl)
    | (apply r_box; ((conv => lhs; simp only [Nat.reduceAdd]) <;> rfl); rfl; rfl; rfl)
    | (apply r_stL; rfl; rfl; rfl; rfl; (first | rfl | (simp only [z_nil, z_add] <;> rfl)); rfl; rfl)
    | (apply r_p; rfl)
    | (apply r_nilK)
    | (apply r_nil)
    | (apply k_V; rfl)
    | (apply k_P; rfl)
    | (apply k_PL; rfl)
    | (apply k_S; rfl)
    | (apply k_SL; rfl)
    | (apply k_A; rfl)
    | (apply k_T; rfl)
    | (apply k_F; rfl)
    | (apply k_D; rfl; rotate_left; rfl)
    | (apply k_nil)
    | (apply e_ret (vs := [.d (.val _)]); rfl)
    | (apply e_ret; rfl)
    | (apply e_ret' (vs := [.d (.val _)]); rfl)
    | (apply e_ret'; rfl)
    | (apply w_seq)
    | (apply w_ops; ((conv => lhs; simp only [Nat.reduceAdd]) <;> rfl))
    | (apply w_condT; rfl)
    | (apply w_condF; rfl)
    | ((apply w_condS; rfl) <;> (intro h; try simp only [decide_eq_true_eq, decide_eq_false_iff_not, Bool.not_eq_true, Bool.not_eq_false] at h))
    | (apply e_thenN)
    | (apply w_block)
    | (apply e_thenR)
    | (apply e_thenX)
    | (apply e_blkN)
    | (apply e_blkR)
    | (apply e_blkE)
    | (apply w_exit)
    | (apply w_ret)
    | (apply w_skip)
    | (apply e_blkE'; rfl))
    exact .data _ rfl
theorem law17 (t : T) (ht : inT t) : Good Try.prog 17 [nodeA t] none (.b true) none none := by
  have haw := awake13_good
  have h45 := few_good t
  by_cases hf : sizeT t 601 ≤ 200
  case neg =>
    rw [show decide (sizeT t 601 ≤ 200) = false by simp [hf]] at h45
    clear ht hf
    obtain ⟨k, a, b, c, d, mn, mx, subs⟩ := t
    have e0 : nodeA (.node k a b c d mn mx subs) = .agg [.i k, .d (.val (.int .u64 a)), .d (.val (.int .u64 b)), .d (.val (.int .u64 c)), .d (.val (.int .u64 d)), .i mn, .i mx, .d (.sl (encL subs) subs.length)] := rfl
    rw [e0] at h45 ⊢
    refine b17 (by simp) (by simp) (w_init ?_)
    unfold x17
    repeat' (first
    | (apply r_mvV; rfl)
    | (apply r_mvP; rfl)
    | (apply r_mvPL; rfl)
    | (apply r_mvS; rfl)
    | (apply r_mvSL; rfl)
    | (apply r_mvA; rfl)
    | (apply r_mvT; rfl)
    | (apply r_mvF; rfl)
    | (apply r_mvD; rfl)
    | (apply r_l; apply ld_kind; assumption; rfl)
    | (apply r_l; apply ld_mn; assumption; rfl)
    | (apply r_l; apply ld_mx; assumption; rfl)
    | (apply r_l; apply ld_subs; assumption; rfl)
    | (apply r_l; apply ld_set; assumption; rfl)
    | (apply r_l; apply ld_node; assumption; rfl)
    | (apply r_l; apply ld_kind'; assumption; rfl)
    | (apply r_l; apply ld_mn'; assumption; rfl)
    | (apply r_l; apply ld_mx'; assumption; rfl)
    | (apply r_l; apply ld_subs'; assumption; rfl)
    | (apply r_l; apply ld_node'; assumption; rfl)
    | (apply r_callA (ags := []); rfl; rfl; exact haw)
    | (apply r_callA; rfl; rfl; exact h45)
    | (apply r_ldL; rfl; rfl; rfl)
    | (apply r_eql; rfl; rfl; (first | (apply decide_eq_true; omega) | (apply decide_eq_false; omega) | rfl))
    | (apply r_leq; rfl; rfl; (first | (apply decide_eq_true; omega) | (apply decide_eq_false; omega) | rfl))
    | (apply r_sub; rfl; rfl; rfl; omega)
    | (apply r_not; rfl; rfl)
    | (apply r_beq; rfl; rfl; rfl)
    | (apply r_pickT; rfl)
    | (apply r_pickF; rfl)
    | (apply r_ext; rfl; rfl)
    | (apply r_gT; rfl)
    | (apply r_gF'; rfl; rfl)
    | (apply r_gN'; rfl)
    | ((apply r_gS (o := default); rfl) <;> (intro h; try simp only [decide_eq_true_eq, decide_eq_false_iff_not, Bool.not_eq_true, Bool.not_eq_false] at h))
    | (apply r_alloc; ((conv => lhs; simp only [Nat.reduceAdd]) <;> rfl); rfl)
    | (apply r_box; ((conv => lhs; simp only [Nat.reduceAdd]) <;> rfl); rfl; rfl; rfl)
    | (apply r_stL; rfl; rfl; rfl; rfl; (first | rfl | (simp only [z_nil, z_add] <;> rfl)); rfl; rfl)
    | (apply r_nilK)
    | (apply r_nil)
    | (apply k_V; rfl)
    | (apply k_P; rfl)
    | (apply k_PL; rfl)
    | (apply k_S; rfl)
    | (apply k_SL; rfl)
    | (apply k_A; rfl)
    | (apply k_T; rfl)
    | (apply k_F; rfl)
    | (apply k_D; rfl; rotate_left; rfl)
    | (apply k_nil)
    | (apply e_ret (vs := [.d (.val _)]); rfl)
    | (apply e_ret; rfl)
    | (apply e_ret' (vs := [.d (.val _)]); rfl)
    | (apply e_ret'; rfl)
    | (apply w_seq)
    | (apply w_ops; ((conv => lhs; simp only [Nat.reduceAdd]) <;> rfl))
    | (apply w_condT; rfl)
    | (apply w_condF; rfl)
    | ((apply w_condS; rfl) <;> (intro h; try simp only [decide_eq_true_eq, decide_eq_false_iff_not, Bool.not_eq_true, Bool.not_eq_false] at h))
    | (apply e_thenN)
    | (apply w_block)
    | (apply e_thenR)
    | (apply e_thenX)
    | (apply e_blkN)
    | (apply e_blkR)
    | (apply e_blkE)
    | (apply w_exit)
    | (apply w_ret)
    | (apply w_skip)
    | (apply e_blkE'; rfl))
    exact retB rfl
  have hc := few_cnt hf
  have h32 := right8_good t (by omega)
  rw [show decide (sizeT t 601 ≤ 200) = true by simp [hf]] at h45
  by_cases hr : rightT t = true
  case neg =>
    have hr : rightT t = false := by simpa using hr
    rw [hr] at h32
    clear ht hf hc hr
    obtain ⟨k, a, b, c, d, mn, mx, subs⟩ := t
    have e0 : nodeA (.node k a b c d mn mx subs) = .agg [.i k, .d (.val (.int .u64 a)), .d (.val (.int .u64 b)), .d (.val (.int .u64 c)), .d (.val (.int .u64 d)), .i mn, .i mx, .d (.sl (encL subs) subs.length)] := rfl
    rw [e0] at h45 h32 ⊢
    refine b17 (by simp) (by simp) (w_init ?_)
    unfold x17
    repeat' (first
    | (apply r_mvV; rfl)
    | (apply r_mvP; rfl)
    | (apply r_mvPL; rfl)
    | (apply r_mvS; rfl)
    | (apply r_mvSL; rfl)
    | (apply r_mvA; rfl)
    | (apply r_mvT; rfl)
    | (apply r_mvF; rfl)
    | (apply r_mvD; rfl)
    | (apply r_l; apply ld_kind; assumption; rfl)
    | (apply r_l; apply ld_mn; assumption; rfl)
    | (apply r_l; apply ld_mx; assumption; rfl)
    | (apply r_l; apply ld_subs; assumption; rfl)
    | (apply r_l; apply ld_set; assumption; rfl)
    | (apply r_l; apply ld_node; assumption; rfl)
    | (apply r_l; apply ld_kind'; assumption; rfl)
    | (apply r_l; apply ld_mn'; assumption; rfl)
    | (apply r_l; apply ld_mx'; assumption; rfl)
    | (apply r_l; apply ld_subs'; assumption; rfl)
    | (apply r_l; apply ld_node'; assumption; rfl)
    | (apply r_callA (ags := []); rfl; rfl; exact haw)
    | (apply r_callA; rfl; rfl; exact h45)
    | (apply r_callA; rfl; rfl; exact h32)
    | (apply r_ldL; rfl; rfl; rfl)
    | (apply r_eql; rfl; rfl; (first | (apply decide_eq_true; omega) | (apply decide_eq_false; omega) | rfl))
    | (apply r_leq; rfl; rfl; (first | (apply decide_eq_true; omega) | (apply decide_eq_false; omega) | rfl))
    | (apply r_sub; rfl; rfl; rfl; omega)
    | (apply r_not; rfl; rfl)
    | (apply r_beq; rfl; rfl; rfl)
    | (apply r_pickT; rfl)
    | (apply r_pickF; rfl)
    | (apply r_ext; rfl; rfl)
    | (apply r_gT; rfl)
    | (apply r_gF'; rfl; rfl)
    | (apply r_gN'; rfl)
    | ((apply r_gS (o := default); rfl) <;> (intro h; try simp only [decide_eq_true_eq, decide_eq_false_iff_not, Bool.not_eq_true, Bool.not_eq_false] at h))
    | (apply r_alloc; ((conv => lhs; simp only [Nat.reduceAdd]) <;> rfl); rfl)
    | (apply r_box; ((conv => lhs; simp only [Nat.reduceAdd]) <;> rfl); rfl; rfl; rfl)
    | (apply r_stL; rfl; rfl; rfl; rfl; (first | rfl | (simp only [z_nil, z_add] <;> rfl)); rfl; rfl)
    | (apply r_nilK)
    | (apply r_nil)
    | (apply k_V; rfl)
    | (apply k_P; rfl)
    | (apply k_PL; rfl)
    | (apply k_S; rfl)
    | (apply k_SL; rfl)
    | (apply k_A; rfl)
    | (apply k_T; rfl)
    | (apply k_F; rfl)
    | (apply k_D; rfl; rotate_left; rfl)
    | (apply k_nil)
    | (apply e_ret (vs := [.d (.val _)]); rfl)
    | (apply e_ret; rfl)
    | (apply e_ret' (vs := [.d (.val _)]); rfl)
    | (apply e_ret'; rfl)
    | (apply w_seq)
    | (apply w_ops; ((conv => lhs; simp only [Nat.reduceAdd]) <;> rfl))
    | (apply w_condT; rfl)
    | (apply w_condF; rfl)
    | ((apply w_condS; rfl) <;> (intro h; try simp only [decide_eq_true_eq, decide_eq_false_iff_not, Bool.not_eq_true, Bool.not_eq_false] at h))
    | (apply e_thenN)
    | (apply w_block)
    | (apply e_thenR)
    | (apply e_thenX)
    | (apply e_blkN)
    | (apply e_blkR)
    | (apply e_blkE)
    | (apply w_exit)
    | (apply w_ret)
    | (apply w_skip)
    | (apply e_blkE'; rfl))
    exact retB rfl
  rw [hr] at h32
  have hfi : fitsT t 12 = true := by rw [← right_fits]; exact hr
  have hok : okT t := ok_of_right ht hr
  have h38 := wide_good 1000000 t (by omega) (by omega) hok
  have hwi := wideT_in t hok
  have hp1 := xPlain_good t (by omega) (fun _ => hok) (wideT t)
  have hp2 := xPlain_good t (by omega) (fun _ => hok) (wideT t - 1)
  have e2 : eE t (wideT t - 1) = 11 := by simp only [eE, hfi, if_true]; rw [if_pos (by omega)]
  have e1 : eE t (wideT t) = if wideT t ≤ 400 then 0 else 11 := by
    simp only [eE, hfi, if_true]
    by_cases h : wideT t ≤ 400
    · rw [if_pos h, if_neg (by omega)]
    · rw [if_neg h, if_pos (by omega)]
  rw [e2] at hp2
  rw [e1] at hp1
  generalize eN t (wideT t) = u1 at hp1
  generalize eN t (wideT t - 1) = u2 at hp2
  clear e1 e2 ht hf hc hr hfi hok
  generalize wideT t = w at h38 hwi hp1 hp2
  obtain ⟨k1, a1, b1, c1, d1, mn1, mx1, subs1⟩ := u1
  obtain ⟨k2, a2, b2, c2, d2, mn2, mx2, subs2⟩ := u2
  by_cases hw : w ≤ 400
  · rw [if_pos hw] at hp1
    obtain ⟨k, a, b, c, d, mn, mx, subs⟩ := t
    have e0 : nodeA (.node k a b c d mn mx subs) = .agg [.i k, .d (.val (.int .u64 a)), .d (.val (.int .u64 b)), .d (.val (.int .u64 c)), .d (.val (.int .u64 d)), .i mn, .i mx, .d (.sl (encL subs) subs.length)] := rfl
    rw [e0] at h45 h32 h38 hp1 hp2 ⊢
    refine b17 (by simp) (by simp) (w_init ?_)
    unfold x17
    repeat' (first
    | (apply r_mvV; rfl)
    | (apply r_mvP; rfl)
    | (apply r_mvPL; rfl)
    | (apply r_mvS; rfl)
    | (apply r_mvSL; rfl)
    | (apply r_mvA; rfl)
    | (apply r_mvT; rfl)
    | (apply r_mvF; rfl)
    | (apply r_mvD; rfl)
    | (apply r_l; apply ld_kind; assumption; rfl)
    | (apply r_l; apply ld_mn; assumption; rfl)
    | (apply r_l; apply ld_mx; assumption; rfl)
    | (apply r_l; apply ld_subs; assumption; rfl)
    | (apply r_l; apply ld_set; assumption; rfl)
    | (apply r_l; apply ld_node; assumption; rfl)
    | (apply r_l; apply ld_kind'; assumption; rfl)
    | (apply r_l; apply ld_mn'; assumption; rfl)
    | (apply r_l; apply ld_mx'; assumption; rfl)
    | (apply r_l; apply ld_subs'; assumption; rfl)
    | (apply r_l; apply ld_node'; assumption; rfl)
    | (apply r_callA (ags := []); rfl; rfl; exact haw)
    | (apply r_callA; rfl; rfl; exact h45)
    | (apply r_callA; rfl; rfl; exact h32)
    | (apply r_callA; rfl; rfl; exact h38)
    | (apply r_callA; rfl; rfl; exact hp1)
    | (apply r_callA; rfl; rfl; exact hp2)
    | (apply r_ldL; rfl; rfl; rfl)
    | (apply r_eql; rfl; rfl; (first | (apply decide_eq_true; omega) | (apply decide_eq_false; omega) | rfl))
    | (apply r_leq; rfl; rfl; (first | (apply decide_eq_true; omega) | (apply decide_eq_false; omega) | rfl))
    | (apply r_sub; rfl; rfl; rfl; omega)
    | (apply r_not; rfl; rfl)
    | (apply r_beq; rfl; rfl; rfl)
    | (apply r_pickT; rfl)
    | (apply r_pickF; rfl)
    | (apply r_ext; rfl; rfl)
    | (apply r_gT; rfl)
    | (apply r_gF'; rfl; rfl)
    | (apply r_gN'; rfl)
    | ((apply r_gS (o := default); rfl) <;> (intro h; try simp only [decide_eq_true_eq, decide_eq_false_iff_not, Bool.not_eq_true, Bool.not_eq_false] at h))
    | (apply r_alloc; ((conv => lhs; simp only [Nat.reduceAdd]) <;> rfl); rfl)
    | (apply r_box; ((conv => lhs; simp only [Nat.reduceAdd]) <;> rfl); rfl; rfl; rfl)
    | (apply r_stL; rfl; rfl; rfl; rfl; (first | rfl | (simp only [z_nil, z_add] <;> rfl)); rfl; rfl)
    | (apply r_nilK)
    | (apply r_nil)
    | (apply k_V; rfl)
    | (apply k_P; rfl)
    | (apply k_PL; rfl)
    | (apply k_S; rfl)
    | (apply k_SL; rfl)
    | (apply k_A; rfl)
    | (apply k_T; rfl)
    | (apply k_F; rfl)
    | (apply k_D; rfl; rotate_left; rfl)
    | (apply k_nil)
    | (apply e_ret (vs := [.d (.val _)]); rfl)
    | (apply e_ret; rfl)
    | (apply e_ret' (vs := [.d (.val _)]); rfl)
    | (apply e_ret'; rfl)
    | (apply w_seq)
    | (apply w_ops; ((conv => lhs; simp only [Nat.reduceAdd]) <;> rfl))
    | (apply w_condT; rfl)
    | (apply w_condF; rfl)
    | ((apply w_condS; rfl) <;> (intro h; try simp only [decide_eq_true_eq, decide_eq_false_iff_not, Bool.not_eq_true, Bool.not_eq_false] at h))
    | (apply e_thenN)
    | (apply w_block)
    | (apply e_thenR)
    | (apply e_thenX)
    | (apply e_blkN)
    | (apply e_blkR)
    | (apply e_blkE)
    | (apply w_exit)
    | (apply w_ret)
    | (apply w_skip)
    | (apply e_blkE'; rfl))
    all_goals exact retB rfl
  · rw [if_neg hw] at hp1
    obtain ⟨k, a, b, c, d, mn, mx, subs⟩ := t
    have e0 : nodeA (.node k a b c d mn mx subs) = .agg [.i k, .d (.val (.int .u64 a)), .d (.val (.int .u64 b)), .d (.val (.int .u64 c)), .d (.val (.int .u64 d)), .i mn, .i mx, .d (.sl (encL subs) subs.length)] := rfl
    rw [e0] at h45 h32 h38 hp1 hp2 ⊢
    refine b17 (by simp) (by simp) (w_init ?_)
    unfold x17
    repeat' (first
    | (apply r_mvV; rfl)
    | (apply r_mvP; rfl)
    | (apply r_mvPL; rfl)
    | (apply r_mvS; rfl)
    | (apply r_mvSL; rfl)
    | (apply r_mvA; rfl)
    | (apply r_mvT; rfl)
    | (apply r_mvF; rfl)
    | (apply r_mvD; rfl)
    | (apply r_l; apply ld_kind; assumption; rfl)
    | (apply r_l; apply ld_mn; assumption; rfl)
    | (apply r_l; apply ld_mx; assumption; rfl)
    | (apply r_l; apply ld_subs; assumption; rfl)
    | (apply r_l; apply ld_set; assumption; rfl)
    | (apply r_l; apply ld_node; assumption; rfl)
    | (apply r_l; apply ld_kind'; assumption; rfl)
    | (apply r_l; apply ld_mn'; assumption; rfl)
    | (apply r_l; apply ld_mx'; assumption; rfl)
    | (apply r_l; apply ld_subs'; assumption; rfl)
    | (apply r_l; apply ld_node'; assumption; rfl)
    | (apply r_callA (ags := []); rfl; rfl; exact haw)
    | (apply r_callA; rfl; rfl; exact h45)
    | (apply r_callA; rfl; rfl; exact h32)
    | (apply r_callA; rfl; rfl; exact h38)
    | (apply r_callA; rfl; rfl; exact hp1)
    | (apply r_callA; rfl; rfl; exact hp2)
    | (apply r_ldL; rfl; rfl; rfl)
    | (apply r_eql; rfl; rfl; (first | (apply decide_eq_true; omega) | (apply decide_eq_false; omega) | rfl))
    | (apply r_leq; rfl; rfl; (first | (apply decide_eq_true; omega) | (apply decide_eq_false; omega) | rfl))
    | (apply r_sub; rfl; rfl; rfl; omega)
    | (apply r_not; rfl; rfl)
    | (apply r_beq; rfl; rfl; rfl)
    | (apply r_pickT; rfl)
    | (apply r_pickF; rfl)
    | (apply r_ext; rfl; rfl)
    | (apply r_gT; rfl)
    | (apply r_gF'; rfl; rfl)
    | (apply r_gN'; rfl)
    | ((apply r_gS (o := default); rfl) <;> (intro h; try simp only [decide_eq_true_eq, decide_eq_false_iff_not, Bool.not_eq_true, Bool.not_eq_false] at h))
    | (apply r_alloc; ((conv => lhs; simp only [Nat.reduceAdd]) <;> rfl); rfl)
    | (apply r_box; ((conv => lhs; simp only [Nat.reduceAdd]) <;> rfl); rfl; rfl; rfl)
    | (apply r_stL; rfl; rfl; rfl; rfl; (first | rfl | (simp only [z_nil, z_add] <;> rfl)); rfl; rfl)
    | (apply r_nilK)
    | (apply r_nil)
    | (apply k_V; rfl)
    | (apply k_P; rfl)
    | (apply k_PL; rfl)
    | (apply k_S; rfl)
    | (apply k_SL; rfl)
    | (apply k_A; rfl)
    | (apply k_T; rfl)
    | (apply k_F; rfl)
    | (apply k_D; rfl; rotate_left; rfl)
    | (apply k_nil)
    | (apply e_ret (vs := [.d (.val _)]); rfl)
    | (apply e_ret; rfl)
    | (apply e_ret' (vs := [.d (.val _)]); rfl)
    | (apply e_ret'; rfl)
    | (apply w_seq)
    | (apply w_ops; ((conv => lhs; simp only [Nat.reduceAdd]) <;> rfl))
    | (apply w_condT; rfl)
    | (apply w_condF; rfl)
    | ((apply w_condS; rfl) <;> (intro h; try simp only [decide_eq_true_eq, decide_eq_false_iff_not, Bool.not_eq_true, Bool.not_eq_false] at h))
    | (apply e_thenN)
    | (apply w_block)
    | (apply e_thenR)
    | (apply e_thenX)
    | (apply e_blkN)
    | (apply e_blkR)
    | (apply e_blkE)
    | (apply w_exit)
    | (apply w_ret)
    | (apply w_skip)
    | (apply e_blkE'; rfl))
    all_goals exact retB rfl
end Go.Sv
