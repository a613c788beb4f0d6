/- A part of the proof of the law ExpandBudget: that it answers true for every input, and that the input reads behind the call as before (no condition). -/
import Derived.Test.YtcnlgmajkclgjaaC3
set_option linter.all false
set_option linter.unusedSectionVars false
set_option linter.unusedVariables false
set_option linter.unusedSimpArgs false
namespace Go.Sv
open Go Go.Proofs
set_option maxRecDepth 100000
def x56 : XC := (.seq (.ops 1 [
    (0, ⟨(some 0), none, .mv (.k (.d (.val (.bool false))))⟩)] (some [])) (.seq (.ops 8 [
    (0, ⟨(some 10), none, .call 114 [(.k (.d (.val (.string ⟨#[97, 123, 49, 44, 50, 125]⟩))))] none false⟩),
    (1, ⟨(some 11), none, .call 57 [(.t 10), (.k (.d (.val (.int .i64 100))))] none false⟩),
    (2, ⟨(some 9), none, .mv (.t 11)⟩),
    (3, ⟨(some 12), none, .ext (.t 9) 0⟩),
    (4, ⟨(some 13), none, .ext (.t 9) 1⟩),
    (5, ⟨(some 1), none, .alloc [(.int .i64 0), (.int .u64 0), (.int .u64 0), (.int .u64 0), (.int .u64 0), (.int .i64 0), (.int .i64 0), (.slice none 0 0)]⟩),
    (6, ⟨none, none, .store 8 (.t 1) (.t 12)⟩),
    (7, ⟨(some 2), none, .mv (.t 13)⟩)] (some [1, 2])) (.seq (.ops 8 [
    (0, ⟨(some 15), none, .call 114 [(.k (.d (.val (.string ⟨#[97, 123, 50, 44, 125]⟩))))] none false⟩),
    (1, ⟨(some 16), none, .call 57 [(.t 15), (.k (.d (.val (.int .i64 100))))] none false⟩),
    (2, ⟨(some 14), none, .mv (.t 16)⟩),
    (3, ⟨(some 17), none, .ext (.t 14) 0⟩),
    (4, ⟨(some 18), none, .ext (.t 14) 1⟩),
    (5, ⟨(some 3), none, .alloc [(.int .i64 0), (.int .u64 0), (.int .u64 0), (.int .u64 0), (.int .u64 0), (.int .i64 0), (.int .i64 0), (.slice none 0 0)]⟩),
    (6, ⟨none, none, .store 8 (.t 3) (.t 17)⟩),
    (7, ⟨(some 4), none, .mv (.t 18)⟩)] (some [1, 2, 3])) (.seq (.ops 8 [
    (0, ⟨(some 20), none, .call 114 [(.k (.d (.val (.string ⟨#[97, 123, 50, 48, 125]⟩))))] none false⟩),
    (1, ⟨(some 21), none, .call 57 [(.t 20), (.k (.d (.val (.int .i64 20))))] none false⟩),
    (2, ⟨(some 19), none, .mv (.t 21)⟩),
    (3, ⟨(some 22), none, .ext (.t 19) 0⟩),
    (4, ⟨(some 23), none, .ext (.t 19) 1⟩),
    (5, ⟨(some 5), none, .alloc [(.int .i64 0), (.int .u64 0), (.int .u64 0), (.int .u64 0), (.int .u64 0), (.int .i64 0), (.int .i64 0), (.slice none 0 0)]⟩),
    (6, ⟨none, none, .store 8 (.t 5) (.t 22)⟩),
    (7, ⟨(some 6), none, .mv (.t 23)⟩)] (some [1, 2, 3, 6])) (.seq (.ops 8 [
    (0, ⟨(some 25), none, .build [(.int .i64 0), (.int .u64 0), (.int .u64 0), (.int .u64 0), (.int .u64 0), (.int .i64 0), (.int .i64 0), (.slice none 0 0)] []⟩),
    (1, ⟨(some 26), none, .call 57 [(.t 25), (.k (.d (.val (.int .i64 100))))] none false⟩),
    (2, ⟨(some 24), none, .mv (.t 26)⟩),
    (3, ⟨(some 27), none, .ext (.t 24) 0⟩),
    (4, ⟨(some 28), none, .ext (.t 24) 1⟩),
    (5, ⟨(some 7), none, .alloc [(.int .i64 0), (.int .u64 0), (.int .u64 0), (.int .u64 0), (.int .u64 0), (.int .i64 0), (.int .i64 0), (.slice none 0 0)]⟩),
    (6, ⟨none, none, .store 8 (.t 7) (.t 27)⟩),
    (7, ⟨(some 8), none, .mv (.t 28)⟩)] (some [1, 2, 3, 6, 8])) (.seq (.ops 30 [
    (0, ⟨(some 29), none, .load (some 8) (.t 1)⟩),
    (1, ⟨(some 30), none, .call 114 [(.k (.d (.val (.string ⟨#[97, 40, 97, 124, 41]⟩))))] none false⟩),
    (2, ⟨(some 31), none, .call 47 [(.t 29), (.t 30)] none false⟩),
    (3, ⟨(some 32), none, .mv (.t 31)⟩),
    (4, ⟨(some 33), (some (32, true)), .mv (.t 2)⟩),
    (5, ⟨(some 34), (some (32, true)), .arith .eql (.t 33) (.k (.d (.val (.int .i64 0))))⟩),
    (6, ⟨(some 35), none, .pick (.t 32) (.t 34) (.k (.d (.val (.bool false))))⟩),
    (7, ⟨(some 36), none, .mv (.t 35)⟩),
    (8, ⟨(some 37), (some (36, true)), .load (some 8) (.t 3)⟩),
    (9, ⟨(some 38), (some (36, true)), .call 114 [(.k (.d (.val (.string ⟨#[97, 97, 97, 42]⟩))))] none false⟩),
    (10, ⟨(some 39), (some (36, true)), .call 47 [(.t 37), (.t 38)] none false⟩),
    (11, ⟨(some 40), none, .pick (.t 36) (.t 39) (.k (.d (.val (.bool false))))⟩),
    (12, ⟨(some 41), none, .mv (.t 40)⟩),
    (13, ⟨(some 42), (some (41, true)), .mv (.t 6)⟩),
    (14, ⟨(some 43), (some (41, true)), .arith .eql (.t 42) (.k (.d (.val (.int .i64 11))))⟩),
    (15, ⟨(some 44), none, .pick (.t 41) (.t 43) (.k (.d (.val (.bool false))))⟩),
    (16, ⟨(some 45), none, .mv (.t 44)⟩),
    (17, ⟨(some 46), (some (45, true)), .mv (.t 8)⟩),
    (18, ⟨(some 47), (some (45, true)), .arith .eql (.t 46) (.k (.d (.val (.int .i64 1))))⟩),
    (19, ⟨(some 48), none, .pick (.t 45) (.t 47) (.k (.d (.val (.bool false))))⟩),
    (20, ⟨(some 49), none, .mv (.t 48)⟩),
    (21, ⟨(some 50), (some (49, true)), .load (some 8) (.t 1)⟩),
    (22, ⟨(some 51), (some (49, true)), .call 60 [(.t 50)] none false⟩),
    (23, ⟨(some 52), none, .pick (.t 49) (.t 51) (.k (.d (.val (.bool false))))⟩),
    (24, ⟨(some 53), none, .mv (.t 52)⟩),
    (25, ⟨(some 54), (some (53, true)), .call 114 [(.k (.d (.val (.string ⟨#[97, 63]⟩))))] none false⟩),
    (26, ⟨(some 55), (some (53, true)), .call 60 [(.t 54)] none false⟩),
    (27, ⟨(some 56), (some (53, true)), .un .not (.t 55)⟩),
    (28, ⟨(some 57), none, .pick (.t 53) (.t 56) (.k (.d (.val (.bool false))))⟩),
    (29, ⟨(some 0), none, .mv (.t 57)⟩)] (some [0])) .ret))))))
def md56 : FuncId → Option Nat × Bool
  | _ => (none, false)
def od56 : Nat → List (List Nat) × List Nat × Option (List Nat)
  | 0 => ([], [], some [])
  | 1 => ([], [], some [1, 2])
  | 2 => ([], [], some [1, 2, 3])
  | 3 => ([], [], some [1, 2, 3, 6])
  | 4 => ([], [], some [1, 2, 3, 6, 8])
  | 5 => ([[], [], [0, 1], [0, 1, 2], [0, 1, 2, 3], [0, 1, 2, 3, 4], [0, 1, 2, 3, 4, 5], [0, 1, 2, 3, 4, 5, 6], [0, 1, 2, 3, 4, 5, 6, 7], [0, 1, 2, 3, 4, 5, 6, 7], [0, 1, 2, 3, 4, 5, 6, 7, 8, 9], [0, 1, 2, 3, 4, 5, 6, 7, 8, 9, 10], [0, 1, 2, 3, 4, 5, 6, 7, 8, 9, 10, 11], [0, 1, 2, 3, 4, 5, 6, 7, 8, 9, 10, 11, 12], [0, 1, 2, 3, 4, 5, 6, 7, 8, 9, 10, 11, 12, 13], [0, 1, 2, 3, 4, 5, 6, 7, 8, 9, 10, 11, 12, 13, 14], [0, 1, 2, 3, 4, 5, 6, 7, 8, 9, 10, 11, 12, 13, 14, 15], [0, 1, 2, 3, 4, 5, 6, 7, 8, 9, 10, 11, 12, 13, 14, 15, 16], [0, 1, 2, 3, 4, 5, 6, 7, 8, 9, 10, 11, 12, 13, 14, 15, 16, 17], [0, 1, 2, 3, 4, 5, 6, 7, 8, 9, 10, 11, 12, 13, 14, 15, 16, 17, 18], [0, 1, 2, 3, 4, 5, 6, 7, 8, 9, 10, 11, 12, 13, 14, 15, 16, 17, 18, 19], [0, 1, 2, 3, 4, 5, 6, 7, 8, 9, 10, 11, 12, 13, 14, 15, 16, 17, 18, 19, 20], [0, 1, 2, 3, 4, 5, 6, 7, 8, 9, 10, 11, 12, 13, 14, 15, 16, 17, 18, 19, 20, 21], [0, 1, 2, 3, 4, 5, 6, 7, 8, 9, 10, 11, 12, 13, 14, 15, 16, 17, 18, 19, 20, 21, 22], [0, 1, 2, 3, 4, 5, 6, 7, 8, 9, 10, 11, 12, 13, 14, 15, 16, 17, 18, 19, 20, 21, 22, 23], [0, 1, 2, 3, 4, 5, 6, 7, 8, 9, 10, 11, 12, 13, 14, 15, 16, 17, 18, 19, 20, 21, 22, 23, 24], [0, 1, 2, 3, 4, 5, 6, 7, 8, 9, 10, 11, 12, 13, 14, 15, 16, 17, 18, 19, 20, 21, 22, 23, 24, 25], [0, 1, 2, 3, 4, 5, 6, 7, 8, 9, 10, 11, 12, 13, 14, 15, 16, 17, 18, 19, 20, 21, 22, 23, 24, 25, 26], [0, 1, 2, 3, 4, 5, 6, 7, 8, 9, 10, 11, 12, 13, 14, 15, 16, 17, 18, 19, 20, 21, 22, 23, 24, 25, 26, 27], [0, 1, 2, 3, 4, 5, 6, 7, 8, 9, 10, 11, 12, 13, 14, 15, 16, 17, 18, 19, 20, 21, 22, 23, 24, 25, 26, 27, 28]], [0, 1, 2, 3, 4, 5, 6, 7, 8, 9, 10, 11, 12, 13, 14, 15, 16, 17, 18, 19, 20, 21, 22, 23, 24, 25, 26, 27, 28, 29], some [0])
  | _ => ([], [], none)
theorem b56 {ags : List AV} {row : Option (List DV)} {r : AV} {row' nw : Option (List DV)} (hal : ags.length ≤ 58) (hrow : row'.isSome = true → row.isSome = true) (h : xwp Try.prog x56 (retK [.tmp 0] row.isSome r row' nw) (St.init ags row)) : Good Try.prog 56 ags row r row' nw :=
  good_of_body' (md := md56) (od := od56) Try.f56 (by kernel_rfl) (by kernel_rfl) (by kernel_rfl) (by kernel_rfl) (by kernel_rfl) hal hrow h

def x114 : XC := (.seq (.ops 1 [
    (0, ⟨(some 2), none, .alloc [(.int .i64 0), (.int .u64 0), (.int .u64 0), (.int .u64 0), (.int .u64 0), (.int .i64 0), (.int .i64 0), (.slice none 0 0)]⟩)] (some [0, 2])) (.seq (.ops 10 [
    (0, ⟨(some 7), none, .mv (.t 0)⟩),
    (1, ⟨(some 8), none, .call 118 [(.t 7)] none false⟩),
    (2, ⟨(some 6), none, .mv (.t 8)⟩),
    (3, ⟨(some 9), none, .ext (.t 6) 0⟩),
    (4, ⟨(some 10), none, .ext (.t 6) 1⟩),
    (5, ⟨(some 11), none, .ext (.t 6) 2⟩),
    (6, ⟨(some 3), none, .alloc [(.int .i64 0), (.int .u64 0), (.int .u64 0), (.int .u64 0), (.int .u64 0), (.int .i64 0), (.int .i64 0), (.slice none 0 0)]⟩),
    (7, ⟨none, none, .store 8 (.t 3) (.t 9)⟩),
    (8, ⟨(some 4), none, .mv (.t 10)⟩),
    (9, ⟨(some 5), none, .mv (.t 11)⟩)] (some [2, 3])) (.seq (.ops 2 [
    (0, ⟨(some 12), none, .load (some 8) (.t 3)⟩),
    (1, ⟨none, none, .store 8 (.t 2) (.t 12)⟩)] (some [2])) .ret)))
def md114 : FuncId → Option Nat × Bool
  | _ => (none, false)
def od114 : Nat → List (List Nat) × List Nat × Option (List Nat)
  | 0 => ([], [], some [0, 2])
  | 1 => ([], [], some [2, 3])
  | 2 => ([], [], some [2])
  | _ => ([], [], none)
theorem b114 {ags : List AV} {row : Option (List DV)} {r : AV} {row' nw : Option (List DV)} (hal : ags.length ≤ 13) (hrow : row'.isSome = true → row.isSome = true) (h : xwp Try.prog x114 (retK [.cell 2 (some 8)] row.isSome r row' nw) (St.init ags row)) : Good Try.prog 114 ags row r row' nw :=
  good_of_body' (md := md114) (od := od114) Try.f114 (by kernel_rfl) (by kernel_rfl) (by kernel_rfl) (by kernel_rfl) (by kernel_rfl) hal hrow h

def x47 : XC := (.seq (.ops 3 [
    (0, ⟨(some 2), none, .box (.t 0)⟩),
    (1, ⟨(some 3), none, .box (.t 1)⟩),
    (2, ⟨(some 4), none, .mv (.k (.d (.val (.bool false))))⟩)] (some [2, 3])) (.seq (.seq (.ops 35 [
    (0, ⟨(some 6), none, .fadd 0 (.t 2)⟩),
    (1, ⟨(some 7), none, .load none (.t 6)⟩),
    (2, ⟨(some 8), none, .fadd 0 (.t 3)⟩),
    (3, ⟨(some 9), none, .load none (.t 8)⟩),
    (4, ⟨(some 10), none, .arith .neq (.t 7) (.t 9)⟩),
    (5, ⟨(some 11), none, .mv (.t 10)⟩),
    (6, ⟨(some 12), (some (11, false)), .fadd 1 (.t 2)⟩),
    (7, ⟨(some 13), (some (11, false)), .load (some 4) (.t 12)⟩),
    (8, ⟨(some 14), (some (11, false)), .fadd 1 (.t 3)⟩),
    (9, ⟨(some 15), (some (11, false)), .load (some 4) (.t 14)⟩),
    (10, ⟨(some 16), (some (11, false)), .eqAgg 4 true (.t 13) (.t 15)⟩),
    (11, ⟨(some 17), none, .pick (.t 11) (.k (.d (.val (.bool true)))) (.t 16)⟩),
    (12, ⟨(some 18), none, .mv (.t 17)⟩),
    (13, ⟨(some 19), (some (18, false)), .fadd 5 (.t 2)⟩),
    (14, ⟨(some 20), (some (18, false)), .load none (.t 19)⟩),
    (15, ⟨(some 21), (some (18, false)), .fadd 5 (.t 3)⟩),
    (16, ⟨(some 22), (some (18, false)), .load none (.t 21)⟩),
    (17, ⟨(some 23), (some (18, false)), .arith .neq (.t 20) (.t 22)⟩),
    (18, ⟨(some 24), none, .pick (.t 18) (.k (.d (.val (.bool true)))) (.t 23)⟩),
    (19, ⟨(some 25), none, .mv (.t 24)⟩),
    (20, ⟨(some 26), (some (25, false)), .fadd 6 (.t 2)⟩),
    (21, ⟨(some 27), (some (25, false)), .load none (.t 26)⟩),
    (22, ⟨(some 28), (some (25, false)), .fadd 6 (.t 3)⟩),
    (23, ⟨(some 29), (some (25, false)), .load none (.t 28)⟩),
    (24, ⟨(some 30), (some (25, false)), .arith .neq (.t 27) (.t 29)⟩),
    (25, ⟨(some 31), none, .pick (.t 25) (.k (.d (.val (.bool true)))) (.t 30)⟩),
    (26, ⟨(some 32), none, .mv (.t 31)⟩),
    (27, ⟨(some 33), (some (32, false)), .fadd 7 (.t 2)⟩),
    (28, ⟨(some 34), (some (32, false)), .load none (.t 33)⟩),
    (29, ⟨(some 35), (some (32, false)), .lenS (.t 34)⟩),
    (30, ⟨(some 36), (some (32, false)), .fadd 7 (.t 3)⟩),
    (31, ⟨(some 37), (some (32, false)), .load none (.t 36)⟩),
    (32, ⟨(some 38), (some (32, false)), .lenS (.t 37)⟩),
    (33, ⟨(some 39), (some (32, false)), .arith .neq (.t 35) (.t 38)⟩),
    (34, ⟨(some 40), none, .pick (.t 32) (.k (.d (.val (.bool true)))) (.t 39)⟩)] (some [2, 3, 40])) (.cond (.t 40) (.seq (.ops 1 [
    (0, ⟨(some 4), none, .mv (.k (.d (.val (.bool false))))⟩)] (some [4])) .ret) .skip)) (.seq (.seq (.ops 1 [
    (0, ⟨(some 5), none, .mv (.k (.d (.val (.int .i64 0))))⟩)] (some [2, 3, 5])) (.block 0 (.loop (.seq (.seq (.ops 5 [
    (0, ⟨(some 41), none, .mv (.t 5)⟩),
    (1, ⟨(some 42), none, .fadd 7 (.t 2)⟩),
    (2, ⟨(some 43), none, .load none (.t 42)⟩),
    (3, ⟨(some 44), none, .lenS (.t 43)⟩),
    (4, ⟨(some 45), none, .arith .lss (.t 41) (.t 44)⟩)] (some [2, 3, 5, 45])) (.cond (.t 45) .skip (.exit 0))) (.seq (.block 1 (.seq (.ops 12 [
    (0, ⟨(some 48), none, .fadd 7 (.t 2)⟩),
    (1, ⟨(some 49), none, .load none (.t 48)⟩),
    (2, ⟨(some 50), none, .mv (.t 5)⟩),
    (3, ⟨(some 51), none, .idxS 8 (.t 49) (.t 50)⟩),
    (4, ⟨(some 52), none, .load (some 8) (.t 51)⟩),
    (5, ⟨(some 53), none, .fadd 7 (.t 3)⟩),
    (6, ⟨(some 54), none, .load none (.t 53)⟩),
    (7, ⟨(some 55), none, .mv (.t 5)⟩),
    (8, ⟨(some 56), none, .idxS 8 (.t 54) (.t 55)⟩),
    (9, ⟨(some 57), none, .load (some 8) (.t 56)⟩),
    (10, ⟨(some 58), none, .call 47 [(.t 52), (.t 57)] none false⟩),
    (11, ⟨(some 59), none, .un .not (.t 58)⟩)] (some [2, 3, 5, 59])) (.cond (.t 59) (.seq (.ops 1 [
    (0, ⟨(some 4), none, .mv (.k (.d (.val (.bool false))))⟩)] (some [4])) .ret) .skip))) (.ops 3 [
    (0, ⟨(some 46), none, .mv (.t 5)⟩),
    (1, ⟨(some 47), none, .arith .add (.t 46) (.k (.d (.val (.int .i64 1))))⟩),
    (2, ⟨(some 5), none, .mv (.t 47)⟩)] (some [2, 3, 5]))))))) (.seq (.ops 1 [
    (0, ⟨(some 4), none, .mv (.k (.d (.val (.bool true))))⟩)] (some [4])) .ret))))
def md47 : FuncId → Option Nat × Bool
  | _ => (none, false)
def od47 : Nat → List (List Nat) × List Nat × Option (List Nat)
  | 0 => ([], [], some [2, 3])
  | 1 => ([], [], some [2, 3, 40])
  | 2 => ([], [], some [4])
  | 3 => ([], [], some [2, 3, 5])
  | 4 => ([], [], some [2, 3, 5, 45])
  | 5 => ([], [], some [2, 3, 5])
  | 6 => ([[], [0], [], [0, 1, 2], [0, 1, 2, 3], [], [5], [], [5, 6, 7], [5, 6, 7, 8], [0, 1, 2, 3, 4, 5, 6, 7, 8, 9], [0, 1, 2, 3, 4, 5, 6, 7, 8, 9, 10]], [0, 1, 2, 3, 4, 5, 6, 7, 8, 9, 10, 11], some [2, 3, 5, 59])
  | 7 => ([], [], some [4])
  | 8 => ([], [], some [4])
  | _ => ([], [], none)
theorem b47 {ags : List AV} {row : Option (List DV)} {r : AV} {row' nw : Option (List DV)} (hal : ags.length ≤ 60) (hrow : row'.isSome = true → row.isSome = true) (h : xwp Try.prog x47 (retK [.tmp 4] row.isSome r row' nw) (St.init ags row)) : Good Try.prog 47 ags row r row' nw :=
  good_of_body' (md := md47) (od := od47) Try.f47 (by kernel_rfl) (by kernel_rfl) (by kernel_rfl) (by kernel_rfl) (by kernel_rfl) hal hrow h

def x57 : XC := (.seq (.ops 3 [
    (0, ⟨(some 2), none, .box (.t 0)⟩),
    (1, ⟨(some 4), none, .alloc [(.int .i64 0), (.int .u64 0), (.int .u64 0), (.int .u64 0), (.int .u64 0), (.int .i64 0), (.int .i64 0), (.slice none 0 0)]⟩),
    (2, ⟨(some 5), none, .mv (.k (.d (.val (.int .i64 0))))⟩)] (some [1, 2, 4])) (.seq (.block 0 (.seq (.ops 4 [
    (0, ⟨(some 7), none, .load (some 8) (.t 2)⟩),
    (1, ⟨(some 8), none, .call 84 [(.t 7)] none false⟩),
    (2, ⟨(some 9), none, .un .not (.t 8)⟩),
    (3, ⟨(some 6), none, .mv (.t 9)⟩)] (some [1, 2, 4, 6])) (.cond (.t 6) (.seq (.ops 3 [
    (0, ⟨(some 10), none, .build [(.int .i64 0), (.int .u64 0), (.int .u64 0), (.int .u64 0), (.int .u64 0), (.int .i64 0), (.int .i64 0), (.slice none 0 0)] []⟩),
    (1, ⟨none, none, .store 8 (.t 4) (.t 10)⟩),
    (2, ⟨(some 5), none, .mv (.k (.d (.val (.int .i64 1))))⟩)] (some [4, 5])) .ret) (.seq (.ops 6 [
    (0, ⟨(some 12), none, .load (some 8) (.t 2)⟩),
    (1, ⟨(some 13), none, .call 68 [(.t 12)] none false⟩),
    (2, ⟨(some 14), none, .mv (.t 1)⟩),
    (3, ⟨(some 15), none, .min [(.t 14), (.k (.d (.val (.int .i64 400))))]⟩),
    (4, ⟨(some 16), none, .arith .gtr (.t 13) (.t 15)⟩),
    (5, ⟨(some 11), none, .mv (.t 16)⟩)] (some [2, 4, 11])) (.cond (.t 11) (.seq (.ops 3 [
    (0, ⟨(some 17), none, .build [(.int .i64 0), (.int .u64 0), (.int .u64 0), (.int .u64 0), (.int .u64 0), (.int .i64 0), (.int .i64 0), (.slice none 0 0)] []⟩),
    (1, ⟨none, none, .store 8 (.t 4) (.t 17)⟩),
    (2, ⟨(some 5), none, .mv (.k (.d (.val (.int .i64 11))))⟩)] (some [4, 5])) .ret) .skip))))) (.seq (.ops 4 [
    (0, ⟨(some 18), none, .load (some 8) (.t 2)⟩),
    (1, ⟨(some 19), none, .call 115 [(.t 18)] none false⟩),
    (2, ⟨none, none, .store 8 (.t 4) (.t 19)⟩),
    (3, ⟨(some 5), none, .mv (.k (.d (.val (.int .i64 0))))⟩)] (some [4, 5])) .ret)))
def md57 : FuncId → Option Nat × Bool
  | _ => (none, false)
def od57 : Nat → List (List Nat) × List Nat × Option (List Nat)
  | 0 => ([], [], some [1, 2, 4])
  | 1 => ([], [], some [1, 2, 4, 6])
  | 2 => ([], [], some [4, 5])
  | 3 => ([], [], some [2, 4, 11])
  | 4 => ([], [], some [4, 5])
  | 5 => ([], [], some [4, 5])
  | _ => ([], [], none)
theorem b57 {ags : List AV} {row : Option (List DV)} {r : AV} {row' nw : Option (List DV)} (hal : ags.length ≤ 20) (hrow : row'.isSome = true → row.isSome = true) (h : xwp Try.prog x57 (retK [.cell 4 (some 8), .tmp 5] row.isSome r row' nw) (St.init ags row)) : Good Try.prog 57 ags row r row' nw :=
  good_of_body' (md := md57) (od := od57) Try.f57 (by kernel_rfl) (by kernel_rfl) (by kernel_rfl) (by kernel_rfl) (by kernel_rfl) hal hrow h

def x60 : XC := (.seq (.ops 2 [
    (0, ⟨(some 1), none, .box (.t 0)⟩),
    (1, ⟨(some 2), none, .mv (.k (.d (.val (.bool false))))⟩)] (some [1])) (.seq (.ops 8 [
    (0, ⟨(some 3), none, .call 116 [(.t 1)] none false⟩),
    (1, ⟨(some 4), none, .mv (.t 3)⟩),
    (2, ⟨(some 5), (some (4, true)), .fadd 7 (.t 1)⟩),
    (3, ⟨(some 6), (some (4, true)), .load none (.t 5)⟩),
    (4, ⟨(some 7), (some (4, true)), .call 104 [(.t 6), (.k (.d (.fn 117 [])))] none false⟩),
    (5, ⟨(some 8), (some (4, true)), .un .not (.t 7)⟩),
    (6, ⟨(some 9), none, .pick (.t 4) (.t 8) (.k (.d (.val (.bool false))))⟩),
    (7, ⟨(some 2), none, .mv (.t 9)⟩)] (some [2])) .ret))
def md60 : FuncId → Option Nat × Bool
  | _ => (none, false)
def od60 : Nat → List (List Nat) × List Nat × Option (List Nat)
  | 0 => ([], [], some [1])
  | 1 => ([], [], some [2])
  | _ => ([], [], none)
theorem b60 {ags : List AV} {row : Option (List DV)} {r : AV} {row' nw : Option (List DV)} (hal : ags.length ≤ 10) (hrow : row'.isSome = true → row.isSome = true) (h : xwp Try.prog x60 (retK [.tmp 2] row.isSome r row' nw) (St.init ags row)) : Good Try.prog 60 ags row r row' nw :=
  good_of_body' (md := md60) (od := od60) Try.f60 (by kernel_rfl) (by kernel_rfl) (by kernel_rfl) (by kernel_rfl) (by kernel_rfl) hal hrow h

def x68 : XC := (.seq (.ops 2 [
    (0, ⟨(some 1), none, .box (.t 0)⟩),
    (1, ⟨(some 2), none, .mv (.k (.d (.val (.int .i64 0))))⟩)] (some [1])) (.seq (.seq (.ops 3 [
    (0, ⟨(some 3), none, .load (some 8) (.t 1)⟩),
    (1, ⟨(some 4), none, .call 84 [(.t 3)] none false⟩),
    (2, ⟨(some 5), none, .un .not (.t 4)⟩)] (some [1, 5])) (.cond (.t 5) (.seq (.ops 1 [
    (0, ⟨(some 2), none, .mv (.k (.d (.val (.int .i64 0))))⟩)] (some [2])) .ret) .skip)) (.seq (.ops 2 [
    (0, ⟨(some 6), none, .call 123 [(.t 1)] none false⟩),
    (1, ⟨(some 2), none, .mv (.t 6)⟩)] (some [2])) .ret)))
def md68 : FuncId → Option Nat × Bool
  | _ => (none, false)
def od68 : Nat → List (List Nat) × List Nat × Option (List Nat)
  | 0 => ([], [], some [1])
  | 1 => ([], [], some [1, 5])
  | 2 => ([], [], some [2])
  | 3 => ([], [], some [2])
  | _ => ([], [], none)
theorem b68 {ags : List AV} {row : Option (List DV)} {r : AV} {row' nw : Option (List DV)} (hal : ags.length ≤ 7) (hrow : row'.isSome = true → row.isSome = true) (h : xwp Try.prog x68 (retK [.tmp 2] row.isSome r row' nw) (St.init ags row)) : Good Try.prog 68 ags row r row' nw :=
  good_of_body' (md := md68) (od := od68) Try.f68 (by kernel_rfl) (by kernel_rfl) (by kernel_rfl) (by kernel_rfl) (by kernel_rfl) hal hrow h

def x104 : XC := (.seq (.ops 1 [
    (0, ⟨(some 4), none, .mv (.k (.d (.val (.bool false))))⟩)] (some [0, 1])) (.seq (.ops 5 [
    (0, ⟨(some 5), none, .mv (.t 0)⟩),
    (1, ⟨(some 6), none, .mv (.t 1)⟩),
    (2, ⟨(some 7), none, .call 145 [(.t 5), (.t 6)] none false⟩),
    (3, ⟨(some 8), none, .arith .geq (.t 7) (.k (.d (.val (.int .i64 0))))⟩),
    (4, ⟨(some 4), none, .mv (.t 8)⟩)] (some [4])) .ret))
def md104 : FuncId → Option Nat × Bool
  | _ => (none, false)
def od104 : Nat → List (List Nat) × List Nat × Option (List Nat)
  | 0 => ([], [], some [0, 1])
  | 1 => ([], [], some [4])
  | _ => ([], [], none)
theorem b104 {ags : List AV} {row : Option (List DV)} {r : AV} {row' nw : Option (List DV)} (hal : ags.length ≤ 9) (hrow : row'.isSome = true → row.isSome = true) (h : xwp Try.prog x104 (retK [.tmp 4] row.isSome r row' nw) (St.init ags row)) : Good Try.prog 104 ags row r row' nw :=
  good_of_body' (md := md104) (od := od104) Try.f104 (by kernel_rfl) (by kernel_rfl) (by kernel_rfl) (by kernel_rfl) (by kernel_rfl) hal hrow h

def x115 : XC := (.seq (.ops 2 [
    (0, ⟨(some 1), none, .box (.t 0)⟩),
    (1, ⟨(some 2), none, .alloc [(.int .i64 0), (.int .u64 0), (.int .u64 0), (.int .u64 0), (.int .u64 0), (.int .i64 0), (.int .i64 0), (.slice none 0 0)]⟩)] (some [1, 2])) (.seq (.seq (.ops 2 [
    (0, ⟨(some 6), none, .fadd 0 (.t 1)⟩),
    (1, ⟨(some 7), none, .load none (.t 6)⟩)] (some [1, 2, 7])) (.block 0 (.seq (.ops 2 [
    (0, ⟨(some 9), none, .arith .eql (.t 7) (.k (.d (.val (.int .i64 5))))⟩),
    (1, ⟨(some 8), none, .mv (.t 9)⟩)] (some [1, 2, 7, 8])) (.cond (.t 8) (.seq (.ops 11 [
    (0, ⟨(some 10), none, .fadd 7 (.t 1)⟩),
    (1, ⟨(some 11), none, .load none (.t 10)⟩),
    (2, ⟨(some 12), none, .idxS 8 (.t 11) (.k (.d (.val (.int .i64 0))))⟩),
    (3, ⟨(some 13), none, .load (some 8) (.t 12)⟩),
    (4, ⟨(some 14), none, .call 115 [(.t 13)] none false⟩),
    (5, ⟨(some 15), none, .fadd 5 (.t 1)⟩),
    (6, ⟨(some 16), none, .load none (.t 15)⟩),
    (7, ⟨(some 17), none, .fadd 6 (.t 1)⟩),
    (8, ⟨(some 18), none, .load none (.t 17)⟩),
    (9, ⟨(some 19), none, .call 147 [(.t 14), (.t 16), (.t 18)] none false⟩),
    (10, ⟨none, none, .store 8 (.t 2) (.t 19)⟩)] (some [2])) .ret) (.seq (.seq (.ops 2 [
    (0, ⟨(some 21), none, .arith .eql (.t 7) (.k (.d (.val (.int .i64 3))))⟩),
    (1, ⟨(some 20), none, .mv (.t 21)⟩)] (some [1, 2, 7, 20])) (.cond (.t 20) .skip (.ops 2 [
    (0, ⟨(some 22), none, .arith .eql (.t 7) (.k (.d (.val (.int .i64 4))))⟩),
    (1, ⟨(some 20), none, .mv (.t 22)⟩)] (some [1, 2, 20])))) (.cond (.t 20) (.seq (.ops 5 [
    (0, ⟨(some 23), none, .fadd 0 (.t 1)⟩),
    (1, ⟨(some 24), none, .load none (.t 23)⟩),
    (2, ⟨(some 25), none, .build [(.int .i64 0), (.int .u64 0), (.int .u64 0), (.int .u64 0), (.int .u64 0), (.int .i64 0), (.int .i64 0), (.slice none 0 0)] [(0, 1, (.t 24))]⟩),
    (3, ⟨(some 3), none, .alloc [(.int .i64 0), (.int .u64 0), (.int .u64 0), (.int .u64 0), (.int .u64 0), (.int .i64 0), (.int .i64 0), (.slice none 0 0)]⟩),
    (4, ⟨none, none, .store 8 (.t 3) (.t 25)⟩)] (some [1, 2, 3])) (.seq (.seq (.ops 4 [
    (0, ⟨(some 26), none, .fadd 7 (.t 1)⟩),
    (1, ⟨(some 27), none, .load none (.t 26)⟩),
    (2, ⟨(some 28), none, .lenS (.t 27)⟩),
    (3, ⟨(some 29), none, .mv (.k (.d (.val (.int .i64 0))))⟩)] (some [2, 3, 27, 28, 29])) (.block 1 (.loop (.seq (.ops 1 [
    (0, ⟨(some 30), none, .arith .lss (.t 29) (.t 28)⟩)] (some [2, 3, 27, 28, 29, 30])) (.seq (.cond (.t 30) .skip (.exit 1)) (.seq (.block 2 (.seq (.ops 4 [
    (0, ⟨(some 31), none, .idxS 8 (.t 27) (.t 29)⟩),
    (1, ⟨(some 32), none, .load (some 8) (.t 31)⟩),
    (2, ⟨(some 5), none, .alloc [(.int .i64 0), (.int .u64 0), (.int .u64 0), (.int .u64 0), (.int .u64 0), (.int .i64 0), (.int .i64 0), (.slice none 0 0)]⟩),
    (3, ⟨none, none, .store 8 (.t 5) (.t 32)⟩)] (some [2, 3, 5, 27, 28, 29])) (.ops 8 [
    (0, ⟨(some 33), none, .fadd 7 (.t 3)⟩),
    (1, ⟨(some 34), none, .load none (.t 33)⟩),
    (2, ⟨(some 35), none, .load (some 8) (.t 5)⟩),
    (3, ⟨(some 36), none, .call 115 [(.t 35)] none false⟩),
    (4, ⟨(some 37), none, .mkrow [(.int .i64 0), (.int .u64 0), (.int .u64 0), (.int .u64 0), (.int .u64 0), (.int .i64 0), (.int .i64 0), (.slice none 0 0)] 1 8 [(0, 8, (.t 36))]⟩),
    (5, ⟨(some 38), none, .app [(.int .i64 0), (.int .u64 0), (.int .u64 0), (.int .u64 0), (.int .u64 0), (.int .i64 0), (.int .i64 0), (.slice none 0 0)] 80 (.t 34) (.t 37)⟩),
    (6, ⟨(some 39), none, .fadd 7 (.t 3)⟩),
    (7, ⟨none, none, .store 1 (.t 39) (.t 38)⟩)] (some [2, 3, 27, 28, 29])))) (.ops 2 [
    (0, ⟨(some 40), none, .arith .add (.t 29) (.k (.d (.val (.int .i64 1))))⟩),
    (1, ⟨(some 29), none, .mv (.t 40)⟩)] (some [2, 3, 27, 28, 29])))))))) (.seq (.ops 2 [
    (0, ⟨(some 41), none, .load (some 8) (.t 3)⟩),
    (1, ⟨none, none, .store 8 (.t 2) (.t 41)⟩)] (some [2])) .ret))) .skip)))))) (.seq (.ops 2 [
    (0, ⟨(some 42), none, .load (some 8) (.t 1)⟩),
    (1, ⟨none, none, .store 8 (.t 2) (.t 42)⟩)] (some [2])) .ret)))
def md115 : FuncId → Option Nat × Bool
  | _ => (none, false)
def od115 : Nat → List (List Nat) × List Nat × Option (List Nat)
  | 0 => ([], [], some [1, 2])
  | 1 => ([], [], some [1, 2, 7])
  | 2 => ([], [], some [1, 2, 7, 8])
  | 3 => ([[], [0], [0, 1], [0, 1, 2], [0, 1, 2, 3], [], [5], [], [7], [0, 1, 2, 3, 4, 5, 6, 7, 8], [0, 1, 2, 3, 4, 5, 6, 7, 8, 9]], [0, 1, 2, 3, 4, 5, 6, 7, 8, 9, 10], some [2])
  | 4 => ([], [], some [1, 2, 7, 20])
  | 5 => ([], [], some [1, 2, 20])
  | 6 => ([], [], some [1, 2, 3])
  | 7 => ([], [], some [2, 3, 27, 28, 29])
  | 8 => ([], [], some [2, 3, 27, 28, 29, 30])
  | 9 => ([], [], some [2, 3, 5, 27, 28, 29])
  | 10 => ([[], [0], [], [2], [2, 3], [0, 1, 2, 3, 4], [0, 1, 2, 3, 4, 5], [0, 1, 2, 3, 4, 5, 6]], [0, 1, 2, 3, 4, 5, 6, 7], some [2, 3, 27, 28, 29])
  | 11 => ([], [], some [2, 3, 27, 28, 29])
  | 12 => ([], [], some [2])
  | 13 => ([], [], some [2])
  | _ => ([], [], none)
theorem b115 {ags : List AV} {row : Option (List DV)} {r : AV} {row' nw : Option (List DV)} (hal : ags.length ≤ 43) (hrow : row'.isSome = true → row.isSome = true) (h : xwp Try.prog x115 (retK [.cell 2 (some 8)] row.isSome r row' nw) (St.init ags row)) : Good Try.prog 115 ags row r row' nw :=
  good_of_body' (md := md115) (od := od115) Try.f115 (by kernel_rfl) (by kernel_rfl) (by kernel_rfl) (by kernel_rfl) (by kernel_rfl) hal hrow h

def x116 : XC := (.seq (.ops 1 [
    (0, ⟨(some 2), none, .mv (.k (.d (.val (.bool false))))⟩)] (some [0])) (.seq (.ops 7 [
    (0, ⟨(some 5), none, .mv (.t 0)⟩),
    (1, ⟨(some 6), none, .nilck (.t 5)⟩),
    (2, ⟨(some 7), none, .fadd 1 (.t 6)⟩),
    (3, ⟨(some 8), none, .load (some 4) (.t 7)⟩),
    (4, ⟨(some 9), none, .build [(.int .u64 0), (.int .u64 0), (.int .u64 0), (.int .u64 0)] []⟩),
    (5, ⟨(some 10), none, .eqAgg 4 false (.t 8) (.t 9)⟩),
    (6, ⟨(some 3), none, .mv (.t 10)⟩)] (some [0, 3])) (.seq (.ops 13 [
    (0, ⟨(some 11), none, .mv (.t 0)⟩),
    (1, ⟨(some 12), none, .nilck (.t 11)⟩),
    (2, ⟨(some 13), none, .fadd 5 (.t 12)⟩),
    (3, ⟨(some 14), none, .load none (.t 13)⟩),
    (4, ⟨(some 15), none, .arith .eql (.t 14) (.k (.d (.val (.int .i64 0))))⟩),
    (5, ⟨(some 16), none, .mv (.t 15)⟩),
    (6, ⟨(some 17), (some (16, true)), .mv (.t 0)⟩),
    (7, ⟨(some 18), (some (16, true)), .nilck (.t 17)⟩),
    (8, ⟨(some 19), (some (16, true)), .fadd 6 (.t 18)⟩),
    (9, ⟨(some 20), (some (16, true)), .load none (.t 19)⟩),
    (10, ⟨(some 21), (some (16, true)), .arith .eql (.t 20) (.k (.d (.val (.int .i64 0))))⟩),
    (11, ⟨(some 22), none, .pick (.t 16) (.t 21) (.k (.d (.val (.bool false))))⟩),
    (12, ⟨(some 4), none, .mv (.t 22)⟩)] (some [0, 3, 4])) (.seq (.seq (.ops 4 [
    (0, ⟨(some 23), none, .mv (.t 0)⟩),
    (1, ⟨(some 24), none, .nilck (.t 23)⟩),
    (2, ⟨(some 25), none, .fadd 0 (.t 24)⟩),
    (3, ⟨(some 26), none, .load none (.t 25)⟩)] (some [0, 3, 4, 26])) (.block 0 (.seq (.ops 2 [
    (0, ⟨(some 28), none, .arith .eql (.t 26) (.k (.d (.val (.int .i64 1))))⟩),
    (1, ⟨(some 27), none, .mv (.t 28)⟩)] (some [0, 3, 4, 26, 27])) (.cond (.t 27) (.seq (.ops 13 [
    (0, ⟨(some 29), none, .mv (.t 3)⟩),
    (1, ⟨(some 30), none, .mv (.t 29)⟩),
    (2, ⟨(some 31), (some (30, true)), .mv (.t 4)⟩),
    (3, ⟨(some 32), none, .pick (.t 30) (.t 31) (.k (.d (.val (.bool false))))⟩),
    (4, ⟨(some 33), none, .mv (.t 32)⟩),
    (5, ⟨(some 34), (some (33, true)), .mv (.t 0)⟩),
    (6, ⟨(some 35), (some (33, true)), .nilck (.t 34)⟩),
    (7, ⟨(some 36), (some (33, true)), .fadd 7 (.t 35)⟩),
    (8, ⟨(some 37), (some (33, true)), .load none (.t 36)⟩),
    (9, ⟨(some 38), (some (33, true)), .lenS (.t 37)⟩),
    (10, ⟨(some 39), (some (33, true)), .arith .eql (.t 38) (.k (.d (.val (.int .i64 0))))⟩),
    (11, ⟨(some 40), none, .pick (.t 33) (.t 39) (.k (.d (.val (.bool false))))⟩),
    (12, ⟨(some 2), none, .mv (.t 40)⟩)] (some [2])) .ret) (.seq (.ops 2 [
    (0, ⟨(some 42), none, .arith .eql (.t 26) (.k (.d (.val (.int .i64 2))))⟩),
    (1, ⟨(some 41), none, .mv (.t 42)⟩)] (some [0, 3, 4, 26, 41])) (.cond (.t 41) (.seq (.ops 10 [
    (0, ⟨(some 43), none, .mv (.t 4)⟩),
    (1, ⟨(some 44), none, .mv (.t 43)⟩),
    (2, ⟨(some 45), (some (44, true)), .mv (.t 0)⟩),
    (3, ⟨(some 46), (some (44, true)), .nilck (.t 45)⟩),
    (4, ⟨(some 47), (some (44, true)), .fadd 7 (.t 46)⟩),
    (5, ⟨(some 48), (some (44, true)), .load none (.t 47)⟩),
    (6, ⟨(some 49), (some (44, true)), .lenS (.t 48)⟩),
    (7, ⟨(some 50), (some (44, true)), .arith .eql (.t 49) (.k (.d (.val (.int .i64 0))))⟩),
    (8, ⟨(some 51), none, .pick (.t 44) (.t 50) (.k (.d (.val (.bool false))))⟩),
    (9, ⟨(some 2), none, .mv (.t 51)⟩)] (some [2])) .ret) (.seq (.seq (.ops 2 [
    (0, ⟨(some 53), none, .arith .eql (.t 26) (.k (.d (.val (.int .i64 3))))⟩),
    (1, ⟨(some 52), none, .mv (.t 53)⟩)] (some [0, 3, 4, 26, 52])) (.cond (.t 52) .skip (.ops 2 [
    (0, ⟨(some 54), none, .arith .eql (.t 26) (.k (.d (.val (.int .i64 4))))⟩),
    (1, ⟨(some 52), none, .mv (.t 54)⟩)] (some [0, 3, 4, 26, 52])))) (.cond (.t 52) (.seq (.ops 13 [
    (0, ⟨(some 55), none, .mv (.t 3)⟩),
    (1, ⟨(some 56), none, .mv (.t 55)⟩),
    (2, ⟨(some 57), (some (56, true)), .mv (.t 4)⟩),
    (3, ⟨(some 58), none, .pick (.t 56) (.t 57) (.k (.d (.val (.bool false))))⟩),
    (4, ⟨(some 59), none, .mv (.t 58)⟩),
    (5, ⟨(some 60), (some (59, true)), .mv (.t 0)⟩),
    (6, ⟨(some 61), (some (59, true)), .nilck (.t 60)⟩),
    (7, ⟨(some 62), (some (59, true)), .fadd 7 (.t 61)⟩),
    (8, ⟨(some 63), (some (59, true)), .load none (.t 62)⟩),
    (9, ⟨(some 64), (some (59, true)), .lenS (.t 63)⟩),
    (10, ⟨(some 65), (some (59, true)), .arith .geq (.t 64) (.k (.d (.val (.int .i64 2))))⟩),
    (11, ⟨(some 66), none, .pick (.t 59) (.t 65) (.k (.d (.val (.bool false))))⟩),
    (12, ⟨(some 2), none, .mv (.t 66)⟩)] (some [2])) .ret) (.seq (.ops 2 [
    (0, ⟨(some 68), none, .arith .eql (.t 26) (.k (.d (.val (.int .i64 5))))⟩),
    (1, ⟨(some 67), none, .mv (.t 68)⟩)] (some [0, 3, 67])) (.cond (.t 67) (.seq (.ops 24 [
    (0, ⟨(some 69), none, .mv (.t 3)⟩),
    (1, ⟨(some 70), none, .mv (.t 69)⟩),
    (2, ⟨(some 71), (some (70, true)), .mv (.t 0)⟩),
    (3, ⟨(some 72), (some (70, true)), .nilck (.t 71)⟩),
    (4, ⟨(some 73), (some (70, true)), .fadd 5 (.t 72)⟩),
    (5, ⟨(some 74), (some (70, true)), .load none (.t 73)⟩),
    (6, ⟨(some 75), (some (70, true)), .arith .eql (.t 74) (.k (.d (.val (.int .i64 0))))⟩),
    (7, ⟨(some 76), none, .pick (.t 70) (.t 75) (.k (.d (.val (.bool false))))⟩),
    (8, ⟨(some 77), none, .mv (.t 76)⟩),
    (9, ⟨(some 78), (some (77, true)), .mv (.t 0)⟩),
    (10, ⟨(some 79), (some (77, true)), .nilck (.t 78)⟩),
    (11, ⟨(some 80), (some (77, true)), .fadd 6 (.t 79)⟩),
    (12, ⟨(some 81), (some (77, true)), .load none (.t 80)⟩),
    (13, ⟨(some 82), (some (77, true)), .arith .eql (.t 81) (.k (.d (.val (.int .i64 (-1)))))⟩),
    (14, ⟨(some 83), none, .pick (.t 77) (.t 82) (.k (.d (.val (.bool false))))⟩),
    (15, ⟨(some 84), none, .mv (.t 83)⟩),
    (16, ⟨(some 85), (some (84, true)), .mv (.t 0)⟩),
    (17, ⟨(some 86), (some (84, true)), .nilck (.t 85)⟩),
    (18, ⟨(some 87), (some (84, true)), .fadd 7 (.t 86)⟩),
    (19, ⟨(some 88), (some (84, true)), .load none (.t 87)⟩),
    (20, ⟨(some 89), (some (84, true)), .lenS (.t 88)⟩),
    (21, ⟨(some 90), (some (84, true)), .arith .eql (.t 89) (.k (.d (.val (.int .i64 1))))⟩),
    (22, ⟨(some 91), none, .pick (.t 84) (.t 90) (.k (.d (.val (.bool false))))⟩),
    (23, ⟨(some 2), none, .mv (.t 91)⟩)] (some [2])) .ret) .skip)))))))))) (.seq (.ops 1 [
    (0, ⟨(some 2), none, .mv (.k (.d (.val (.bool false))))⟩)] (some [2])) .ret)))))
def md116 : FuncId → Option Nat × Bool
  | _ => (none, false)
def od116 : Nat → List (List Nat) × List Nat × Option (List Nat)
  | 0 => ([], [], some [0])
  | 1 => ([], [], some [0, 3])
  | 2 => ([], [], some [0, 3, 4])
  | 3 => ([], [], some [0, 3, 4, 26])
  | 4 => ([], [], some [0, 3, 4, 26, 27])
  | 5 => ([], [], some [2])
  | 6 => ([], [], some [0, 3, 4, 26, 41])
  | 7 => ([], [], some [2])
  | 8 => ([], [], some [0, 3, 4, 26, 52])
  | 9 => ([], [], some [0, 3, 4, 26, 52])
  | 10 => ([], [], some [2])
  | 11 => ([], [], some [0, 3, 67])
  | 12 => ([], [], some [2])
  | 13 => ([], [], some [2])
  | _ => ([], [], none)
theorem b116 {ags : List AV} {row : Option (List DV)} {r : AV} {row' nw : Option (List DV)} (hal : ags.length ≤ 92) (hrow : row'.isSome = true → row.isSome = true) (h : xwp Try.prog x116 (retK [.tmp 2] row.isSome r row' nw) (St.init ags row)) : Good Try.prog 116 ags row r row' nw :=
  good_of_body' (md := md116) (od := od116) Try.f116 (by kernel_rfl) (by kernel_rfl) (by kernel_rfl) (by kernel_rfl) (by kernel_rfl) hal hrow h

def x117 : XC := (.seq (.ops 2 [
    (0, ⟨(some 1), none, .box (.t 0)⟩),
    (1, ⟨(some 2), none, .mv (.k (.d (.val (.bool false))))⟩)] (some [1])) (.seq (.ops 4 [
    (0, ⟨(some 3), none, .load (some 8) (.t 1)⟩),
    (1, ⟨(some 4), none, .call 60 [(.t 3)] none false⟩),
    (2, ⟨(some 5), none, .un .not (.t 4)⟩),
    (3, ⟨(some 2), none, .mv (.t 5)⟩)] (some [2])) .ret))
def md117 : FuncId → Option Nat × Bool
  | _ => (none, false)
def od117 : Nat → List (List Nat) × List Nat × Option (List Nat)
  | 0 => ([], [], some [1])
  | 1 => ([], [], some [2])
  | _ => ([], [], none)
theorem b117 {ags : List AV} {row : Option (List DV)} {r : AV} {row' nw : Option (List DV)} (hal : ags.length ≤ 6) (hrow : row'.isSome = true → row.isSome = true) (h : xwp Try.prog x117 (retK [.tmp 2] row.isSome r row' nw) (St.init ags row)) : Good Try.prog 117 ags row r row' nw :=
  good_of_body' (md := md117) (od := od117) Try.f117 (by kernel_rfl) (by kernel_rfl) (by kernel_rfl) (by kernel_rfl) (by kernel_rfl) hal hrow h

def x123 : XC := (.seq (.ops 1 [
    (0, ⟨(some 2), none, .mv (.k (.d (.val (.int .i64 0))))⟩)] (some [0])) (.seq (.ops 1 [
    (0, ⟨(some 3), none, .mv (.k (.d (.val (.int .i64 1))))⟩)] (some [0, 3])) (.seq (.seq (.ops 6 [
    (0, ⟨(some 6), none, .mv (.t 0)⟩),
    (1, ⟨(some 7), none, .nilck (.t 6)⟩),
    (2, ⟨(some 8), none, .fadd 7 (.t 7)⟩),
    (3, ⟨(some 9), none, .load none (.t 8)⟩),
    (4, ⟨(some 10), none, .lenS (.t 9)⟩),
    (5, ⟨(some 11), none, .mv (.k (.d (.val (.int .i64 0))))⟩)] (some [0, 3, 10, 11])) (.block 0 (.loop (.seq (.ops 1 [
    (0, ⟨(some 12), none, .arith .lss (.t 11) (.t 10)⟩)] (some [0, 3, 10, 11, 12])) (.seq (.cond (.t 12) .skip (.exit 0)) (.seq (.block 1 (.seq (.ops 2 [
    (0, ⟨(some 13), none, .mv (.t 11)⟩),
    (1, ⟨(some 4), none, .mv (.t 13)⟩)] (some [0, 3, 4, 10, 11])) (.seq (.ops 8 [
    (0, ⟨(some 14), none, .mv (.t 0)⟩),
    (1, ⟨(some 15), none, .nilck (.t 14)⟩),
    (2, ⟨(some 16), none, .fadd 7 (.t 15)⟩),
    (3, ⟨(some 17), none, .load none (.t 16)⟩),
    (4, ⟨(some 18), none, .mv (.t 4)⟩),
    (5, ⟨(some 19), none, .idxS 8 (.t 17) (.t 18)⟩),
    (6, ⟨(some 20), none, .call 123 [(.t 19)] none false⟩),
    (7, ⟨(some 5), none, .mv (.t 20)⟩)] (some [0, 3, 5, 10, 11])) (.seq (.block 2 (.seq (.ops 6 [
    (0, ⟨(some 29), none, .mv (.t 0)⟩),
    (1, ⟨(some 30), none, .nilck (.t 29)⟩),
    (2, ⟨(some 31), none, .fadd 0 (.t 30)⟩),
    (3, ⟨(some 32), none, .load none (.t 31)⟩),
    (4, ⟨(some 33), none, .arith .neq (.t 32) (.k (.d (.val (.int .i64 5))))⟩),
    (5, ⟨(some 28), none, .mv (.t 33)⟩)] (some [0, 3, 5, 10, 11, 28])) (.cond (.t 28) .skip (.seq (.ops 6 [
    (0, ⟨(some 35), none, .mv (.t 0)⟩),
    (1, ⟨(some 36), none, .nilck (.t 35)⟩),
    (2, ⟨(some 37), none, .fadd 6 (.t 36)⟩),
    (3, ⟨(some 38), none, .load none (.t 37)⟩),
    (4, ⟨(some 39), none, .arith .eql (.t 38) (.k (.d (.val (.int .i64 (-1)))))⟩),
    (5, ⟨(some 34), none, .mv (.t 39)⟩)] (some [0, 3, 5, 10, 11, 34])) (.cond (.t 34) (.ops 9 [
    (0, ⟨(some 40), none, .mv (.t 5)⟩),
    (1, ⟨(some 41), none, .mv (.t 0)⟩),
    (2, ⟨(some 42), none, .nilck (.t 41)⟩),
    (3, ⟨(some 43), none, .fadd 5 (.t 42)⟩),
    (4, ⟨(some 44), none, .load none (.t 43)⟩),
    (5, ⟨(some 45), none, .arith .add (.t 44) (.k (.d (.val (.int .i64 1))))⟩),
    (6, ⟨(some 46), none, .arith .mul (.t 40) (.t 45)⟩),
    (7, ⟨(some 47), none, .arith .add (.t 46) (.k (.d (.val (.int .i64 1))))⟩),
    (8, ⟨(some 5), none, .mv (.t 47)⟩)] (some [0, 3, 5, 10, 11])) (.ops 8 [
    (0, ⟨(some 21), none, .mv (.t 5)⟩),
    (1, ⟨(some 22), none, .arith .add (.t 21) (.k (.d (.val (.int .i64 2))))⟩),
    (2, ⟨(some 23), none, .mv (.t 0)⟩),
    (3, ⟨(some 24), none, .nilck (.t 23)⟩),
    (4, ⟨(some 25), none, .fadd 6 (.t 24)⟩),
    (5, ⟨(some 26), none, .load none (.t 25)⟩),
    (6, ⟨(some 27), none, .arith .mul (.t 22) (.t 26)⟩),
    (7, ⟨(some 5), none, .mv (.t 27)⟩)] (some [0, 3, 5, 10, 11]))))))) (.ops 5 [
    (0, ⟨(some 48), none, .mv (.t 3)⟩),
    (1, ⟨(some 49), none, .mv (.t 5)⟩),
    (2, ⟨(some 50), none, .arith .add (.t 48) (.t 49)⟩),
    (3, ⟨(some 51), none, .min [(.t 50), (.k (.d (.val (.int .i64 1073741824))))]⟩),
    (4, ⟨(some 3), none, .mv (.t 51)⟩)] (some [0, 3, 10, 11])))))) (.ops 2 [
    (0, ⟨(some 52), none, .arith .add (.t 11) (.k (.d (.val (.int .i64 1))))⟩),
    (1, ⟨(some 11), none, .mv (.t 52)⟩)] (some [0, 3, 10, 11])))))))) (.seq (.ops 2 [
    (0, ⟨(some 53), none, .mv (.t 3)⟩),
    (1, ⟨(some 2), none, .mv (.t 53)⟩)] (some [2])) .ret))))
def md123 : FuncId → Option Nat × Bool
  | _ => (none, false)
def od123 : Nat → List (List Nat) × List Nat × Option (List Nat)
  | 0 => ([], [], some [0])
  | 1 => ([], [], some [0, 3])
  | 2 => ([], [], some [0, 3, 10, 11])
  | 3 => ([], [], some [0, 3, 10, 11, 12])
  | 4 => ([], [], some [0, 3, 4, 10, 11])
  | 5 => ([], [], some [0, 3, 5, 10, 11])
  | 6 => ([], [], some [0, 3, 5, 10, 11])
  | 7 => ([], [], some [0, 3, 5, 10, 11, 28])
  | 8 => ([], [], some [0, 3, 5, 10, 11, 34])
  | 9 => ([], [], some [0, 3, 5, 10, 11])
  | 10 => ([], [], some [0, 3, 10, 11])
  | 11 => ([], [], some [0, 3, 10, 11])
  | 12 => ([], [], some [2])
  | _ => ([], [], none)
theorem b123 {ags : List AV} {row : Option (List DV)} {r : AV} {row' nw : Option (List DV)} (hal : ags.length ≤ 54) (hrow : row'.isSome = true → row.isSome = true) (h : xwp Try.prog x123 (retK [.tmp 2] row.isSome r row' nw) (St.init ags row)) : Good Try.prog 123 ags row r row' nw :=
  good_of_body' (md := md123) (od := od123) Try.f123 (by kernel_rfl) (by kernel_rfl) (by kernel_rfl) (by kernel_rfl) (by kernel_rfl) hal hrow h

def x145 : XC := (.seq (.ops 1 [
    (0, ⟨(some 4), none, .mv (.k (.d (.val (.int .i64 0))))⟩)] (some [0, 1])) (.seq (.seq (.ops 3 [
    (0, ⟨(some 6), none, .mv (.t 0)⟩),
    (1, ⟨(some 7), none, .lenS (.t 6)⟩),
    (2, ⟨(some 8), none, .mv (.k (.d (.val (.int .i64 0))))⟩)] (some [0, 1, 7, 8])) (.block 0 (.loop (.seq (.ops 1 [
    (0, ⟨(some 9), none, .arith .lss (.t 8) (.t 7)⟩)] (some [0, 1, 7, 8, 9])) (.seq (.cond (.t 9) .skip (.exit 0)) (.seq (.block 1 (.seq (.ops 2 [
    (0, ⟨(some 10), none, .mv (.t 8)⟩),
    (1, ⟨(some 5), none, .mv (.t 10)⟩)] (some [0, 1, 5, 7, 8])) (.seq (.ops 6 [
    (0, ⟨(some 11), none, .mv (.t 1)⟩),
    (1, ⟨(some 12), none, .mv (.t 0)⟩),
    (2, ⟨(some 13), none, .mv (.t 5)⟩),
    (3, ⟨(some 14), none, .idxS 8 (.t 12) (.t 13)⟩),
    (4, ⟨(some 15), none, .load (some 8) (.t 14)⟩),
    (5, ⟨(some 16), none, .callv (.t 11) [(.t 15)]⟩)] (some [0, 1, 5, 7, 8, 16])) (.cond (.t 16) (.seq (.ops 2 [
    (0, ⟨(some 17), none, .mv (.t 5)⟩),
    (1, ⟨(some 4), none, .mv (.t 17)⟩)] (some [4])) .ret) .skip)))) (.ops 2 [
    (0, ⟨(some 18), none, .arith .add (.t 8) (.k (.d (.val (.int .i64 1))))⟩),
    (1, ⟨(some 8), none, .mv (.t 18)⟩)] (some [0, 1, 7, 8])))))))) (.seq (.ops 1 [
    (0, ⟨(some 4), none, .mv (.k (.d (.val (.int .i64 (-1)))))⟩)] (some [4])) .ret)))
def md145 : FuncId → Option Nat × Bool
  | _ => (none, false)
def od145 : Nat → List (List Nat) × List Nat × Option (List Nat)
  | 0 => ([], [], some [0, 1])
  | 1 => ([], [], some [0, 1, 7, 8])
  | 2 => ([], [], some [0, 1, 7, 8, 9])
  | 3 => ([], [], some [0, 1, 5, 7, 8])
  | 4 => ([], [], some [0, 1, 5, 7, 8, 16])
  | 5 => ([], [], some [4])
  | 6 => ([], [], some [0, 1, 7, 8])
  | 7 => ([], [], some [4])
  | _ => ([], [], none)
theorem b145 {ags : List AV} {row : Option (List DV)} {r : AV} {row' nw : Option (List DV)} (hal : ags.length ≤ 19) (hrow : row'.isSome = true → row.isSome = true) (h : xwp Try.prog x145 (retK [.tmp 4] row.isSome r row' nw) (St.init ags row)) : Good Try.prog 145 ags row r row' nw :=
  good_of_body' (md := md145) (od := od145) Try.f145 (by kernel_rfl) (by kernel_rfl) (by kernel_rfl) (by kernel_rfl) (by kernel_rfl) hal hrow h

def x147 : XC := (.seq (.ops 2 [
    (0, ⟨(some 3), none, .box (.t 0)⟩),
    (1, ⟨(some 6), none, .alloc [(.int .i64 0), (.int .u64 0), (.int .u64 0), (.int .u64 0), (.int .u64 0), (.int .i64 0), (.int .i64 0), (.slice none 0 0)]⟩)] (some [1, 2, 3, 6])) (.seq (.ops 5 [
    (0, ⟨(some 9), none, .load (some 8) (.t 3)⟩),
    (1, ⟨(some 10), none, .mkrow [(.int .i64 0), (.int .u64 0), (.int .u64 0), (.int .u64 0), (.int .u64 0), (.int .i64 0), (.int .i64 0), (.slice none 0 0)] 1 8 [(0, 8, (.t 9))]⟩),
    (2, ⟨(some 11), none, .mv (.t 1)⟩),
    (3, ⟨(some 12), none, .call 161 [(.t 10), (.t 11)] none true⟩),
    (4, ⟨(some 7), none, .mv (.t 12)⟩)] (some [1, 2, 3, 6, 7])) (.seq (.block 0 (.seq (.ops 3 [
    (0, ⟨(some 14), none, .mv (.t 2)⟩),
    (1, ⟨(some 15), none, .arith .lss (.t 14) (.k (.d (.val (.int .i64 0))))⟩),
    (2, ⟨(some 13), none, .mv (.t 15)⟩)] (some [1, 2, 3, 6, 7, 13])) (.cond (.t 13) (.ops 7 [
    (0, ⟨(some 16), none, .mv (.t 7)⟩),
    (1, ⟨(some 17), none, .load (some 8) (.t 3)⟩),
    (2, ⟨(some 18), none, .mkrow [(.int .i64 0), (.int .u64 0), (.int .u64 0), (.int .u64 0), (.int .u64 0), (.int .i64 0), (.int .i64 0), (.slice none 0 0)] 1 8 [(0, 8, (.t 17))]⟩),
    (3, ⟨(some 19), none, .build [(.int .i64 0), (.int .u64 0), (.int .u64 0), (.int .u64 0), (.int .u64 0), (.int .i64 0), (.int .i64 0), (.slice none 0 0)] [(0, 1, (.k (.d (.val (.int .i64 5))))), (6, 1, (.k (.d (.val (.int .i64 (-1)))))), (7, 1, (.t 18))]⟩),
    (4, ⟨(some 20), none, .mkrow [(.int .i64 0), (.int .u64 0), (.int .u64 0), (.int .u64 0), (.int .u64 0), (.int .i64 0), (.int .i64 0), (.slice none 0 0)] 1 8 [(0, 8, (.t 19))]⟩),
    (5, ⟨(some 21), none, .app [(.int .i64 0), (.int .u64 0), (.int .u64 0), (.int .u64 0), (.int .u64 0), (.int .i64 0), (.int .i64 0), (.slice none 0 0)] 80 (.t 16) (.t 20)⟩),
    (6, ⟨(some 7), none, .mv (.t 21)⟩)] (some [6, 7])) (.seq (.ops 4 [
    (0, ⟨(some 23), none, .mv (.t 2)⟩),
    (1, ⟨(some 24), none, .mv (.t 1)⟩),
    (2, ⟨(some 25), none, .arith .gtr (.t 23) (.t 24)⟩),
    (3, ⟨(some 22), none, .mv (.t 25)⟩)] (some [1, 2, 3, 6, 7, 22])) (.cond (.t 22) (.seq (.ops 6 [
    (0, ⟨(some 26), none, .load (some 8) (.t 3)⟩),
    (1, ⟨(some 27), none, .build [(.int .i64 0), (.int .u64 0), (.int .u64 0), (.int .u64 0), (.int .u64 0), (.int .i64 0), (.int .i64 0), (.slice none 0 0)] [(0, 1, (.k (.d (.val (.int .i64 1)))))]⟩),
    (2, ⟨(some 28), none, .mkrow [(.int .i64 0), (.int .u64 0), (.int .u64 0), (.int .u64 0), (.int .u64 0), (.int .i64 0), (.int .i64 0), (.slice none 0 0)] 2 8 [(0, 8, (.t 26)), (8, 8, (.t 27))]⟩),
    (3, ⟨(some 29), none, .build [(.int .i64 0), (.int .u64 0), (.int .u64 0), (.int .u64 0), (.int .u64 0), (.int .i64 0), (.int .i64 0), (.slice none 0 0)] [(0, 1, (.k (.d (.val (.int .i64 4))))), (7, 1, (.t 28))]⟩),
    (4, ⟨(some 8), none, .alloc [(.int .i64 0), (.int .u64 0), (.int .u64 0), (.int .u64 0), (.int .u64 0), (.int .i64 0), (.int .i64 0), (.slice none 0 0)]⟩),
    (5, ⟨none, none, .store 8 (.t 8) (.t 29)⟩)] (some [1, 2, 6, 7, 8])) (.ops 9 [
    (0, ⟨(some 30), none, .mv (.t 7)⟩),
    (1, ⟨(some 31), none, .load (some 8) (.t 8)⟩),
    (2, ⟨(some 32), none, .mkrow [(.int .i64 0), (.int .u64 0), (.int .u64 0), (.int .u64 0), (.int .u64 0), (.int .i64 0), (.int .i64 0), (.slice none 0 0)] 1 8 [(0, 8, (.t 31))]⟩),
    (3, ⟨(some 33), none, .mv (.t 2)⟩),
    (4, ⟨(some 34), none, .mv (.t 1)⟩),
    (5, ⟨(some 35), none, .arith .sub (.t 33) (.t 34)⟩),
    (6, ⟨(some 36), none, .call 161 [(.t 32), (.t 35)] none true⟩),
    (7, ⟨(some 37), none, .app [(.int .i64 0), (.int .u64 0), (.int .u64 0), (.int .u64 0), (.int .u64 0), (.int .i64 0), (.int .i64 0), (.slice none 0 0)] 80 (.t 30) (.t 36)⟩),
    (8, ⟨(some 7), none, .mv (.t 37)⟩)] (some [6, 7]))) .skip))))) (.seq (.seq (.ops 2 [
    (0, ⟨(some 38), none, .mv (.t 7)⟩),
    (1, ⟨(some 39), none, .lenS (.t 38)⟩)] (some [6, 7, 39])) (.block 1 (.seq (.ops 2 [
    (0, ⟨(some 41), none, .arith .eql (.t 39) (.k (.d (.val (.int .i64 0))))⟩),
    (1, ⟨(some 40), none, .mv (.t 41)⟩)] (some [6, 7, 39, 40])) (.cond (.t 40) (.seq (.ops 2 [
    (0, ⟨(some 42), none, .build [(.int .i64 0), (.int .u64 0), (.int .u64 0), (.int .u64 0), (.int .u64 0), (.int .i64 0), (.int .i64 0), (.slice none 0 0)] [(0, 1, (.k (.d (.val (.int .i64 1)))))]⟩),
    (1, ⟨none, none, .store 8 (.t 6) (.t 42)⟩)] (some [6])) .ret) (.seq (.ops 2 [
    (0, ⟨(some 44), none, .arith .eql (.t 39) (.k (.d (.val (.int .i64 1))))⟩),
    (1, ⟨(some 43), none, .mv (.t 44)⟩)] (some [6, 7, 43])) (.cond (.t 43) (.seq (.ops 4 [
    (0, ⟨(some 45), none, .mv (.t 7)⟩),
    (1, ⟨(some 46), none, .idxS 8 (.t 45) (.k (.d (.val (.int .i64 0))))⟩),
    (2, ⟨(some 47), none, .load (some 8) (.t 46)⟩),
    (3, ⟨none, none, .store 8 (.t 6) (.t 47)⟩)] (some [6])) .ret) .skip)))))) (.seq (.ops 3 [
    (0, ⟨(some 48), none, .mv (.t 7)⟩),
    (1, ⟨(some 49), none, .build [(.int .i64 0), (.int .u64 0), (.int .u64 0), (.int .u64 0), (.int .u64 0), (.int .i64 0), (.int .i64 0), (.slice none 0 0)] [(0, 1, (.k (.d (.val (.int .i64 3))))), (7, 1, (.t 48))]⟩),
    (2, ⟨none, none, .store 8 (.t 6) (.t 49)⟩)] (some [6])) .ret)))))
def md147 : FuncId → Option Nat × Bool
  | 161 => (none, true)
  | _ => (none, false)
def od147 : Nat → List (List Nat) × List Nat × Option (List Nat)
  | 0 => ([], [], some [1, 2, 3, 6])
  | 1 => ([], [], some [1, 2, 3, 6, 7])
  | 2 => ([], [], some [1, 2, 3, 6, 7, 13])
  | 3 => ([], [], some [6, 7])
  | 4 => ([], [], some [1, 2, 3, 6, 7, 22])
  | 5 => ([], [], some [1, 2, 6, 7, 8])
  | 6 => ([], [], some [6, 7])
  | 7 => ([], [], some [6, 7, 39])
  | 8 => ([], [], some [6, 7, 39, 40])
  | 9 => ([], [], some [6])
  | 10 => ([], [], some [6, 7, 43])
  | 11 => ([], [], some [6])
  | 12 => ([], [], some [6])
  | _ => ([], [], none)
theorem b147 {ags : List AV} {row : Option (List DV)} {r : AV} {row' nw : Option (List DV)} (hal : ags.length ≤ 50) (hrow : row'.isSome = true → row.isSome = true) (h : xwp Try.prog x147 (retK [.cell 6 (some 8)] row.isSome r row' nw) (St.init ags row)) : Good Try.prog 147 ags row r row' nw :=
  good_of_body' (md := md147) (od := od147) Try.f147 (by kernel_rfl) (by kernel_rfl) (by kernel_rfl) (by kernel_rfl) (by kernel_rfl) hal hrow h

def x161 : XC := (.seq (.ops 1 [
    (0, ⟨(some 4), none, .mv (.k (.d (.val (.slice none 0 0))))⟩)] (some [0, 1])) (.seq (.seq (.ops 2 [
    (0, ⟨(some 9), none, .mv (.t 1)⟩),
    (1, ⟨(some 10), none, .arith .lss (.t 9) (.k (.d (.val (.int .i64 0))))⟩)] (some [0, 1, 10])) (.cond (.t 10) (.ops 2 [
    (0, ⟨(some 11), none, .bad⟩),
    (1, ⟨none, none, .bad⟩)] (some [0, 1])) .skip)) (.seq (.ops 11 [
    (0, ⟨(some 13), none, .mv (.t 0)⟩),
    (1, ⟨(some 14), none, .lenS (.t 13)⟩),
    (2, ⟨(some 15), none, .conv .u64 (.t 14)⟩),
    (3, ⟨(some 16), none, .mv (.t 1)⟩),
    (4, ⟨(some 17), none, .conv .u64 (.t 16)⟩),
    (5, ⟨(some 18), none, .call 169 [(.t 15), (.t 17)] none false⟩),
    (6, ⟨(some 12), none, .mv (.t 18)⟩),
    (7, ⟨(some 19), none, .ext (.t 12) 0⟩),
    (8, ⟨(some 20), none, .ext (.t 12) 1⟩),
    (9, ⟨(some 5), none, .mv (.t 19)⟩),
    (10, ⟨(some 6), none, .mv (.t 20)⟩)] (some [0, 5, 6])) (.seq (.seq (.ops 6 [
    (0, ⟨(some 21), none, .mv (.t 5)⟩),
    (1, ⟨(some 22), none, .arith .gtr (.t 21) (.k (.d (.val (.int .u64 0))))⟩),
    (2, ⟨(some 23), none, .mv (.t 22)⟩),
    (3, ⟨(some 24), (some (23, false)), .mv (.t 6)⟩),
    (4, ⟨(some 25), (some (23, false)), .arith .gtr (.t 24) (.k (.d (.val (.int .u64 9223372036854775807))))⟩),
    (5, ⟨(some 26), none, .pick (.t 23) (.k (.d (.val (.bool true)))) (.t 25)⟩)] (some [0, 6, 26])) (.cond (.t 26) (.ops 2 [
    (0, ⟨(some 27), none, .bad⟩),
    (1, ⟨none, none, .bad⟩)] (some [0, 6])) .skip)) (.seq (.ops 4 [
    (0, ⟨(some 28), none, .mv (.t 6)⟩),
    (1, ⟨(some 29), none, .conv .i64 (.t 28)⟩),
    (2, ⟨(some 30), none, .mks [(.int .i64 0), (.int .u64 0), (.int .u64 0), (.int .u64 0), (.int .u64 0), (.int .i64 0), (.int .i64 0), (.slice none 0 0)] 80 (.t 29) (.t 29)⟩),
    (3, ⟨(some 7), none, .mv (.t 30)⟩)] (some [0, 7])) (.seq (.ops 4 [
    (0, ⟨(some 31), none, .mv (.t 7)⟩),
    (1, ⟨(some 32), none, .mv (.t 0)⟩),
    (2, ⟨(some 33), none, .cpy 8 (.t 31) (.t 32)⟩),
    (3, ⟨(some 8), none, .mv (.t 33)⟩)] (some [7, 8])) (.seq (.block 0 (.loop (.seq (.seq (.ops 4 [
    (0, ⟨(some 34), none, .mv (.t 8)⟩),
    (1, ⟨(some 35), none, .mv (.t 7)⟩),
    (2, ⟨(some 36), none, .lenS (.t 35)⟩),
    (3, ⟨(some 37), none, .arith .lss (.t 34) (.t 36)⟩)] (some [7, 8, 37])) (.cond (.t 37) .skip (.exit 0))) (.block 1 (.ops 10 [
    (0, ⟨(some 38), none, .mv (.t 8)⟩),
    (1, ⟨(some 39), none, .mv (.t 7)⟩),
    (2, ⟨(some 40), none, .mv (.t 8)⟩),
    (3, ⟨(some 41), none, .slS 8 (.t 39) (some (.t 40)) none⟩),
    (4, ⟨(some 42), none, .mv (.t 7)⟩),
    (5, ⟨(some 43), none, .mv (.t 8)⟩),
    (6, ⟨(some 44), none, .slS 8 (.t 42) none (some (.t 43))⟩),
    (7, ⟨(some 45), none, .cpy 8 (.t 41) (.t 44)⟩),
    (8, ⟨(some 46), none, .arith .add (.t 38) (.t 45)⟩),
    (9, ⟨(some 8), none, .mv (.t 46)⟩)] (some [7, 8])))))) (.seq (.ops 2 [
    (0, ⟨(some 47), none, .mv (.t 7)⟩),
    (1, ⟨(some 4), none, .mv (.t 47)⟩)] (some [4])) .ret))))))))
def md161 : FuncId → Option Nat × Bool
  | _ => (none, false)
def od161 : Nat → List (List Nat) × List Nat × Option (List Nat)
  | 0 => ([], [], some [0, 1])
  | 1 => ([], [], some [0, 1, 10])
  | 2 => ([], [], some [0, 1])
  | 3 => ([], [], some [0, 5, 6])
  | 4 => ([], [], some [0, 6, 26])
  | 5 => ([], [], some [0, 6])
  | 6 => ([], [], some [0, 7])
  | 7 => ([], [], some [7, 8])
  | 8 => ([], [], some [7, 8, 37])
  | 9 => ([[], [], [], [1, 2], [], [], [4, 5], [1, 2, 3, 4, 5, 6], [0, 1, 2, 3, 4, 5, 6, 7], [0, 1, 2, 3, 4, 5, 6, 7, 8]], [0, 1, 2, 3, 4, 5, 6, 7, 8, 9], some [7, 8])
  | 10 => ([], [], some [4])
  | _ => ([], [], none)
theorem b161 {ags : List AV} {row : Option (List DV)} {r : AV} {row' nw : Option (List DV)} (hal : ags.length ≤ 48) (hrow : row'.isSome = true → row.isSome = true) (h : xwp Try.prog x161 (retK [.tmp 4] row.isSome r row' nw) (St.init ags row)) : Good Try.prog 161 ags row r row' nw :=
  good_of_body' (md := md161) (od := od161) Try.f161 (by kernel_rfl) (by kernel_rfl) (by kernel_rfl) (by kernel_rfl) (by kernel_rfl) hal hrow h

def x169 : XC := (.seq (.ops 2 [
    (0, ⟨(some 4), none, .mv (.k (.d (.val (.int .u64 0))))⟩),
    (1, ⟨(some 5), none, .mv (.k (.d (.val (.int .u64 0))))⟩)] (some [0, 1])) (.seq (.cond (.k (.d (.val (.bool false)))) (.seq (.ops 10 [
    (0, ⟨(some 11), none, .mv (.t 0)⟩),
    (1, ⟨(some 12), none, .conv .u32 (.t 11)⟩),
    (2, ⟨(some 13), none, .mv (.t 1)⟩),
    (3, ⟨(some 14), none, .conv .u32 (.t 13)⟩),
    (4, ⟨(some 15), none, .call 174 [(.t 12), (.t 14)] none false⟩),
    (5, ⟨(some 10), none, .mv (.t 15)⟩),
    (6, ⟨(some 16), none, .ext (.t 10) 0⟩),
    (7, ⟨(some 17), none, .ext (.t 10) 1⟩),
    (8, ⟨(some 6), none, .mv (.t 16)⟩),
    (9, ⟨(some 7), none, .mv (.t 17)⟩)] (some [6, 7])) (.seq (.ops 6 [
    (0, ⟨(some 18), none, .mv (.t 6)⟩),
    (1, ⟨(some 19), none, .conv .u64 (.t 18)⟩),
    (2, ⟨(some 20), none, .mv (.t 7)⟩),
    (3, ⟨(some 21), none, .conv .u64 (.t 20)⟩),
    (4, ⟨(some 4), none, .mv (.t 19)⟩),
    (5, ⟨(some 5), none, .mv (.t 21)⟩)] (some [4, 5])) .ret)) .skip) (.seq (.ops 8 [
    (0, ⟨(some 23), none, .mv (.t 0)⟩),
    (1, ⟨(some 24), none, .mv (.t 1)⟩),
    (2, ⟨(some 25), none, .call 175 [(.t 23), (.t 24)] none false⟩),
    (3, ⟨(some 22), none, .mv (.t 25)⟩),
    (4, ⟨(some 26), none, .ext (.t 22) 0⟩),
    (5, ⟨(some 27), none, .ext (.t 22) 1⟩),
    (6, ⟨(some 8), none, .mv (.t 26)⟩),
    (7, ⟨(some 9), none, .mv (.t 27)⟩)] (some [8, 9])) (.seq (.ops 4 [
    (0, ⟨(some 28), none, .mv (.t 8)⟩),
    (1, ⟨(some 29), none, .mv (.t 9)⟩),
    (2, ⟨(some 4), none, .mv (.t 28)⟩),
    (3, ⟨(some 5), none, .mv (.t 29)⟩)] (some [4, 5])) .ret))))
def md169 : FuncId → Option Nat × Bool
  | _ => (none, false)
def od169 : Nat → List (List Nat) × List Nat × Option (List Nat)
  | 0 => ([], [], some [0, 1])
  | 1 => ([], [], some [6, 7])
  | 2 => ([], [], some [4, 5])
  | 3 => ([], [], some [8, 9])
  | 4 => ([], [], some [4, 5])
  | _ => ([], [], none)
theorem b169 {ags : List AV} {row : Option (List DV)} {r : AV} {row' nw : Option (List DV)} (hal : ags.length ≤ 30) (hrow : row'.isSome = true → row.isSome = true) (h : xwp Try.prog x169 (retK [.tmp 4, .tmp 5] row.isSome r row' nw) (St.init ags row)) : Good Try.prog 169 ags row r row' nw :=
  good_of_body' (md := md169) (od := od169) Try.f169 (by kernel_rfl) (by kernel_rfl) (by kernel_rfl) (by kernel_rfl) (by kernel_rfl) hal hrow h

def x174 : XC := (.seq (.ops 2 [
    (0, ⟨(some 4), none, .mv (.k (.d (.val (.int .u32 0))))⟩),
    (1, ⟨(some 5), none, .mv (.k (.d (.val (.int .u32 0))))⟩)] (some [0, 1])) (.seq (.ops 6 [
    (0, ⟨(some 7), none, .mv (.t 0)⟩),
    (1, ⟨(some 8), none, .conv .u64 (.t 7)⟩),
    (2, ⟨(some 9), none, .mv (.t 1)⟩),
    (3, ⟨(some 10), none, .conv .u64 (.t 9)⟩),
    (4, ⟨(some 11), none, .arith .mul (.t 8) (.t 10)⟩),
    (5, ⟨(some 6), none, .mv (.t 11)⟩)] (some [6])) (.seq (.ops 7 [
    (0, ⟨(some 12), none, .mv (.t 6)⟩),
    (1, ⟨(some 13), none, .arith .shr (.t 12) (.k (.d (.val (.int .u64 32))))⟩),
    (2, ⟨(some 14), none, .conv .u32 (.t 13)⟩),
    (3, ⟨(some 15), none, .mv (.t 6)⟩),
    (4, ⟨(some 16), none, .conv .u32 (.t 15)⟩),
    (5, ⟨(some 4), none, .mv (.t 14)⟩),
    (6, ⟨(some 5), none, .mv (.t 16)⟩)] (some [4, 5])) .ret)))
def md174 : FuncId → Option Nat × Bool
  | _ => (none, false)
def od174 : Nat → List (List Nat) × List Nat × Option (List Nat)
  | 0 => ([], [], some [0, 1])
  | 1 => ([], [], some [6])
  | 2 => ([], [], some [4, 5])
  | _ => ([], [], none)
theorem b174 {ags : List AV} {row : Option (List DV)} {r : AV} {row' nw : Option (List DV)} (hal : ags.length ≤ 17) (hrow : row'.isSome = true → row.isSome = true) (h : xwp Try.prog x174 (retK [.tmp 4, .tmp 5] row.isSome r row' nw) (St.init ags row)) : Good Try.prog 174 ags row r row' nw :=
  good_of_body' (md := md174) (od := od174) Try.f174 (by kernel_rfl) (by kernel_rfl) (by kernel_rfl) (by kernel_rfl) (by kernel_rfl) hal hrow h

def x175 : XC := (.seq (.ops 2 [
    (0, ⟨(some 4), none, .mv (.k (.d (.val (.int .u64 0))))⟩),
    (1, ⟨(some 5), none, .mv (.k (.d (.val (.int .u64 0))))⟩)] (some [0, 1])) (.seq (.ops 3 [
    (0, ⟨(some 14), none, .mv (.t 0)⟩),
    (1, ⟨(some 15), none, .arith .and (.t 14) (.k (.d (.val (.int .u64 4294967295))))⟩),
    (2, ⟨(some 6), none, .mv (.t 15)⟩)] (some [0, 1, 6])) (.seq (.ops 3 [
    (0, ⟨(some 16), none, .mv (.t 0)⟩),
    (1, ⟨(some 17), none, .arith .shr (.t 16) (.k (.d (.val (.int .u64 32))))⟩),
    (2, ⟨(some 7), none, .mv (.t 17)⟩)] (some [0, 1, 6, 7])) (.seq (.ops 3 [
    (0, ⟨(some 18), none, .mv (.t 1)⟩),
    (1, ⟨(some 19), none, .arith .and (.t 18) (.k (.d (.val (.int .u64 4294967295))))⟩),
    (2, ⟨(some 8), none, .mv (.t 19)⟩)] (some [0, 1, 6, 7, 8])) (.seq (.ops 3 [
    (0, ⟨(some 20), none, .mv (.t 1)⟩),
    (1, ⟨(some 21), none, .arith .shr (.t 20) (.k (.d (.val (.int .u64 32))))⟩),
    (2, ⟨(some 9), none, .mv (.t 21)⟩)] (some [0, 1, 6, 7, 8, 9])) (.seq (.ops 4 [
    (0, ⟨(some 22), none, .mv (.t 6)⟩),
    (1, ⟨(some 23), none, .mv (.t 8)⟩),
    (2, ⟨(some 24), none, .arith .mul (.t 22) (.t 23)⟩),
    (3, ⟨(some 10), none, .mv (.t 24)⟩)] (some [0, 1, 6, 7, 8, 9, 10])) (.seq (.ops 7 [
    (0, ⟨(some 25), none, .mv (.t 7)⟩),
    (1, ⟨(some 26), none, .mv (.t 8)⟩),
    (2, ⟨(some 27), none, .arith .mul (.t 25) (.t 26)⟩),
    (3, ⟨(some 28), none, .mv (.t 10)⟩),
    (4, ⟨(some 29), none, .arith .shr (.t 28) (.k (.d (.val (.int .u64 32))))⟩),
    (5, ⟨(some 30), none, .arith .add (.t 27) (.t 29)⟩),
    (6, ⟨(some 11), none, .mv (.t 30)⟩)] (some [0, 1, 6, 7, 9, 11])) (.seq (.ops 3 [
    (0, ⟨(some 31), none, .mv (.t 11)⟩),
    (1, ⟨(some 32), none, .arith .and (.t 31) (.k (.d (.val (.int .u64 4294967295))))⟩),
    (2, ⟨(some 12), none, .mv (.t 32)⟩)] (some [0, 1, 6, 7, 9, 11, 12])) (.seq (.ops 3 [
    (0, ⟨(some 33), none, .mv (.t 11)⟩),
    (1, ⟨(some 34), none, .arith .shr (.t 33) (.k (.d (.val (.int .u64 32))))⟩),
    (2, ⟨(some 13), none, .mv (.t 34)⟩)] (some [0, 1, 6, 7, 9, 12, 13])) (.seq (.ops 6 [
    (0, ⟨(some 35), none, .mv (.t 12)⟩),
    (1, ⟨(some 36), none, .mv (.t 6)⟩),
    (2, ⟨(some 37), none, .mv (.t 9)⟩),
    (3, ⟨(some 38), none, .arith .mul (.t 36) (.t 37)⟩),
    (4, ⟨(some 39), none, .arith .add (.t 35) (.t 38)⟩),
    (5, ⟨(some 12), none, .mv (.t 39)⟩)] (some [0, 1, 7, 9, 12, 13])) (.seq (.ops 9 [
    (0, ⟨(some 40), none, .mv (.t 7)⟩),
    (1, ⟨(some 41), none, .mv (.t 9)⟩),
    (2, ⟨(some 42), none, .arith .mul (.t 40) (.t 41)⟩),
    (3, ⟨(some 43), none, .mv (.t 13)⟩),
    (4, ⟨(some 44), none, .arith .add (.t 42) (.t 43)⟩),
    (5, ⟨(some 45), none, .mv (.t 12)⟩),
    (6, ⟨(some 46), none, .arith .shr (.t 45) (.k (.d (.val (.int .u64 32))))⟩),
    (7, ⟨(some 47), none, .arith .add (.t 44) (.t 46)⟩),
    (8, ⟨(some 4), none, .mv (.t 47)⟩)] (some [0, 1, 4])) (.seq (.ops 4 [
    (0, ⟨(some 48), none, .mv (.t 0)⟩),
    (1, ⟨(some 49), none, .mv (.t 1)⟩),
    (2, ⟨(some 50), none, .arith .mul (.t 48) (.t 49)⟩),
    (3, ⟨(some 5), none, .mv (.t 50)⟩)] (some [4, 5])) .ret))))))))))))
def md175 : FuncId → Option Nat × Bool
  | _ => (none, false)
def od175 : Nat → List (List Nat) × List Nat × Option (List Nat)
  | 0 => ([], [], some [0, 1])
  | 1 => ([], [], some [0, 1, 6])
  | 2 => ([], [], some [0, 1, 6, 7])
  | 3 => ([], [], some [0, 1, 6, 7, 8])
  | 4 => ([], [], some [0, 1, 6, 7, 8, 9])
  | 5 => ([], [], some [0, 1, 6, 7, 8, 9, 10])
  | 6 => ([], [], some [0, 1, 6, 7, 9, 11])
  | 7 => ([], [], some [0, 1, 6, 7, 9, 11, 12])
  | 8 => ([], [], some [0, 1, 6, 7, 9, 12, 13])
  | 9 => ([], [], some [0, 1, 7, 9, 12, 13])
  | 10 => ([], [], some [0, 1, 4])
  | 11 => ([], [], some [4, 5])
  | _ => ([], [], none)
theorem b175 {ags : List AV} {row : Option (List DV)} {r : AV} {row' nw : Option (List DV)} (hal : ags.length ≤ 51) (hrow : row'.isSome = true → row.isSome = true) (h : xwp Try.prog x175 (retK [.tmp 4, .tmp 5] row.isSome r row' nw) (St.init ags row)) : Good Try.prog 175 ags row r row' nw :=
  good_of_body' (md := md175) (od := od175) Try.f175 (by kernel_rfl) (by kernel_rfl) (by kernel_rfl) (by kernel_rfl) (by kernel_rfl) hal hrow h

def tabC : Tab
  | 56 => some ⟨x56, [.tmp 0], 58, false⟩
  | 114 => some ⟨x114, [.cell 2 (some 8)], 13, false⟩
  | 47 => some ⟨x47, [.tmp 4], 60, false⟩
  | 57 => some ⟨x57, [.cell 4 (some 8), .tmp 5], 20, false⟩
  | 60 => some ⟨x60, [.tmp 2], 10, false⟩
  | 68 => some ⟨x68, [.tmp 2], 7, false⟩
  | 104 => some ⟨x104, [.tmp 4], 9, false⟩
  | 115 => some ⟨x115, [.cell 2 (some 8)], 43, false⟩
  | 116 => some ⟨x116, [.tmp 2], 92, false⟩
  | 117 => some ⟨x117, [.tmp 2], 6, false⟩
  | 123 => some ⟨x123, [.tmp 2], 54, false⟩
  | 145 => some ⟨x145, [.tmp 4], 19, false⟩
  | 147 => some ⟨x147, [.cell 6 (some 8)], 50, false⟩
  | 161 => some ⟨x161, [.tmp 4], 48, true⟩
  | 169 => some ⟨x169, [.tmp 4, .tmp 5], 30, false⟩
  | 174 => some ⟨x174, [.tmp 4, .tmp 5], 17, false⟩
  | 175 => some ⟨x175, [.tmp 4, .tmp 5], 51, false⟩
  | 84 => some ⟨x84, [.tmp 2], 4, false⟩
  | 132 => some ⟨x132, [.tmp 4], 46, false⟩
  | 156 => some ⟨x156, [.tmp 2], 121, false⟩
  | 157 => some ⟨x157, [.tmp 4], 24, false⟩
  | 83 => some ⟨x83, [.cell 2 (some 8)], 13, false⟩
  | 119 => some ⟨x119, [.cell 4 (some 4)], 24, false⟩
  | 149 => some ⟨x149, [.cell 2 (some 8)], 16, false⟩
  | 150 => some ⟨x150, [], 10, false⟩
  | 162 => some ⟨x162, [.cell 2 (some 8)], 14, false⟩
  | 163 => some ⟨x163, [.tmp 4], 17, false⟩
  | 164 => some ⟨x164, [.cell 4 (some 8)], 20, false⟩
  | 170 => some ⟨x170, [.tmp 2], 16, false⟩
  | 171 => some ⟨x171, [.cell 2 (some 8)], 33, false⟩
  | 172 => some ⟨x172, [.tmp 2], 23, false⟩
  | 176 => some ⟨x176, [.cell 2 (some 8)], 60, false⟩
  | 177 => some ⟨x177, [.tmp 2, .tmp 3], 29, false⟩
  | 178 => some ⟨x178, [], 15, false⟩
  | 179 => some ⟨x179, [.cell 2 (some 4)], 19, false⟩
  | 180 => some ⟨x180, [.cell 2 (some 4)], 10, false⟩
  | 181 => some ⟨x181, [.tmp 2], 34, false⟩
  | 182 => some ⟨x182, [.tmp 2], 54, false⟩
  | 183 => some ⟨x183, [.cell 2 (some 4)], 28, false⟩
  | 184 => some ⟨x184, [.cell 2 (some 4)], 15, false⟩
  | 185 => some ⟨x185, [.tmp 2], 50, false⟩
  | 186 => some ⟨x186, [.tmp 2], 22, false⟩
  | 187 => some ⟨x187, [.tmp 2], 28, false⟩
  | 188 => some ⟨x188, [.tmp 4], 8, false⟩
  | 189 => some ⟨x189, [.tmp 2], 24, false⟩
  | 190 => some ⟨x190, [.tmp 4], 8, false⟩
  | 73 => some ⟨x73, [.cell 4 (some 4)], 19, false⟩
  | _ => none
theorem tabC_ok : TabOK Try.prog tabC := by
  intro f t h ags row r row' nw hal hrow hx
  unfold tabC at h
  split at h
  · cases h; exact b56 hal hrow hx
  · cases h; exact b114 hal hrow hx
  · cases h; exact b47 hal hrow hx
  · cases h; exact b57 hal hrow hx
  · cases h; exact b60 hal hrow hx
  · cases h; exact b68 hal hrow hx
  · cases h; exact b104 hal hrow hx
  · cases h; exact b115 hal hrow hx
  · cases h; exact b116 hal hrow hx
  · cases h; exact b117 hal hrow hx
  · cases h; exact b123 hal hrow hx
  · cases h; exact b145 hal hrow hx
  · cases h; exact b147 hal hrow hx
  · cases h; exact b161 hal hrow hx
  · cases h; exact b169 hal hrow hx
  · cases h; exact b174 hal hrow hx
  · cases h; exact b175 hal hrow hx
  · cases h; exact b84 hal hrow hx
  · cases h; exact b132 hal hrow hx
  · cases h; exact b156 hal hrow hx
  · cases h; exact b157 hal hrow hx
  · cases h; exact b83 hal hrow hx
  · cases h; exact b119 hal hrow hx
  · cases h; exact b149 hal hrow hx
  · cases h; exact b150 hal hrow hx
  · cases h; exact b162 hal hrow hx
  · cases h; exact b163 hal hrow hx
  · cases h; exact b164 hal hrow hx
  · cases h; exact b170 hal hrow hx
  · cases h; exact b171 hal hrow hx
  · cases h; exact b172 hal hrow hx
  · cases h; exact b176 hal hrow hx
  · cases h; exact b177 hal hrow hx
  · cases h; exact b178 hal hrow hx
  · cases h; exact b179 hal hrow hx
  · cases h; exact b180 hal hrow hx
  · cases h; exact b181 hal hrow hx
  · cases h; exact b182 hal hrow hx
  · cases h; exact b183 hal hrow hx
  · cases h; exact b184 hal hrow hx
  · cases h; exact b185 hal hrow hx
  · cases h; exact b186 hal hrow hx
  · cases h; exact b187 hal hrow hx
  · cases h; exact b188 hal hrow hx
  · cases h; exact b189 hal hrow hx
  · cases h; exact b190 hal hrow hx
  · cases h; exact b73 hal hrow hx
  · cases h

end Go.Sv
namespace Go.Sv
open Go Go.Proofs
set_option maxRecDepth 100000
theorem mul_ev : ∀ c : Nat, c < 21 → evF tabC (spP 100) 100 40 169 [.d (.val (.int .u64 1)), .d (.val (.int .u64 (c : Nat)))] none = some (.tup [.d (.val (.int .u64 0)), .d (.val (.int .u64 (c : Nat)))], none, none)
  | 0, _ => by kernel_rfl
  | 1, _ => by kernel_rfl
  | 2, _ => by kernel_rfl
  | 3, _ => by kernel_rfl
  | 4, _ => by kernel_rfl
  | 5, _ => by kernel_rfl
  | 6, _ => by kernel_rfl
  | 7, _ => by kernel_rfl
  | 8, _ => by kernel_rfl
  | 9, _ => by kernel_rfl
  | 10, _ => by kernel_rfl
  | 11, _ => by kernel_rfl
  | 12, _ => by kernel_rfl
  | 13, _ => by kernel_rfl
  | 14, _ => by kernel_rfl
  | 15, _ => by kernel_rfl
  | 16, _ => by kernel_rfl
  | 17, _ => by kernel_rfl
  | 18, _ => by kernel_rfl
  | 19, _ => by kernel_rfl
  | 20, _ => by kernel_rfl
  | c + 21, h => by omega
theorem mul_good (c : Nat) (h : c < 21) : Good Try.prog 169 [.d (.val (.int .u64 1)), .d (.val (.int .u64 (c : Nat)))] none (.tup [.d (.val (.int .u64 0)), .d (.val (.int .u64 (c : Nat)))]) none none :=
  evF_sound tabC_ok (spP_ok 100) 40 169 _ none _ _ _ (mul_ev c h)
theorem repl_add (a : List AV) (k : Nat) : ∀ m, repl a (m + k) = repl a m ++ repl a k
  | 0 => by simp [repl]
  | m + 1 => by rw [show m + 1 + k = (m + k) + 1 by omega, repl, repl_add a k m, repl, List.append_assoc]
theorem repl_len (a : List AV) : ∀ m, (repl a m).length = m * a.length
  | 0 => by simp [repl]
  | m + 1 => by rw [repl, List.length_append, repl_len a m, Nat.succ_mul]; omega
theorem repl_all {a : List AV} {p : AV → Bool} (h : a.all p = true) : ∀ m, (repl a m).all p = true
  | 0 => rfl
  | m + 1 => by rw [repl, List.all_append, h, repl_all h m]; rfl
def zsN : List Value := [.int .i64 0, .int .u64 0, .int .u64 0, .int .u64 0, .int .u64 0, .int .i64 0, .int .i64 0, .slice none 0 0]
def rowR (e : List AV) (m c : Nat) : List AV := repl e m ++ repl (zeroA zsN) (c - m)
theorem rowR_len {e : List AV} (he : e.length = 8) {m c : Nat} (h : m ≤ c) : (rowR e m c).length = c * 8 := by
  rw [rowR, List.length_append, repl_len, repl_len, he, show (zeroA zsN).length = 8 from rfl]; omega
theorem rowR_take {e : List AV} (he : e.length = 8) (m c : Nat) : (rowR e m c).take (m * 8) = repl e m := by
  rw [rowR, List.take_append_of_le_length (by rw [repl_len, he]; omega), List.take_of_length_le (by rw [repl_len, he]; omega)]
theorem repl_take {a : List AV} (ha : a.length = 8) {k m : Nat} (h : k ≤ m) : (repl a m).take (k * 8) = repl a k := by
  obtain ⟨j, rfl⟩ := Nat.exists_eq_add_of_le h
  rw [repl_add, List.take_append_of_le_length (by rw [repl_len, ha]; omega), List.take_of_length_le (by rw [repl_len, ha]; omega)]
theorem repl_drop {a : List AV} (ha : a.length = 8) {k m : Nat} (h : k ≤ m) : (repl a m).drop (k * 8) = repl a (m - k) := by
  obtain ⟨j, rfl⟩ := Nat.exists_eq_add_of_le h
  rw [repl_add, List.drop_append_of_le_length (by rw [repl_len, ha]; omega), List.drop_of_length_le (by rw [repl_len, ha]; omega), List.nil_append, Nat.add_sub_cancel_left]
theorem rowR_splice {e : List AV} (he : e.length = 8) {m c k : Nat} (h : m + k ≤ c) : splice (rowR e m c) (m * 8) (repl e k) = rowR e (m + k) c := by
  rw [splice, rowR_take he, repl_len, he]
  have e1 : (rowR e m c).drop (m * 8 + k * 8) = repl (zeroA zsN) (c - (m + k)) := by
    have e0 : (repl e m).drop (m * 8) = [] := List.drop_of_length_le (by rw [repl_len, he]; omega)
    rw [← List.drop_drop, rowR, List.drop_append_of_le_length (by rw [repl_len, he]; omega), e0, List.nil_append]
    rw [repl_drop rfl (by omega), Nat.sub_sub]
  rw [e1, rowR, repl_add]
section
variable {P : Program} {Q : Cont} {fr : Fr} {C : Heap} {Z : Frz} {nx : Nat} {base n d : Nat} {l : List (Nat × XO)} {kp : Option (List Nat)} {x i y s : X}
theorem r_cvU {m : Nat} (hx : x.ev fr = .i (m : Nat)) (hm : m ≤ 1000000) (k : R P l base kp Q nx (fr.put d (.d (.val (.int .u64 (m : Nat))))) C Z) : R P ((n, ⟨some d, none, .conv .u64 x⟩) :: l) base kp Q nx fr C Z := by
  refine r_p ?_ k
  simp only [xp, hx]
  rw [show IntKind.wrap .u64 ((m : Nat) : Int) = (m : Nat) by simp [IntKind.wrap, IntKind.signed, IntKind.bits]; omega]
theorem r_cvI {m : Nat} (hx : x.ev fr = .d (.val (.int .u64 (m : Nat)))) (hm : m ≤ 1000000) (k : R P l base kp Q nx (fr.put d (.i (m : Nat))) C Z) : R P ((n, ⟨some d, none, .conv .i64 x⟩) :: l) base kp Q nx fr C Z := by
  refine r_p ?_ k
  simp only [xp, hx]
  rw [wrap_in (by omega)]
theorem r_gtrU {m : Nat} (hx : x.ev fr = .d (.val (.int .u64 (m : Nat)))) (hy : y.ev fr = .d (.val (.int .u64 9223372036854775807))) (hm : m ≤ 1000000) (k : R P l base kp Q nx (fr.put d (.b false)) C Z) : R P ((n, ⟨some d, none, .arith .gtr x y⟩) :: l) base kp Q nx fr C Z := by
  refine r_p ?_ k
  have h : decide (((m : Nat) : Int) > 9223372036854775807) = false := by simp; omega
  simp only [xp, hx, hy, arith, Option.map_some, if_true, h]
theorem r_mksN {c : X} {id m : Nat} (hl : i.ev fr = .i (m : Nat)) (hc : c.ev fr = .i (m : Nat)) (hid : base + n = id) (hb : m ≤ 1000000) (k : R P l base kp Q nx (fr.put d (.slL id 0 m 8)) (C.put id (repl (zeroA zsN) m)) Z) : R P ((n, ⟨some d, none, .mks [.int .i64 0, .int .u64 0, .int .u64 0, .int .u64 0, .int .u64 0, .int .i64 0, .int .i64 0, .slice none 0 0] 80 i c⟩) :: l) base kp Q nx fr C Z := by
  subst hid
  refine r_n (r := repl (zeroA zsN) m) ?_ k
  simp only [xn, hl, hc]
  rw [if_pos (by omega)]
  rfl
theorem r_slLlo {b m c : Nat} (hx : x.ev fr = .slL b 0 c 8) (hi : i.ev fr = .i (m : Nat)) (h0 : 0 < m) (h : m < c) (k : R P l base kp Q nx (fr.put d (.slL b (0 + m * 8) (c - m) 8)) C Z) : R P ((n, ⟨some d, none, .slS 8 x (some i) none⟩) :: l) base kp Q nx fr C Z := by
  refine r_p ?_ k
  simp only [xp, hx, hiOf, loOf, hi, intUpto, if_true, Option.bind_some]
  rw [if_pos (by omega)]
  simp only [Int.toNat_natCast, Option.map_some]
  rw [if_neg (by omega), if_neg (by omega)]
theorem r_slLhi {b m c : Nat} (hx : x.ev fr = .slL b 0 c 8) (hi : i.ev fr = .i (m : Nat)) (h : m ≤ c) (k : R P l base kp Q nx (fr.put d (.slL b 0 m 8)) C Z) : R P ((n, ⟨some d, none, .slS 8 x none (some i)⟩) :: l) base kp Q nx fr C Z := by
  refine r_p ?_ k
  simp only [xp, hx, hiOf, loOf, hi, intUpto, if_true]
  rw [if_pos (by omega)]
  simp only [Int.toNat_natCast, Option.bind_some, Option.map_some, if_true]
theorem r_cpyR {e : List AV} {b m c : Nat} (he : e.length = 8) (h1 : e.all AV.one = true) (hd : y.ev fr = .slL b (0 + m * 8) (c - m) 8) (hx : x.ev fr = .slL b 0 m 8) (hr : C b = some (rowR e m c)) (hz : Z b = false) (h : m ≤ c)
    (k : R P l base kp Q nx (fr.put d (.i (Nat.min m (c - m) : Nat))) (C.put b (rowR e (m + Nat.min m (c - m)) c)) Z) : R P ((n, ⟨some d, none, .cpy 8 y x⟩) :: l) base kp Q nx fr C Z := by
  refine r_w (v := .i (Nat.min m (c - m) : Nat)) (C' := C.put b (rowR e (m + Nat.min m (c - m)) c)) ?_ k
  have hmin : Nat.min m (c - m) ≤ m ∧ Nat.min m (c - m) ≤ c - m := ⟨Nat.min_le_left _ _, Nat.min_le_right _ _⟩
  have hs : srcOf C 8 (.slL b 0 m 8) = some (repl e m, m) := by
    simp only [srcOf, if_true, hr, Option.bind_some]
    rw [if_pos (by rw [rowR_len he h]; omega), List.drop_zero, rowR_take he]
  simp only [xw, hx, hs, hd, hr, Option.bind_some]
  rw [if_pos ⟨trivial, hz, by rw [rowR_len he h]; omega, repl_all h1 m⟩]
  rw [repl_take he hmin.1, Nat.zero_add, rowR_splice he (by omega)]
theorem r_cpy0 {e : List DV} {b c : Nat} (he : e.length = 8) (h1 : (e.map AV.d).all AV.one = true) (hd : y.ev fr = .slL b 0 c 8) (hx : x.ev fr = .d (.sl e 1)) (hr : C b = some (repl (zeroA zsN) c)) (hz : Z b = false)
    (k : R P l base kp Q nx (fr.put d (.i (Nat.min 1 c : Nat))) (C.put b (rowR (e.map AV.d) (Nat.min 1 c) c)) Z) : R P ((n, ⟨some d, none, .cpy 8 y x⟩) :: l) base kp Q nx fr C Z := by
  refine r_w (v := .i (Nat.min 1 c : Nat)) (C' := C.put b (rowR (e.map AV.d) (Nat.min 1 c) c)) ?_ k
  have hs : srcOf C 8 (.d (.sl e 1)) = some (e.map AV.d, 1) := by
    cases e with
    | nil => simp at he
    | cons a e => simp only [srcOf]; rw [if_pos (by omega)]
  have hmin : Nat.min 1 c ≤ 1 ∧ Nat.min 1 c ≤ c := ⟨Nat.min_le_left _ _, Nat.min_le_right _ _⟩
  have hl : (repl (zeroA zsN) c).length = c * 8 := by rw [repl_len]; rfl
  simp only [xw, hx, hs, hd, hr, Option.bind_some]
  rw [if_pos ⟨trivial, hz, by rw [hl]; omega, h1⟩]
  have e1 : (e.map AV.d).take (Nat.min 1 c * 8) = repl (e.map AV.d) (Nat.min 1 c) := by
    have := repl_take (a := e.map AV.d) (by simpa using he) hmin.1
    simpa [repl] using this
  have e2 : repl (zeroA zsN) c = rowR (e.map AV.d) 0 c := by simp [rowR, repl]
  have e3 := rowR_splice (e := e.map AV.d) (by simpa using he) (m := 0) (c := c) (k := Nat.min 1 c) (by omega)
  rw [Nat.zero_mul, Nat.zero_add] at e3
  rw [e1, e2, e3]
end
set_option maxHeartbeats 4000000
attribute [local irreducible] W E R KP thenK blockK retK Good xwp aRun
theorem repl_map (e : List DV) : ∀ c, repl (e.map AV.d) c = ((List.replicate c e).flatten).map AV.d
  | 0 => rfl
  | c + 1 => by rw [repl, repl_map e c, List.replicate_succ, List.flatten_cons, List.map_append]
theorem repeat_good (e : List DV) (he : e.length = 8) (h1 : (e.map AV.d).all AV.one = true) (c : Nat) (hc : c < 21) : Good Try.prog 161 [.d (.sl e 1), .i (c : Nat)] none (.slL 1 0 c 8) none (some ((List.replicate c e).flatten)) := by
  have hm := mul_good c hc
  have hl : (e.map AV.d).length = 8 := by simpa using he
  have hD : ∀ m, (rowR (e.map AV.d) m c).all AV.isD = true := by
    intro m
    rw [rowR, List.all_append, repl_all (by rw [List.all_map]; simp [AV.isD]) m, repl_all (by rfl) (c - m)]; rfl
  refine b161 (by simp) (by simp) (w_init ?_)
  unfold x161
  repeat' (first
    | (apply r_mvV; rfl)
    | (apply r_mvP; rfl)
    | (apply r_mvPL; rfl)
    | (apply r_mvS; rfl)
    | (apply r_mvSL; rfl)
    | (apply r_mvA; rfl)
    | (apply r_mvT; rfl)
    | (apply r_mvF; rfl)
    | (apply r_mvD; rfl)
    | (apply r_cvU (m := 1); rfl; omega)
    | (apply r_cvU (m := c); rfl; omega)
    | (apply r_callA (ags := [.d (.val (.int .u64 1)), .d (.val (.int .u64 (c : Nat)))]); rfl; rfl; exact hm)
    | (apply r_gtrU (m := c); rfl; rfl; omega)
    | (apply r_cvI (m := c); rfl; omega)
    | (apply r_mksN (m := c); rfl; rfl; ((conv => lhs; simp only [Nat.reduceAdd]) <;> rfl); omega)
    | (apply r_cpy0 (e := e) (b := 23) (c := c); exact he; exact h1; rfl; rfl; rfl; rfl)
    | (apply r_lss; rfl; rfl; (first | (apply decide_eq_true; omega) | (apply decide_eq_false; omega) | rfl))
    | (apply r_gtr; rfl; rfl; (first | (apply decide_eq_true; omega) | (apply decide_eq_false; omega) | rfl))
    | (apply r_add; rfl; rfl; rfl; omega)
    | (apply r_pickT; rfl)
    | (apply r_pickF; rfl)
    | (apply r_lenD; rfl)
    | (apply r_lenL; rfl)
    | (apply r_len0; rfl)
    | (apply r_ext; rfl; rfl)
    | (apply r_gT; rfl)
    | (apply r_gF'; rfl; rfl)
    | (apply r_gN'; rfl)
    | ((apply r_gS (o := default); rfl) <;> (intro h; try simp only [decide_eq_true_eq, decide_eq_false_iff_not, Bool.not_eq_true, Bool.not_eq_false] at h))
    | (apply r_p; rfl)
    | (apply r_nilK)
    | (apply r_nil)
    | (apply k_V; rfl)
    | (apply k_P; rfl)
    | (apply k_PL; rfl)
    | (apply k_S; rfl)
    | (apply k_SL; rfl)
    | (apply k_A; rfl)
    | (apply k_T; rfl)
    | (apply k_F; rfl)
    | (apply k_D; rfl; rotate_left; rfl)
    | (apply k_nil)
    | (apply e_ret (vs := [.d (.val _)]); rfl)
    | (apply e_ret; rfl)
    | (apply e_ret' (vs := [.d (.val _)]); rfl)
    | (apply e_ret'; rfl)
    | (apply w_seq)
    | (apply w_ops; ((conv => lhs; simp only [Nat.reduceAdd]) <;> rfl))
    | (apply w_condT; rfl)
    | (apply w_condF; rfl)
    | ((apply w_condS; rfl) <;> (intro h; try simp only [decide_eq_true_eq, decide_eq_false_iff_not, Bool.not_eq_true, Bool.not_eq_false] at h))
    | (apply e_thenN)
    | (apply w_block)
    | (apply e_thenR)
    | (apply e_thenX)
    | (apply e_blkN)
    | (apply e_blkR)
    | (apply e_blkE)
    | (apply w_exit)
    | (apply w_ret)
    | (apply w_skip)
    | (apply e_blkE'; rfl))
  apply w_loopI (S := fun m : Nat => ⟨((Fr.nil.put 7 (.slL 23 0 c 8)).put 8 (.i m)), Heap.nil.put 23 (rowR (e.map AV.d) m c), Frz.but 100 23, 100⟩) (m := fun m => c - m) (I := fun m => m ≤ c ∧ (0 < c → 0 < m)) (i0 := Nat.min 1 c)
  · exact ⟨Nat.min_le_right _ _, fun h => by show 0 < min 1 c; omega⟩
  · refine wk1D (by omega) (by omega) rfl rfl (hD _) ?_
    repeat' (first
    | exact FWk.nil
    | (apply FWk.i; rfl; (first | rfl | omega | (simp; done)))
    | (apply FWk.sl; rfl; rfl; rfl; rfl; omega; rfl)
    | (apply FWk.ptr; rfl; rfl; rfl; omega; rfl)
    | (apply FWk.d; rfl; rfl)
    | (apply FWk.a; rfl; rfl; rfl)
    | (apply FWk.slN; rfl; omega; rfl))
  rintro m K ⟨hmc, hm0⟩ hK
  dsimp only
  rcases Nat.lt_or_ge m c with hlt | hge
  · have hmp := hm0 (by omega)
    have hmin : Nat.min m (c - m) ≤ c - m ∧ 0 < Nat.min m (c - m) := ⟨Nat.min_le_right _ _, by show 0 < min m (c - m); omega⟩
    repeat' (first
    | (apply r_mvV; rfl)
    | (apply r_mvP; rfl)
    | (apply r_mvPL; rfl)
    | (apply r_mvS; rfl)
    | (apply r_mvSL; rfl)
    | (apply r_mvA; rfl)
    | (apply r_mvT; rfl)
    | (apply r_mvF; rfl)
    | (apply r_mvD; rfl)
    | (apply r_slLlo (m := m); rfl; rfl; exact hmp; exact hlt)
    | (apply r_slLhi (m := m); rfl; rfl; exact hmc)
    | (apply r_cpyR (e := e.map AV.d) (m := m) (c := c); exact hl; exact h1; rfl; rfl; rfl; rfl; exact hmc)
    | (apply r_lss; rfl; rfl; (first | (apply decide_eq_true; omega) | (apply decide_eq_false; omega) | rfl))
    | (apply r_gtr; rfl; rfl; (first | (apply decide_eq_true; omega) | (apply decide_eq_false; omega) | rfl))
    | (apply r_add; rfl; rfl; rfl; omega)
    | (apply r_pickT; rfl)
    | (apply r_pickF; rfl)
    | (apply r_lenD; rfl)
    | (apply r_lenL; rfl)
    | (apply r_len0; rfl)
    | (apply r_ext; rfl; rfl)
    | (apply r_gT; rfl)
    | (apply r_gF'; rfl; rfl)
    | (apply r_gN'; rfl)
    | ((apply r_gS (o := default); rfl) <;> (intro h; try simp only [decide_eq_true_eq, decide_eq_false_iff_not, Bool.not_eq_true, Bool.not_eq_false] at h))
    | (apply r_p; rfl)
    | (apply r_nilK)
    | (apply r_nil)
    | (apply k_V; rfl)
    | (apply k_P; rfl)
    | (apply k_PL; rfl)
    | (apply k_S; rfl)
    | (apply k_SL; rfl)
    | (apply k_A; rfl)
    | (apply k_T; rfl)
    | (apply k_F; rfl)
    | (apply k_D; rfl; rotate_left; rfl)
    | (apply k_nil)
    | (apply e_ret (vs := [.d (.val _)]); rfl)
    | (apply e_ret; rfl)
    | (apply e_ret' (vs := [.d (.val _)]); rfl)
    | (apply e_ret'; rfl)
    | (apply w_seq)
    | (apply w_ops; ((conv => lhs; simp only [Nat.reduceAdd]) <;> rfl))
    | (apply w_condT; rfl)
    | (apply w_condF; rfl)
    | ((apply w_condS; rfl) <;> (intro h; try simp only [decide_eq_true_eq, decide_eq_false_iff_not, Bool.not_eq_true, Bool.not_eq_false] at h))
    | (apply e_thenN)
    | (apply w_block)
    | (apply e_thenR)
    | (apply e_thenX)
    | (apply e_blkN)
    | (apply e_blkR)
    | (apply e_blkE)
    | (apply w_exit)
    | (apply w_ret)
    | (apply w_skip)
    | (apply e_blkE'; rfl))
    apply e_thenK
    apply hK (m + Nat.min m (c - m))
    · exact ⟨by omega, fun _ => by omega⟩
    · omega
    · refine wk1D (by omega) (by omega) rfl rfl (hD _) ?_
      repeat' (first
    | exact FWk.nil
    | (apply FWk.i; rfl; (first | rfl | omega | (simp; done)))
    | (apply FWk.sl; rfl; rfl; rfl; rfl; omega; rfl)
    | (apply FWk.ptr; rfl; rfl; rfl; omega; rfl)
    | (apply FWk.d; rfl; rfl)
    | (apply FWk.a; rfl; rfl; rfl)
    | (apply FWk.slN; rfl; omega; rfl))
  · have ei : m = c := by omega
    subst ei
    have er : rowR (e.map AV.d) m m = ((List.replicate m e).flatten).map AV.d := by
      rw [rowR, Nat.sub_self, repl_map]; simp [repl]
    rw [er]
    repeat' (first
    | (apply r_mvV; rfl)
    | (apply r_mvP; rfl)
    | (apply r_mvPL; rfl)
    | (apply r_mvS; rfl)
    | (apply r_mvSL; rfl)
    | (apply r_mvA; rfl)
    | (apply r_mvT; rfl)
    | (apply r_mvF; rfl)
    | (apply r_mvD; rfl)
    | (apply r_lss; rfl; rfl; (first | (apply decide_eq_true; omega) | (apply decide_eq_false; omega) | rfl))
    | (apply r_gtr; rfl; rfl; (first | (apply decide_eq_true; omega) | (apply decide_eq_false; omega) | rfl))
    | (apply r_add; rfl; rfl; rfl; omega)
    | (apply r_pickT; rfl)
    | (apply r_pickF; rfl)
    | (apply r_lenD; rfl)
    | (apply r_lenL; rfl)
    | (apply r_len0; rfl)
    | (apply r_ext; rfl; rfl)
    | (apply r_gT; rfl)
    | (apply r_gF'; rfl; rfl)
    | (apply r_gN'; rfl)
    | ((apply r_gS (o := default); rfl) <;> (intro h; try simp only [decide_eq_true_eq, decide_eq_false_iff_not, Bool.not_eq_true, Bool.not_eq_false] at h))
    | (apply r_p; rfl)
    | (apply r_nilK)
    | (apply r_nil)
    | (apply k_V; rfl)
    | (apply k_P; rfl)
    | (apply k_PL; rfl)
    | (apply k_S; rfl)
    | (apply k_SL; rfl)
    | (apply k_A; rfl)
    | (apply k_T; rfl)
    | (apply k_F; rfl)
    | (apply k_D; rfl; rotate_left; rfl)
    | (apply k_nil)
    | (apply e_ret (vs := [.d (.val _)]); rfl)
    | (apply e_ret; rfl)
    | (apply e_ret' (vs := [.d (.val _)]); rfl)
    | (apply e_ret'; rfl)
    | (apply w_seq)
    | (apply w_ops; ((conv => lhs; simp only [Nat.reduceAdd]) <;> rfl))
    | (apply w_condT; rfl)
    | (apply w_condF; rfl)
    | ((apply w_condS; rfl) <;> (intro h; try simp only [decide_eq_true_eq, decide_eq_false_iff_not, Bool.not_eq_true, Bool.not_eq_false] at h))
    | (apply e_thenN)
    | (apply w_block)
    | (apply e_thenR)
    | (apply e_thenX)
    | (apply e_blkN)
    | (apply e_blkR)
    | (apply e_blkE)
    | (apply w_exit)
    | (apply w_ret)
    | (apply w_skip)
    | (apply e_blkE'; rfl))
    exact .new _ _ _ _ _ rfl rfl rfl
end Go.Sv
namespace Go.Sv
open Go Go.Proofs
set_option maxRecDepth 100000
theorem awake11_ev : evF tabA (spP 100) 100 40 29 [] none = some (.b true, none, none) := by kernel_rfl
theorem awake11_good : Good Try.prog 29 [] none (.b true) none none := evF_sound tabA_ok (spP_ok 100) 40 29 [] none _ _ _ awake11_ev
end Go.Sv
namespace Go.Sv
open Go Go.Proofs
def x3 : XC := (.seq (.ops 2 [
    (0, ⟨(some 3), none, .box (.t 0)⟩),
    (1, ⟨(some 6), none, .mv (.k (.d (.val (.bool false))))⟩)] (some [1, 2, 3])) (.seq (.seq (.ops 8 [
    (0, ⟨(some 9), none, .call 29 [] none false⟩),
    (1, ⟨(some 10), none, .un .not (.t 9)⟩),
    (2, ⟨(some 11), none, .mv (.t 10)⟩),
    (3, ⟨(some 12), (some (11, false)), .load (some 8) (.t 3)⟩),
    (4, ⟨(some 13), (some (11, false)), .mv (.t 1)⟩),
    (5, ⟨(some 14), (some (11, false)), .call 30 [(.t 12), (.t 13)] none false⟩),
    (6, ⟨(some 15), (some (11, false)), .un .not (.t 14)⟩),
    (7, ⟨(some 16), none, .pick (.t 11) (.k (.d (.val (.bool true)))) (.t 15)⟩)] (some [1, 2, 3, 16])) (.cond (.t 16) (.seq (.ops 2 [
    (0, ⟨(some 17), none, .call 29 [] none false⟩),
    (1, ⟨(some 6), none, .mv (.t 17)⟩)] (some [6])) .ret) .skip)) (.seq (.ops 9 [
    (0, ⟨(some 19), none, .load (some 8) (.t 3)⟩),
    (1, ⟨(some 20), none, .mv (.t 1)⟩),
    (2, ⟨(some 21), none, .mv (.t 2)⟩),
    (3, ⟨(some 22), none, .call 31 [(.t 19), (.t 20), (.t 21)] none false⟩),
    (4, ⟨(some 18), none, .mv (.t 22)⟩),
    (5, ⟨(some 23), none, .ext (.t 18) 0⟩),
    (6, ⟨(some 24), none, .ext (.t 18) 1⟩),
    (7, ⟨(some 7), none, .mv (.t 23)⟩),
    (8, ⟨(some 8), none, .mv (.t 24)⟩)] (some [1, 2, 3, 7, 8])) (.seq (.block 0 (.seq (.ops 4 [
    (0, ⟨(some 26), none, .load (some 8) (.t 3)⟩),
    (1, ⟨(some 27), none, .call 32 [(.t 26)] none false⟩),
    (2, ⟨(some 28), none, .un .not (.t 27)⟩),
    (3, ⟨(some 25), none, .mv (.t 28)⟩)] (some [1, 2, 3, 7, 8, 25])) (.cond (.t 25) (.seq (.ops 14 [
    (0, ⟨(some 29), none, .mv (.t 7)⟩),
    (1, ⟨(some 30), none, .lenS (.t 29)⟩),
    (2, ⟨(some 31), none, .arith .eql (.t 30) (.k (.d (.val (.int .i64 0))))⟩),
    (3, ⟨(some 32), none, .mv (.t 31)⟩),
    (4, ⟨(some 33), (some (32, true)), .mv (.t 8)⟩),
    (5, ⟨(some 34), (some (32, true)), .arith .eql (.t 33) (.k (.d (.val (.int .i64 1))))⟩),
    (6, ⟨(some 35), none, .pick (.t 32) (.t 34) (.k (.d (.val (.bool false))))⟩),
    (7, ⟨(some 36), none, .mv (.t 35)⟩),
    (8, ⟨(some 37), (some (36, true)), .load (some 8) (.t 3)⟩),
    (9, ⟨(some 38), (some (36, true)), .mv (.t 1)⟩),
    (10, ⟨(some 39), (some (36, true)), .call 33 [(.t 37), (.t 38)] none false⟩),
    (11, ⟨(some 40), (some (36, true)), .un .not (.t 39)⟩),
    (12, ⟨(some 41), none, .pick (.t 36) (.t 40) (.k (.d (.val (.bool false))))⟩),
    (13, ⟨(some 6), none, .mv (.t 41)⟩)] (some [6])) .ret) (.seq (.ops 9 [
    (0, ⟨(some 43), none, .mv (.t 2)⟩),
    (1, ⟨(some 44), none, .arith .lss (.t 43) (.k (.d (.val (.int .i64 0))))⟩),
    (2, ⟨(some 45), none, .mv (.t 44)⟩),
    (3, ⟨(some 46), (some (45, false)), .mv (.t 2)⟩),
    (4, ⟨(some 47), (some (45, false)), .mv (.t 1)⟩),
    (5, ⟨(some 48), (some (45, false)), .lenT (.t 47)⟩),
    (6, ⟨(some 49), (some (45, false)), .arith .gtr (.t 46) (.t 48)⟩),
    (7, ⟨(some 50), none, .pick (.t 45) (.k (.d (.val (.bool true)))) (.t 49)⟩),
    (8, ⟨(some 42), none, .mv (.t 50)⟩)] (some [1, 2, 3, 7, 8, 42])) (.cond (.t 42) (.seq (.ops 15 [
    (0, ⟨(some 51), none, .mv (.t 7)⟩),
    (1, ⟨(some 52), none, .lenS (.t 51)⟩),
    (2, ⟨(some 53), none, .arith .eql (.t 52) (.k (.d (.val (.int .i64 0))))⟩),
    (3, ⟨(some 54), none, .mv (.t 53)⟩),
    (4, ⟨(some 55), (some (54, true)), .mv (.t 8)⟩),
    (5, ⟨(some 56), (some (54, true)), .arith .eql (.t 55) (.k (.d (.val (.int .i64 2))))⟩),
    (6, ⟨(some 57), none, .pick (.t 54) (.t 56) (.k (.d (.val (.bool false))))⟩),
    (7, ⟨(some 58), none, .mv (.t 57)⟩),
    (8, ⟨(some 59), (some (58, true)), .load (some 8) (.t 3)⟩),
    (9, ⟨(some 60), (some (58, true)), .mv (.t 1)⟩),
    (10, ⟨(some 61), (some (58, true)), .mv (.t 2)⟩),
    (11, ⟨(some 62), (some (58, true)), .call 34 [(.t 59), (.t 60), (.t 61)] none false⟩),
    (12, ⟨(some 63), (some (58, true)), .arith .eql (.t 62) (.k (.d (.val (.int .i64 (-1)))))⟩),
    (13, ⟨(some 64), none, .pick (.t 58) (.t 63) (.k (.d (.val (.bool false))))⟩),
    (14, ⟨(some 6), none, .mv (.t 64)⟩)] (some [6])) .ret) .skip))))) (.seq (.ops 22 [
    (0, ⟨(some 65), none, .mv (.t 8)⟩),
    (1, ⟨(some 66), none, .arith .eql (.t 65) (.k (.d (.val (.int .i64 0))))⟩),
    (2, ⟨(some 67), none, .mv (.t 66)⟩),
    (3, ⟨(some 68), (some (67, true)), .mv (.t 7)⟩),
    (4, ⟨(some 69), (some (67, true)), .load (some 8) (.t 3)⟩),
    (5, ⟨(some 70), (some (67, true)), .mv (.t 1)⟩),
    (6, ⟨(some 71), (some (67, true)), .mv (.t 2)⟩),
    (7, ⟨(some 72), (some (67, true)), .call 36 [(.t 69), (.t 70), (.t 71)] none false⟩),
    (8, ⟨(some 73), (some (67, true)), .call 35 [(.t 68), (.t 72)] none false⟩),
    (9, ⟨(some 74), none, .pick (.t 67) (.t 73) (.k (.d (.val (.bool false))))⟩),
    (10, ⟨(some 75), none, .mv (.t 74)⟩),
    (11, ⟨(some 76), (some (75, true)), .load (some 8) (.t 3)⟩),
    (12, ⟨(some 77), (some (75, true)), .mv (.t 1)⟩),
    (13, ⟨(some 78), (some (75, true)), .mv (.t 2)⟩),
    (14, ⟨(some 79), (some (75, true)), .call 34 [(.t 76), (.t 77), (.t 78)] none false⟩),
    (15, ⟨(some 80), (some (75, true)), .load (some 8) (.t 3)⟩),
    (16, ⟨(some 81), (some (75, true)), .mv (.t 1)⟩),
    (17, ⟨(some 82), (some (75, true)), .mv (.t 2)⟩),
    (18, ⟨(some 83), (some (75, true)), .call 37 [(.t 80), (.t 81), (.t 82)] none false⟩),
    (19, ⟨(some 84), (some (75, true)), .arith .eql (.t 79) (.t 83)⟩),
    (20, ⟨(some 85), none, .pick (.t 75) (.t 84) (.k (.d (.val (.bool false))))⟩),
    (21, ⟨(some 6), none, .mv (.t 85)⟩)] (some [6])) .ret)))))
def md3 : FuncId → Option Nat × Bool
  | _ => (none, false)
def od3 : Nat → List (List Nat) × List Nat × Option (List Nat)
  | 0 => ([], [], some [1, 2, 3])
  | 1 => ([], [], some [1, 2, 3, 16])
  | 2 => ([], [], some [6])
  | 3 => ([], [], some [1, 2, 3, 7, 8])
  | 4 => ([], [], some [1, 2, 3, 7, 8, 25])
  | 5 => ([], [], some [6])
  | 6 => ([], [], some [1, 2, 3, 7, 8, 42])
  | 7 => ([], [], some [6])
  | 8 => ([[], [0], [0, 1], [0, 1, 2], [0, 1, 2], [0, 1, 2], [0, 1, 2], [0, 1, 2, 4, 5, 6], [0, 1, 2, 3, 4, 5, 6, 7], [0, 1, 2, 3, 4, 5, 6, 7, 8], [0, 1, 2, 3, 4, 5, 6, 7, 8, 9], [0, 1, 2, 3, 4, 5, 6, 7, 8, 9, 10], [0, 1, 2, 3, 4, 5, 6, 7, 8, 9, 10], [0, 1, 2, 3, 4, 5, 6, 7, 8, 9, 10], [0, 1, 2, 3, 4, 5, 6, 7, 8, 9, 10, 11, 12, 13], [0, 1, 2, 3, 4, 5, 6, 7, 8, 9, 10], [0, 1, 2, 3, 4, 5, 6, 7, 8, 9, 10], [0, 1, 2, 3, 4, 5, 6, 7, 8, 9, 10], [0, 1, 2, 3, 4, 5, 6, 7, 8, 9, 10, 11, 12, 13, 14, 15, 16, 17], [0, 1, 2, 3, 4, 5, 6, 7, 8, 9, 10, 11, 12, 13, 14, 15, 16, 17, 18], [0, 1, 2, 3, 4, 5, 6, 7, 8, 9, 10, 11, 12, 13, 14, 15, 16, 17, 18, 19], [0, 1, 2, 3, 4, 5, 6, 7, 8, 9, 10, 11, 12, 13, 14, 15, 16, 17, 18, 19, 20]], [0, 1, 2, 3, 4, 5, 6, 7, 8, 9, 10, 11, 12, 13, 14, 15, 16, 17, 18, 19, 20, 21], some [6])
  | _ => ([], [], none)
theorem b3 {ags : List AV} {row : Option (List DV)} {r : AV} {row' nw : Option (List DV)} (hal : ags.length ≤ 86) (hrow : row'.isSome = true → row.isSome = true) (h : xwp Try.prog x3 (retK [.tmp 6] row.isSome r row' nw) (St.init ags row)) : Good Try.prog 3 ags row r row' nw :=
  good_of_body' (md := md3) (od := od3) Try.f3 (by kernel_rfl) (by kernel_rfl) (by kernel_rfl) (by kernel_rfl) (by kernel_rfl) hal hrow h

set_option maxRecDepth 100000
set_option maxHeartbeats 4000000
attribute [local irreducible] W E R KP thenK blockK retK Good xwp aRun
def few11 (s : ByteArray) (t : T) : Bool := decide (sizeT t 601 ≤ 200) && (decide (s.size ≤ 40) && (!rightT t || decide (wideT t ≤ 3000)))
theorem few_cnt {t : T} (h : sizeT t 601 ≤ 200) : t.cnt ≤ 200 := by
  have := sizeT_cnt t 601 (by omega)
  omega
theorem few30_good (s : ByteArray) (hs : s.size ≤ 9223372036854775807) (t : T) (ht : inT t) : Good Try.prog 30 [nodeA t, .d (.val (.string s))] none (.b (few11 s t)) none none := by
  have h45 := few_good t
  by_cases hf : sizeT t 601 ≤ 200
  case neg =>
    have ev : few11 s t = false := by simp [few11, hf]
    rw [ev]
    rw [show decide (sizeT t 601 ≤ 200) = false by simp [hf]] at h45
    clear ht ev hf
    obtain ⟨k, a, b, c, d, mn, mx, subs⟩ := t
    have e0 : nodeA (.node k a b c d mn mx subs) = .agg [.i k, .d (.val (.int .u64 a)), .d (.val (.int .u64 b)), .d (.val (.int .u64 c)), .d (.val (.int .u64 d)), .i mn, .i mx, .d (.sl (encL subs) subs.length)] := rfl
    rw [e0] at h45 ⊢
    refine b30 (by simp) (by simp) (w_init ?_)
    unfold x30
    repeat' (first
    | (apply r_mvV; rfl)
    | (apply r_mvP; rfl)
    | (apply r_mvPL; rfl)
    | (apply r_mvS; rfl)
    | (apply r_mvSL; rfl)
    | (apply r_mvA; rfl)
    | (apply r_mvT; rfl)
    | (apply r_mvF; rfl)
    | (apply r_mvD; rfl)
    | (apply r_l; apply ld_kind; assumption; rfl)
    | (apply r_l; apply ld_mn; assumption; rfl)
    | (apply r_l; apply ld_mx; assumption; rfl)
    | (apply r_l; apply ld_subs; assumption; rfl)
    | (apply r_l; apply ld_set; assumption; rfl)
    | (apply r_l; apply ld_node; assumption; rfl)
    | (apply r_l; apply ld_kind'; assumption; rfl)
    | (apply r_l; apply ld_mn'; assumption; rfl)
    | (apply r_l; apply ld_mx'; assumption; rfl)
    | (apply r_l; apply ld_subs'; assumption; rfl)
    | (apply r_l; apply ld_node'; assumption; rfl)
    | (apply r_callA; rfl; rfl; exact h45)
    | (apply r_ldL; rfl; rfl; rfl)
    | (apply r_leq; rfl; rfl; (first | (apply decide_eq_true; omega) | (apply decide_eq_false; omega) | rfl))
    | (apply r_not; rfl; rfl)
    | (apply r_pickT; rfl)
    | (apply r_pickF; rfl)
    | (apply r_lenT; rfl)
    | (apply r_gT; rfl)
    | (apply r_gF'; rfl; rfl)
    | (apply r_gN'; rfl)
    | ((apply r_gS (o := default); rfl) <;> (intro h; try simp only [decide_eq_true_eq, decide_eq_false_iff_not, Bool.not_eq_true, Bool.not_eq_false] at h))
    | (apply r_box; ((conv => lhs; simp only [Nat.reduceAdd]) <;> rfl); rfl; rfl; rfl)
    | (apply r_nilK)
    | (apply r_nil)
    | (apply k_V; rfl)
    | (apply k_P; rfl)
    | (apply k_PL; rfl)
    | (apply k_S; rfl)
    | (apply k_SL; rfl)
    | (apply k_A; rfl)
    | (apply k_T; rfl)
    | (apply k_F; rfl)
    | (apply k_D; rfl; rotate_left; rfl)
    | (apply k_nil)
    | (apply e_ret (vs := [.d (.val _)]); rfl)
    | (apply e_ret; rfl)
    | (apply e_ret' (vs := [.d (.val _)]); rfl)
    | (apply e_ret'; rfl)
    | (apply w_seq)
    | (apply w_ops; ((conv => lhs; simp only [Nat.reduceAdd]) <;> rfl))
    | (apply e_thenN)
    | (apply w_block)
    | (apply e_thenR)
    | (apply e_thenX)
    | (apply e_blkN)
    | (apply e_blkR)
    | (apply e_blkE)
    | (apply w_exit)
    | (apply w_ret)
    | (apply w_skip)
    | (apply e_blkE'; rfl))
    exact retB rfl
  have hc := few_cnt hf
  have h32 := right8_good t (by omega)
  rw [show decide (sizeT t 601 ≤ 200) = true by simp [hf]] at h45
  by_cases h40 : s.size ≤ 40
  case neg =>
    have ev : few11 s t = false := by simp [few11, h40]
    rw [ev]
    clear ht ev hf hc h32
    obtain ⟨k, a, b, c, d, mn, mx, subs⟩ := t
    have e0 : nodeA (.node k a b c d mn mx subs) = .agg [.i k, .d (.val (.int .u64 a)), .d (.val (.int .u64 b)), .d (.val (.int .u64 c)), .d (.val (.int .u64 d)), .i mn, .i mx, .d (.sl (encL subs) subs.length)] := rfl
    rw [e0] at h45 ⊢
    refine b30 (by simp) (by simp) (w_init ?_)
    unfold x30
    repeat' (first
    | (apply r_mvV; rfl)
    | (apply r_mvP; rfl)
    | (apply r_mvPL; rfl)
    | (apply r_mvS; rfl)
    | (apply r_mvSL; rfl)
    | (apply r_mvA; rfl)
    | (apply r_mvT; rfl)
    | (apply r_mvF; rfl)
    | (apply r_mvD; rfl)
    | (apply r_l; apply ld_kind; assumption; rfl)
    | (apply r_l; apply ld_mn; assumption; rfl)
    | (apply r_l; apply ld_mx; assumption; rfl)
    | (apply r_l; apply ld_subs; assumption; rfl)
    | (apply r_l; apply ld_set; assumption; rfl)
    | (apply r_l; apply ld_node; assumption; rfl)
    | (apply r_l; apply ld_kind'; assumption; rfl)
    | (apply r_l; apply ld_mn'; assumption; rfl)
    | (apply r_l; apply ld_mx'; assumption; rfl)
    | (apply r_l; apply ld_subs'; assumption; rfl)
    | (apply r_l; apply ld_node'; assumption; rfl)
    | (apply r_callA; rfl; rfl; exact h45)
    | (apply r_ldL; rfl; rfl; rfl)
    | (apply r_leq; rfl; rfl; (first | (apply decide_eq_true; omega) | (apply decide_eq_false; omega) | rfl))
    | (apply r_not; rfl; rfl)
    | (apply r_pickT; rfl)
    | (apply r_pickF; rfl)
    | (apply r_lenT; rfl)
    | (apply r_gT; rfl)
    | (apply r_gF'; rfl; rfl)
    | (apply r_gN'; rfl)
    | ((apply r_gS (o := default); rfl) <;> (intro h; try simp only [decide_eq_true_eq, decide_eq_false_iff_not, Bool.not_eq_true, Bool.not_eq_false] at h))
    | (apply r_box; ((conv => lhs; simp only [Nat.reduceAdd]) <;> rfl); rfl; rfl; rfl)
    | (apply r_nilK)
    | (apply r_nil)
    | (apply k_V; rfl)
    | (apply k_P; rfl)
    | (apply k_PL; rfl)
    | (apply k_S; rfl)
    | (apply k_SL; rfl)
    | (apply k_A; rfl)
    | (apply k_T; rfl)
    | (apply k_F; rfl)
    | (apply k_D; rfl; rotate_left; rfl)
    | (apply k_nil)
    | (apply e_ret (vs := [.d (.val _)]); rfl)
    | (apply e_ret; rfl)
    | (apply e_ret' (vs := [.d (.val _)]); rfl)
    | (apply e_ret'; rfl)
    | (apply w_seq)
    | (apply w_ops; ((conv => lhs; simp only [Nat.reduceAdd]) <;> rfl))
    | (apply e_thenN)
    | (apply w_block)
    | (apply e_thenR)
    | (apply e_thenX)
    | (apply e_blkN)
    | (apply e_blkR)
    | (apply e_blkE)
    | (apply w_exit)
    | (apply w_ret)
    | (apply w_skip)
    | (apply e_blkE'; rfl))
    exact retB rfl
  by_cases hr : rightT t = true
  case neg =>
    have hr : rightT t = false := by simpa using hr
    have ev : few11 s t = true := by simp [few11, hf, h40, hr]
    rw [ev]
    rw [hr] at h32
    clear ht ev hf hc hr
    obtain ⟨k, a, b, c, d, mn, mx, subs⟩ := t
    have e0 : nodeA (.node k a b c d mn mx subs) = .agg [.i k, .d (.val (.int .u64 a)), .d (.val (.int .u64 b)), .d (.val (.int .u64 c)), .d (.val (.int .u64 d)), .i mn, .i mx, .d (.sl (encL subs) subs.length)] := rfl
    rw [e0] at h45 h32 ⊢
    refine b30 (by simp) (by simp) (w_init ?_)
    unfold x30
    repeat' (first
    | (apply r_mvV; rfl)
    | (apply r_mvP; rfl)
    | (apply r_mvPL; rfl)
    | (apply r_mvS; rfl)
    | (apply r_mvSL; rfl)
    | (apply r_mvA; rfl)
    | (apply r_mvT; rfl)
    | (apply r_mvF; rfl)
    | (apply r_mvD; rfl)
    | (apply r_l; apply ld_kind; assumption; rfl)
    | (apply r_l; apply ld_mn; assumption; rfl)
    | (apply r_l; apply ld_mx; assumption; rfl)
    | (apply r_l; apply ld_subs; assumption; rfl)
    | (apply r_l; apply ld_set; assumption; rfl)
    | (apply r_l; apply ld_node; assumption; rfl)
    | (apply r_l; apply ld_kind'; assumption; rfl)
    | (apply r_l; apply ld_mn'; assumption; rfl)
    | (apply r_l; apply ld_mx'; assumption; rfl)
    | (apply r_l; apply ld_subs'; assumption; rfl)
    | (apply r_l; apply ld_node'; assumption; rfl)
    | (apply r_callA; rfl; rfl; exact h45)
    | (apply r_callA; rfl; rfl; exact h32)
    | (apply r_ldL; rfl; rfl; rfl)
    | (apply r_leq; rfl; rfl; (first | (apply decide_eq_true; omega) | (apply decide_eq_false; omega) | rfl))
    | (apply r_not; rfl; rfl)
    | (apply r_pickT; rfl)
    | (apply r_pickF; rfl)
    | (apply r_lenT; rfl)
    | (apply r_gT; rfl)
    | (apply r_gF'; rfl; rfl)
    | (apply r_gN'; rfl)
    | ((apply r_gS (o := default); rfl) <;> (intro h; try simp only [decide_eq_true_eq, decide_eq_false_iff_not, Bool.not_eq_true, Bool.not_eq_false] at h))
    | (apply r_box; ((conv => lhs; simp only [Nat.reduceAdd]) <;> rfl); rfl; rfl; rfl)
    | (apply r_nilK)
    | (apply r_nil)
    | (apply k_V; rfl)
    | (apply k_P; rfl)
    | (apply k_PL; rfl)
    | (apply k_S; rfl)
    | (apply k_SL; rfl)
    | (apply k_A; rfl)
    | (apply k_T; rfl)
    | (apply k_F; rfl)
    | (apply k_D; rfl; rotate_left; rfl)
    | (apply k_nil)
    | (apply e_ret (vs := [.d (.val _)]); rfl)
    | (apply e_ret; rfl)
    | (apply e_ret' (vs := [.d (.val _)]); rfl)
    | (apply e_ret'; rfl)
    | (apply w_seq)
    | (apply w_ops; ((conv => lhs; simp only [Nat.reduceAdd]) <;> rfl))
    | (apply e_thenN)
    | (apply w_block)
    | (apply e_thenR)
    | (apply e_thenX)
    | (apply e_blkN)
    | (apply e_blkR)
    | (apply e_blkE)
    | (apply w_exit)
    | (apply w_ret)
    | (apply w_skip)
    | (apply e_blkE'; rfl))
    exact retB rfl
  have hok := ok_of_right ht hr
  have h38 := wide_good 1000000 t (by omega) (by omega) hok
  have ev : few11 s t = decide (wideT t ≤ 3000) := by simp [few11, hf, h40, hr]
  rw [ev]
  rw [hr] at h32
  have hw := wideT_in t hok
  generalize wideT t = wt at h38 hw ⊢
  clear ht ev hf hc hr hok
  obtain ⟨k, a, b, c, d, mn, mx, subs⟩ := t
  have e0 : nodeA (.node k a b c d mn mx subs) = .agg [.i k, .d (.val (.int .u64 a)), .d (.val (.int .u64 b)), .d (.val (.int .u64 c)), .d (.val (.int .u64 d)), .i mn, .i mx, .d (.sl (encL subs) subs.length)] := rfl
  rw [e0] at h45 h32 h38 ⊢
  refine b30 (by simp) (by simp) (w_init ?_)
  unfold x30
  repeat' (first
    | (apply r_mvV; rfl)
    | (apply r_mvP; rfl)
    | (apply r_mvPL; rfl)
    | (apply r_mvS; rfl)
    | (apply r_mvSL; rfl)
    | (apply r_mvA; rfl)
    | (apply r_mvT; rfl)
    | (apply r_mvF; rfl)
    | (apply r_mvD; rfl)
    | (apply r_l; apply ld_kind; assumption; rfl)
    | (apply r_l; apply ld_mn; assumption; rfl)
    | (apply r_l; apply ld_mx; assumption; rfl)
    | (apply r_l; apply ld_subs; assumption; rfl)
    | (apply r_l; apply ld_set; assumption; rfl)
    | (apply r_l; apply ld_node; assumption; rfl)
    | (apply r_l; apply ld_kind'; assumption; rfl)
    | (apply r_l; apply ld_mn'; assumption; rfl)
    | (apply r_l; apply ld_mx'; assumption; rfl)
    | (apply r_l; apply ld_subs'; assumption; rfl)
    | (apply r_l; apply ld_node'; assumption; rfl)
    | (apply r_callA; rfl; rfl; exact h45)
    | (apply r_callA; rfl; rfl; exact h32)
    | (apply r_callA; rfl; rfl; exact h38)
    | (apply r_ldL; rfl; rfl; rfl)
    | (apply r_leq; rfl; rfl; (first | (apply decide_eq_true; omega) | (apply decide_eq_false; omega) | rfl))
    | (apply r_not; rfl; rfl)
    | (apply r_pickT; rfl)
    | (apply r_pickF; rfl)
    | (apply r_lenT; rfl)
    | (apply r_gT; rfl)
    | (apply r_gF'; rfl; rfl)
    | (apply r_gN'; rfl)
    | ((apply r_gS (o := default); rfl) <;> (intro h; try simp only [decide_eq_true_eq, decide_eq_false_iff_not, Bool.not_eq_true, Bool.not_eq_false] at h))
    | (apply r_box; ((conv => lhs; simp only [Nat.reduceAdd]) <;> rfl); rfl; rfl; rfl)
    | (apply r_nilK)
    | (apply r_nil)
    | (apply k_V; rfl)
    | (apply k_P; rfl)
    | (apply k_PL; rfl)
    | (apply k_S; rfl)
    | (apply k_SL; rfl)
    | (apply k_A; rfl)
    | (apply k_T; rfl)
    | (apply k_F; rfl)
    | (apply k_D; rfl; rotate_left; rfl)
    | (apply k_nil)
    | (apply e_ret (vs := [.d (.val _)]); rfl)
    | (apply e_ret; rfl)
    | (apply e_ret' (vs := [.d (.val _)]); rfl)
    | (apply e_ret'; rfl)
    | (apply w_seq)
    | (apply w_ops; ((conv => lhs; simp only [Nat.reduceAdd]) <;> rfl))
    | (apply e_thenN)
    | (apply w_block)
    | (apply e_thenR)
    | (apply e_thenX)
    | (apply e_blkN)
    | (apply e_blkR)
    | (apply e_blkE)
    | (apply w_exit)
    | (apply w_ret)
    | (apply w_skip)
    | (apply e_blkE'; rfl))
  all_goals exact retB rfl
theorem all_ref (s : ByteArray) (t : T) (hf : fitsT t 12 = true) (hok : okT t) (j : Nat) (hj : j ≤ s.size) : allG s t j = rallG s t j := by
  have : 0 ≤ ((j : Nat) : Int) ∧ ((j : Nat) : Int) ≤ s.size := by omega
  simp only [allG, hf, this, and_self, if_true, Int.toNat_natCast, rallG]
  rw [step_ref s t hok (by simp)]
theorem law3 (t : T) (s : ByteArray) (n : Int) (ht : inT t) (hs : s.size ≤ 9223372036854775807) (hn : inW n) : Good Try.prog 3 [nodeA t, .d (.val (.string s)), .i n] none (.b true) none none := by
  have haw := awake11_good
  have h30 := few30_good s hs t ht
  have hna : [nodeA t].all AV.nrm = true := by rw [List.all_cons, nodeA_nrm]; rfl
  unfold inW at hn
  by_cases hf : few11 s t = true
  case neg =>
    have hf : few11 s t = false := by simpa using hf
    rw [hf] at h30
    clear ht hf
    obtain ⟨k, a, b, c, d, mn, mx, subs⟩ := t
    have e0 : nodeA (.node k a b c d mn mx subs) = .agg [.i k, .d (.val (.int .u64 a)), .d (.val (.int .u64 b)), .d (.val (.int .u64 c)), .d (.val (.int .u64 d)), .i mn, .i mx, .d (.sl (encL subs) subs.length)] := rfl
    rw [e0] at h30 ⊢
    refine b3 (by simp) (by simp) (w_init ?_)
    unfold x3
    repeat' (first
    | (apply r_mvV; rfl)
    | (apply r_mvP; rfl)
    | (apply r_mvPL; rfl)
    | (apply r_mvS; rfl)
    | (apply r_mvSL; rfl)
    | (apply r_mvA; rfl)
    | (apply r_mvT; rfl)
    | (apply r_mvF; rfl)
    | (apply r_mvD; rfl)
    | (apply r_l; apply ld_kind; assumption; rfl)
    | (apply r_l; apply ld_mn; assumption; rfl)
    | (apply r_l; apply ld_mx; assumption; rfl)
    | (apply r_l; apply ld_subs; assumption; rfl)
    | (apply r_l; apply ld_set; assumption; rfl)
    | (apply r_l; apply ld_node; assumption; rfl)
    | (apply r_l; apply ld_kind'; assumption; rfl)
    | (apply r_l; apply ld_mn'; assumption; rfl)
    | (apply r_l; apply ld_mx'; assumption; rfl)
    | (apply r_l; apply ld_subs'; assumption; rfl)
    | (apply r_l; apply ld_node'; assumption; rfl)
    | (apply r_callA; rfl; rfl; exact haw)
    | (apply r_callA; rfl; rfl; exact h30)
    | (apply r_ldL; rfl; rfl; rfl)
    | (apply r_eql; rfl; rfl; (first | (apply decide_eq_true; omega) | (apply decide_eq_false; omega) | rfl))
    | (apply r_lss; rfl; rfl; (first | (apply decide_eq_true; omega) | (apply decide_eq_false; omega) | rfl))
    | (apply r_gtr; rfl; rfl; (first | (apply decide_eq_true; omega) | (apply decide_eq_false; omega) | rfl))
    | (apply r_not; rfl; rfl)
    | (apply r_pickT; rfl)
    | (apply r_pickF; rfl)
    | (apply r_lenD; rfl)
    | (apply r_lenL; rfl)
    | (apply r_len0; rfl)
    | (apply r_lenT; rfl)
    | (apply r_ext; rfl; rfl)
    | (apply r_gT; rfl)
    | (apply r_gF'; rfl; rfl)
    | (apply r_gN'; rfl)
    | ((apply r_gS (o := default); rfl) <;> (intro h; try simp only [decide_eq_true_eq, decide_eq_false_iff_not, Bool.not_eq_true, Bool.not_eq_false] at h))
    | (apply r_box; ((conv => lhs; simp only [Nat.reduceAdd]) <;> rfl); rfl; rfl; rfl)
    | (apply r_nilK)
    | (apply r_nil)
    | (apply k_V; rfl)
    | (apply k_P; rfl)
    | (apply k_PL; rfl)
    | (apply k_S; rfl)
    | (apply k_SL; rfl)
    | (apply k_A; rfl)
    | (apply k_T; rfl)
    | (apply k_F; rfl)
    | (apply k_D; rfl; rotate_left; rfl)
    | (apply k_nil)
    | (apply e_ret (vs := [.d (.val _)]); rfl)
    | (apply e_ret; rfl)
    | (apply e_ret' (vs := [.d (.val _)]); rfl)
    | (apply e_ret'; rfl)
    | (apply w_seq)
    | (apply w_ops; ((conv => lhs; simp only [Nat.reduceAdd]) <;> rfl))
    | (apply w_condT; rfl)
    | (apply w_condF; rfl)
    | ((apply w_condS; rfl) <;> (intro h; try simp only [decide_eq_true_eq, decide_eq_false_iff_not, Bool.not_eq_true, Bool.not_eq_false] at h))
    | (apply e_thenN)
    | (apply w_block)
    | (apply e_thenR)
    | (apply e_thenX)
    | (apply e_blkN)
    | (apply e_blkR)
    | (apply e_blkE)
    | (apply w_exit)
    | (apply w_ret)
    | (apply w_skip)
    | (apply e_blkE'; rfl))
    exact retB rfl
  rw [hf] at h30
  simp only [few11, Bool.and_eq_true, decide_eq_true_eq] at hf
  obtain ⟨hf1, hf2, _⟩ := hf
  have hc := few_cnt hf1
  have h32 := right8_good t (by omega)
  have hok12 : fitsT t 12 = true → okT t := fun h => ok_of_right ht (by rw [right_fits]; exact h)
  have h31 := all_good s (by omega) t (by omega) hok12 n
  have h33 := match_good s (by omega) t (by omega) hok12
  have h34 := longest_good s (by omega) t (by omega) hok12 n
  by_cases hr : rightT t = true
  case neg =>
    have hr : rightT t = false := by simpa using hr
    have hfi : fitsT t 12 = false := by rw [← right_fits]; exact hr
    have hg : ∀ m, allG s t m = [] := fun m => by simp [allG, hfi]
    have he : allE s t n = 1 := by simp [allE, hfi]
    have hm : decide (lastG (allG s t 0) = s.size) = false := by
      rw [hg]; simp [lastG]
    rw [hr] at h32
    rw [hg, he] at h31
    rw [hm] at h33
    clear ht hok12 hr hfi hg he hm h34 hc hf1
    obtain ⟨k, a, b, c, d, mn, mx, subs⟩ := t
    have e0 : nodeA (.node k a b c d mn mx subs) = .agg [.i k, .d (.val (.int .u64 a)), .d (.val (.int .u64 b)), .d (.val (.int .u64 c)), .d (.val (.int .u64 d)), .i mn, .i mx, .d (.sl (encL subs) subs.length)] := rfl
    rw [e0] at h30 h31 h32 h33 ⊢
    refine b3 (by simp) (by simp) (w_init ?_)
    unfold x3
    repeat' (first
    | (apply r_mvV; rfl)
    | (apply r_mvP; rfl)
    | (apply r_mvPL; rfl)
    | (apply r_mvS; rfl)
    | (apply r_mvSL; rfl)
    | (apply r_mvA; rfl)
    | (apply r_mvT; rfl)
    | (apply r_mvF; rfl)
    | (apply r_mvD; rfl)
    | (apply r_l; apply ld_kind; assumption; rfl)
    | (apply r_l; apply ld_mn; assumption; rfl)
    | (apply r_l; apply ld_mx; assumption; rfl)
    | (apply r_l; apply ld_subs; assumption; rfl)
    | (apply r_l; apply ld_set; assumption; rfl)
    | (apply r_l; apply ld_node; assumption; rfl)
    | (apply r_l; apply ld_kind'; assumption; rfl)
    | (apply r_l; apply ld_mn'; assumption; rfl)
    | (apply r_l; apply ld_mx'; assumption; rfl)
    | (apply r_l; apply ld_subs'; assumption; rfl)
    | (apply r_l; apply ld_node'; assumption; rfl)
    | (apply r_callA; rfl; rfl; exact haw)
    | (apply r_callA; rfl; rfl; exact h30)
    | (apply r_callA; rfl; rfl; exact h31)
    | (apply r_callA; rfl; rfl; exact h32)
    | (apply r_callA; rfl; rfl; exact h33)
    | (apply r_ldL; rfl; rfl; rfl)
    | (apply r_eql; rfl; rfl; (first | (apply decide_eq_true; omega) | (apply decide_eq_false; omega) | rfl))
    | (apply r_lss; rfl; rfl; (first | (apply decide_eq_true; omega) | (apply decide_eq_false; omega) | rfl))
    | (apply r_gtr; rfl; rfl; (first | (apply decide_eq_true; omega) | (apply decide_eq_false; omega) | rfl))
    | (apply r_not; rfl; rfl)
    | (apply r_pickT; rfl)
    | (apply r_pickF; rfl)
    | (apply r_lenD; rfl)
    | (apply r_lenL; rfl)
    | (apply r_len0; rfl)
    | (apply r_lenT; rfl)
    | (apply r_ext; rfl; rfl)
    | (apply r_gT; rfl)
    | (apply r_gF'; rfl; rfl)
    | (apply r_gN'; rfl)
    | ((apply r_gS (o := default); rfl) <;> (intro h; try simp only [decide_eq_true_eq, decide_eq_false_iff_not, Bool.not_eq_true, Bool.not_eq_false] at h))
    | (apply r_box; ((conv => lhs; simp only [Nat.reduceAdd]) <;> rfl); rfl; rfl; rfl)
    | (apply r_nilK)
    | (apply r_nil)
    | (apply k_V; rfl)
    | (apply k_P; rfl)
    | (apply k_PL; rfl)
    | (apply k_S; rfl)
    | (apply k_SL; rfl)
    | (apply k_A; rfl)
    | (apply k_T; rfl)
    | (apply k_F; rfl)
    | (apply k_D; rfl; rotate_left; rfl)
    | (apply k_nil)
    | (apply e_ret (vs := [.d (.val _)]); rfl)
    | (apply e_ret; rfl)
    | (apply e_ret' (vs := [.d (.val _)]); rfl)
    | (apply e_ret'; rfl)
    | (apply w_seq)
    | (apply w_ops; ((conv => lhs; simp only [Nat.reduceAdd]) <;> rfl))
    | (apply w_condT; rfl)
    | (apply w_condF; rfl)
    | ((apply w_condS; rfl) <;> (intro h; try simp only [decide_eq_true_eq, decide_eq_false_iff_not, Bool.not_eq_true, Bool.not_eq_false] at h))
    | (apply e_thenN)
    | (apply w_block)
    | (apply e_thenR)
    | (apply e_thenX)
    | (apply e_blkN)
    | (apply e_blkR)
    | (apply e_blkE)
    | (apply w_exit)
    | (apply w_ret)
    | (apply w_skip)
    | (apply e_blkE'; rfl))
    exact retB rfl
  have hfi : fitsT t 12 = true := by rw [← right_fits]; exact hr
  rw [hr] at h32
  by_cases hfr : 0 ≤ n ∧ n ≤ s.size
  case neg =>
    have hg : allG s t n = [] := by simp only [allG, hfr, and_false, if_false]
    have he : allE s t n = 2 := by simp only [allE, hfi, hfr, if_true, if_false]
    have hlast : lastG ([] : List Int) = -1 := rfl
    rw [hg, he] at h31
    rw [hg, hlast] at h34
    clear ht hok12 hr hfi hg he h33 hc hf1
    obtain ⟨k, a, b, c, d, mn, mx, subs⟩ := t
    have e0 : nodeA (.node k a b c d mn mx subs) = .agg [.i k, .d (.val (.int .u64 a)), .d (.val (.int .u64 b)), .d (.val (.int .u64 c)), .d (.val (.int .u64 d)), .i mn, .i mx, .d (.sl (encL subs) subs.length)] := rfl
    rw [e0] at h30 h31 h32 h34 ⊢
    refine b3 (by simp) (by simp) (w_init ?_)
    unfold x3
    repeat' (first
    | (apply r_mvV; rfl)
    | (apply r_mvP; rfl)
    | (apply r_mvPL; rfl)
    | (apply r_mvS; rfl)
    | (apply r_mvSL; rfl)
    | (apply r_mvA; rfl)
    | (apply r_mvT; rfl)
    | (apply r_mvF; rfl)
    | (apply r_mvD; rfl)
    | (apply r_l; apply ld_kind; assumption; rfl)
    | (apply r_l; apply ld_mn; assumption; rfl)
    | (apply r_l; apply ld_mx; assumption; rfl)
    | (apply r_l; apply ld_subs; assumption; rfl)
    | (apply r_l; apply ld_set; assumption; rfl)
    | (apply r_l; apply ld_node; assumption; rfl)
    | (apply r_l; apply ld_kind'; assumption; rfl)
    | (apply r_l; apply ld_mn'; assumption; rfl)
    | (apply r_l; apply ld_mx'; assumption; rfl)
    | (apply r_l; apply ld_subs'; assumption; rfl)
    | (apply r_l; apply ld_node'; assumption; rfl)
    | (apply r_callA; rfl; rfl; exact haw)
    | (apply r_callA; rfl; rfl; exact h30)
    | (apply r_callA; rfl; rfl; exact h31)
    | (apply r_callA; rfl; rfl; exact h32)
    | (apply r_callA; rfl; rfl; exact h34)
    | (apply r_ldL; rfl; rfl; rfl)
    | (apply r_eql; rfl; rfl; (first | (apply decide_eq_true; omega) | (apply decide_eq_false; omega) | rfl))
    | (apply r_lss; rfl; rfl; (first | (apply decide_eq_true; omega) | (apply decide_eq_false; omega) | rfl))
    | (apply r_gtr; rfl; rfl; (first | (apply decide_eq_true; omega) | (apply decide_eq_false; omega) | rfl))
    | (apply r_not; rfl; rfl)
    | (apply r_pickT; rfl)
    | (apply r_pickF; rfl)
    | (apply r_lenD; rfl)
    | (apply r_lenL; rfl)
    | (apply r_len0; rfl)
    | (apply r_lenT; rfl)
    | (apply r_ext; rfl; rfl)
    | (apply r_gT; rfl)
    | (apply r_gF'; rfl; rfl)
    | (apply r_gN'; rfl)
    | ((apply r_gS (o := default); rfl) <;> (intro h; try simp only [decide_eq_true_eq, decide_eq_false_iff_not, Bool.not_eq_true, Bool.not_eq_false] at h))
    | (apply r_box; ((conv => lhs; simp only [Nat.reduceAdd]) <;> rfl); rfl; rfl; rfl)
    | (apply r_nilK)
    | (apply r_nil)
    | (apply k_V; rfl)
    | (apply k_P; rfl)
    | (apply k_PL; rfl)
    | (apply k_S; rfl)
    | (apply k_SL; rfl)
    | (apply k_A; rfl)
    | (apply k_T; rfl)
    | (apply k_F; rfl)
    | (apply k_D; rfl; rotate_left; rfl)
    | (apply k_nil)
    | (apply e_ret (vs := [.d (.val _)]); rfl)
    | (apply e_ret; rfl)
    | (apply e_ret' (vs := [.d (.val _)]); rfl)
    | (apply e_ret'; rfl)
    | (apply w_seq)
    | (apply w_ops; ((conv => lhs; simp only [Nat.reduceAdd]) <;> rfl))
    | (apply w_condT; rfl)
    | (apply w_condF; rfl)
    | ((apply w_condS; rfl) <;> (intro h; try simp only [decide_eq_true_eq, decide_eq_false_iff_not, Bool.not_eq_true, Bool.not_eq_false] at h))
    | (apply e_thenN)
    | (apply w_block)
    | (apply e_thenR)
    | (apply e_thenX)
    | (apply e_blkN)
    | (apply e_blkR)
    | (apply e_blkE)
    | (apply w_exit)
    | (apply w_ret)
    | (apply w_skip)
    | (apply e_blkE'; rfl))
    all_goals exact retB rfl
  obtain ⟨j, rfl⟩ := Int.eq_ofNat_of_zero_le hfr.1
  have hok := hok12 hfi
  have hj : j ≤ s.size := by omega
  have h36 := all36_good s (by omega) t (by omega) hok j hj
  have h37 := longest37_good s (by omega) t (by omega) hok j hj
  have heq := all_ref s t hfi hok j hj
  have he : allE s t (j : Nat) = 0 := by simp only [allE, hfi, hfr, and_self, if_true]
  rw [heq, he] at h31
  rw [heq] at h34
  have hL : (rallG s t j).length ≤ 1000001 := Nat.le_trans (idxTo_len _ _) (by omega)
  have h35 := same_good (rallG s t j) (rallG s t j) hL
  rw [show decide (rallG s t j = rallG s t j) = true by simp] at h35
  generalize rallG s t j = LL at h31 h34 h35 h36 h37 hL
  clear ht hok12 hr hfi heq he h33 hc hf1 hok
  obtain ⟨k, a, b, c, d, mn, mx, subs⟩ := t
  have e0 : nodeA (.node k a b c d mn mx subs) = .agg [.i k, .d (.val (.int .u64 a)), .d (.val (.int .u64 b)), .d (.val (.int .u64 c)), .d (.val (.int .u64 d)), .i mn, .i mx, .d (.sl (encL subs) subs.length)] := rfl
  rw [e0] at h30 h31 h32 h34 h36 h37 ⊢
  refine b3 (by simp) (by simp) (w_init ?_)
  unfold x3
  repeat' (first
    | (apply r_mvV; rfl)
    | (apply r_mvP; rfl)
    | (apply r_mvPL; rfl)
    | (apply r_mvS; rfl)
    | (apply r_mvSL; rfl)
    | (apply r_mvA; rfl)
    | (apply r_mvT; rfl)
    | (apply r_mvF; rfl)
    | (apply r_mvD; rfl)
    | (apply r_l; apply ld_kind; assumption; rfl)
    | (apply r_l; apply ld_mn; assumption; rfl)
    | (apply r_l; apply ld_mx; assumption; rfl)
    | (apply r_l; apply ld_subs; assumption; rfl)
    | (apply r_l; apply ld_set; assumption; rfl)
    | (apply r_l; apply ld_node; assumption; rfl)
    | (apply r_l; apply ld_kind'; assumption; rfl)
    | (apply r_l; apply ld_mn'; assumption; rfl)
    | (apply r_l; apply ld_mx'; assumption; rfl)
    | (apply r_l; apply ld_subs'; assumption; rfl)
    | (apply r_l; apply ld_node'; assumption; rfl)
    | (apply r_callA; rfl; rfl; exact haw)
    | (apply r_callA; rfl; rfl; exact h30)
    | (apply r_callA; rfl; rfl; exact h31)
    | (apply r_callA; rfl; rfl; exact h32)
    | (apply r_callA; rfl; rfl; exact h34)
    | (apply r_callA; rfl; rfl; exact h35)
    | (apply r_callA; rfl; rfl; exact h36)
    | (apply r_callA; rfl; rfl; exact h37)
    | (apply r_ldL; rfl; rfl; rfl)
    | (apply r_eql; rfl; rfl; (first | (apply decide_eq_true; omega) | (apply decide_eq_false; omega) | rfl))
    | (apply r_lss; rfl; rfl; (first | (apply decide_eq_true; omega) | (apply decide_eq_false; omega) | rfl))
    | (apply r_gtr; rfl; rfl; (first | (apply decide_eq_true; omega) | (apply decide_eq_false; omega) | rfl))
    | (apply r_not; rfl; rfl)
    | (apply r_pickT; rfl)
    | (apply r_pickF; rfl)
    | (apply r_lenD; rfl)
    | (apply r_lenL; rfl)
    | (apply r_len0; rfl)
    | (apply r_lenT; rfl)
    | (apply r_ext; rfl; rfl)
    | (apply r_gT; rfl)
    | (apply r_gF'; rfl; rfl)
    | (apply r_gN'; rfl)
    | ((apply r_gS (o := default); rfl) <;> (intro h; try simp only [decide_eq_true_eq, decide_eq_false_iff_not, Bool.not_eq_true, Bool.not_eq_false] at h))
    | (apply r_box; ((conv => lhs; simp only [Nat.reduceAdd]) <;> rfl); rfl; rfl; rfl)
    | (apply r_nilK)
    | (apply r_nil)
    | (apply k_V; rfl)
    | (apply k_P; rfl)
    | (apply k_PL; rfl)
    | (apply k_S; rfl)
    | (apply k_SL; rfl)
    | (apply k_A; rfl)
    | (apply k_T; rfl)
    | (apply k_F; rfl)
    | (apply k_D; rfl; rotate_left; rfl)
    | (apply k_nil)
    | (apply e_ret (vs := [.d (.val _)]); rfl)
    | (apply e_ret; rfl)
    | (apply e_ret' (vs := [.d (.val _)]); rfl)
    | (apply e_ret'; rfl)
    | (apply w_seq)
    | (apply w_ops; ((conv => lhs; simp only [Nat.reduceAdd]) <;> rfl))
    | (apply w_condT; rfl)
    | (apply w_condF; rfl)
    | ((apply w_condS; rfl) <;> (intro h; try simp only [decide_eq_true_eq, decide_eq_false_iff_not, Bool.not_eq_true, Bool.not_eq_false] at h))
    | (apply e_thenN)
    | (apply w_block)
    | (apply e_thenR)
    | (apply e_thenX)
    | (apply e_blkN)
    | (apply e_blkR)
    | (apply e_blkE)
    | (apply w_exit)
    | (apply w_ret)
    | (apply w_skip)
    | (apply e_blkE'; rfl))
  all_goals exact retB rfl
end Go.Sv
namespace Go.Sv
open Go Go.Proofs
def x7 : XC := (.seq (.ops 2 [
    (0, ⟨(some 4), none, .box (.t 0)⟩),
    (1, ⟨(some 8), none, .mv (.k (.d (.val (.bool false))))⟩)] (some [1, 2, 3, 4])) (.seq (.seq (.ops 25 [
    (0, ⟨(some 15), none, .call 29 [] none false⟩),
    (1, ⟨(some 16), none, .un .not (.t 15)⟩),
    (2, ⟨(some 17), none, .mv (.t 16)⟩),
    (3, ⟨(some 18), (some (17, false)), .load (some 8) (.t 4)⟩),
    (4, ⟨(some 19), (some (17, false)), .mv (.t 1)⟩),
    (5, ⟨(some 20), (some (17, false)), .mv (.t 2)⟩),
    (6, ⟨(some 21), (some (17, false)), .arith .add (.t 19) (.t 20)⟩),
    (7, ⟨(some 22), (some (17, false)), .call 30 [(.t 18), (.t 21)] none false⟩),
    (8, ⟨(some 23), (some (17, false)), .un .not (.t 22)⟩),
    (9, ⟨(some 24), none, .pick (.t 17) (.k (.d (.val (.bool true)))) (.t 23)⟩),
    (10, ⟨(some 25), none, .mv (.t 24)⟩),
    (11, ⟨(some 26), (some (25, false)), .load (some 8) (.t 4)⟩),
    (12, ⟨(some 27), (some (25, false)), .call 32 [(.t 26)] none false⟩),
    (13, ⟨(some 28), (some (25, false)), .un .not (.t 27)⟩),
    (14, ⟨(some 29), none, .pick (.t 25) (.k (.d (.val (.bool true)))) (.t 28)⟩),
    (15, ⟨(some 30), none, .mv (.t 29)⟩),
    (16, ⟨(some 31), (some (30, false)), .mv (.t 3)⟩),
    (17, ⟨(some 32), (some (30, false)), .arith .lss (.t 31) (.k (.d (.val (.int .i64 0))))⟩),
    (18, ⟨(some 33), none, .pick (.t 30) (.k (.d (.val (.bool true)))) (.t 32)⟩),
    (19, ⟨(some 34), none, .mv (.t 33)⟩),
    (20, ⟨(some 35), (some (34, false)), .mv (.t 3)⟩),
    (21, ⟨(some 36), (some (34, false)), .mv (.t 1)⟩),
    (22, ⟨(some 37), (some (34, false)), .lenT (.t 36)⟩),
    (23, ⟨(some 38), (some (34, false)), .arith .gtr (.t 35) (.t 37)⟩),
    (24, ⟨(some 39), none, .pick (.t 34) (.k (.d (.val (.bool true)))) (.t 38)⟩)] (some [1, 2, 3, 4, 39])) (.cond (.t 39) (.seq (.ops 2 [
    (0, ⟨(some 40), none, .call 29 [] none false⟩),
    (1, ⟨(some 8), none, .mv (.t 40)⟩)] (some [8])) .ret) .skip)) (.seq (.ops 9 [
    (0, ⟨(some 42), none, .load (some 8) (.t 4)⟩),
    (1, ⟨(some 43), none, .mv (.t 1)⟩),
    (2, ⟨(some 44), none, .mv (.t 3)⟩),
    (3, ⟨(some 45), none, .call 31 [(.t 42), (.t 43), (.t 44)] none false⟩),
    (4, ⟨(some 41), none, .mv (.t 45)⟩),
    (5, ⟨(some 46), none, .ext (.t 41) 0⟩),
    (6, ⟨(some 47), none, .ext (.t 41) 1⟩),
    (7, ⟨(some 9), none, .mv (.t 46)⟩),
    (8, ⟨(some 10), none, .mv (.t 47)⟩)] (some [1, 2, 3, 4, 9, 10])) (.seq (.ops 11 [
    (0, ⟨(some 49), none, .load (some 8) (.t 4)⟩),
    (1, ⟨(some 50), none, .mv (.t 1)⟩),
    (2, ⟨(some 51), none, .mv (.t 2)⟩),
    (3, ⟨(some 52), none, .arith .add (.t 50) (.t 51)⟩),
    (4, ⟨(some 53), none, .mv (.t 3)⟩),
    (5, ⟨(some 54), none, .call 31 [(.t 49), (.t 52), (.t 53)] none false⟩),
    (6, ⟨(some 48), none, .mv (.t 54)⟩),
    (7, ⟨(some 55), none, .ext (.t 48) 0⟩),
    (8, ⟨(some 56), none, .ext (.t 48) 1⟩),
    (9, ⟨(some 11), none, .mv (.t 55)⟩),
    (10, ⟨(some 12), none, .mv (.t 56)⟩)] (some [1, 9, 10, 11, 12])) (.seq (.seq (.ops 22 [
    (0, ⟨(some 57), none, .mv (.t 10)⟩),
    (1, ⟨(some 58), none, .arith .neq (.t 57) (.k (.d (.val (.int .i64 0))))⟩),
    (2, ⟨(some 59), none, .mv (.t 58)⟩),
    (3, ⟨(some 60), (some (59, false)), .mv (.t 12)⟩),
    (4, ⟨(some 61), (some (59, false)), .arith .neq (.t 60) (.k (.d (.val (.int .i64 0))))⟩),
    (5, ⟨(some 62), none, .pick (.t 59) (.k (.d (.val (.bool true)))) (.t 61)⟩),
    (6, ⟨(some 63), none, .mv (.t 62)⟩),
    (7, ⟨(some 64), (some (63, false)), .mv (.t 11)⟩),
    (8, ⟨(some 65), (some (63, false)), .lenS (.t 64)⟩),
    (9, ⟨(some 66), (some (63, false)), .mv (.t 9)⟩),
    (10, ⟨(some 67), (some (63, false)), .lenS (.t 66)⟩),
    (11, ⟨(some 68), (some (63, false)), .arith .lss (.t 65) (.t 67)⟩),
    (12, ⟨(some 69), none, .pick (.t 63) (.k (.d (.val (.bool true)))) (.t 68)⟩),
    (13, ⟨(some 70), none, .mv (.t 69)⟩),
    (14, ⟨(some 71), (some (70, false)), .mv (.t 9)⟩),
    (15, ⟨(some 72), (some (70, false)), .mv (.t 11)⟩),
    (16, ⟨(some 73), (some (70, false)), .mv (.t 9)⟩),
    (17, ⟨(some 74), (some (70, false)), .lenS (.t 73)⟩),
    (18, ⟨(some 75), (some (70, false)), .slS 1 (.t 72) none (some (.t 74))⟩),
    (19, ⟨(some 76), (some (70, false)), .call 35 [(.t 71), (.t 75)] none false⟩),
    (20, ⟨(some 77), (some (70, false)), .un .not (.t 76)⟩),
    (21, ⟨(some 78), none, .pick (.t 70) (.k (.d (.val (.bool true)))) (.t 77)⟩)] (some [1, 9, 11, 78])) (.cond (.t 78) (.seq (.ops 1 [
    (0, ⟨(some 8), none, .mv (.k (.d (.val (.bool false))))⟩)] (some [8])) .ret) .skip)) (.seq (.seq (.ops 6 [
    (0, ⟨(some 79), none, .mv (.t 11)⟩),
    (1, ⟨(some 80), none, .mv (.t 9)⟩),
    (2, ⟨(some 81), none, .lenS (.t 80)⟩),
    (3, ⟨(some 82), none, .slS 1 (.t 79) (some (.t 81)) none⟩),
    (4, ⟨(some 83), none, .lenS (.t 82)⟩),
    (5, ⟨(some 84), none, .mv (.k (.d (.val (.int .i64 0))))⟩)] (some [1, 82, 83, 84])) (.block 0 (.loop (.seq (.ops 1 [
    (0, ⟨(some 85), none, .arith .lss (.t 84) (.t 83)⟩)] (some [1, 82, 83, 84, 85])) (.seq (.cond (.t 85) .skip (.exit 0)) (.seq (.block 1 (.seq (.ops 3 [
    (0, ⟨(some 86), none, .idxS 1 (.t 82) (.t 84)⟩),
    (1, ⟨(some 87), none, .load none (.t 86)⟩),
    (2, ⟨(some 14), none, .mv (.t 87)⟩)] (some [1, 14, 82, 83, 84])) (.seq (.ops 4 [
    (0, ⟨(some 88), none, .mv (.t 14)⟩),
    (1, ⟨(some 89), none, .mv (.t 1)⟩),
    (2, ⟨(some 90), none, .lenT (.t 89)⟩),
    (3, ⟨(some 91), none, .arith .leq (.t 88) (.t 90)⟩)] (some [1, 82, 83, 84, 91])) (.cond (.t 91) (.seq (.ops 1 [
    (0, ⟨(some 8), none, .mv (.k (.d (.val (.bool false))))⟩)] (some [8])) .ret) .skip)))) (.ops 2 [
    (0, ⟨(some 92), none, .arith .add (.t 84) (.k (.d (.val (.int .i64 1))))⟩),
    (1, ⟨(some 84), none, .mv (.t 92)⟩)] (some [1, 82, 83, 84])))))))) (.seq (.ops 1 [
    (0, ⟨(some 8), none, .mv (.k (.d (.val (.bool true))))⟩)] (some [8])) .ret)))))))
def md7 : FuncId → Option Nat × Bool
  | _ => (none, false)
def od7 : Nat → List (List Nat) × List Nat × Option (List Nat)
  | 0 => ([], [], some [1, 2, 3, 4])
  | 1 => ([], [], some [1, 2, 3, 4, 39])
  | 2 => ([], [], some [8])
  | 3 => ([], [], some [1, 2, 3, 4, 9, 10])
  | 4 => ([], [], some [1, 9, 10, 11, 12])
  | 5 => ([], [], some [1, 9, 11, 78])
  | 6 => ([], [], some [8])
  | 7 => ([], [], some [1, 82, 83, 84])
  | 8 => ([], [], some [1, 82, 83, 84, 85])
  | 9 => ([], [], some [1, 14, 82, 83, 84])
  | 10 => ([], [], some [1, 82, 83, 84, 91])
  | 11 => ([], [], some [8])
  | 12 => ([], [], some [1, 82, 83, 84])
  | 13 => ([], [], some [8])
  | _ => ([], [], none)
theorem b7 {ags : List AV} {row : Option (List DV)} {r : AV} {row' nw : Option (List DV)} (hal : ags.length ≤ 93) (hrow : row'.isSome = true → row.isSome = true) (h : xwp Try.prog x7 (retK [.tmp 8] row.isSome r row' nw) (St.init ags row)) : Good Try.prog 7 ags row r row' nw :=
  good_of_body' (md := md7) (od := od7) Try.f7 (by kernel_rfl) (by kernel_rfl) (by kernel_rfl) (by kernel_rfl) (by kernel_rfl) hal hrow h

section
variable {P : Program} {Q : Cont} {fr : Fr} {C : Heap} {Z Z' : Frz} {nx : Nat} {base n d : Nat} {l : List (Nat × XO)} {kp : Option (List Nat)} {x i y s : X}
theorem r_addS {a b : ByteArray} (hx : x.ev fr = .d (.val (.string a))) (hy : y.ev fr = .d (.val (.string b))) (h : a.size + b.size ≤ 9223372036854775807) (k : R P l base kp Q nx (fr.put d (.d (.val (.string (a ++ b))))) C Z) : R P ((n, ⟨some d, none, .arith .add x y⟩) :: l) base kp Q nx fr C Z := by
  refine r_p ?_ k
  have h' : ((a.size + b.size : Nat) : Int) ≤ 9223372036854775807 := by omega
  simp only [xp, hx, hy, arith, h', if_true, Option.map_some]
theorem r_slI {L : List Int} {e : Int} {m k0 : Nat} (hx : x.ev fr = .d (.sl (encI L) k0)) (hi : i.ev fr = .i e) (hm : e = (m : Nat)) (hk : L.length = k0) (hle : m ≤ k0) (k : R P l base kp Q nx (fr.put d (.d (.sl (encI (L.take m)) m))) C Z) : R P ((n, ⟨some d, none, .slS 1 x none (some i)⟩) :: l) base kp Q nx fr C Z := by
  subst hm hk
  refine r_p ?_ k
  have h1 : (encI L).length = L.length * 1 := by rw [encI_len]; omega
  simp only [xp, hx, h1, hiOf, loOf, hi, intUpto]
  rw [if_pos (by simp), if_pos (by omega)]
  simp only [Int.toNat_natCast, Option.bind_some, Option.map_some, Nat.zero_mul, List.drop_zero, Nat.sub_zero, Nat.mul_one]
  split
  · rename_i e; subst e; simp [encI]
  · simp [encI, List.map_take]
theorem r_slIlo {L : List Int} {e : Int} {m k0 k1 : Nat} (hx : x.ev fr = .d (.sl (encI L) k0)) (hi : i.ev fr = .i e) (hm : e = (m : Nat)) (hk : L.length = k0) (hle : m ≤ k0) (h1 : k0 - m = k1) (k : R P l base kp Q nx (fr.put d (.d (.sl (encI (L.drop m)) k1))) C Z) : R P ((n, ⟨some d, none, .slS 1 x (some i) none⟩) :: l) base kp Q nx fr C Z := by
  subst hm hk h1
  refine r_p ?_ k
  have h1 : (encI L).length = L.length * 1 := by rw [encI_len]; omega
  simp only [xp, hx, h1, hiOf, loOf, hi, intUpto]
  rw [if_pos (by simp), Option.bind_some, if_pos (by omega)]
  simp only [Int.toNat_natCast, Option.map_some, Nat.mul_one]
  split
  · rename_i e; rw [← e]; simp [encI]
  · simp only [encI, List.map_drop]
    rw [List.take_of_length_le (by simp)]
end
theorem idxTo_more (q : List Bool) (m : Nat) : ∀ k, ∃ r, idxTo q (m + k) = idxTo q m ++ r ∧ ∀ x ∈ r, (m : Int) ≤ x
  | 0 => ⟨[], by simp, by simp⟩
  | k + 1 => by
    obtain ⟨r, h1, h2⟩ := idxTo_more q m k
    rw [← Nat.add_assoc, idxTo]
    split
    · refine ⟨r ++ [((m + k : Nat) : Int)], by rw [h1, List.append_assoc], fun x hx => ?_⟩
      rcases List.mem_append.1 hx with hx | hx
      · exact h2 x hx
      · simp at hx; omega
    · exact ⟨r, h1, h2⟩
theorem idxTo_congr {q q' : List Bool} : ∀ (m : Nat), (∀ i, i < m → (At q i ↔ At q' i)) → idxTo q m = idxTo q' m
  | 0, _ => rfl
  | m + 1, h => by
    have ih := idxTo_congr m fun i hi => h i (by omega)
    have hm := h m (by omega)
    unfold At at hm
    simp only [idxTo, ih]
    by_cases h1 : q.getD m false = true
    · rw [if_pos h1, if_pos (hm.1 h1)]
    · rw [if_neg h1, if_neg (fun h2 => h1 (hm.2 h2))]
theorem byteN_app (s m : ByteArray) (i : Nat) (h : i < s.size) : byteN (s ++ m) i = byteN s i := by
  have e : (s ++ m).data = s.data ++ m.data := by simp
  have h' : i < s.data.size := h
  simp only [byteN, e, Array.getD_eq_getD_getElem?]
  rw [Array.getElem?_append_left h']
theorem size_app (s m : ByteArray) : (s ++ m).size = s.size + m.size := ByteArray.size_append
theorem word_more (s m : ByteArray) (i j : Nat) (h : j ≤ s.size) : word (s ++ m) i j = word s i j := by
  unfold word
  refine List.map_congr_left fun k hk => ?_
  have := List.mem_range'.1 hk
  obtain ⟨a, h1, h2⟩ := this
  exact byteN_app s m k (by omega)
theorem at_ends (s : ByteArray) (t : T) (hok : okT t) (j : Nat) (hj : j ≤ s.size) (k : Nat) : At (stepG s t ((List.replicate (s.size + 1) false).set j true)) k ↔ j ≤ k ∧ k ≤ s.size ∧ L t (word s j k) := by
  have hl : ((List.replicate (s.size + 1) false).set j true).length = s.size + 1 := by simp
  rw [(stepG_goes s t hok _ hl).2 k]
  constructor
  · rintro ⟨i, h1, h2, h3, h4⟩
    rw [at_set i (by simp; omega)] at h2
    rcases h2 with ⟨rfl, _⟩ | ⟨_, h⟩
    · exact ⟨h1, h3, h4⟩
    · exact absurd h (at_rep _ _)
  · rintro ⟨h1, h2, h3⟩
    exact ⟨j, h1, (at_set j (by simp; omega)).2 (.inl ⟨rfl, rfl⟩), h2, h3⟩
theorem allG_eq {s : ByteArray} {t : T} (hf : fitsT t 12 = true) {j : Nat} (hj : j ≤ s.size) : allG s t j = idxTo (stepG s t ((List.replicate (s.size + 1) false).set j true)) (s.size + 1) := by
  have : 0 ≤ ((j : Nat) : Int) ∧ ((j : Nat) : Int) ≤ s.size := by omega
  simp only [allG, hf, this, and_self, if_true, Int.toNat_natCast]
theorem longer (s m : ByteArray) (t : T) (hf : fitsT t 12 = true) (hok : okT t) (j : Nat) (hj : j ≤ s.size) : ∃ r, allG (s ++ m) t j = allG s t j ++ r ∧ ∀ x ∈ r, ((s.size : Nat) : Int) < x := by
  rw [allG_eq hf hj, allG_eq (s := s ++ m) hf (by rw [size_app]; omega)]
  obtain ⟨r, h1, h2⟩ := idxTo_more (stepG (s ++ m) t ((List.replicate ((s ++ m).size + 1) false).set j true)) (s.size + 1) m.size
  refine ⟨r, ?_, fun x hx => by have := h2 x hx; omega⟩
  have e1 : s.size + 1 + m.size = (s ++ m).size + 1 := by rw [size_app]; omega
  rw [e1] at h1
  rw [h1]
  congr 1
  refine idxTo_congr _ fun i hi => ?_
  rw [at_ends (s ++ m) t hok j (by rw [size_app]; omega) i, at_ends s t hok j hj i]
  rw [size_app, word_more s m j i (by omega)]
  constructor
  · rintro ⟨a, _, c⟩; exact ⟨a, by omega, c⟩
  · rintro ⟨a, b, c⟩; exact ⟨a, by omega, c⟩
set_option maxRecDepth 100000
set_option maxHeartbeats 4000000
attribute [local irreducible] W E R KP thenK blockK retK Good xwp aRun
theorem law7 (t : T) (s m : ByteArray) (n : Int) (ht : inT t) (hs : s.size ≤ 140737488355328) (hm : m.size ≤ 140737488355328) (hn : inW n) : Good Try.prog 7 [nodeA t, .d (.val (.string s)), .d (.val (.string m)), .i n] none (.b true) none none := by
  have haw := awake11_good
  have hsz := size_app s m
  have h30 := few30_good (s ++ m) (by omega) t ht
  unfold inW at hn
  by_cases hf : few11 (s ++ m) t = true
  case neg =>
    have hf : few11 (s ++ m) t = false := by simpa using hf
    rw [hf] at h30
    clear ht hf
    obtain ⟨k, a, b, c, d, mn, mx, subs⟩ := t
    have e0 : nodeA (.node k a b c d mn mx subs) = .agg [.i k, .d (.val (.int .u64 a)), .d (.val (.int .u64 b)), .d (.val (.int .u64 c)), .d (.val (.int .u64 d)), .i mn, .i mx, .d (.sl (encL subs) subs.length)] := rfl
    rw [e0] at h30 ⊢
    refine b7 (by simp) (by simp) (w_init ?_)
    unfold x7
    repeat' (first
    | (apply r_mvV; rfl)
    | (apply r_mvP; rfl)
    | (apply r_mvPL; rfl)
    | (apply r_mvS; rfl)
    | (apply r_mvSL; rfl)
    | (apply r_mvA; rfl)
    | (apply r_mvT; rfl)
    | (apply r_mvF; rfl)
    | (apply r_mvD; rfl)
    | (apply r_l; apply ld_kind; assumption; rfl)
    | (apply r_l; apply ld_mn; assumption; rfl)
    | (apply r_l; apply ld_mx; assumption; rfl)
    | (apply r_l; apply ld_subs; assumption; rfl)
    | (apply r_l; apply ld_set; assumption; rfl)
    | (apply r_l; apply ld_node; assumption; rfl)
    | (apply r_l; apply ld_kind'; assumption; rfl)
    | (apply r_l; apply ld_mn'; assumption; rfl)
    | (apply r_l; apply ld_mx'; assumption; rfl)
    | (apply r_l; apply ld_subs'; assumption; rfl)
    | (apply r_l; apply ld_node'; assumption; rfl)
    | (apply r_callA; rfl; rfl; exact haw)
    | (apply r_callA; rfl; rfl; exact h30)
    | (apply r_addS; rfl; rfl; omega)
    | (apply r_ldL; rfl; rfl; rfl)
    | (apply r_neq; rfl; rfl; (first | (apply decide_eq_true; omega) | (apply decide_eq_false; omega) | rfl))
    | (apply r_lss; rfl; rfl; (first | (apply decide_eq_true; omega) | (apply decide_eq_false; omega) | rfl))
    | (apply r_leq; rfl; rfl; (first | (apply decide_eq_true; omega) | (apply decide_eq_false; omega) | rfl))
    | (apply r_gtr; rfl; rfl; (first | (apply decide_eq_true; omega) | (apply decide_eq_false; omega) | rfl))
    | (apply r_add; rfl; rfl; rfl; omega)
    | (apply r_not; rfl; rfl)
    | (apply r_pickT; rfl)
    | (apply r_pickF; rfl)
    | (apply r_lenD; rfl)
    | (apply r_lenL; rfl)
    | (apply r_len0; rfl)
    | (apply r_lenT; rfl)
    | (apply r_ext; rfl; rfl)
    | (apply r_gT; rfl)
    | (apply r_gF'; rfl; rfl)
    | (apply r_gN'; rfl)
    | ((apply r_gS (o := default); rfl) <;> (intro h; try simp only [decide_eq_true_eq, decide_eq_false_iff_not, Bool.not_eq_true, Bool.not_eq_false] at h))
    | (apply r_box; ((conv => lhs; simp only [Nat.reduceAdd]) <;> rfl); rfl; rfl; rfl)
    | (apply r_p; rfl)
    | (apply r_nilK)
    | (apply r_nil)
    | (apply k_V; rfl)
    | (apply k_P; rfl)
    | (apply k_PL; rfl)
    | (apply k_S; rfl)
    | (apply k_SL; rfl)
    | (apply k_A; rfl)
    | (apply k_T; rfl)
    | (apply k_F; rfl)
    | (apply k_D; rfl; rotate_left; rfl)
    | (apply k_nil)
    | (apply e_ret (vs := [.d (.val _)]); rfl)
    | (apply e_ret; rfl)
    | (apply e_ret' (vs := [.d (.val _)]); rfl)
    | (apply e_ret'; rfl)
    | (apply w_seq)
    | (apply w_ops; ((conv => lhs; simp only [Nat.reduceAdd]) <;> rfl))
    | (apply w_condT; rfl)
    | (apply w_condF; rfl)
    | ((apply w_condS; rfl) <;> (intro h; try simp only [decide_eq_true_eq, decide_eq_false_iff_not, Bool.not_eq_true, Bool.not_eq_false] at h))
    | (apply e_thenN)
    | (apply w_block)
    | (apply e_thenR)
    | (apply e_thenX)
    | (apply e_blkN)
    | (apply e_blkR)
    | (apply e_blkE)
    | (apply w_exit)
    | (apply w_ret)
    | (apply w_skip)
    | (apply e_blkE'; rfl))
    exact retB rfl
  rw [hf] at h30
  simp only [few11, Bool.and_eq_true, decide_eq_true_eq] at hf
  obtain ⟨hf1, hf2, _⟩ := hf
  have hc := few_cnt hf1
  have h32 := right8_good t (by omega)
  by_cases hr : rightT t = true
  case neg =>
    have hr : rightT t = false := by simpa using hr
    rw [hr] at h32
    clear ht hr
    obtain ⟨k, a, b, c, d, mn, mx, subs⟩ := t
    have e0 : nodeA (.node k a b c d mn mx subs) = .agg [.i k, .d (.val (.int .u64 a)), .d (.val (.int .u64 b)), .d (.val (.int .u64 c)), .d (.val (.int .u64 d)), .i mn, .i mx, .d (.sl (encL subs) subs.length)] := rfl
    rw [e0] at h30 h32 ⊢
    refine b7 (by simp) (by simp) (w_init ?_)
    unfold x7
    repeat' (first
    | (apply r_mvV; rfl)
    | (apply r_mvP; rfl)
    | (apply r_mvPL; rfl)
    | (apply r_mvS; rfl)
    | (apply r_mvSL; rfl)
    | (apply r_mvA; rfl)
    | (apply r_mvT; rfl)
    | (apply r_mvF; rfl)
    | (apply r_mvD; rfl)
    | (apply r_l; apply ld_kind; assumption; rfl)
    | (apply r_l; apply ld_mn; assumption; rfl)
    | (apply r_l; apply ld_mx; assumption; rfl)
    | (apply r_l; apply ld_subs; assumption; rfl)
    | (apply r_l; apply ld_set; assumption; rfl)
    | (apply r_l; apply ld_node; assumption; rfl)
    | (apply r_l; apply ld_kind'; assumption; rfl)
    | (apply r_l; apply ld_mn'; assumption; rfl)
    | (apply r_l; apply ld_mx'; assumption; rfl)
    | (apply r_l; apply ld_subs'; assumption; rfl)
    | (apply r_l; apply ld_node'; assumption; rfl)
    | (apply r_callA; rfl; rfl; exact haw)
    | (apply r_callA; rfl; rfl; exact h30)
    | (apply r_callA; rfl; rfl; exact h32)
    | (apply r_addS; rfl; rfl; omega)
    | (apply r_ldL; rfl; rfl; rfl)
    | (apply r_neq; rfl; rfl; (first | (apply decide_eq_true; omega) | (apply decide_eq_false; omega) | rfl))
    | (apply r_lss; rfl; rfl; (first | (apply decide_eq_true; omega) | (apply decide_eq_false; omega) | rfl))
    | (apply r_leq; rfl; rfl; (first | (apply decide_eq_true; omega) | (apply decide_eq_false; omega) | rfl))
    | (apply r_gtr; rfl; rfl; (first | (apply decide_eq_true; omega) | (apply decide_eq_false; omega) | rfl))
    | (apply r_add; rfl; rfl; rfl; omega)
    | (apply r_not; rfl; rfl)
    | (apply r_pickT; rfl)
    | (apply r_pickF; rfl)
    | (apply r_lenD; rfl)
    | (apply r_lenL; rfl)
    | (apply r_len0; rfl)
    | (apply r_lenT; rfl)
    | (apply r_ext; rfl; rfl)
    | (apply r_gT; rfl)
    | (apply r_gF'; rfl; rfl)
    | (apply r_gN'; rfl)
    | ((apply r_gS (o := default); rfl) <;> (intro h; try simp only [decide_eq_true_eq, decide_eq_false_iff_not, Bool.not_eq_true, Bool.not_eq_false] at h))
    | (apply r_box; ((conv => lhs; simp only [Nat.reduceAdd]) <;> rfl); rfl; rfl; rfl)
    | (apply r_p; rfl)
    | (apply r_nilK)
    | (apply r_nil)
    | (apply k_V; rfl)
    | (apply k_P; rfl)
    | (apply k_PL; rfl)
    | (apply k_S; rfl)
    | (apply k_SL; rfl)
    | (apply k_A; rfl)
    | (apply k_T; rfl)
    | (apply k_F; rfl)
    | (apply k_D; rfl; rotate_left; rfl)
    | (apply k_nil)
    | (apply e_ret (vs := [.d (.val _)]); rfl)
    | (apply e_ret; rfl)
    | (apply e_ret' (vs := [.d (.val _)]); rfl)
    | (apply e_ret'; rfl)
    | (apply w_seq)
    | (apply w_ops; ((conv => lhs; simp only [Nat.reduceAdd]) <;> rfl))
    | (apply w_condT; rfl)
    | (apply w_condF; rfl)
    | ((apply w_condS; rfl) <;> (intro h; try simp only [decide_eq_true_eq, decide_eq_false_iff_not, Bool.not_eq_true, Bool.not_eq_false] at h))
    | (apply e_thenN)
    | (apply w_block)
    | (apply e_thenR)
    | (apply e_thenX)
    | (apply e_blkN)
    | (apply e_blkR)
    | (apply e_blkE)
    | (apply w_exit)
    | (apply w_ret)
    | (apply w_skip)
    | (apply e_blkE'; rfl))
    exact retB rfl
  have hfi : fitsT t 12 = true := by rw [← right_fits]; exact hr
  have hok : okT t := ok_of_right ht hr
  rw [hr] at h32
  by_cases hfr : 0 ≤ n ∧ n ≤ s.size
  case neg =>
    clear ht hr hfi hok
    obtain ⟨k, a, b, c, d, mn, mx, subs⟩ := t
    have e0 : nodeA (.node k a b c d mn mx subs) = .agg [.i k, .d (.val (.int .u64 a)), .d (.val (.int .u64 b)), .d (.val (.int .u64 c)), .d (.val (.int .u64 d)), .i mn, .i mx, .d (.sl (encL subs) subs.length)] := rfl
    rw [e0] at h30 h32 ⊢
    refine b7 (by simp) (by simp) (w_init ?_)
    unfold x7
    by_cases hneg : n < 0
    · repeat' (first
    | (apply r_mvV; rfl)
    | (apply r_mvP; rfl)
    | (apply r_mvPL; rfl)
    | (apply r_mvS; rfl)
    | (apply r_mvSL; rfl)
    | (apply r_mvA; rfl)
    | (apply r_mvT; rfl)
    | (apply r_mvF; rfl)
    | (apply r_mvD; rfl)
    | (apply r_l; apply ld_kind; assumption; rfl)
    | (apply r_l; apply ld_mn; assumption; rfl)
    | (apply r_l; apply ld_mx; assumption; rfl)
    | (apply r_l; apply ld_subs; assumption; rfl)
    | (apply r_l; apply ld_set; assumption; rfl)
    | (apply r_l; apply ld_node; assumption; rfl)
    | (apply r_l; apply ld_kind'; assumption; rfl)
    | (apply r_l; apply ld_mn'; assumption; rfl)
    | (apply r_l; apply ld_mx'; assumption; rfl)
    | (apply r_l; apply ld_subs'; assumption; rfl)
    | (apply r_l; apply ld_node'; assumption; rfl)
    | (apply r_callA; rfl; rfl; exact haw)
    | (apply r_callA; rfl; rfl; exact h30)
    | (apply r_callA; rfl; rfl; exact h32)
    | (apply r_addS; rfl; rfl; omega)
    | (apply r_ldL; rfl; rfl; rfl)
    | (apply r_neq; rfl; rfl; (first | (apply decide_eq_true; omega) | (apply decide_eq_false; omega) | rfl))
    | (apply r_lss; rfl; rfl; (first | (apply decide_eq_true; omega) | (apply decide_eq_false; omega) | rfl))
    | (apply r_leq; rfl; rfl; (first | (apply decide_eq_true; omega) | (apply decide_eq_false; omega) | rfl))
    | (apply r_gtr; rfl; rfl; (first | (apply decide_eq_true; omega) | (apply decide_eq_false; omega) | rfl))
    | (apply r_add; rfl; rfl; rfl; omega)
    | (apply r_not; rfl; rfl)
    | (apply r_pickT; rfl)
    | (apply r_pickF; rfl)
    | (apply r_lenD; rfl)
    | (apply r_lenL; rfl)
    | (apply r_len0; rfl)
    | (apply r_lenT; rfl)
    | (apply r_ext; rfl; rfl)
    | (apply r_gT; rfl)
    | (apply r_gF'; rfl; rfl)
    | (apply r_gN'; rfl)
    | ((apply r_gS (o := default); rfl) <;> (intro h; try simp only [decide_eq_true_eq, decide_eq_false_iff_not, Bool.not_eq_true, Bool.not_eq_false] at h))
    | (apply r_box; ((conv => lhs; simp only [Nat.reduceAdd]) <;> rfl); rfl; rfl; rfl)
    | (apply r_p; rfl)
    | (apply r_nilK)
    | (apply r_nil)
    | (apply k_V; rfl)
    | (apply k_P; rfl)
    | (apply k_PL; rfl)
    | (apply k_S; rfl)
    | (apply k_SL; rfl)
    | (apply k_A; rfl)
    | (apply k_T; rfl)
    | (apply k_F; rfl)
    | (apply k_D; rfl; rotate_left; rfl)
    | (apply k_nil)
    | (apply e_ret (vs := [.d (.val _)]); rfl)
    | (apply e_ret; rfl)
    | (apply e_ret' (vs := [.d (.val _)]); rfl)
    | (apply e_ret'; rfl)
    | (apply w_seq)
    | (apply w_ops; ((conv => lhs; simp only [Nat.reduceAdd]) <;> rfl))
    | (apply w_condT; rfl)
    | (apply w_condF; rfl)
    | ((apply w_condS; rfl) <;> (intro h; try simp only [decide_eq_true_eq, decide_eq_false_iff_not, Bool.not_eq_true, Bool.not_eq_false] at h))
    | (apply e_thenN)
    | (apply w_block)
    | (apply e_thenR)
    | (apply e_thenX)
    | (apply e_blkN)
    | (apply e_blkR)
    | (apply e_blkE)
    | (apply w_exit)
    | (apply w_ret)
    | (apply w_skip)
    | (apply e_blkE'; rfl))
      exact retB rfl
    · repeat' (first
    | (apply r_mvV; rfl)
    | (apply r_mvP; rfl)
    | (apply r_mvPL; rfl)
    | (apply r_mvS; rfl)
    | (apply r_mvSL; rfl)
    | (apply r_mvA; rfl)
    | (apply r_mvT; rfl)
    | (apply r_mvF; rfl)
    | (apply r_mvD; rfl)
    | (apply r_l; apply ld_kind; assumption; rfl)
    | (apply r_l; apply ld_mn; assumption; rfl)
    | (apply r_l; apply ld_mx; assumption; rfl)
    | (apply r_l; apply ld_subs; assumption; rfl)
    | (apply r_l; apply ld_set; assumption; rfl)
    | (apply r_l; apply ld_node; assumption; rfl)
    | (apply r_l; apply ld_kind'; assumption; rfl)
    | (apply r_l; apply ld_mn'; assumption; rfl)
    | (apply r_l; apply ld_mx'; assumption; rfl)
    | (apply r_l; apply ld_subs'; assumption; rfl)
    | (apply r_l; apply ld_node'; assumption; rfl)
    | (apply r_callA; rfl; rfl; exact haw)
    | (apply r_callA; rfl; rfl; exact h30)
    | (apply r_callA; rfl; rfl; exact h32)
    | (apply r_addS; rfl; rfl; omega)
    | (apply r_ldL; rfl; rfl; rfl)
    | (apply r_neq; rfl; rfl; (first | (apply decide_eq_true; omega) | (apply decide_eq_false; omega) | rfl))
    | (apply r_lss; rfl; rfl; (first | (apply decide_eq_true; omega) | (apply decide_eq_false; omega) | rfl))
    | (apply r_leq; rfl; rfl; (first | (apply decide_eq_true; omega) | (apply decide_eq_false; omega) | rfl))
    | (apply r_gtr; rfl; rfl; (first | (apply decide_eq_true; omega) | (apply decide_eq_false; omega) | rfl))
    | (apply r_add; rfl; rfl; rfl; omega)
    | (apply r_not; rfl; rfl)
    | (apply r_pickT; rfl)
    | (apply r_pickF; rfl)
    | (apply r_lenD; rfl)
    | (apply r_lenL; rfl)
    | (apply r_len0; rfl)
    | (apply r_lenT; rfl)
    | (apply r_ext; rfl; rfl)
    | (apply r_gT; rfl)
    | (apply r_gF'; rfl; rfl)
    | (apply r_gN'; rfl)
    | ((apply r_gS (o := default); rfl) <;> (intro h; try simp only [decide_eq_true_eq, decide_eq_false_iff_not, Bool.not_eq_true, Bool.not_eq_false] at h))
    | (apply r_box; ((conv => lhs; simp only [Nat.reduceAdd]) <;> rfl); rfl; rfl; rfl)
    | (apply r_p; rfl)
    | (apply r_nilK)
    | (apply r_nil)
    | (apply k_V; rfl)
    | (apply k_P; rfl)
    | (apply k_PL; rfl)
    | (apply k_S; rfl)
    | (apply k_SL; rfl)
    | (apply k_A; rfl)
    | (apply k_T; rfl)
    | (apply k_F; rfl)
    | (apply k_D; rfl; rotate_left; rfl)
    | (apply k_nil)
    | (apply e_ret (vs := [.d (.val _)]); rfl)
    | (apply e_ret; rfl)
    | (apply e_ret' (vs := [.d (.val _)]); rfl)
    | (apply e_ret'; rfl)
    | (apply w_seq)
    | (apply w_ops; ((conv => lhs; simp only [Nat.reduceAdd]) <;> rfl))
    | (apply w_condT; rfl)
    | (apply w_condF; rfl)
    | ((apply w_condS; rfl) <;> (intro h; try simp only [decide_eq_true_eq, decide_eq_false_iff_not, Bool.not_eq_true, Bool.not_eq_false] at h))
    | (apply e_thenN)
    | (apply w_block)
    | (apply e_thenR)
    | (apply e_thenX)
    | (apply e_blkN)
    | (apply e_blkR)
    | (apply e_blkE)
    | (apply w_exit)
    | (apply w_ret)
    | (apply w_skip)
    | (apply e_blkE'; rfl))
      exact retB rfl
  obtain ⟨j, rfl⟩ := Int.eq_ofNat_of_zero_le hfr.1
  have hj : j ≤ s.size := by omega
  have h31 := all_good s (by omega) t (by omega) (fun _ => hok) j
  have h31' := all_good (s ++ m) (by omega) t (by omega) (fun _ => hok) j
  have he : allE s t (j : Nat) = 0 := by simp only [allE, hfi, hfr, and_self, if_true]
  have he' : allE (s ++ m) t (j : Nat) = 0 := by
    have : 0 ≤ ((j : Nat) : Int) ∧ ((j : Nat) : Int) ≤ (s ++ m).size := by omega
    simp only [allE, hfi, this, and_self, if_true]
  obtain ⟨r, hl1, hl2⟩ := longer s m t hfi hok j hj
  have hL : (allG s t j).length ≤ 1000001 := by rw [allG_eq hfi hj]; exact Nat.le_trans (idxTo_len _ _) (by omega)
  have hL2 : (allG (s ++ m) t j).length ≤ 1000001 := by rw [allG_eq hfi (by omega)]; exact Nat.le_trans (idxTo_len _ _) (by omega)
  rw [he] at h31
  rw [he'] at h31'
  rw [hl1] at h31' hL2
  generalize allG s t j = LL at h31 h31' hL hL2
  have h35 := same_good LL LL hL
  rw [show decide (LL = LL) = true by simp] at h35
  have htk : (LL ++ r).take LL.length = LL := by simp
  have hdr : (LL ++ r).drop LL.length = r := by simp
  have hlen2 : (LL ++ r).length = LL.length + r.length := by simp
  clear ht hr hfi hok he he' hl1
  obtain ⟨k, a, b, c, d, mn, mx, subs⟩ := t
  have e0 : nodeA (.node k a b c d mn mx subs) = .agg [.i k, .d (.val (.int .u64 a)), .d (.val (.int .u64 b)), .d (.val (.int .u64 c)), .d (.val (.int .u64 d)), .i mn, .i mx, .d (.sl (encL subs) subs.length)] := rfl
  rw [e0] at h30 h31 h31' h32 ⊢
  refine b7 (by simp) (by simp) (w_init ?_)
  unfold x7
  repeat' (first
    | (apply r_mvV; rfl)
    | (apply r_mvP; rfl)
    | (apply r_mvPL; rfl)
    | (apply r_mvS; rfl)
    | (apply r_mvSL; rfl)
    | (apply r_mvA; rfl)
    | (apply r_mvT; rfl)
    | (apply r_mvF; rfl)
    | (apply r_mvD; rfl)
    | (apply r_l; apply ld_kind; assumption; rfl)
    | (apply r_l; apply ld_mn; assumption; rfl)
    | (apply r_l; apply ld_mx; assumption; rfl)
    | (apply r_l; apply ld_subs; assumption; rfl)
    | (apply r_l; apply ld_set; assumption; rfl)
    | (apply r_l; apply ld_node; assumption; rfl)
    | (apply r_l; apply ld_kind'; assumption; rfl)
    | (apply r_l; apply ld_mn'; assumption; rfl)
    | (apply r_l; apply ld_mx'; assumption; rfl)
    | (apply r_l; apply ld_subs'; assumption; rfl)
    | (apply r_l; apply ld_node'; assumption; rfl)
    | (apply r_callA; rfl; rfl; exact haw)
    | (apply r_callA; rfl; rfl; exact h30)
    | (apply r_callA; rfl; rfl; exact h31)
    | (apply r_callA; rfl; rfl; exact h31')
    | (apply r_callA; rfl; rfl; exact h32)
    | (apply r_addS; rfl; rfl; omega)
    | (apply r_slI (m := LL.length); rfl; rfl; rfl; rfl; omega; rw [htk])
    | (apply r_callA; rfl; rfl; exact h35)
    | (apply r_slIlo (m := LL.length) (k1 := r.length); rfl; rfl; rfl; rfl; omega; omega; rw [hdr])
    | (apply r_ldL; rfl; rfl; rfl)
    | (apply r_neq; rfl; rfl; (first | (apply decide_eq_true; omega) | (apply decide_eq_false; omega) | rfl))
    | (apply r_lss; rfl; rfl; (first | (apply decide_eq_true; omega) | (apply decide_eq_false; omega) | rfl))
    | (apply r_leq; rfl; rfl; (first | (apply decide_eq_true; omega) | (apply decide_eq_false; omega) | rfl))
    | (apply r_gtr; rfl; rfl; (first | (apply decide_eq_true; omega) | (apply decide_eq_false; omega) | rfl))
    | (apply r_add; rfl; rfl; rfl; omega)
    | (apply r_not; rfl; rfl)
    | (apply r_pickT; rfl)
    | (apply r_pickF; rfl)
    | (apply r_lenD; rfl)
    | (apply r_lenL; rfl)
    | (apply r_len0; rfl)
    | (apply r_lenT; rfl)
    | (apply r_ext; rfl; rfl)
    | (apply r_gT; rfl)
    | (apply r_gF'; rfl; rfl)
    | (apply r_gN'; rfl)
    | ((apply r_gS (o := default); rfl) <;> (intro h; try simp only [decide_eq_true_eq, decide_eq_false_iff_not, Bool.not_eq_true, Bool.not_eq_false] at h))
    | (apply r_box; ((conv => lhs; simp only [Nat.reduceAdd]) <;> rfl); rfl; rfl; rfl)
    | (apply r_p; rfl)
    | (apply r_nilK)
    | (apply r_nil)
    | (apply k_V; rfl)
    | (apply k_P; rfl)
    | (apply k_PL; rfl)
    | (apply k_S; rfl)
    | (apply k_SL; rfl)
    | (apply k_A; rfl)
    | (apply k_T; rfl)
    | (apply k_F; rfl)
    | (apply k_D; rfl; rotate_left; rfl)
    | (apply k_nil)
    | (apply e_ret (vs := [.d (.val _)]); rfl)
    | (apply e_ret; rfl)
    | (apply e_ret' (vs := [.d (.val _)]); rfl)
    | (apply e_ret'; rfl)
    | (apply w_seq)
    | (apply w_ops; ((conv => lhs; simp only [Nat.reduceAdd]) <;> rfl))
    | (apply w_condT; rfl)
    | (apply w_condF; rfl)
    | ((apply w_condS; rfl) <;> (intro h; try simp only [decide_eq_true_eq, decide_eq_false_iff_not, Bool.not_eq_true, Bool.not_eq_false] at h))
    | (apply e_thenN)
    | (apply w_block)
    | (apply e_thenR)
    | (apply e_thenX)
    | (apply e_blkN)
    | (apply e_blkR)
    | (apply e_blkE)
    | (apply w_exit)
    | (apply w_ret)
    | (apply w_skip)
    | (apply e_blkE'; rfl))
  apply w_loopI (S := fun i : Nat => ⟨(((Fr.nil.put 1 (.d (.val (.string s)))).put 82 (.d (.sl (encI r) r.length))).put 83 (.i r.length)).put 84 (.i i), Heap.nil, Frz.lo 200, 200⟩) (m := fun i => r.length - i) (I := fun i => i ≤ r.length) (i0 := 0)
  · exact Nat.zero_le _
  · refine wk0 (by omega) ?_
    repeat' (first
    | exact FWk.nil
    | (apply FWk.i; rfl; (first | rfl | omega | (simp; done)))
    | (apply FWk.sl; rfl; rfl; rfl; rfl; omega; rfl)
    | (apply FWk.ptr; rfl; rfl; rfl; omega; rfl)
    | (apply FWk.d; rfl; rfl)
    | (apply FWk.a; rfl; rfl; rfl)
    | (apply FWk.slN; rfl; omega; rfl))
  intro i K hi hK
  dsimp only
  rcases Nat.lt_or_ge i r.length with hlt | hge
  · have hg := List.getElem?_eq_getElem hlt
    have hgt := hl2 _ (List.getElem_mem hlt)
    repeat' (first
    | (apply r_mvV; rfl)
    | (apply r_mvP; rfl)
    | (apply r_mvPL; rfl)
    | (apply r_mvS; rfl)
    | (apply r_mvSL; rfl)
    | (apply r_mvA; rfl)
    | (apply r_mvT; rfl)
    | (apply r_mvF; rfl)
    | (apply r_mvD; rfl)
    | (apply r_ixI (j := i); rfl; rfl; rfl; rfl; omega)
    | (apply r_ldI; rfl; exact hg)
    | (apply r_ldL; rfl; rfl; rfl)
    | (apply r_neq; rfl; rfl; (first | (apply decide_eq_true; omega) | (apply decide_eq_false; omega) | rfl))
    | (apply r_lss; rfl; rfl; (first | (apply decide_eq_true; omega) | (apply decide_eq_false; omega) | rfl))
    | (apply r_leq; rfl; rfl; (first | (apply decide_eq_true; omega) | (apply decide_eq_false; omega) | rfl))
    | (apply r_gtr; rfl; rfl; (first | (apply decide_eq_true; omega) | (apply decide_eq_false; omega) | rfl))
    | (apply r_add; rfl; rfl; rfl; omega)
    | (apply r_not; rfl; rfl)
    | (apply r_pickT; rfl)
    | (apply r_pickF; rfl)
    | (apply r_lenD; rfl)
    | (apply r_lenL; rfl)
    | (apply r_len0; rfl)
    | (apply r_lenT; rfl)
    | (apply r_ext; rfl; rfl)
    | (apply r_gT; rfl)
    | (apply r_gF'; rfl; rfl)
    | (apply r_gN'; rfl)
    | ((apply r_gS (o := default); rfl) <;> (intro h; try simp only [decide_eq_true_eq, decide_eq_false_iff_not, Bool.not_eq_true, Bool.not_eq_false] at h))
    | (apply r_box; ((conv => lhs; simp only [Nat.reduceAdd]) <;> rfl); rfl; rfl; rfl)
    | (apply r_p; rfl)
    | (apply r_nilK)
    | (apply r_nil)
    | (apply k_V; rfl)
    | (apply k_P; rfl)
    | (apply k_PL; rfl)
    | (apply k_S; rfl)
    | (apply k_SL; rfl)
    | (apply k_A; rfl)
    | (apply k_T; rfl)
    | (apply k_F; rfl)
    | (apply k_D; rfl; rotate_left; rfl)
    | (apply k_nil)
    | (apply e_ret (vs := [.d (.val _)]); rfl)
    | (apply e_ret; rfl)
    | (apply e_ret' (vs := [.d (.val _)]); rfl)
    | (apply e_ret'; rfl)
    | (apply w_seq)
    | (apply w_ops; ((conv => lhs; simp only [Nat.reduceAdd]) <;> rfl))
    | (apply w_condT; rfl)
    | (apply w_condF; rfl)
    | ((apply w_condS; rfl) <;> (intro h; try simp only [decide_eq_true_eq, decide_eq_false_iff_not, Bool.not_eq_true, Bool.not_eq_false] at h))
    | (apply e_thenN)
    | (apply w_block)
    | (apply e_thenR)
    | (apply e_thenX)
    | (apply e_blkN)
    | (apply e_blkR)
    | (apply e_blkE)
    | (apply w_exit)
    | (apply w_ret)
    | (apply w_skip)
    | (apply e_blkE'; rfl))
    apply e_thenK
    apply hK (i + 1)
    · omega
    · omega
    · refine wk0 (by omega) ?_
      repeat' (first
    | exact FWk.nil
    | (apply FWk.i; rfl; (first | rfl | omega | (simp; done)))
    | (apply FWk.sl; rfl; rfl; rfl; rfl; omega; rfl)
    | (apply FWk.ptr; rfl; rfl; rfl; omega; rfl)
    | (apply FWk.d; rfl; rfl)
    | (apply FWk.a; rfl; rfl; rfl)
    | (apply FWk.slN; rfl; omega; rfl))
  · repeat' (first
    | (apply r_mvV; rfl)
    | (apply r_mvP; rfl)
    | (apply r_mvPL; rfl)
    | (apply r_mvS; rfl)
    | (apply r_mvSL; rfl)
    | (apply r_mvA; rfl)
    | (apply r_mvT; rfl)
    | (apply r_mvF; rfl)
    | (apply r_mvD; rfl)
    | (apply r_ldL; rfl; rfl; rfl)
    | (apply r_neq; rfl; rfl; (first | (apply decide_eq_true; omega) | (apply decide_eq_false; omega) | rfl))
    | (apply r_lss; rfl; rfl; (first | (apply decide_eq_true; omega) | (apply decide_eq_false; omega) | rfl))
    | (apply r_leq; rfl; rfl; (first | (apply decide_eq_true; omega) | (apply decide_eq_false; omega) | rfl))
    | (apply r_gtr; rfl; rfl; (first | (apply decide_eq_true; omega) | (apply decide_eq_false; omega) | rfl))
    | (apply r_add; rfl; rfl; rfl; omega)
    | (apply r_not; rfl; rfl)
    | (apply r_pickT; rfl)
    | (apply r_pickF; rfl)
    | (apply r_lenD; rfl)
    | (apply r_lenL; rfl)
    | (apply r_len0; rfl)
    | (apply r_lenT; rfl)
    | (apply r_ext; rfl; rfl)
    | (apply r_gT; rfl)
    | (apply r_gF'; rfl; rfl)
    | (apply r_gN'; rfl)
    | ((apply r_gS (o := default); rfl) <;> (intro h; try simp only [decide_eq_true_eq, decide_eq_false_iff_not, Bool.not_eq_true, Bool.not_eq_false] at h))
    | (apply r_box; ((conv => lhs; simp only [Nat.reduceAdd]) <;> rfl); rfl; rfl; rfl)
    | (apply r_p; rfl)
    | (apply r_nilK)
    | (apply r_nil)
    | (apply k_V; rfl)
    | (apply k_P; rfl)
    | (apply k_PL; rfl)
    | (apply k_S; rfl)
    | (apply k_SL; rfl)
    | (apply k_A; rfl)
    | (apply k_T; rfl)
    | (apply k_F; rfl)
    | (apply k_D; rfl; rotate_left; rfl)
    | (apply k_nil)
    | (apply e_ret (vs := [.d (.val _)]); rfl)
    | (apply e_ret; rfl)
    | (apply e_ret' (vs := [.d (.val _)]); rfl)
    | (apply e_ret'; rfl)
    | (apply w_seq)
    | (apply w_ops; ((conv => lhs; simp only [Nat.reduceAdd]) <;> rfl))
    | (apply w_condT; rfl)
    | (apply w_condF; rfl)
    | ((apply w_condS; rfl) <;> (intro h; try simp only [decide_eq_true_eq, decide_eq_false_iff_not, Bool.not_eq_true, Bool.not_eq_false] at h))
    | (apply e_thenN)
    | (apply w_block)
    | (apply e_thenR)
    | (apply e_thenX)
    | (apply e_blkN)
    | (apply e_blkR)
    | (apply e_blkE)
    | (apply w_exit)
    | (apply w_ret)
    | (apply w_skip)
    | (apply e_blkE'; rfl))
    exact retB rfl
end Go.Sv
namespace Go.Sv
open Go Go.Proofs
def x9 : XC := (.seq (.ops 2 [
    (0, ⟨(some 2), none, .box (.t 0)⟩),
    (1, ⟨(some 4), none, .mv (.k (.d (.val (.bool false))))⟩)] (some [1, 2])) (.seq (.ops 5 [
    (0, ⟨(some 12), none, .load (some 8) (.t 2)⟩),
    (1, ⟨(some 13), none, .mkrow [(.int .i64 0), (.int .u64 0), (.int .u64 0), (.int .u64 0), (.int .u64 0), (.int .i64 0), (.int .i64 0), (.slice none 0 0)] 1 8 [(0, 8, (.t 12))]⟩),
    (2, ⟨(some 14), none, .build [(.int .i64 0), (.int .u64 0), (.int .u64 0), (.int .u64 0), (.int .u64 0), (.int .i64 0), (.int .i64 0), (.slice none 0 0)] [(0, 1, (.k (.d (.val (.int .i64 5))))), (6, 1, (.k (.d (.val (.int .i64 (-1)))))), (7, 1, (.t 13))]⟩),
    (3, ⟨(some 5), none, .alloc [(.int .i64 0), (.int .u64 0), (.int .u64 0), (.int .u64 0), (.int .u64 0), (.int .i64 0), (.int .i64 0), (.slice none 0 0)]⟩),
    (4, ⟨none, none, .store 8 (.t 5) (.t 14)⟩)] (some [1, 2, 5])) (.seq (.ops 9 [
    (0, ⟨(some 15), none, .build [(.int .i64 0), (.int .u64 0), (.int .u64 0), (.int .u64 0), (.int .u64 0), (.int .i64 0), (.int .i64 0), (.slice none 0 0)] [(0, 1, (.k (.d (.val (.int .i64 1)))))]⟩),
    (1, ⟨(some 16), none, .load (some 8) (.t 2)⟩),
    (2, ⟨(some 17), none, .load (some 8) (.t 5)⟩),
    (3, ⟨(some 18), none, .mkrow [(.int .i64 0), (.int .u64 0), (.int .u64 0), (.int .u64 0), (.int .u64 0), (.int .i64 0), (.int .i64 0), (.slice none 0 0)] 2 8 [(0, 8, (.t 16)), (8, 8, (.t 17))]⟩),
    (4, ⟨(some 19), none, .build [(.int .i64 0), (.int .u64 0), (.int .u64 0), (.int .u64 0), (.int .u64 0), (.int .i64 0), (.int .i64 0), (.slice none 0 0)] [(0, 1, (.k (.d (.val (.int .i64 3))))), (7, 1, (.t 18))]⟩),
    (5, ⟨(some 20), none, .mkrow [(.int .i64 0), (.int .u64 0), (.int .u64 0), (.int .u64 0), (.int .u64 0), (.int .i64 0), (.int .i64 0), (.slice none 0 0)] 2 8 [(0, 8, (.t 15)), (8, 8, (.t 19))]⟩),
    (6, ⟨(some 21), none, .build [(.int .i64 0), (.int .u64 0), (.int .u64 0), (.int .u64 0), (.int .u64 0), (.int .i64 0), (.int .i64 0), (.slice none 0 0)] [(0, 1, (.k (.d (.val (.int .i64 4))))), (7, 1, (.t 20))]⟩),
    (7, ⟨(some 6), none, .alloc [(.int .i64 0), (.int .u64 0), (.int .u64 0), (.int .u64 0), (.int .u64 0), (.int .i64 0), (.int .i64 0), (.slice none 0 0)]⟩),
    (8, ⟨none, none, .store 8 (.t 6) (.t 21)⟩)] (some [1, 5, 6])) (.seq (.seq (.ops 13 [
    (0, ⟨(some 22), none, .call 29 [] none false⟩),
    (1, ⟨(some 23), none, .un .not (.t 22)⟩),
    (2, ⟨(some 24), none, .mv (.t 23)⟩),
    (3, ⟨(some 25), (some (24, false)), .load (some 8) (.t 6)⟩),
    (4, ⟨(some 26), (some (24, false)), .mv (.t 1)⟩),
    (5, ⟨(some 27), (some (24, false)), .call 30 [(.t 25), (.t 26)] none false⟩),
    (6, ⟨(some 28), (some (24, false)), .un .not (.t 27)⟩),
    (7, ⟨(some 29), none, .pick (.t 24) (.k (.d (.val (.bool true)))) (.t 28)⟩),
    (8, ⟨(some 30), none, .mv (.t 29)⟩),
    (9, ⟨(some 31), (some (30, false)), .load (some 8) (.t 6)⟩),
    (10, ⟨(some 32), (some (30, false)), .call 32 [(.t 31)] none false⟩),
    (11, ⟨(some 33), (some (30, false)), .un .not (.t 32)⟩),
    (12, ⟨(some 34), none, .pick (.t 30) (.k (.d (.val (.bool true)))) (.t 33)⟩)] (some [1, 5, 6, 34])) (.cond (.t 34) (.seq (.ops 2 [
    (0, ⟨(some 35), none, .call 29 [] none false⟩),
    (1, ⟨(some 4), none, .mv (.t 35)⟩)] (some [4])) .ret) .skip)) (.seq (.seq (.ops 4 [
    (0, ⟨(some 36), none, .mv (.t 1)⟩),
    (1, ⟨(some 37), none, .lenT (.t 36)⟩),
    (2, ⟨(some 38), none, .arith .add (.t 37) (.k (.d (.val (.int .i64 1))))⟩),
    (3, ⟨(some 39), none, .mv (.k (.d (.val (.int .i64 0))))⟩)] (some [1, 5, 6, 38, 39])) (.block 0 (.loop (.seq (.ops 1 [
    (0, ⟨(some 40), none, .arith .lss (.t 39) (.t 38)⟩)] (some [1, 5, 6, 38, 39, 40])) (.seq (.cond (.t 40) .skip (.exit 0)) (.seq (.block 1 (.seq (.ops 2 [
    (0, ⟨(some 41), none, .mv (.t 39)⟩),
    (1, ⟨(some 7), none, .mv (.t 41)⟩)] (some [1, 5, 6, 7, 38, 39])) (.seq (.ops 9 [
    (0, ⟨(some 43), none, .load (some 8) (.t 5)⟩),
    (1, ⟨(some 44), none, .mv (.t 1)⟩),
    (2, ⟨(some 45), none, .mv (.t 7)⟩),
    (3, ⟨(some 46), none, .call 31 [(.t 43), (.t 44), (.t 45)] none false⟩),
    (4, ⟨(some 42), none, .mv (.t 46)⟩),
    (5, ⟨(some 47), none, .ext (.t 42) 0⟩),
    (6, ⟨(some 48), none, .ext (.t 42) 1⟩),
    (7, ⟨(some 8), none, .mv (.t 47)⟩),
    (8, ⟨(some 9), none, .mv (.t 48)⟩)] (some [1, 5, 6, 7, 8, 9, 38, 39])) (.seq (.ops 9 [
    (0, ⟨(some 50), none, .load (some 8) (.t 6)⟩),
    (1, ⟨(some 51), none, .mv (.t 1)⟩),
    (2, ⟨(some 52), none, .mv (.t 7)⟩),
    (3, ⟨(some 53), none, .call 31 [(.t 50), (.t 51), (.t 52)] none false⟩),
    (4, ⟨(some 49), none, .mv (.t 53)⟩),
    (5, ⟨(some 54), none, .ext (.t 49) 0⟩),
    (6, ⟨(some 55), none, .ext (.t 49) 1⟩),
    (7, ⟨(some 10), none, .mv (.t 54)⟩),
    (8, ⟨(some 11), none, .mv (.t 55)⟩)] (some [1, 5, 6, 7, 8, 9, 10, 11, 38, 39])) (.seq (.ops 24 [
    (0, ⟨(some 56), none, .mv (.t 9)⟩),
    (1, ⟨(some 57), none, .arith .neq (.t 56) (.k (.d (.val (.int .i64 0))))⟩),
    (2, ⟨(some 58), none, .mv (.t 57)⟩),
    (3, ⟨(some 59), (some (58, false)), .mv (.t 11)⟩),
    (4, ⟨(some 60), (some (58, false)), .arith .neq (.t 59) (.k (.d (.val (.int .i64 0))))⟩),
    (5, ⟨(some 61), none, .pick (.t 58) (.k (.d (.val (.bool true)))) (.t 60)⟩),
    (6, ⟨(some 62), none, .mv (.t 61)⟩),
    (7, ⟨(some 63), (some (62, false)), .mv (.t 8)⟩),
    (8, ⟨(some 64), (some (62, false)), .mv (.t 10)⟩),
    (9, ⟨(some 65), (some (62, false)), .call 35 [(.t 63), (.t 64)] none false⟩),
    (10, ⟨(some 66), (some (62, false)), .un .not (.t 65)⟩),
    (11, ⟨(some 67), none, .pick (.t 62) (.k (.d (.val (.bool true)))) (.t 66)⟩),
    (12, ⟨(some 68), none, .mv (.t 67)⟩),
    (13, ⟨(some 69), (some (68, false)), .mv (.t 8)⟩),
    (14, ⟨(some 70), (some (68, false)), .lenS (.t 69)⟩),
    (15, ⟨(some 71), (some (68, false)), .arith .eql (.t 70) (.k (.d (.val (.int .i64 0))))⟩),
    (16, ⟨(some 72), none, .pick (.t 68) (.k (.d (.val (.bool true)))) (.t 71)⟩),
    (17, ⟨(some 73), none, .mv (.t 72)⟩),
    (18, ⟨(some 74), (some (73, false)), .mv (.t 8)⟩),
    (19, ⟨(some 75), (some (73, false)), .idxS 1 (.t 74) (.k (.d (.val (.int .i64 0))))⟩),
    (20, ⟨(some 76), (some (73, false)), .load none (.t 75)⟩),
    (21, ⟨(some 77), (some (73, false)), .mv (.t 7)⟩),
    (22, ⟨(some 78), (some (73, false)), .arith .neq (.t 76) (.t 77)⟩),
    (23, ⟨(some 79), none, .pick (.t 73) (.k (.d (.val (.bool true)))) (.t 78)⟩)] (some [1, 5, 6, 38, 39, 79])) (.cond (.t 79) (.seq (.ops 1 [
    (0, ⟨(some 4), none, .mv (.k (.d (.val (.bool false))))⟩)] (some [4])) .ret) .skip)))))) (.ops 2 [
    (0, ⟨(some 80), none, .arith .add (.t 39) (.k (.d (.val (.int .i64 1))))⟩),
    (1, ⟨(some 39), none, .mv (.t 80)⟩)] (some [1, 5, 6, 38, 39])))))))) (.seq (.ops 1 [
    (0, ⟨(some 4), none, .mv (.k (.d (.val (.bool true))))⟩)] (some [4])) .ret))))))
def md9 : FuncId → Option Nat × Bool
  | _ => (none, false)
def od9 : Nat → List (List Nat) × List Nat × Option (List Nat)
  | 0 => ([], [], some [1, 2])
  | 1 => ([], [], some [1, 2, 5])
  | 2 => ([], [], some [1, 5, 6])
  | 3 => ([], [], some [1, 5, 6, 34])
  | 4 => ([], [], some [4])
  | 5 => ([], [], some [1, 5, 6, 38, 39])
  | 6 => ([], [], some [1, 5, 6, 38, 39, 40])
  | 7 => ([], [], some [1, 5, 6, 7, 38, 39])
  | 8 => ([], [], some [1, 5, 6, 7, 8, 9, 38, 39])
  | 9 => ([], [], some [1, 5, 6, 7, 8, 9, 10, 11, 38, 39])
  | 10 => ([], [], some [1, 5, 6, 38, 39, 79])
  | 11 => ([], [], some [4])
  | 12 => ([], [], some [1, 5, 6, 38, 39])
  | 13 => ([], [], some [4])
  | _ => ([], [], none)
theorem b9 {ags : List AV} {row : Option (List DV)} {r : AV} {row' nw : Option (List DV)} (hal : ags.length ≤ 81) (hrow : row'.isSome = true → row.isSome = true) (h : xwp Try.prog x9 (retK [.tmp 4] row.isSome r row' nw) (St.init ags row)) : Good Try.prog 9 ags row r row' nw :=
  good_of_body' (md := md9) (od := od9) Try.f9 (by kernel_rfl) (by kernel_rfl) (by kernel_rfl) (by kernel_rfl) (by kernel_rfl) hal hrow h

theorem openL_sub (k : Int) : ∀ (l : List T) (m : Int), 0 ≤ openL k l m → m ≤ openL k l m ∧ ∀ i (h : i < l.length), 0 ≤ openT l[i] ∧ openT l[i] ≤ openL k l m
  | [], m, h => ⟨by simp [openL], fun i h => by simp at h⟩
  | t :: l, m, h => by
    simp only [openL] at h ⊢
    split at h
    · omega
    · rename_i hn
      rw [if_neg hn]
      obtain ⟨h1, h2⟩ := openL_sub k l _ h
      generalize openL k l (max m (if roundG k t.kind = true then openT t + 1 else openT t)) = q at h1 h2 ⊢
      have h3 : openT t ≤ (if roundG k t.kind = true then openT t + 1 else openT t) := by split <;> omega
      refine ⟨by omega, fun i hi => ?_⟩
      cases i with
      | zero =>
        simp only [List.getElem_cons_zero]
        omega
      | succ i => simpa using h2 i (by simpa using hi)
theorem right_sub {k a b c d mn mx : Int} {subs : List T} (h : rightT (.node k a b c d mn mx subs) = true) (i : Nat) (hi : i < subs.length) : rightT subs[i] = true := by
  simp only [rightT, openT] at h
  split at h
  · simp only [Bool.and_eq_true, decide_eq_true_eq] at h
    have := (openL_sub k subs 0 h.1).2 i hi
    simp only [rightT, Bool.and_eq_true, decide_eq_true_eq]; omega
  · simp at h
theorem idxTo_none (q : List Bool) : ∀ (m : Nat), (∀ i, i < m → ¬ At q i) → idxTo q m = []
  | 0, _ => rfl
  | m + 1, h => by
    rw [idxTo, if_neg (show ¬ q.getD m false = true from h m (by omega)), idxTo_none q m fun i hi => h i (by omega)]
theorem idxTo_first (q : List Bool) (j m : Nat) (hj : j < m) (h1 : At q j) (h2 : ∀ i, i < j → ¬ At q i) : ∃ r, idxTo q m = (j : Int) :: r := by
  obtain ⟨r, h3, _⟩ := idxTo_more q (j + 1) (m - (j + 1))
  rw [show j + 1 + (m - (j + 1)) = m by omega, idxTo, if_pos (show q.getD j false = true from h1), idxTo_none q j h2] at h3
  exact ⟨r, h3⟩
theorem same_ends {s : ByteArray} {t u : T} (ht : okT t) (hu : okT u) (hft : fitsT t 12 = true) (hfu : fitsT u 12 = true) (h : ∀ w, L t w ↔ L u w) {j : Nat} (hj : j ≤ s.size) : allG s t j = allG s u j := by
  rw [allG_eq hft hj, allG_eq hfu hj]
  refine idxTo_congr _ fun i hi => ?_
  rw [at_ends s t ht j hj i, at_ends s u hu j hj i]
  simp only [h]
def starT (t : T) : T := .node 5 0 0 0 0 0 (-1) [t]
def moreT (t : T) : T := .node 4 0 0 0 0 0 0 [.node 1 0 0 0 0 0 0 [], .node 3 0 0 0 0 0 0 [t, starT t]]
theorem star_more (t : T) (w : List Nat) : L (starT t) w ↔ L (moreT t) w := by
  have hs : ∀ w, L (starT t) w ↔ ∃ r : Nat, powL (L t) r w := by
    intro w
    simp only [starT, L]
    simp only [show ¬ (5 : Int) = 1 by omega, show ¬ (5 : Int) = 2 by omega, show ¬ (5 : Int) = 3 by omega, show ¬ (5 : Int) = 4 by omega, if_true, if_false, fstL]
    constructor
    · rintro ⟨r, _, _, h⟩; exact ⟨r, h⟩
    · rintro ⟨r, h⟩; exact ⟨r, by omega, .inl (by omega), h⟩
  have hm : L (moreT t) w ↔ w = [] ∨ ∃ u v, w = u ++ v ∧ L t u ∧ L (starT t) v := by
    simp only [moreT, L, altL, catL]
    simp only [show ¬ (4 : Int) = 1 by omega, show ¬ (4 : Int) = 2 by omega, show ¬ (4 : Int) = 3 by omega, show ¬ (3 : Int) = 1 by omega, show ¬ (3 : Int) = 2 by omega, if_true, if_false, or_false]
    refine or_congr Iff.rfl ⟨?_, ?_⟩
    · rintro ⟨u, v, rfl, h1, u', v', rfl, h2, rfl⟩
      exact ⟨u, _, rfl, h1, by simpa using h2⟩
    · rintro ⟨u, v, rfl, h1, h2⟩
      exact ⟨u, v, rfl, h1, v, [], by simp, h2, rfl⟩
  rw [hm, hs]
  constructor
  · rintro ⟨r, h⟩
    cases r with
    | zero => exact .inl h
    | succ r =>
      obtain ⟨u, v, e, h1, h2⟩ := h
      exact .inr ⟨u, v, e, h1, (hs v).2 ⟨r, h2⟩⟩
  · rintro (h | ⟨u, v, e, h1, h2⟩)
    · exact ⟨0, h⟩
    · obtain ⟨r, h3⟩ := (hs v).1 h2
      exact ⟨r + 1, u, v, e, h1, h3⟩
theorem star_nil (t : T) : L (starT t) [] := (star_more t []).2 (by
  simp only [moreT, L, altL]
  simp)
set_option maxRecDepth 100000
set_option maxHeartbeats 4000000
attribute [local irreducible] W E R KP thenK blockK retK Good xwp aRun
theorem law9 (t : T) (s : ByteArray) (ht : inT t) (hs : s.size ≤ 9223372036854775807) : Good Try.prog 9 [nodeA t, .d (.val (.string s))] none (.b true) none none := by
  have haw := awake11_good
  have hin : inT (moreT t) := by
    have z : inW 0 := by unfold inW; omega
    have m1 : inW (-1) := by unfold inW; omega
    have o : okW 0 := by unfold okW; omega
    have k1 : inW 1 := by unfold inW; omega
    have k3 : inW 3 := by unfold inW; omega
    have k4 : inW 4 := by unfold inW; omega
    have k5 : inW 5 := by unfold inW; omega
    simp only [moreT, starT, inT, inL, z, m1, o, k1, k3, k4, k5, ht, and_self]
  have h30 := few30_good s hs (moreT t) hin
  have hcv : ∀ k a b c d mn mx subs, t = .node k a b c d mn mx subs → True := fun _ _ _ _ _ _ _ _ _ => trivial
  by_cases hf : few11 s (moreT t) = true
  case neg =>
    have hf : few11 s (moreT t) = false := by simpa using hf
    rw [hf] at h30
    clear ht hf hin
    obtain ⟨k, a, b, c, d, mn, mx, subs⟩ := t
    have e0 : nodeA (.node k a b c d mn mx subs) = .agg [.i k, .d (.val (.int .u64 a)), .d (.val (.int .u64 b)), .d (.val (.int .u64 c)), .d (.val (.int .u64 d)), .i mn, .i mx, .d (.sl (encL subs) subs.length)] := rfl
    rw [e0]
    refine b9 (by simp) (by simp) (w_init ?_)
    unfold x9
    repeat' (first
    | (apply r_mvV; rfl)
    | (apply r_mvP; rfl)
    | (apply r_mvPL; rfl)
    | (apply r_mvS; rfl)
    | (apply r_mvSL; rfl)
    | (apply r_mvA; rfl)
    | (apply r_mvT; rfl)
    | (apply r_mvF; rfl)
    | (apply r_mvD; rfl)
    | (apply r_ldL (v := .agg [.i k, .d (.val (.int .u64 a)), .d (.val (.int .u64 b)), .d (.val (.int .u64 c)), .d (.val (.int .u64 d)), .i mn, .i mx, .d (.sl (encL subs) subs.length)]); rfl; rfl; rfl)
    | (apply r_ldL (v := .agg [.i 5, .d (.val (.int .u64 0)), .d (.val (.int .u64 0)), .d (.val (.int .u64 0)), .d (.val (.int .u64 0)), .i 0, .i (-1), .slL 4 0 1 8]); rfl; rfl; rfl)
    | (apply r_ldL (v := .agg [.i 4, .d (.val (.int .u64 0)), .d (.val (.int .u64 0)), .d (.val (.int .u64 0)), .d (.val (.int .u64 0)), .i 0, .i 0, .slL 13 0 2 8]); rfl; rfl; rfl)
    | (apply r_n (v := .slL 4 0 1 8) (r := [.i k, .d (.val (.int .u64 a)), .d (.val (.int .u64 b)), .d (.val (.int .u64 c)), .d (.val (.int .u64 d)), .i mn, .i mx, .d (.sl (encL subs) subs.length)]); rfl)
    | (apply r_n (v := .slL 11 0 2 8) (r := [.i k, .d (.val (.int .u64 a)), .d (.val (.int .u64 b)), .d (.val (.int .u64 c)), .d (.val (.int .u64 d)), .i mn, .i mx, .d (.sl (encL subs) subs.length), .i 5, .d (.val (.int .u64 0)), .d (.val (.int .u64 0)), .d (.val (.int .u64 0)), .d (.val (.int .u64 0)), .i 0, .i (-1), .slL 4 0 1 8]); rfl)
    | (apply r_n (v := .slL 13 0 2 8) (r := [.i 1, .d (.val (.int .u64 0)), .d (.val (.int .u64 0)), .d (.val (.int .u64 0)), .d (.val (.int .u64 0)), .i 0, .i 0, .d (.val (.slice none 0 0)), .i 3, .d (.val (.int .u64 0)), .d (.val (.int .u64 0)), .d (.val (.int .u64 0)), .d (.val (.int .u64 0)), .i 0, .i 0, .slL 11 0 2 8]); rfl)
    | (apply r_p (v := .agg [.i 5, .d (.val (.int .u64 0)), .d (.val (.int .u64 0)), .d (.val (.int .u64 0)), .d (.val (.int .u64 0)), .i 0, .i (-1), .slL 4 0 1 8]); rfl)
    | (apply r_p (v := .agg [.i 1, .d (.val (.int .u64 0)), .d (.val (.int .u64 0)), .d (.val (.int .u64 0)), .d (.val (.int .u64 0)), .i 0, .i 0, .d (.val (.slice none 0 0))]); rfl)
    | (apply r_p (v := .agg [.i 3, .d (.val (.int .u64 0)), .d (.val (.int .u64 0)), .d (.val (.int .u64 0)), .d (.val (.int .u64 0)), .i 0, .i 0, .slL 11 0 2 8]); rfl)
    | (apply r_p (v := .agg [.i 4, .d (.val (.int .u64 0)), .d (.val (.int .u64 0)), .d (.val (.int .u64 0)), .d (.val (.int .u64 0)), .i 0, .i 0, .slL 13 0 2 8]); rfl)
    | (apply r_callA (ags := []); rfl; rfl; exact haw)
    | (apply r_call (bs := [nodeA (moreT (.node k a b c d mn mx subs)), .d (.val (.string s))]) (us := [13, 11, 4]); rfl; rfl; exact h30; rfl)
    | (apply r_ldL; rfl; rfl; rfl)
    | (apply r_eql; rfl; rfl; (first | (apply decide_eq_true; omega) | (apply decide_eq_false; omega) | rfl))
    | (apply r_neq; rfl; rfl; (first | (apply decide_eq_true; omega) | (apply decide_eq_false; omega) | rfl))
    | (apply r_lss; rfl; rfl; (first | (apply decide_eq_true; omega) | (apply decide_eq_false; omega) | rfl))
    | (apply r_add; rfl; rfl; rfl; omega)
    | (apply r_not; rfl; rfl)
    | (apply r_pickT; rfl)
    | (apply r_pickF; rfl)
    | (apply r_lenD; rfl)
    | (apply r_lenL; rfl)
    | (apply r_len0; rfl)
    | (apply r_lenT; rfl)
    | (apply r_ext; rfl; rfl)
    | (apply r_gT; rfl)
    | (apply r_gF'; rfl; rfl)
    | (apply r_gN'; rfl)
    | ((apply r_gS (o := default); rfl) <;> (intro h; try simp only [decide_eq_true_eq, decide_eq_false_iff_not, Bool.not_eq_true, Bool.not_eq_false] at h))
    | (apply r_alloc; ((conv => lhs; simp only [Nat.reduceAdd]) <;> rfl); rfl)
    | (apply r_box; ((conv => lhs; simp only [Nat.reduceAdd]) <;> rfl); rfl; rfl; rfl)
    | (apply r_stL; rfl; rfl; rfl; rfl; (first | rfl | (simp only [z_nil, z_add] <;> rfl)); rfl; rfl)
    | (apply r_p; rfl)
    | (apply r_nilK)
    | (apply r_nil)
    | (apply k_V; rfl)
    | (apply k_P; rfl)
    | (apply k_PL; rfl)
    | (apply k_S; rfl)
    | (apply k_SL; rfl)
    | (apply k_A; rfl)
    | (apply k_T; rfl)
    | (apply k_F; rfl)
    | (apply k_D; rfl; rotate_left; rfl)
    | (apply k_nil)
    | (apply e_ret (vs := [.d (.val _)]); rfl)
    | (apply e_ret; rfl)
    | (apply e_ret' (vs := [.d (.val _)]); rfl)
    | (apply e_ret'; rfl)
    | (apply w_seq)
    | (apply w_ops; ((conv => lhs; simp only [Nat.reduceAdd]) <;> rfl))
    | (apply w_condT; rfl)
    | (apply w_condF; rfl)
    | ((apply w_condS; rfl) <;> (intro h; try simp only [decide_eq_true_eq, decide_eq_false_iff_not, Bool.not_eq_true, Bool.not_eq_false] at h))
    | (apply e_thenN)
    | (apply w_block)
    | (apply e_thenR)
    | (apply e_thenX)
    | (apply e_blkN)
    | (apply e_blkR)
    | (apply e_blkE)
    | (apply w_exit)
    | (apply w_ret)
    | (apply w_skip)
    | (apply e_blkE'; rfl))
    exact retB rfl
  rw [hf] at h30
  simp only [few11, Bool.and_eq_true, decide_eq_true_eq] at hf
  obtain ⟨hf1, hf2, _⟩ := hf
  have hc := few_cnt hf1
  have h32 := right8_good (moreT t) (by omega)
  by_cases hr : rightT (moreT t) = true
  case neg =>
    have hr : rightT (moreT t) = false := by simpa using hr
    rw [hr] at h32
    clear ht hin hr hf1 hc
    obtain ⟨k, a, b, c, d, mn, mx, subs⟩ := t
    have e0 : nodeA (.node k a b c d mn mx subs) = .agg [.i k, .d (.val (.int .u64 a)), .d (.val (.int .u64 b)), .d (.val (.int .u64 c)), .d (.val (.int .u64 d)), .i mn, .i mx, .d (.sl (encL subs) subs.length)] := rfl
    rw [e0]
    refine b9 (by simp) (by simp) (w_init ?_)
    unfold x9
    repeat' (first
    | (apply r_mvV; rfl)
    | (apply r_mvP; rfl)
    | (apply r_mvPL; rfl)
    | (apply r_mvS; rfl)
    | (apply r_mvSL; rfl)
    | (apply r_mvA; rfl)
    | (apply r_mvT; rfl)
    | (apply r_mvF; rfl)
    | (apply r_mvD; rfl)
    | (apply r_ldL (v := .agg [.i k, .d (.val (.int .u64 a)), .d (.val (.int .u64 b)), .d (.val (.int .u64 c)), .d (.val (.int .u64 d)), .i mn, .i mx, .d (.sl (encL subs) subs.length)]); rfl; rfl; rfl)
    | (apply r_ldL (v := .agg [.i 5, .d (.val (.int .u64 0)), .d (.val (.int .u64 0)), .d (.val (.int .u64 0)), .d (.val (.int .u64 0)), .i 0, .i (-1), .slL 4 0 1 8]); rfl; rfl; rfl)
    | (apply r_ldL (v := .agg [.i 4, .d (.val (.int .u64 0)), .d (.val (.int .u64 0)), .d (.val (.int .u64 0)), .d (.val (.int .u64 0)), .i 0, .i 0, .slL 13 0 2 8]); rfl; rfl; rfl)
    | (apply r_n (v := .slL 4 0 1 8) (r := [.i k, .d (.val (.int .u64 a)), .d (.val (.int .u64 b)), .d (.val (.int .u64 c)), .d (.val (.int .u64 d)), .i mn, .i mx, .d (.sl (encL subs) subs.length)]); rfl)
    | (apply r_n (v := .slL 11 0 2 8) (r := [.i k, .d (.val (.int .u64 a)), .d (.val (.int .u64 b)), .d (.val (.int .u64 c)), .d (.val (.int .u64 d)), .i mn, .i mx, .d (.sl (encL subs) subs.length), .i 5, .d (.val (.int .u64 0)), .d (.val (.int .u64 0)), .d (.val (.int .u64 0)), .d (.val (.int .u64 0)), .i 0, .i (-1), .slL 4 0 1 8]); rfl)
    | (apply r_n (v := .slL 13 0 2 8) (r := [.i 1, .d (.val (.int .u64 0)), .d (.val (.int .u64 0)), .d (.val (.int .u64 0)), .d (.val (.int .u64 0)), .i 0, .i 0, .d (.val (.slice none 0 0)), .i 3, .d (.val (.int .u64 0)), .d (.val (.int .u64 0)), .d (.val (.int .u64 0)), .d (.val (.int .u64 0)), .i 0, .i 0, .slL 11 0 2 8]); rfl)
    | (apply r_p (v := .agg [.i 5, .d (.val (.int .u64 0)), .d (.val (.int .u64 0)), .d (.val (.int .u64 0)), .d (.val (.int .u64 0)), .i 0, .i (-1), .slL 4 0 1 8]); rfl)
    | (apply r_p (v := .agg [.i 1, .d (.val (.int .u64 0)), .d (.val (.int .u64 0)), .d (.val (.int .u64 0)), .d (.val (.int .u64 0)), .i 0, .i 0, .d (.val (.slice none 0 0))]); rfl)
    | (apply r_p (v := .agg [.i 3, .d (.val (.int .u64 0)), .d (.val (.int .u64 0)), .d (.val (.int .u64 0)), .d (.val (.int .u64 0)), .i 0, .i 0, .slL 11 0 2 8]); rfl)
    | (apply r_p (v := .agg [.i 4, .d (.val (.int .u64 0)), .d (.val (.int .u64 0)), .d (.val (.int .u64 0)), .d (.val (.int .u64 0)), .i 0, .i 0, .slL 13 0 2 8]); rfl)
    | (apply r_callA (ags := []); rfl; rfl; exact haw)
    | (apply r_call (bs := [nodeA (moreT (.node k a b c d mn mx subs)), .d (.val (.string s))]) (us := [13, 11, 4]); rfl; rfl; exact h30; rfl)
    | (apply r_call (bs := [nodeA (moreT (.node k a b c d mn mx subs))]) (us := [13, 11, 4]); rfl; rfl; exact h32; rfl)
    | (apply r_ldL; rfl; rfl; rfl)
    | (apply r_eql; rfl; rfl; (first | (apply decide_eq_true; omega) | (apply decide_eq_false; omega) | rfl))
    | (apply r_neq; rfl; rfl; (first | (apply decide_eq_true; omega) | (apply decide_eq_false; omega) | rfl))
    | (apply r_lss; rfl; rfl; (first | (apply decide_eq_true; omega) | (apply decide_eq_false; omega) | rfl))
    | (apply r_add; rfl; rfl; rfl; omega)
    | (apply r_not; rfl; rfl)
    | (apply r_pickT; rfl)
    | (apply r_pickF; rfl)
    | (apply r_lenD; rfl)
    | (apply r_lenL; rfl)
    | (apply r_len0; rfl)
    | (apply r_lenT; rfl)
    | (apply r_ext; rfl; rfl)
    | (apply r_gT; rfl)
    | (apply r_gF'; rfl; rfl)
    | (apply r_gN'; rfl)
    | ((apply r_gS (o := default); rfl) <;> (intro h; try simp only [decide_eq_true_eq, decide_eq_false_iff_not, Bool.not_eq_true, Bool.not_eq_false] at h))
    | (apply r_alloc; ((conv => lhs; simp only [Nat.reduceAdd]) <;> rfl); rfl)
    | (apply r_box; ((conv => lhs; simp only [Nat.reduceAdd]) <;> rfl); rfl; rfl; rfl)
    | (apply r_stL; rfl; rfl; rfl; rfl; (first | rfl | (simp only [z_nil, z_add] <;> rfl)); rfl; rfl)
    | (apply r_p; rfl)
    | (apply r_nilK)
    | (apply r_nil)
    | (apply k_V; rfl)
    | (apply k_P; rfl)
    | (apply k_PL; rfl)
    | (apply k_S; rfl)
    | (apply k_SL; rfl)
    | (apply k_A; rfl)
    | (apply k_T; rfl)
    | (apply k_F; rfl)
    | (apply k_D; rfl; rotate_left; rfl)
    | (apply k_nil)
    | (apply e_ret (vs := [.d (.val _)]); rfl)
    | (apply e_ret; rfl)
    | (apply e_ret' (vs := [.d (.val _)]); rfl)
    | (apply e_ret'; rfl)
    | (apply w_seq)
    | (apply w_ops; ((conv => lhs; simp only [Nat.reduceAdd]) <;> rfl))
    | (apply w_condT; rfl)
    | (apply w_condF; rfl)
    | ((apply w_condS; rfl) <;> (intro h; try simp only [decide_eq_true_eq, decide_eq_false_iff_not, Bool.not_eq_true, Bool.not_eq_false] at h))
    | (apply e_thenN)
    | (apply w_block)
    | (apply e_thenR)
    | (apply e_thenX)
    | (apply e_blkN)
    | (apply e_blkR)
    | (apply e_blkE)
    | (apply w_exit)
    | (apply w_ret)
    | (apply w_skip)
    | (apply e_blkE'; rfl))
    exact retB rfl
  have hokm : okT (moreT t) := ok_of_right hin hr
  have hfm : fitsT (moreT t) 12 = true := by rw [← right_fits]; exact hr
  have hrc : rightT (.node 3 0 0 0 0 0 0 [t, starT t]) = true := right_sub hr 1 (by simp)
  have hrs : rightT (starT t) = true := right_sub hrc 1 (by simp)
  have hfs : fitsT (starT t) 12 = true := by rw [← right_fits]; exact hrs
  have hins : inT (starT t) := by
    simp only [moreT, inT, inL] at hin
    exact hin.2.2.2.2.2.2.2.2.1.2.2.2.2.2.2.2.2.1
  have hoks : okT (starT t) := ok_of_right hins hrs
  have hcs : (starT t).cnt ≤ 200 := by
    have : (starT t).cnt ≤ (moreT t).cnt := by simp [moreT, starT, T.cnt, cntL]; omega
    omega
  rw [hr] at h32
  have hall : ∀ j, j ≤ s.size → ∃ r, allG s (starT t) j = (j : Int) :: r ∧ allG s (moreT t) j = (j : Int) :: r ∧ ((j : Int) :: r).length ≤ 1000001 := by
    intro j hj
    have h1 : At (stepG s (starT t) ((List.replicate (s.size + 1) false).set j true)) j := (at_ends s _ hoks j hj j).2 ⟨Nat.le_refl _, hj, by rw [word_nil]; exact star_nil t⟩
    obtain ⟨r, h2⟩ := idxTo_first _ j (s.size + 1) (by omega) h1 fun i hi h => by
      have := (at_ends s _ hoks j hj i).1 h; omega
    have h3 := allG_eq (s := s) (t := starT t) hfs hj
    rw [h2] at h3
    refine ⟨r, h3, by rw [← same_ends hoks hokm hfs hfm (star_more t) hj]; exact h3, ?_⟩
    rw [← h2]
    exact Nat.le_trans (idxTo_len _ _) (by omega)
  have h31 : ∀ j : Nat, j ≤ s.size → ∃ r, Good Try.prog 31 [nodeA (starT t), .d (.val (.string s)), .i j] none (.tup [.d (.sl (encI ((j : Int) :: r)) ((j : Int) :: r).length), .i 0]) none none ∧ Good Try.prog 31 [nodeA (moreT t), .d (.val (.string s)), .i j] none (.tup [.d (.sl (encI ((j : Int) :: r)) ((j : Int) :: r).length), .i 0]) none none ∧ ((j : Int) :: r).length ≤ 1000001 := by
    intro j hj
    obtain ⟨r, h1, h2, h3⟩ := hall j hj
    have g1 := all_good s (by omega) (starT t) (by omega) (fun _ => hoks) j
    have g2 := all_good s (by omega) (moreT t) (by omega) (fun _ => hokm) j
    have hfr : 0 ≤ ((j : Nat) : Int) ∧ ((j : Nat) : Int) ≤ s.size := by omega
    rw [h1, show allE s (starT t) (j : Nat) = 0 by simp only [allE, hfs, hfr, and_self, if_true]] at g1
    rw [h2, show allE s (moreT t) (j : Nat) = 0 by simp only [allE, hfm, hfr, and_self, if_true]] at g2
    exact ⟨r, g1, g2, h3⟩
  clear ht hin hr hf1 hc hokm hfm hrc hrs hfs hins hoks hcs hall hcv
  obtain ⟨k, a, b, c, d, mn, mx, subs⟩ := t
  have e0 : nodeA (.node k a b c d mn mx subs) = .agg [.i k, .d (.val (.int .u64 a)), .d (.val (.int .u64 b)), .d (.val (.int .u64 c)), .d (.val (.int .u64 d)), .i mn, .i mx, .d (.sl (encL subs) subs.length)] := rfl
  rw [e0]
  refine b9 (by simp) (by simp) (w_init ?_)
  unfold x9
  repeat' (first
    | (apply r_mvV; rfl)
    | (apply r_mvP; rfl)
    | (apply r_mvPL; rfl)
    | (apply r_mvS; rfl)
    | (apply r_mvSL; rfl)
    | (apply r_mvA; rfl)
    | (apply r_mvT; rfl)
    | (apply r_mvF; rfl)
    | (apply r_mvD; rfl)
    | (apply r_ldL (v := .agg [.i k, .d (.val (.int .u64 a)), .d (.val (.int .u64 b)), .d (.val (.int .u64 c)), .d (.val (.int .u64 d)), .i mn, .i mx, .d (.sl (encL subs) subs.length)]); rfl; rfl; rfl)
    | (apply r_ldL (v := .agg [.i 5, .d (.val (.int .u64 0)), .d (.val (.int .u64 0)), .d (.val (.int .u64 0)), .d (.val (.int .u64 0)), .i 0, .i (-1), .slL 4 0 1 8]); rfl; rfl; rfl)
    | (apply r_ldL (v := .agg [.i 4, .d (.val (.int .u64 0)), .d (.val (.int .u64 0)), .d (.val (.int .u64 0)), .d (.val (.int .u64 0)), .i 0, .i 0, .slL 13 0 2 8]); rfl; rfl; rfl)
    | (apply r_n (v := .slL 4 0 1 8) (r := [.i k, .d (.val (.int .u64 a)), .d (.val (.int .u64 b)), .d (.val (.int .u64 c)), .d (.val (.int .u64 d)), .i mn, .i mx, .d (.sl (encL subs) subs.length)]); rfl)
    | (apply r_n (v := .slL 11 0 2 8) (r := [.i k, .d (.val (.int .u64 a)), .d (.val (.int .u64 b)), .d (.val (.int .u64 c)), .d (.val (.int .u64 d)), .i mn, .i mx, .d (.sl (encL subs) subs.length), .i 5, .d (.val (.int .u64 0)), .d (.val (.int .u64 0)), .d (.val (.int .u64 0)), .d (.val (.int .u64 0)), .i 0, .i (-1), .slL 4 0 1 8]); rfl)
    | (apply r_n (v := .slL 13 0 2 8) (r := [.i 1, .d (.val (.int .u64 0)), .d (.val (.int .u64 0)), .d (.val (.int .u64 0)), .d (.val (.int .u64 0)), .i 0, .i 0, .d (.val (.slice none 0 0)), .i 3, .d (.val (.int .u64 0)), .d (.val (.int .u64 0)), .d (.val (.int .u64 0)), .d (.val (.int .u64 0)), .i 0, .i 0, .slL 11 0 2 8]); rfl)
    | (apply r_p (v := .agg [.i 5, .d (.val (.int .u64 0)), .d (.val (.int .u64 0)), .d (.val (.int .u64 0)), .d (.val (.int .u64 0)), .i 0, .i (-1), .slL 4 0 1 8]); rfl)
    | (apply r_p (v := .agg [.i 1, .d (.val (.int .u64 0)), .d (.val (.int .u64 0)), .d (.val (.int .u64 0)), .d (.val (.int .u64 0)), .i 0, .i 0, .d (.val (.slice none 0 0))]); rfl)
    | (apply r_p (v := .agg [.i 3, .d (.val (.int .u64 0)), .d (.val (.int .u64 0)), .d (.val (.int .u64 0)), .d (.val (.int .u64 0)), .i 0, .i 0, .slL 11 0 2 8]); rfl)
    | (apply r_p (v := .agg [.i 4, .d (.val (.int .u64 0)), .d (.val (.int .u64 0)), .d (.val (.int .u64 0)), .d (.val (.int .u64 0)), .i 0, .i 0, .slL 13 0 2 8]); rfl)
    | (apply r_callA (ags := []); rfl; rfl; exact haw)
    | (apply r_call (bs := [nodeA (moreT (.node k a b c d mn mx subs)), .d (.val (.string s))]) (us := [13, 11, 4]); rfl; rfl; exact h30; rfl)
    | (apply r_call (bs := [nodeA (moreT (.node k a b c d mn mx subs))]) (us := [13, 11, 4]); rfl; rfl; exact h32; rfl)
    | (apply r_ldL; rfl; rfl; rfl)
    | (apply r_eql; rfl; rfl; (first | (apply decide_eq_true; omega) | (apply decide_eq_false; omega) | rfl))
    | (apply r_neq; rfl; rfl; (first | (apply decide_eq_true; omega) | (apply decide_eq_false; omega) | rfl))
    | (apply r_lss; rfl; rfl; (first | (apply decide_eq_true; omega) | (apply decide_eq_false; omega) | rfl))
    | (apply r_add; rfl; rfl; rfl; omega)
    | (apply r_not; rfl; rfl)
    | (apply r_pickT; rfl)
    | (apply r_pickF; rfl)
    | (apply r_lenD; rfl)
    | (apply r_lenL; rfl)
    | (apply r_len0; rfl)
    | (apply r_lenT; rfl)
    | (apply r_ext; rfl; rfl)
    | (apply r_gT; rfl)
    | (apply r_gF'; rfl; rfl)
    | (apply r_gN'; rfl)
    | ((apply r_gS (o := default); rfl) <;> (intro h; try simp only [decide_eq_true_eq, decide_eq_false_iff_not, Bool.not_eq_true, Bool.not_eq_false] at h))
    | (apply r_alloc; ((conv => lhs; simp only [Nat.reduceAdd]) <;> rfl); rfl)
    | (apply r_box; ((conv => lhs; simp only [Nat.reduceAdd]) <;> rfl); rfl; rfl; rfl)
    | (apply r_stL; rfl; rfl; rfl; rfl; (first | rfl | (simp only [z_nil, z_add] <;> rfl)); rfl; rfl)
    | (apply r_p; rfl)
    | (apply r_nilK)
    | (apply r_nil)
    | (apply k_V; rfl)
    | (apply k_P; rfl)
    | (apply k_PL; rfl)
    | (apply k_S; rfl)
    | (apply k_SL; rfl)
    | (apply k_A; rfl)
    | (apply k_T; rfl)
    | (apply k_F; rfl)
    | (apply k_D; rfl; rotate_left; rfl)
    | (apply k_nil)
    | (apply e_ret (vs := [.d (.val _)]); rfl)
    | (apply e_ret; rfl)
    | (apply e_ret' (vs := [.d (.val _)]); rfl)
    | (apply e_ret'; rfl)
    | (apply w_seq)
    | (apply w_ops; ((conv => lhs; simp only [Nat.reduceAdd]) <;> rfl))
    | (apply w_condT; rfl)
    | (apply w_condF; rfl)
    | ((apply w_condS; rfl) <;> (intro h; try simp only [decide_eq_true_eq, decide_eq_false_iff_not, Bool.not_eq_true, Bool.not_eq_false] at h))
    | (apply e_thenN)
    | (apply w_block)
    | (apply e_thenR)
    | (apply e_thenX)
    | (apply e_blkN)
    | (apply e_blkR)
    | (apply e_blkE)
    | (apply w_exit)
    | (apply w_ret)
    | (apply w_skip)
    | (apply e_blkE'; rfl))
  apply w_loopF (S := fun i : Nat => ⟨((((Fr.nil.put 1 (.d (.val (.string s)))).put 5 (.ptrL 6 0)).put 6 (.ptrL 15 0)).put 38 (.i ((s.size + 1 : Nat) : Int))).put 39 (.i i), rowsOf [(6, (encN (starT (.node k a b c d mn mx subs))).map AV.d), (15, (encN (moreT (.node k a b c d mn mx subs))).map AV.d)], Frz.lo 200, 200⟩) (m := fun i => s.size + 1 - i) (I := fun i => i ≤ s.size + 1) (i0 := 0)
  · exact Nat.zero_le _
  · refine fzRow (b := 6) (r' := (encN (starT (.node k a b c d mn mx subs))).map AV.d) (u := [4]) rfl rfl (fzRow (b := 15) (r' := (encN (moreT (.node k a b c d mn mx subs))).map AV.d) (u := [13, 11, 4]) rfl rfl (wkRs (by omega) ?_ ?_).f)
    · intro p hp
      simp only [List.mem_cons, List.not_mem_nil, or_false] at hp
      rcases hp with rfl | rfl
      · exact ⟨by omega, rfl, rfl⟩
      · exact ⟨by omega, rfl, rfl⟩
    · repeat' (first
    | exact FWk.nil
    | (apply FWk.i; rfl; (first | rfl | omega | (simp; done)))
    | (apply FWk.sl; rfl; rfl; rfl; rfl; omega; rfl)
    | (apply FWk.ptr; rfl; rfl; rfl; omega; rfl)
    | (apply FWk.d; rfl; rfl)
    | (apply FWk.a; rfl; rfl; rfl)
    | (apply FWk.slN; rfl; omega; rfl))
  intro i K hi hK
  dsimp only
  rcases Nat.lt_or_ge i (s.size + 1) with hlt | hge
  · obtain ⟨r, g1, g2, g3⟩ := h31 i (by omega)
    have h35 := same_good ((i : Int) :: r) ((i : Int) :: r) g3
    rw [show decide ((i : Int) :: r = (i : Int) :: r) = true by simp] at h35
    repeat' (first
    | (apply r_mvV; rfl)
    | (apply r_mvP; rfl)
    | (apply r_mvPL; rfl)
    | (apply r_mvS; rfl)
    | (apply r_mvSL; rfl)
    | (apply r_mvA; rfl)
    | (apply r_mvT; rfl)
    | (apply r_mvF; rfl)
    | (apply r_mvD; rfl)
    | (apply r_ldL (v := nodeA (starT (.node k a b c d mn mx subs))); rfl; rfl; rfl)
    | (apply r_ldL (v := nodeA (moreT (.node k a b c d mn mx subs))); rfl; rfl; rfl)
    | (apply r_callA (ags := [nodeA (starT (.node k a b c d mn mx subs)), .d (.val (.string s)), .i i]); rfl; rfl; exact g1)
    | (apply r_callA (ags := [nodeA (moreT (.node k a b c d mn mx subs)), .d (.val (.string s)), .i i]); rfl; rfl; exact g2)
    | (apply r_callA; rfl; rfl; exact h35)
    | (apply r_ixI (j := 0); rfl; rfl; rfl; rfl; simp)
    | (apply r_ldI; rfl; rfl)
    | (apply r_ldL; rfl; rfl; rfl)
    | (apply r_eql; rfl; rfl; (first | (apply decide_eq_true; omega) | (apply decide_eq_false; omega) | rfl))
    | (apply r_neq; rfl; rfl; (first | (apply decide_eq_true; omega) | (apply decide_eq_false; omega) | rfl))
    | (apply r_lss; rfl; rfl; (first | (apply decide_eq_true; omega) | (apply decide_eq_false; omega) | rfl))
    | (apply r_add; rfl; rfl; rfl; omega)
    | (apply r_not; rfl; rfl)
    | (apply r_pickT; rfl)
    | (apply r_pickF; rfl)
    | (apply r_lenD; rfl)
    | (apply r_lenL; rfl)
    | (apply r_len0; rfl)
    | (apply r_lenT; rfl)
    | (apply r_ext; rfl; rfl)
    | (apply r_gT; rfl)
    | (apply r_gF'; rfl; rfl)
    | (apply r_gN'; rfl)
    | ((apply r_gS (o := default); rfl) <;> (intro h; try simp only [decide_eq_true_eq, decide_eq_false_iff_not, Bool.not_eq_true, Bool.not_eq_false] at h))
    | (apply r_alloc; ((conv => lhs; simp only [Nat.reduceAdd]) <;> rfl); rfl)
    | (apply r_box; ((conv => lhs; simp only [Nat.reduceAdd]) <;> rfl); rfl; rfl; rfl)
    | (apply r_stL; rfl; rfl; rfl; rfl; (first | rfl | (simp only [z_nil, z_add] <;> rfl)); rfl; rfl)
    | (apply r_p; rfl)
    | (apply r_nilK)
    | (apply r_nil)
    | (apply k_V; rfl)
    | (apply k_P; rfl)
    | (apply k_PL; rfl)
    | (apply k_S; rfl)
    | (apply k_SL; rfl)
    | (apply k_A; rfl)
    | (apply k_T; rfl)
    | (apply k_F; rfl)
    | (apply k_D; rfl; rotate_left; rfl)
    | (apply k_nil)
    | (apply e_ret (vs := [.d (.val _)]); rfl)
    | (apply e_ret; rfl)
    | (apply e_ret' (vs := [.d (.val _)]); rfl)
    | (apply e_ret'; rfl)
    | (apply w_seq)
    | (apply w_ops; ((conv => lhs; simp only [Nat.reduceAdd]) <;> rfl))
    | (apply w_condT; rfl)
    | (apply w_condF; rfl)
    | ((apply w_condS; rfl) <;> (intro h; try simp only [decide_eq_true_eq, decide_eq_false_iff_not, Bool.not_eq_true, Bool.not_eq_false] at h))
    | (apply e_thenN)
    | (apply w_block)
    | (apply e_thenR)
    | (apply e_thenX)
    | (apply e_blkN)
    | (apply e_blkR)
    | (apply e_blkE)
    | (apply w_exit)
    | (apply w_ret)
    | (apply w_skip)
    | (apply e_blkE'; rfl))
    apply e_thenK
    apply hK (i + 1)
    · omega
    · omega
    · refine (wkRs (by omega) ?_ ?_).f
      · intro p hp
        simp only [List.mem_cons, List.not_mem_nil, or_false] at hp
        rcases hp with rfl | rfl
        · exact ⟨by omega, rfl, rfl⟩
        · exact ⟨by omega, rfl, rfl⟩
      · repeat' (first
    | exact FWk.nil
    | (apply FWk.i; rfl; (first | rfl | omega | (simp; done)))
    | (apply FWk.sl; rfl; rfl; rfl; rfl; omega; rfl)
    | (apply FWk.ptr; rfl; rfl; rfl; omega; rfl)
    | (apply FWk.d; rfl; rfl)
    | (apply FWk.a; rfl; rfl; rfl)
    | (apply FWk.slN; rfl; omega; rfl))
  · repeat' (first
    | (apply r_mvV; rfl)
    | (apply r_mvP; rfl)
    | (apply r_mvPL; rfl)
    | (apply r_mvS; rfl)
    | (apply r_mvSL; rfl)
    | (apply r_mvA; rfl)
    | (apply r_mvT; rfl)
    | (apply r_mvF; rfl)
    | (apply r_mvD; rfl)
    | (apply r_ldL; rfl; rfl; rfl)
    | (apply r_eql; rfl; rfl; (first | (apply decide_eq_true; omega) | (apply decide_eq_false; omega) | rfl))
    | (apply r_neq; rfl; rfl; (first | (apply decide_eq_true; omega) | (apply decide_eq_false; omega) | rfl))
    | (apply r_lss; rfl; rfl; (first | (apply decide_eq_true; omega) | (apply decide_eq_false; omega) | rfl))
    | (apply r_add; rfl; rfl; rfl; omega)
    | (apply r_not; rfl; rfl)
    | (apply r_pickT; rfl)
    | (apply r_pickF; rfl)
    | (apply r_lenD; rfl)
    | (apply r_lenL; rfl)
    | (apply r_len0; rfl)
    | (apply r_lenT; rfl)
    | (apply r_ext; rfl; rfl)
    | (apply r_gT; rfl)
    | (apply r_gF'; rfl; rfl)
    | (apply r_gN'; rfl)
    | ((apply r_gS (o := default); rfl) <;> (intro h; try simp only [decide_eq_true_eq, decide_eq_false_iff_not, Bool.not_eq_true, Bool.not_eq_false] at h))
    | (apply r_alloc; ((conv => lhs; simp only [Nat.reduceAdd]) <;> rfl); rfl)
    | (apply r_box; ((conv => lhs; simp only [Nat.reduceAdd]) <;> rfl); rfl; rfl; rfl)
    | (apply r_stL; rfl; rfl; rfl; rfl; (first | rfl | (simp only [z_nil, z_add] <;> rfl)); rfl; rfl)
    | (apply r_p; rfl)
    | (apply r_nilK)
    | (apply r_nil)
    | (apply k_V; rfl)
    | (apply k_P; rfl)
    | (apply k_PL; rfl)
    | (apply k_S; rfl)
    | (apply k_SL; rfl)
    | (apply k_A; rfl)
    | (apply k_T; rfl)
    | (apply k_F; rfl)
    | (apply k_D; rfl; rotate_left; rfl)
    | (apply k_nil)
    | (apply e_ret (vs := [.d (.val _)]); rfl)
    | (apply e_ret; rfl)
    | (apply e_ret' (vs := [.d (.val _)]); rfl)
    | (apply e_ret'; rfl)
    | (apply w_seq)
    | (apply w_ops; ((conv => lhs; simp only [Nat.reduceAdd]) <;> rfl))
    | (apply w_condT; rfl)
    | (apply w_condF; rfl)
    | ((apply w_condS; rfl) <;> (intro h; try simp only [decide_eq_true_eq, decide_eq_false_iff_not, Bool.not_eq_true, Bool.not_eq_false] at h))
    | (apply e_thenN)
    | (apply w_block)
    | (apply e_thenR)
    | (apply e_thenX)
    | (apply e_blkN)
    | (apply e_blkR)
    | (apply e_blkE)
    | (apply w_exit)
    | (apply w_ret)
    | (apply w_skip)
    | (apply e_blkE'; rfl))
    exact retB rfl
end Go.Sv
namespace Go.Sv
open Go
theorem lastG_mem {L : List Int} (h : L ≠ []) : lastG L ∈ L := by
  have hl : 0 < L.length := List.length_pos_iff.2 h
  unfold lastG
  rw [if_neg (by omega), List.getD_eq_getElem?_getD, List.getElem?_eq_getElem (by omega)]
  exact List.getElem_mem _
theorem lastG_nil : lastG [] = -1 := rfl
theorem lastG_app {L r : List Int} (h : r ≠ []) : lastG (L ++ r) = lastG r := by
  have hl : 0 < r.length := List.length_pos_iff.2 h
  unfold lastG
  have e : (L ++ r).length = L.length + r.length := List.length_append
  rw [if_neg (by rw [e]; omega), if_neg (by omega)]
  simp only [List.getD_eq_getElem?_getD, List.length_append]
  rw [List.getElem?_append_right (by omega), show L.length + r.length - 1 - L.length = r.length - 1 by omega]
theorem idxTo_in (q : List Bool) : ∀ (m : Nat), ∀ x ∈ idxTo q m, 0 ≤ x ∧ x < (m : Int)
  | 0, x, h => by simp [idxTo] at h
  | m + 1, x, h => by
    rw [idxTo] at h
    split at h
    · rcases List.mem_append.1 h with h | h
      · have := idxTo_in q m x h; omega
      · simp at h; omega
    · have := idxTo_in q m x h; omega
end Go.Sv
namespace Go.Sv
open Go
theorem mem_idxTo (q : List Bool) (x : Int) : ∀ (m : Nat), x ∈ idxTo q m ↔ ∃ k : Nat, k < m ∧ At q k ∧ x = (k : Int)
  | 0 => by simp [idxTo]
  | m + 1 => by
    rw [idxTo]
    have ih := mem_idxTo q x m
    by_cases h : q.getD m false = true
    · rw [if_pos h, List.mem_append, ih, List.mem_singleton]
      constructor
      · rintro (⟨k, h1, h2, h3⟩ | h1)
        · exact ⟨k, by omega, h2, h3⟩
        · exact ⟨m, by omega, h, h1⟩
      · rintro ⟨k, h1, h2, h3⟩
        by_cases e : k = m
        · subst e; exact .inr h3
        · exact .inl ⟨k, by omega, h2, h3⟩
    · rw [if_neg h, ih]
      constructor
      · rintro ⟨k, h1, h2, h3⟩; exact ⟨k, by omega, h2, h3⟩
      · rintro ⟨k, h1, h2, h3⟩
        refine ⟨k, ?_, h2, h3⟩
        rcases Nat.lt_or_ge k m with h4 | h4
        · exact h4
        · exfalso
          have : k = m := by omega
          subst this; exact h h2
theorem mem_allG {s : ByteArray} {t : T} (hf : fitsT t 12 = true) (hok : okT t) {j : Nat} (hj : j ≤ s.size) (x : Int) : x ∈ allG s t j ↔ ∃ k : Nat, x = (k : Int) ∧ j ≤ k ∧ k ≤ s.size ∧ L t (word s j k) := by
  rw [allG_eq hf hj, mem_idxTo]
  constructor
  · rintro ⟨k, h1, h2, h3⟩
    exact ⟨k, h3, (at_ends s t hok j hj k).1 h2⟩
  · rintro ⟨k, h1, h2⟩
    exact ⟨k, by omega, (at_ends s t hok j hj k).2 h2, h1⟩
def altT (t u : T) : T := .node 4 0 0 0 0 0 0 [t, u]
def catT (t u : T) : T := .node 3 0 0 0 0 0 0 [t, u]
theorem L_altT (t u : T) (w : List Nat) : L (altT t u) w ↔ L t w ∨ L u w := by
  simp only [altT, L, altL]
  simp only [show ¬ (4 : Int) = 1 by omega, show ¬ (4 : Int) = 2 by omega, show ¬ (4 : Int) = 3 by omega, if_true, if_false, or_false]
theorem L_catT (t u : T) (w : List Nat) : L (catT t u) w ↔ ∃ a b, w = a ++ b ∧ L t a ∧ L u b := by
  simp only [catT, L, catL]
  simp only [show ¬ (3 : Int) = 1 by omega, show ¬ (3 : Int) = 2 by omega, if_true, if_false]
  constructor
  · rintro ⟨u, v, rfl, h1, u', v', rfl, h2, rfl⟩
    exact ⟨u, _, rfl, h1, by simpa using h2⟩
  · rintro ⟨u, v, rfl, h1, h2⟩
    exact ⟨u, v, rfl, h1, v, [], by simp, h2, rfl⟩
theorem idx_of {s : ByteArray} {t : T} (hf : fitsT t 12 = true) (hok : okT t) {j : Nat} (hj : j ≤ s.size) {p : List Bool} (h : ∀ k, k ≤ s.size → (At p k ↔ ((k : Nat) : Int) ∈ allG s t j)) : allG s t j = idxTo p (s.size + 1) := by
  rw [allG_eq hf hj]
  refine idxTo_congr _ fun i hi => ?_
  rw [h i (by omega), allG_eq hf hj, mem_idxTo]
  constructor
  · intro h1; exact ⟨i, hi, h1, rfl⟩
  · rintro ⟨k, h1, h2, h3⟩
    have : k = i := by omega
    subst this; exact h2
theorem alt_mem {s : ByteArray} {t u : T} (hft : fitsT t 12 = true) (hfu : fitsT u 12 = true) (hfa : fitsT (altT t u) 12 = true) (ht : okT t) (hu : okT u) (ha : okT (altT t u)) {j : Nat} (hj : j ≤ s.size) (x : Int) : x ∈ allG s (altT t u) j ↔ x ∈ allG s u j ∨ x ∈ allG s t j := by
  rw [mem_allG hfa ha hj, mem_allG hft ht hj, mem_allG hfu hu hj]
  constructor
  · rintro ⟨k, h1, h2, h3, h4⟩
    rcases (L_altT t u _).1 h4 with h | h
    · exact .inr ⟨k, h1, h2, h3, h⟩
    · exact .inl ⟨k, h1, h2, h3, h⟩
  · rintro (⟨k, h1, h2, h3, h4⟩ | ⟨k, h1, h2, h3, h4⟩)
    · exact ⟨k, h1, h2, h3, (L_altT t u _).2 (.inr h4)⟩
    · exact ⟨k, h1, h2, h3, (L_altT t u _).2 (.inl h4)⟩
theorem cat_mem {s : ByteArray} {t u : T} (hft : fitsT t 12 = true) (hfu : fitsT u 12 = true) (hfc : fitsT (catT t u) 12 = true) (ht : okT t) (hu : okT u) (hc : okT (catT t u)) {j : Nat} (hj : j ≤ s.size) (x : Int) : x ∈ allG s (catT t u) j ↔ ∃ i : Nat, ((i : Nat) : Int) ∈ allG s t j ∧ x ∈ allG s u i := by
  rw [mem_allG hfc hc hj]
  constructor
  · rintro ⟨k, h1, h2, h3, h4⟩
    obtain ⟨a, b, e, g1, g2⟩ := (L_catT t u _).1 h4
    obtain ⟨q1, q2, q3⟩ := word_split s h2 e
    refine ⟨j + a.length, (mem_allG hft ht hj _).2 ⟨_, rfl, by omega, by omega, q2 ▸ g1⟩, (mem_allG hfu hu (by omega) _).2 ⟨k, h1, q1, h3, q3 ▸ g2⟩⟩
  · rintro ⟨i, h1, h2⟩
    obtain ⟨i', e, h3, h4, h5⟩ := (mem_allG hft ht hj _).1 h1
    have : i' = i := by omega
    subst this
    obtain ⟨k, e2, h6, h7, h8⟩ := (mem_allG hfu hu h4 _).1 h2
    exact ⟨k, e2, by omega, h7, (L_catT t u _).2 ⟨_, _, (word_app s h3 h6).symm, h5, h8⟩⟩
end Go.Sv
