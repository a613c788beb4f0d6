/- A part of the proof of the law MeasureTells: that it answers true for every input, and that the input reads behind the call as before (no condition). -/
import Derived.Test.YtcnlgmajkclgjaaMeasureTellsG5
set_option linter.all false
set_option linter.unusedSectionVars false
set_option linter.unusedVariables false
set_option linter.unusedSimpArgs false
namespace Go.Sv
open Go Go.Proofs
def x165 : XC := (.seq (.ops 1 [
    (0, ⟨(some 0), none, .alloc [(.bool false), (.int .i64 0), (.int .i64 0), (.int .u64 0), (.int .u64 0), (.int .u64 0), (.int .u64 0)]⟩)] (some [0])) (.seq (.ops 2 [
    (0, ⟨(some 1), none, .build [(.bool false), (.int .i64 0), (.int .i64 0), (.int .u64 0), (.int .u64 0), (.int .u64 0), (.int .u64 0)] [(0, 1, (.k (.d (.val (.bool true))))), (1, 1, (.k (.d (.val (.int .i64 (-1)))))), (2, 1, (.k (.d (.val (.int .i64 (-1))))))]⟩),
    (1, ⟨none, none, .store 7 (.t 0) (.t 1)⟩)] (some [0])) .ret))
def md165 : FuncId → Option Nat × Bool
  | _ => (none, false)
def od165 : Nat → List (List Nat) × List Nat × Option (List Nat)
  | 0 => ([], [], some [0])
  | 1 => ([], [], some [0])
  | _ => ([], [], none)
theorem b165 {ags : List AV} {row : Option (List DV)} {r : AV} {row' nw : Option (List DV)} (hal : ags.length ≤ 2) (hrow : row'.isSome = true → row.isSome = true) (h : xwp Try.prog x165 (retK [.cell 0 (some 7)] row.isSome r row' nw) (St.init ags row)) : Good Try.prog 165 ags row r row' nw :=
  good_of_body' (md := md165) (od := od165) Try.f165 (by kernel_rfl) (by kernel_rfl) (by kernel_rfl) (by kernel_rfl) (by kernel_rfl) hal hrow h

def x173 : XC := (.seq (.ops 1 [
    (0, ⟨(some 4), none, .mv (.k (.d (.val (.int .i64 0))))⟩)] (some [0, 1])) (.seq (.seq (.ops 6 [
    (0, ⟨(some 5), none, .mv (.t 0)⟩),
    (1, ⟨(some 6), none, .arith .eql (.t 5) (.k (.d (.val (.int .i64 (-1)))))⟩),
    (2, ⟨(some 7), none, .mv (.t 6)⟩),
    (3, ⟨(some 8), (some (7, false)), .mv (.t 1)⟩),
    (4, ⟨(some 9), (some (7, false)), .arith .eql (.t 8) (.k (.d (.val (.int .i64 (-1)))))⟩),
    (5, ⟨(some 10), none, .pick (.t 7) (.k (.d (.val (.bool true)))) (.t 9)⟩)] (some [0, 1, 10])) (.cond (.t 10) (.seq (.ops 1 [
    (0, ⟨(some 4), none, .mv (.k (.d (.val (.int .i64 (-1)))))⟩)] (some [4])) .ret) .skip)) (.seq (.ops 4 [
    (0, ⟨(some 11), none, .mv (.t 0)⟩),
    (1, ⟨(some 12), none, .mv (.t 1)⟩),
    (2, ⟨(some 13), none, .arith .add (.t 11) (.t 12)⟩),
    (3, ⟨(some 4), none, .mv (.t 13)⟩)] (some [4])) .ret)))
def md173 : FuncId → Option Nat × Bool
  | _ => (none, false)
def od173 : Nat → List (List Nat) × List Nat × Option (List Nat)
  | 0 => ([], [], some [0, 1])
  | 1 => ([], [], some [0, 1, 10])
  | 2 => ([], [], some [4])
  | 3 => ([], [], some [4])
  | _ => ([], [], none)
theorem b173 {ags : List AV} {row : Option (List DV)} {r : AV} {row' nw : Option (List DV)} (hal : ags.length ≤ 14) (hrow : row'.isSome = true → row.isSome = true) (h : xwp Try.prog x173 (retK [.tmp 4] row.isSome r row' nw) (St.init ags row)) : Good Try.prog 173 ags row r row' nw :=
  good_of_body' (md := md173) (od := od173) Try.f173 (by kernel_rfl) (by kernel_rfl) (by kernel_rfl) (by kernel_rfl) (by kernel_rfl) hal hrow h

def x166 : XC := (.seq (.ops 3 [
    (0, ⟨(some 2), none, .box (.t 0)⟩),
    (1, ⟨(some 3), none, .box (.t 1)⟩),
    (2, ⟨(some 4), none, .alloc [(.bool false), (.int .i64 0), (.int .i64 0), (.int .u64 0), (.int .u64 0), (.int .u64 0), (.int .u64 0)]⟩)] (some [2, 3, 4])) (.seq (.seq (.ops 6 [
    (0, ⟨(some 6), none, .fadd 0 (.t 2)⟩),
    (1, ⟨(some 7), none, .load none (.t 6)⟩),
    (2, ⟨(some 8), none, .mv (.t 7)⟩),
    (3, ⟨(some 9), (some (8, false)), .fadd 0 (.t 3)⟩),
    (4, ⟨(some 10), (some (8, false)), .load none (.t 9)⟩),
    (5, ⟨(some 11), none, .pick (.t 8) (.k (.d (.val (.bool true)))) (.t 10)⟩)] (some [2, 3, 4, 11])) (.cond (.t 11) (.seq (.ops 2 [
    (0, ⟨(some 12), none, .call 165 [] none false⟩),
    (1, ⟨none, none, .store 7 (.t 4) (.t 12)⟩)] (some [4])) .ret) .skip)) (.seq (.ops 4 [
    (0, ⟨(some 13), none, .fadd 3 (.t 2)⟩),
    (1, ⟨(some 14), none, .load (some 4) (.t 13)⟩),
    (2, ⟨(some 5), none, .alloc [(.int .u64 0), (.int .u64 0), (.int .u64 0), (.int .u64 0)]⟩),
    (3, ⟨none, none, .store 4 (.t 5) (.t 14)⟩)] (some [2, 3, 4, 5])) (.seq (.seq (.ops 3 [
    (0, ⟨(some 15), none, .fadd 1 (.t 2)⟩),
    (1, ⟨(some 16), none, .load none (.t 15)⟩),
    (2, ⟨(some 17), none, .arith .eql (.t 16) (.k (.d (.val (.int .i64 0))))⟩)] (some [2, 3, 4, 5, 17])) (.cond (.t 17) (.ops 5 [
    (0, ⟨(some 18), none, .load (some 4) (.t 5)⟩),
    (1, ⟨(some 19), none, .fadd 3 (.t 3)⟩),
    (2, ⟨(some 20), none, .load (some 4) (.t 19)⟩),
    (3, ⟨(some 21), none, .call 73 [(.t 18), (.t 20)] none false⟩),
    (4, ⟨none, none, .store 4 (.t 5) (.t 21)⟩)] (some [2, 3, 4, 5])) .skip)) (.seq (.ops 13 [
    (0, ⟨(some 22), none, .fadd 1 (.t 2)⟩),
    (1, ⟨(some 23), none, .load none (.t 22)⟩),
    (2, ⟨(some 24), none, .fadd 1 (.t 3)⟩),
    (3, ⟨(some 25), none, .load none (.t 24)⟩),
    (4, ⟨(some 26), none, .arith .add (.t 23) (.t 25)⟩),
    (5, ⟨(some 27), none, .fadd 2 (.t 2)⟩),
    (6, ⟨(some 28), none, .load none (.t 27)⟩),
    (7, ⟨(some 29), none, .fadd 2 (.t 3)⟩),
    (8, ⟨(some 30), none, .load none (.t 29)⟩),
    (9, ⟨(some 31), none, .call 173 [(.t 28), (.t 30)] none false⟩),
    (10, ⟨(some 32), none, .load (some 4) (.t 5)⟩),
    (11, ⟨(some 33), none, .build [(.bool false), (.int .i64 0), (.int .i64 0), (.int .u64 0), (.int .u64 0), (.int .u64 0), (.int .u64 0)] [(1, 1, (.t 26)), (2, 1, (.t 31)), (3, 4, (.t 32))]⟩),
    (12, ⟨none, none, .store 7 (.t 4) (.t 33)⟩)] (some [4])) .ret)))))
def md166 : FuncId → Option Nat × Bool
  | _ => (none, false)
def od166 : Nat → List (List Nat) × List Nat × Option (List Nat)
  | 0 => ([], [], some [2, 3, 4])
  | 1 => ([], [], some [2, 3, 4, 11])
  | 2 => ([], [], some [4])
  | 3 => ([], [], some [2, 3, 4, 5])
  | 4 => ([], [], some [2, 3, 4, 5, 17])
  | 5 => ([], [], some [2, 3, 4, 5])
  | 6 => ([[], [0], [], [2], [0, 1, 2, 3], [], [5], [], [7], [5, 6, 7, 8], [], [0, 1, 2, 3, 4, 5, 6, 7, 8, 9, 10], [0, 1, 2, 3, 4, 5, 6, 7, 8, 9, 10, 11]], [0, 1, 2, 3, 4, 5, 6, 7, 8, 9, 10, 11, 12], some [4])
  | _ => ([], [], none)
theorem b166 {ags : List AV} {row : Option (List DV)} {r : AV} {row' nw : Option (List DV)} (hal : ags.length ≤ 34) (hrow : row'.isSome = true → row.isSome = true) (h : xwp Try.prog x166 (retK [.cell 4 (some 7)] row.isSome r row' nw) (St.init ags row)) : Good Try.prog 166 ags row r row' nw :=
  good_of_body' (md := md166) (od := od166) Try.f166 (by kernel_rfl) (by kernel_rfl) (by kernel_rfl) (by kernel_rfl) (by kernel_rfl) hal hrow h

def x167 : XC := (.seq (.ops 3 [
    (0, ⟨(some 2), none, .box (.t 0)⟩),
    (1, ⟨(some 3), none, .box (.t 1)⟩),
    (2, ⟨(some 4), none, .alloc [(.bool false), (.int .i64 0), (.int .i64 0), (.int .u64 0), (.int .u64 0), (.int .u64 0), (.int .u64 0)]⟩)] (some [2, 3, 4])) (.seq (.block 0 (.seq (.ops 3 [
    (0, ⟨(some 7), none, .fadd 0 (.t 2)⟩),
    (1, ⟨(some 8), none, .load none (.t 7)⟩),
    (2, ⟨(some 6), none, .mv (.t 8)⟩)] (some [2, 3, 4, 6])) (.cond (.t 6) (.seq (.ops 2 [
    (0, ⟨(some 9), none, .load (some 7) (.t 3)⟩),
    (1, ⟨none, none, .store 7 (.t 4) (.t 9)⟩)] (some [4])) .ret) (.seq (.ops 3 [
    (0, ⟨(some 11), none, .fadd 0 (.t 3)⟩),
    (1, ⟨(some 12), none, .load none (.t 11)⟩),
    (2, ⟨(some 10), none, .mv (.t 12)⟩)] (some [2, 3, 4, 10])) (.cond (.t 10) (.seq (.ops 2 [
    (0, ⟨(some 13), none, .load (some 7) (.t 2)⟩),
    (1, ⟨none, none, .store 7 (.t 4) (.t 13)⟩)] (some [4])) .ret) .skip))))) (.seq (.ops 6 [
    (0, ⟨(some 14), none, .fadd 2 (.t 2)⟩),
    (1, ⟨(some 15), none, .load none (.t 14)⟩),
    (2, ⟨(some 16), none, .fadd 2 (.t 3)⟩),
    (3, ⟨(some 17), none, .load none (.t 16)⟩),
    (4, ⟨(some 18), none, .max [(.t 15), (.t 17)]⟩),
    (5, ⟨(some 5), none, .mv (.t 18)⟩)] (some [2, 3, 4, 5])) (.seq (.seq (.ops 8 [
    (0, ⟨(some 19), none, .fadd 2 (.t 2)⟩),
    (1, ⟨(some 20), none, .load none (.t 19)⟩),
    (2, ⟨(some 21), none, .arith .eql (.t 20) (.k (.d (.val (.int .i64 (-1)))))⟩),
    (3, ⟨(some 22), none, .mv (.t 21)⟩),
    (4, ⟨(some 23), (some (22, false)), .fadd 2 (.t 3)⟩),
    (5, ⟨(some 24), (some (22, false)), .load none (.t 23)⟩),
    (6, ⟨(some 25), (some (22, false)), .arith .eql (.t 24) (.k (.d (.val (.int .i64 (-1)))))⟩),
    (7, ⟨(some 26), none, .pick (.t 22) (.k (.d (.val (.bool true)))) (.t 25)⟩)] (some [2, 3, 4, 5, 26])) (.cond (.t 26) (.ops 1 [
    (0, ⟨(some 5), none, .mv (.k (.d (.val (.int .i64 (-1)))))⟩)] (some [2, 3, 4, 5])) .skip)) (.seq (.ops 13 [
    (0, ⟨(some 27), none, .fadd 1 (.t 2)⟩),
    (1, ⟨(some 28), none, .load none (.t 27)⟩),
    (2, ⟨(some 29), none, .fadd 1 (.t 3)⟩),
    (3, ⟨(some 30), none, .load none (.t 29)⟩),
    (4, ⟨(some 31), none, .min [(.t 28), (.t 30)]⟩),
    (5, ⟨(some 32), none, .mv (.t 5)⟩),
    (6, ⟨(some 33), none, .fadd 3 (.t 2)⟩),
    (7, ⟨(some 34), none, .load (some 4) (.t 33)⟩),
    (8, ⟨(some 35), none, .fadd 3 (.t 3)⟩),
    (9, ⟨(some 36), none, .load (some 4) (.t 35)⟩),
    (10, ⟨(some 37), none, .call 73 [(.t 34), (.t 36)] none false⟩),
    (11, ⟨(some 38), none, .build [(.bool false), (.int .i64 0), (.int .i64 0), (.int .u64 0), (.int .u64 0), (.int .u64 0), (.int .u64 0)] [(1, 1, (.t 31)), (2, 1, (.t 32)), (3, 4, (.t 37))]⟩),
    (12, ⟨none, none, .store 7 (.t 4) (.t 38)⟩)] (some [4])) .ret)))))
def md167 : FuncId → Option Nat × Bool
  | _ => (none, false)
def od167 : Nat → List (List Nat) × List Nat × Option (List Nat)
  | 0 => ([], [], some [2, 3, 4])
  | 1 => ([], [], some [2, 3, 4, 6])
  | 2 => ([], [], some [4])
  | 3 => ([], [], some [2, 3, 4, 10])
  | 4 => ([], [], some [4])
  | 5 => ([], [], some [2, 3, 4, 5])
  | 6 => ([], [], some [2, 3, 4, 5, 26])
  | 7 => ([], [], some [2, 3, 4, 5])
  | 8 => ([[], [0], [], [2], [0, 1, 2, 3], [], [], [6], [], [8], [6, 7, 8, 9], [0, 1, 2, 3, 4, 5, 6, 7, 8, 9, 10], [0, 1, 2, 3, 4, 5, 6, 7, 8, 9, 10, 11]], [0, 1, 2, 3, 4, 5, 6, 7, 8, 9, 10, 11, 12], some [4])
  | _ => ([], [], none)
theorem b167 {ags : List AV} {row : Option (List DV)} {r : AV} {row' nw : Option (List DV)} (hal : ags.length ≤ 39) (hrow : row'.isSome = true → row.isSome = true) (h : xwp Try.prog x167 (retK [.cell 4 (some 7)] row.isSome r row' nw) (St.init ags row)) : Good Try.prog 167 ags row r row' nw :=
  good_of_body' (md := md167) (od := od167) Try.f167 (by kernel_rfl) (by kernel_rfl) (by kernel_rfl) (by kernel_rfl) (by kernel_rfl) hal hrow h

def x168 : XC := (.seq (.ops 2 [
    (0, ⟨(some 3), none, .box (.t 0)⟩),
    (1, ⟨(some 6), none, .alloc [(.bool false), (.int .i64 0), (.int .i64 0), (.int .u64 0), (.int .u64 0), (.int .u64 0), (.int .u64 0)]⟩)] (some [1, 2, 3, 6])) (.seq (.block 0 (.seq (.seq (.ops 3 [
    (0, ⟨(some 8), none, .mv (.t 2)⟩),
    (1, ⟨(some 9), none, .arith .eql (.t 8) (.k (.d (.val (.int .i64 0))))⟩),
    (2, ⟨(some 7), none, .mv (.t 9)⟩)] (some [1, 2, 3, 6, 7])) (.cond (.t 7) .skip (.ops 7 [
    (0, ⟨(some 10), none, .fadd 0 (.t 3)⟩),
    (1, ⟨(some 11), none, .load none (.t 10)⟩),
    (2, ⟨(some 12), none, .mv (.t 11)⟩),
    (3, ⟨(some 13), (some (12, true)), .mv (.t 1)⟩),
    (4, ⟨(some 14), (some (12, true)), .arith .eql (.t 13) (.k (.d (.val (.int .i64 0))))⟩),
    (5, ⟨(some 15), none, .pick (.t 12) (.t 14) (.k (.d (.val (.bool false))))⟩),
    (6, ⟨(some 7), none, .mv (.t 15)⟩)] (some [1, 2, 3, 6, 7])))) (.cond (.t 7) (.seq (.ops 2 [
    (0, ⟨(some 16), none, .build [(.bool false), (.int .i64 0), (.int .i64 0), (.int .u64 0), (.int .u64 0), (.int .u64 0), (.int .u64 0)] []⟩),
    (1, ⟨none, none, .store 7 (.t 6) (.t 16)⟩)] (some [6])) .ret) (.seq (.ops 3 [
    (0, ⟨(some 18), none, .fadd 0 (.t 3)⟩),
    (1, ⟨(some 19), none, .load none (.t 18)⟩),
    (2, ⟨(some 17), none, .mv (.t 19)⟩)] (some [1, 2, 3, 6, 17])) (.cond (.t 17) (.seq (.ops 2 [
    (0, ⟨(some 20), none, .call 165 [] none false⟩),
    (1, ⟨none, none, .store 7 (.t 6) (.t 20)⟩)] (some [6])) .ret) .skip))))) (.seq (.ops 6 [
    (0, ⟨(some 21), none, .fadd 1 (.t 3)⟩),
    (1, ⟨(some 22), none, .load none (.t 21)⟩),
    (2, ⟨(some 23), none, .mv (.t 1)⟩),
    (3, ⟨(some 24), none, .arith .mul (.t 22) (.t 23)⟩),
    (4, ⟨(some 25), none, .fadd 1 (.t 3)⟩),
    (5, ⟨none, none, .store 1 (.t 25) (.t 24)⟩)] (some [2, 3, 6])) (.seq (.block 1 (.seq (.ops 4 [
    (0, ⟨(some 32), none, .fadd 2 (.t 3)⟩),
    (1, ⟨(some 33), none, .load none (.t 32)⟩),
    (2, ⟨(some 34), none, .arith .eql (.t 33) (.k (.d (.val (.int .i64 0))))⟩),
    (3, ⟨(some 31), none, .mv (.t 34)⟩)] (some [2, 3, 6, 31])) (.cond (.t 31) .skip (.seq (.ops 8 [
    (0, ⟨(some 36), none, .fadd 2 (.t 3)⟩),
    (1, ⟨(some 37), none, .load none (.t 36)⟩),
    (2, ⟨(some 38), none, .arith .eql (.t 37) (.k (.d (.val (.int .i64 (-1)))))⟩),
    (3, ⟨(some 39), none, .mv (.t 38)⟩),
    (4, ⟨(some 40), (some (39, false)), .mv (.t 2)⟩),
    (5, ⟨(some 41), (some (39, false)), .arith .eql (.t 40) (.k (.d (.val (.int .i64 (-1)))))⟩),
    (6, ⟨(some 42), none, .pick (.t 39) (.k (.d (.val (.bool true)))) (.t 41)⟩),
    (7, ⟨(some 35), none, .mv (.t 42)⟩)] (some [2, 3, 6, 35])) (.cond (.t 35) (.ops 2 [
    (0, ⟨(some 43), none, .fadd 2 (.t 3)⟩),
    (1, ⟨none, none, .store 1 (.t 43) (.k (.d (.val (.int .i64 (-1)))))⟩)] (some [3, 6])) (.ops 6 [
    (0, ⟨(some 26), none, .fadd 2 (.t 3)⟩),
    (1, ⟨(some 27), none, .load none (.t 26)⟩),
    (2, ⟨(some 28), none, .mv (.t 2)⟩),
    (3, ⟨(some 29), none, .arith .mul (.t 27) (.t 28)⟩),
    (4, ⟨(some 30), none, .fadd 2 (.t 3)⟩),
    (5, ⟨none, none, .store 1 (.t 30) (.t 29)⟩)] (some [3, 6]))))))) (.seq (.ops 2 [
    (0, ⟨(some 44), none, .load (some 7) (.t 3)⟩),
    (1, ⟨none, none, .store 7 (.t 6) (.t 44)⟩)] (some [6])) .ret)))))
def md168 : FuncId → Option Nat × Bool
  | _ => (none, false)
def od168 : Nat → List (List Nat) × List Nat × Option (List Nat)
  | 0 => ([], [], some [1, 2, 3, 6])
  | 1 => ([], [], some [1, 2, 3, 6, 7])
  | 2 => ([], [], some [1, 2, 3, 6, 7])
  | 3 => ([], [], some [6])
  | 4 => ([], [], some [1, 2, 3, 6, 17])
  | 5 => ([], [], some [6])
  | 6 => ([], [], some [2, 3, 6])
  | 7 => ([], [], some [3, 6])
  | 8 => ([], [], some [2, 3, 6, 31])
  | 9 => ([], [], some [2, 3, 6, 35])
  | 10 => ([], [], some [3, 6])
  | 11 => ([], [], some [6])
  | _ => ([], [], none)
theorem b168 {ags : List AV} {row : Option (List DV)} {r : AV} {row' nw : Option (List DV)} (hal : ags.length ≤ 45) (hrow : row'.isSome = true → row.isSome = true) (h : xwp Try.prog x168 (retK [.cell 6 (some 7)] row.isSome r row' nw) (St.init ags row)) : Good Try.prog 168 ags row r row' nw :=
  good_of_body' (md := md168) (od := od168) Try.f168 (by kernel_rfl) (by kernel_rfl) (by kernel_rfl) (by kernel_rfl) (by kernel_rfl) hal hrow h

def faA (f : Fa) : AV := .agg [.b f.no, .i f.lo, .i f.hi, .d (.val (.int .u64 f.a)), .d (.val (.int .u64 f.b)), .d (.val (.int .u64 f.c)), .d (.val (.int .u64 f.d))]
set_option maxRecDepth 100000
set_option maxHeartbeats 4000000
attribute [local irreducible] W E R KP thenK blockK retK Good xwp aRun
theorem no165_good : Good Try.prog 165 [] none (faA faNo) none none := by
  refine b165 (by simp) (by simp) (w_init ?_)
  unfold x165
  repeat' (first
    | (apply r_p (v := .agg [.b true, .i (-1), .i (-1), .d (.val (.int .u64 0)), .d (.val (.int .u64 0)), .d (.val (.int .u64 0)), .d (.val (.int .u64 0))]); rfl)
    | (apply r_alloc; ((conv => lhs; simp only [Nat.reduceAdd]) <;> rfl); rfl)
    | (apply r_stL; rfl; rfl; rfl; rfl; (first | rfl | (simp only [z_nil, z_add] <;> rfl)); rfl; rfl)
    | (apply r_p; rfl)
    | (apply r_nilK)
    | (apply r_nil)
    | (apply k_V; rfl)
    | (apply k_P; rfl)
    | (apply k_PL; rfl)
    | (apply k_S; rfl)
    | (apply k_SL; rfl)
    | (apply k_A; rfl)
    | (apply k_T; rfl)
    | (apply k_F; rfl)
    | (apply k_D; rfl; rotate_left; rfl)
    | (apply k_nil)
    | (apply e_ret (vs := [.d (.val _)]); rfl)
    | (apply e_ret; rfl)
    | (apply e_ret' (vs := [.d (.val _)]); rfl)
    | (apply e_ret'; rfl)
    | (apply w_seq)
    | (apply w_ops; ((conv => lhs; simp only [Nat.reduceAdd]) <;> rfl))
    | (apply e_thenN)
    | (apply w_block)
    | (apply e_thenR)
    | (apply e_thenX)
    | (apply e_blkN)
    | (apply e_blkR)
    | (apply e_blkE)
    | (apply w_exit)
    | (apply w_ret)
    | (apply w_skip)
    | (apply e_blkE'; rfl))
  exact .data _ rfl
theorem plus173_good (x y : Int) (hx : inW x) (hy : inW y) (h : ¬ (x = -1 ∨ y = -1) → inW (x + y)) : Good Try.prog 173 [.i x, .i y] none (.i (plusH x y)) none none := by
  unfold inW at *
  by_cases h1 : x = -1
  · have e : plusH x y = -1 := by simp [plusH, h1]
    rw [e]
    refine b173 (by simp) (by simp) (w_init ?_)
    unfold x173
    repeat' (first
    | (apply r_mvV; rfl)
    | (apply r_mvP; rfl)
    | (apply r_mvPL; rfl)
    | (apply r_mvS; rfl)
    | (apply r_mvSL; rfl)
    | (apply r_mvA; rfl)
    | (apply r_mvT; rfl)
    | (apply r_mvF; rfl)
    | (apply r_mvD; rfl)
    | (apply r_eql; rfl; rfl; (first | (apply decide_eq_true; omega) | (apply decide_eq_false; omega) | rfl))
    | (apply r_add; rfl; rfl; rfl; omega)
    | (apply r_pickT; rfl)
    | (apply r_pickF; rfl)
    | (apply r_gT; rfl)
    | (apply r_gF'; rfl; rfl)
    | (apply r_gN'; rfl)
    | ((apply r_gS (o := default); rfl) <;> (intro h; try simp only [decide_eq_true_eq, decide_eq_false_iff_not, Bool.not_eq_true, Bool.not_eq_false] at h))
    | (apply r_nilK)
    | (apply r_nil)
    | (apply k_V; rfl)
    | (apply k_P; rfl)
    | (apply k_PL; rfl)
    | (apply k_S; rfl)
    | (apply k_SL; rfl)
    | (apply k_A; rfl)
    | (apply k_T; rfl)
    | (apply k_F; rfl)
    | (apply k_D; rfl; rotate_left; rfl)
    | (apply k_nil)
    | (apply e_ret (vs := [.d (.val _)]); rfl)
    | (apply e_ret; rfl)
    | (apply e_ret' (vs := [.d (.val _)]); rfl)
    | (apply e_ret'; rfl)
    | (apply w_seq)
    | (apply w_ops; ((conv => lhs; simp only [Nat.reduceAdd]) <;> rfl))
    | (apply w_condT; rfl)
    | (apply w_condF; rfl)
    | ((apply w_condS; rfl) <;> (intro h; try simp only [decide_eq_true_eq, decide_eq_false_iff_not, Bool.not_eq_true, Bool.not_eq_false] at h))
    | (apply e_thenN)
    | (apply w_block)
    | (apply e_thenR)
    | (apply e_thenX)
    | (apply e_blkN)
    | (apply e_blkR)
    | (apply e_blkE)
    | (apply w_exit)
    | (apply w_ret)
    | (apply w_skip)
    | (apply e_blkE'; rfl))
    exact retI rfl
  by_cases h2 : y = -1
  · have e : plusH x y = -1 := by simp [plusH, h2]
    rw [e]
    refine b173 (by simp) (by simp) (w_init ?_)
    unfold x173
    repeat' (first
    | (apply r_mvV; rfl)
    | (apply r_mvP; rfl)
    | (apply r_mvPL; rfl)
    | (apply r_mvS; rfl)
    | (apply r_mvSL; rfl)
    | (apply r_mvA; rfl)
    | (apply r_mvT; rfl)
    | (apply r_mvF; rfl)
    | (apply r_mvD; rfl)
    | (apply r_eql; rfl; rfl; (first | (apply decide_eq_true; omega) | (apply decide_eq_false; omega) | rfl))
    | (apply r_add; rfl; rfl; rfl; omega)
    | (apply r_pickT; rfl)
    | (apply r_pickF; rfl)
    | (apply r_gT; rfl)
    | (apply r_gF'; rfl; rfl)
    | (apply r_gN'; rfl)
    | ((apply r_gS (o := default); rfl) <;> (intro h; try simp only [decide_eq_true_eq, decide_eq_false_iff_not, Bool.not_eq_true, Bool.not_eq_false] at h))
    | (apply r_nilK)
    | (apply r_nil)
    | (apply k_V; rfl)
    | (apply k_P; rfl)
    | (apply k_PL; rfl)
    | (apply k_S; rfl)
    | (apply k_SL; rfl)
    | (apply k_A; rfl)
    | (apply k_T; rfl)
    | (apply k_F; rfl)
    | (apply k_D; rfl; rotate_left; rfl)
    | (apply k_nil)
    | (apply e_ret (vs := [.d (.val _)]); rfl)
    | (apply e_ret; rfl)
    | (apply e_ret' (vs := [.d (.val _)]); rfl)
    | (apply e_ret'; rfl)
    | (apply w_seq)
    | (apply w_ops; ((conv => lhs; simp only [Nat.reduceAdd]) <;> rfl))
    | (apply w_condT; rfl)
    | (apply w_condF; rfl)
    | ((apply w_condS; rfl) <;> (intro h; try simp only [decide_eq_true_eq, decide_eq_false_iff_not, Bool.not_eq_true, Bool.not_eq_false] at h))
    | (apply e_thenN)
    | (apply w_block)
    | (apply e_thenR)
    | (apply e_thenX)
    | (apply e_blkN)
    | (apply e_blkR)
    | (apply e_blkE)
    | (apply w_exit)
    | (apply w_ret)
    | (apply w_skip)
    | (apply e_blkE'; rfl))
    exact retI rfl
  have e : plusH x y = x + y := by simp [plusH, h1, h2]
  have h := h (by simp [h1, h2])
  rw [e]
  refine b173 (by simp) (by simp) (w_init ?_)
  unfold x173
  repeat' (first
    | (apply r_mvV; rfl)
    | (apply r_mvP; rfl)
    | (apply r_mvPL; rfl)
    | (apply r_mvS; rfl)
    | (apply r_mvSL; rfl)
    | (apply r_mvA; rfl)
    | (apply r_mvT; rfl)
    | (apply r_mvF; rfl)
    | (apply r_mvD; rfl)
    | (apply r_eql; rfl; rfl; (first | (apply decide_eq_true; omega) | (apply decide_eq_false; omega) | rfl))
    | (apply r_add; rfl; rfl; rfl; omega)
    | (apply r_pickT; rfl)
    | (apply r_pickF; rfl)
    | (apply r_gT; rfl)
    | (apply r_gF'; rfl; rfl)
    | (apply r_gN'; rfl)
    | ((apply r_gS (o := default); rfl) <;> (intro h; try simp only [decide_eq_true_eq, decide_eq_false_iff_not, Bool.not_eq_true, Bool.not_eq_false] at h))
    | (apply r_nilK)
    | (apply r_nil)
    | (apply k_V; rfl)
    | (apply k_P; rfl)
    | (apply k_PL; rfl)
    | (apply k_S; rfl)
    | (apply k_SL; rfl)
    | (apply k_A; rfl)
    | (apply k_T; rfl)
    | (apply k_F; rfl)
    | (apply k_D; rfl; rotate_left; rfl)
    | (apply k_nil)
    | (apply e_ret (vs := [.d (.val _)]); rfl)
    | (apply e_ret; rfl)
    | (apply e_ret' (vs := [.d (.val _)]); rfl)
    | (apply e_ret'; rfl)
    | (apply w_seq)
    | (apply w_ops; ((conv => lhs; simp only [Nat.reduceAdd]) <;> rfl))
    | (apply w_condT; rfl)
    | (apply w_condF; rfl)
    | ((apply w_condS; rfl) <;> (intro h; try simp only [decide_eq_true_eq, decide_eq_false_iff_not, Bool.not_eq_true, Bool.not_eq_false] at h))
    | (apply e_thenN)
    | (apply w_block)
    | (apply e_thenR)
    | (apply e_thenX)
    | (apply e_blkN)
    | (apply e_blkR)
    | (apply e_blkE)
    | (apply w_exit)
    | (apply w_ret)
    | (apply w_skip)
    | (apply e_blkE'; rfl))
  exact retI rfl
theorem then166_good {f g : Fa} {X Y : Int} (hf : okF f X) (hg : okF g Y) (hX : 0 ≤ X) (hY : 0 ≤ Y) (hH : X + Y ≤ 16384000000000000000) : Good Try.prog 166 [faA f, faA g] none (faA (faThen f g)) none none := by
  have hno := no165_good
  have eno : faA faNo = .agg [.b true, .i (-1), .i (-1), .d (.val (.int .u64 0)), .d (.val (.int .u64 0)), .d (.val (.int .u64 0)), .d (.val (.int .u64 0))] := rfl
  rw [eno] at hno
  obtain ⟨⟨h1, h2, h3, h4⟩, f1, f2, f3, f4⟩ := hf
  obtain ⟨⟨g1, g2, g3, g4⟩, e1, e2, e3, e4⟩ := hg
  obtain ⟨fn, fl, fh, fa, fb, fc, fd⟩ := f
  obtain ⟨gn, gl, gh, ga, gb, gc, gd⟩ := g
  dsimp only at h1 h2 h3 h4 f2 f3 f4 g1 g2 g3 g4 e2 e3 e4
  have ef : faA ⟨fn, fl, fh, fa, fb, fc, fd⟩ = .agg [.b fn, .i fl, .i fh, .d (.val (.int .u64 fa)), .d (.val (.int .u64 fb)), .d (.val (.int .u64 fc)), .d (.val (.int .u64 fd))] := rfl
  have eg : faA ⟨gn, gl, gh, ga, gb, gc, gd⟩ = .agg [.b gn, .i gl, .i gh, .d (.val (.int .u64 ga)), .d (.val (.int .u64 gb)), .d (.val (.int .u64 gc)), .d (.val (.int .u64 gd))] := rfl
  rw [ef, eg]
  cases fn with
  | true =>
    have e : faThen ⟨true, fl, fh, fa, fb, fc, fd⟩ ⟨gn, gl, gh, ga, gb, gc, gd⟩ = faNo := rfl
    rw [e, eno]
    refine b166 (by simp) (by simp) (w_init ?_)
    unfold x166
    repeat' (first
    | (apply r_mvV; rfl)
    | (apply r_mvP; rfl)
    | (apply r_mvPL; rfl)
    | (apply r_mvS; rfl)
    | (apply r_mvSL; rfl)
    | (apply r_mvA; rfl)
    | (apply r_mvT; rfl)
    | (apply r_mvF; rfl)
    | (apply r_mvD; rfl)
    | (apply r_faddD; rfl)
    | (apply r_faddL; rfl)
    | (apply r_callA (f := 165) (ags := []); rfl; rfl; exact hno)
    | (apply r_ldL (v := .agg [.b true, .i (-1), .i (-1), .d (.val (.int .u64 0)), .d (.val (.int .u64 0)), .d (.val (.int .u64 0)), .d (.val (.int .u64 0))]); rfl; rfl; rfl)
    | (apply r_ldL; rfl; rfl; rfl)
    | (apply r_eql; rfl; rfl; (first | (apply decide_eq_true; omega) | (apply decide_eq_false; omega) | rfl))
    | (apply r_add; rfl; rfl; rfl; omega)
    | (apply r_pickT; rfl)
    | (apply r_pickF; rfl)
    | (apply r_gT; rfl)
    | (apply r_gF'; rfl; rfl)
    | (apply r_gN'; rfl)
    | ((apply r_gS (o := default); rfl) <;> (intro h; try simp only [decide_eq_true_eq, decide_eq_false_iff_not, Bool.not_eq_true, Bool.not_eq_false] at h))
    | (apply r_alloc; ((conv => lhs; simp only [Nat.reduceAdd]) <;> rfl); rfl)
    | (apply r_box; ((conv => lhs; simp only [Nat.reduceAdd]) <;> rfl); rfl; rfl; rfl)
    | (apply r_stL; rfl; rfl; rfl; rfl; (first | rfl | (simp only [z_nil, z_add] <;> rfl)); rfl; rfl)
    | (apply r_p; rfl)
    | (apply r_nilK)
    | (apply r_nil)
    | (apply k_V; rfl)
    | (apply k_P; rfl)
    | (apply k_PL; rfl)
    | (apply k_S; rfl)
    | (apply k_SL; rfl)
    | (apply k_A; rfl)
    | (apply k_T; rfl)
    | (apply k_F; rfl)
    | (apply k_D; rfl; rotate_left; rfl)
    | (apply k_nil)
    | (apply e_ret (vs := [.d (.val _)]); rfl)
    | (apply e_ret; rfl)
    | (apply e_ret' (vs := [.d (.val _)]); rfl)
    | (apply e_ret'; rfl)
    | (apply w_seq)
    | (apply w_ops; ((conv => lhs; simp only [Nat.reduceAdd]) <;> rfl))
    | (apply w_condT; rfl)
    | (apply w_condF; rfl)
    | ((apply w_condS; rfl) <;> (intro h; try simp only [decide_eq_true_eq, decide_eq_false_iff_not, Bool.not_eq_true, Bool.not_eq_false] at h))
    | (apply e_thenN)
    | (apply w_block)
    | (apply e_thenR)
    | (apply e_thenX)
    | (apply e_blkN)
    | (apply e_blkR)
    | (apply e_blkE)
    | (apply w_exit)
    | (apply w_ret)
    | (apply w_skip)
    | (apply e_blkE'; rfl))
    exact .data _ rfl
  | false =>
  cases gn with
  | true =>
    have e : faThen ⟨false, fl, fh, fa, fb, fc, fd⟩ ⟨true, gl, gh, ga, gb, gc, gd⟩ = faNo := rfl
    rw [e, eno]
    refine b166 (by simp) (by simp) (w_init ?_)
    unfold x166
    repeat' (first
    | (apply r_mvV; rfl)
    | (apply r_mvP; rfl)
    | (apply r_mvPL; rfl)
    | (apply r_mvS; rfl)
    | (apply r_mvSL; rfl)
    | (apply r_mvA; rfl)
    | (apply r_mvT; rfl)
    | (apply r_mvF; rfl)
    | (apply r_mvD; rfl)
    | (apply r_faddD; rfl)
    | (apply r_faddL; rfl)
    | (apply r_callA (f := 165) (ags := []); rfl; rfl; exact hno)
    | (apply r_ldL (v := .agg [.b true, .i (-1), .i (-1), .d (.val (.int .u64 0)), .d (.val (.int .u64 0)), .d (.val (.int .u64 0)), .d (.val (.int .u64 0))]); rfl; rfl; rfl)
    | (apply r_ldL; rfl; rfl; rfl)
    | (apply r_eql; rfl; rfl; (first | (apply decide_eq_true; omega) | (apply decide_eq_false; omega) | rfl))
    | (apply r_add; rfl; rfl; rfl; omega)
    | (apply r_pickT; rfl)
    | (apply r_pickF; rfl)
    | (apply r_gT; rfl)
    | (apply r_gF'; rfl; rfl)
    | (apply r_gN'; rfl)
    | ((apply r_gS (o := default); rfl) <;> (intro h; try simp only [decide_eq_true_eq, decide_eq_false_iff_not, Bool.not_eq_true, Bool.not_eq_false] at h))
    | (apply r_alloc; ((conv => lhs; simp only [Nat.reduceAdd]) <;> rfl); rfl)
    | (apply r_box; ((conv => lhs; simp only [Nat.reduceAdd]) <;> rfl); rfl; rfl; rfl)
    | (apply r_stL; rfl; rfl; rfl; rfl; (first | rfl | (simp only [z_nil, z_add] <;> rfl)); rfl; rfl)
    | (apply r_p; rfl)
    | (apply r_nilK)
    | (apply r_nil)
    | (apply k_V; rfl)
    | (apply k_P; rfl)
    | (apply k_PL; rfl)
    | (apply k_S; rfl)
    | (apply k_SL; rfl)
    | (apply k_A; rfl)
    | (apply k_T; rfl)
    | (apply k_F; rfl)
    | (apply k_D; rfl; rotate_left; rfl)
    | (apply k_nil)
    | (apply e_ret (vs := [.d (.val _)]); rfl)
    | (apply e_ret; rfl)
    | (apply e_ret' (vs := [.d (.val _)]); rfl)
    | (apply e_ret'; rfl)
    | (apply w_seq)
    | (apply w_ops; ((conv => lhs; simp only [Nat.reduceAdd]) <;> rfl))
    | (apply w_condT; rfl)
    | (apply w_condF; rfl)
    | ((apply w_condS; rfl) <;> (intro h; try simp only [decide_eq_true_eq, decide_eq_false_iff_not, Bool.not_eq_true, Bool.not_eq_false] at h))
    | (apply e_thenN)
    | (apply w_block)
    | (apply e_thenR)
    | (apply e_thenX)
    | (apply e_blkN)
    | (apply e_blkR)
    | (apply e_blkE)
    | (apply w_exit)
    | (apply w_ret)
    | (apply w_skip)
    | (apply e_blkE'; rfl))
    exact .data _ rfl
  | false =>
  have f2 := f2 rfl
  have e2 := e2 rfl
  have h173 := plus173_good fh gh (by unfold inW; omega) (by unfold inW; omega) (fun _ => by unfold inW; omega)
  have hor := or73_good h1 h2 h3 h4 g1 g2 g3 g4
  unfold setA at hor
  generalize hp : plusH fh gh = ph at h173
  by_cases h0 : fl = 0
  · have e : faThen ⟨false, fl, fh, fa, fb, fc, fd⟩ ⟨false, gl, gh, ga, gb, gc, gd⟩ = ⟨false, fl + gl, ph, orW fa ga, orW fb gb, orW fc gc, orW fd gd⟩ := by simp [faThen, h0, ← hp]
    rw [e]
    have er : faA ⟨false, fl + gl, ph, orW fa ga, orW fb gb, orW fc gc, orW fd gd⟩ = .agg [.b false, .i (fl + gl), .i ph, .d (.val (.int .u64 (orW fa ga))), .d (.val (.int .u64 (orW fb gb))), .d (.val (.int .u64 (orW fc gc))), .d (.val (.int .u64 (orW fd gd)))] := rfl
    rw [er]
    clear e er hp hno eno
    refine b166 (by simp) (by simp) (w_init ?_)
    unfold x166
    repeat' (first
    | (apply r_mvV; rfl)
    | (apply r_mvP; rfl)
    | (apply r_mvPL; rfl)
    | (apply r_mvS; rfl)
    | (apply r_mvSL; rfl)
    | (apply r_mvA; rfl)
    | (apply r_mvT; rfl)
    | (apply r_mvF; rfl)
    | (apply r_mvD; rfl)
    | (apply r_faddD; rfl)
    | (apply r_faddL; rfl)
    | (apply r_callA (f := 73); rfl; rfl; exact hor)
    | (apply r_ldL (v := .b false); rfl; rfl; rfl)
    | (apply r_ldL (v := .i fl); rfl; rfl; rfl)
    | (apply r_ldL (v := .i gl); rfl; rfl; rfl)
    | (apply r_ldL (v := .i fh); rfl; rfl; rfl)
    | (apply r_ldL (v := .i gh); rfl; rfl; rfl)
    | (apply r_ldL (v := .agg [.d (.val (.int .u64 fa)), .d (.val (.int .u64 fb)), .d (.val (.int .u64 fc)), .d (.val (.int .u64 fd))]); rfl; rfl; rfl)
    | (apply r_ldL (v := .agg [.d (.val (.int .u64 ga)), .d (.val (.int .u64 gb)), .d (.val (.int .u64 gc)), .d (.val (.int .u64 gd))]); rfl; rfl; rfl)
    | (apply r_ldL (v := .agg [.d (.val (.int .u64 (orW fa ga))), .d (.val (.int .u64 (orW fb gb))), .d (.val (.int .u64 (orW fc gc))), .d (.val (.int .u64 (orW fd gd)))]); rfl; rfl; rfl)
    | (apply r_callA; rfl; rfl; exact h173)
    | (apply r_p (v := .agg [.b false, .i (fl + gl), .i ph, .d (.val (.int .u64 (orW fa ga))), .d (.val (.int .u64 (orW fb gb))), .d (.val (.int .u64 (orW fc gc))), .d (.val (.int .u64 (orW fd gd)))]); rfl)
    | (apply r_ldL; rfl; rfl; rfl)
    | (apply r_eql; rfl; rfl; (first | (apply decide_eq_true; omega) | (apply decide_eq_false; omega) | rfl))
    | (apply r_add; rfl; rfl; rfl; omega)
    | (apply r_pickT; rfl)
    | (apply r_pickF; rfl)
    | (apply r_gT; rfl)
    | (apply r_gF'; rfl; rfl)
    | (apply r_gN'; rfl)
    | ((apply r_gS (o := default); rfl) <;> (intro h; try simp only [decide_eq_true_eq, decide_eq_false_iff_not, Bool.not_eq_true, Bool.not_eq_false] at h))
    | (apply r_alloc; ((conv => lhs; simp only [Nat.reduceAdd]) <;> rfl); rfl)
    | (apply r_box; ((conv => lhs; simp only [Nat.reduceAdd]) <;> rfl); rfl; rfl; rfl)
    | (apply r_stL; rfl; rfl; rfl; rfl; (first | rfl | (simp only [z_nil, z_add] <;> rfl)); rfl; rfl)
    | (apply r_p; rfl)
    | (apply r_nilK)
    | (apply r_nil)
    | (apply k_V; rfl)
    | (apply k_P; rfl)
    | (apply k_PL; rfl)
    | (apply k_S; rfl)
    | (apply k_SL; rfl)
    | (apply k_A; rfl)
    | (apply k_T; rfl)
    | (apply k_F; rfl)
    | (apply k_D; rfl; rotate_left; rfl)
    | (apply k_nil)
    | (apply e_ret (vs := [.d (.val _)]); rfl)
    | (apply e_ret; rfl)
    | (apply e_ret' (vs := [.d (.val _)]); rfl)
    | (apply e_ret'; rfl)
    | (apply w_seq)
    | (apply w_ops; ((conv => lhs; simp only [Nat.reduceAdd]) <;> rfl))
    | (apply w_condT; rfl)
    | (apply w_condF; rfl)
    | ((apply w_condS; rfl) <;> (intro h; try simp only [decide_eq_true_eq, decide_eq_false_iff_not, Bool.not_eq_true, Bool.not_eq_false] at h))
    | (apply e_thenN)
    | (apply w_block)
    | (apply e_thenR)
    | (apply e_thenX)
    | (apply e_blkN)
    | (apply e_blkR)
    | (apply e_blkE)
    | (apply w_exit)
    | (apply w_ret)
    | (apply w_skip)
    | (apply e_blkE'; rfl))
    exact .data _ rfl
  · have e : faThen ⟨false, fl, fh, fa, fb, fc, fd⟩ ⟨false, gl, gh, ga, gb, gc, gd⟩ = ⟨false, fl + gl, ph, fa, fb, fc, fd⟩ := by simp [faThen, h0, ← hp]
    rw [e]
    have er : faA ⟨false, fl + gl, ph, fa, fb, fc, fd⟩ = .agg [.b false, .i (fl + gl), .i ph, .d (.val (.int .u64 fa)), .d (.val (.int .u64 fb)), .d (.val (.int .u64 fc)), .d (.val (.int .u64 fd))] := rfl
    rw [er]
    clear e er hp hno eno
    refine b166 (by simp) (by simp) (w_init ?_)
    unfold x166
    repeat' (first
    | (apply r_mvV; rfl)
    | (apply r_mvP; rfl)
    | (apply r_mvPL; rfl)
    | (apply r_mvS; rfl)
    | (apply r_mvSL; rfl)
    | (apply r_mvA; rfl)
    | (apply r_mvT; rfl)
    | (apply r_mvF; rfl)
    | (apply r_mvD; rfl)
    | (apply r_faddD; rfl)
    | (apply r_faddL; rfl)
    | (apply r_ldL (v := .b false); rfl; rfl; rfl)
    | (apply r_ldL (v := .i fl); rfl; rfl; rfl)
    | (apply r_ldL (v := .i gl); rfl; rfl; rfl)
    | (apply r_ldL (v := .i fh); rfl; rfl; rfl)
    | (apply r_ldL (v := .i gh); rfl; rfl; rfl)
    | (apply r_ldL (v := .agg [.d (.val (.int .u64 fa)), .d (.val (.int .u64 fb)), .d (.val (.int .u64 fc)), .d (.val (.int .u64 fd))]); rfl; rfl; rfl)
    | (apply r_ldL (v := .agg [.d (.val (.int .u64 ga)), .d (.val (.int .u64 gb)), .d (.val (.int .u64 gc)), .d (.val (.int .u64 gd))]); rfl; rfl; rfl)
    | (apply r_callA; rfl; rfl; exact h173)
    | (apply r_p (v := .agg [.b false, .i (fl + gl), .i ph, .d (.val (.int .u64 fa)), .d (.val (.int .u64 fb)), .d (.val (.int .u64 fc)), .d (.val (.int .u64 fd))]); rfl)
    | (apply r_ldL; rfl; rfl; rfl)
    | (apply r_eql; rfl; rfl; (first | (apply decide_eq_true; omega) | (apply decide_eq_false; omega) | rfl))
    | (apply r_add; rfl; rfl; rfl; omega)
    | (apply r_pickT; rfl)
    | (apply r_pickF; rfl)
    | (apply r_gT; rfl)
    | (apply r_gF'; rfl; rfl)
    | (apply r_gN'; rfl)
    | ((apply r_gS (o := default); rfl) <;> (intro h; try simp only [decide_eq_true_eq, decide_eq_false_iff_not, Bool.not_eq_true, Bool.not_eq_false] at h))
    | (apply r_alloc; ((conv => lhs; simp only [Nat.reduceAdd]) <;> rfl); rfl)
    | (apply r_box; ((conv => lhs; simp only [Nat.reduceAdd]) <;> rfl); rfl; rfl; rfl)
    | (apply r_stL; rfl; rfl; rfl; rfl; (first | rfl | (simp only [z_nil, z_add] <;> rfl)); rfl; rfl)
    | (apply r_p; rfl)
    | (apply r_nilK)
    | (apply r_nil)
    | (apply k_V; rfl)
    | (apply k_P; rfl)
    | (apply k_PL; rfl)
    | (apply k_S; rfl)
    | (apply k_SL; rfl)
    | (apply k_A; rfl)
    | (apply k_T; rfl)
    | (apply k_F; rfl)
    | (apply k_D; rfl; rotate_left; rfl)
    | (apply k_nil)
    | (apply e_ret (vs := [.d (.val _)]); rfl)
    | (apply e_ret; rfl)
    | (apply e_ret' (vs := [.d (.val _)]); rfl)
    | (apply e_ret'; rfl)
    | (apply w_seq)
    | (apply w_ops; ((conv => lhs; simp only [Nat.reduceAdd]) <;> rfl))
    | (apply w_condT; rfl)
    | (apply w_condF; rfl)
    | ((apply w_condS; rfl) <;> (intro h; try simp only [decide_eq_true_eq, decide_eq_false_iff_not, Bool.not_eq_true, Bool.not_eq_false] at h))
    | (apply e_thenN)
    | (apply w_block)
    | (apply e_thenR)
    | (apply e_thenX)
    | (apply e_blkN)
    | (apply e_blkR)
    | (apply e_blkE)
    | (apply w_exit)
    | (apply w_ret)
    | (apply w_skip)
    | (apply e_blkE'; rfl))
    exact .data _ rfl
theorem or167_good {f g : Fa} {X Y : Int} (hf : okF f X) (hg : okF g Y) (hX : 0 ≤ X) (hY : 0 ≤ Y) (hH : X + Y ≤ 16384000000000000000) : Good Try.prog 167 [faA f, faA g] none (faA (faOr f g)) none none := by
  have hno := no165_good
  have eno : faA faNo = .agg [.b true, .i (-1), .i (-1), .d (.val (.int .u64 0)), .d (.val (.int .u64 0)), .d (.val (.int .u64 0)), .d (.val (.int .u64 0))] := rfl
  obtain ⟨⟨h1, h2, h3, h4⟩, f1, f2, f3, f4⟩ := hf
  obtain ⟨⟨g1, g2, g3, g4⟩, e1, e2, e3, e4⟩ := hg
  obtain ⟨fn, fl, fh, fa, fb, fc, fd⟩ := f
  obtain ⟨gn, gl, gh, ga, gb, gc, gd⟩ := g
  dsimp only at h1 h2 h3 h4 f2 f3 f4 g1 g2 g3 g4 e2 e3 e4
  have ef : faA ⟨fn, fl, fh, fa, fb, fc, fd⟩ = .agg [.b fn, .i fl, .i fh, .d (.val (.int .u64 fa)), .d (.val (.int .u64 fb)), .d (.val (.int .u64 fc)), .d (.val (.int .u64 fd))] := rfl
  have eg : faA ⟨gn, gl, gh, ga, gb, gc, gd⟩ = .agg [.b gn, .i gl, .i gh, .d (.val (.int .u64 ga)), .d (.val (.int .u64 gb)), .d (.val (.int .u64 gc)), .d (.val (.int .u64 gd))] := rfl
  rw [ef, eg]
  cases fn with
  | true =>
    have e : faOr ⟨true, fl, fh, fa, fb, fc, fd⟩ ⟨gn, gl, gh, ga, gb, gc, gd⟩ = ⟨gn, gl, gh, ga, gb, gc, gd⟩ := rfl
    rw [e, eg]
    refine b167 (by simp) (by simp) (w_init ?_)
    unfold x167
    repeat' (first
    | (apply r_mvV; rfl)
    | (apply r_mvP; rfl)
    | (apply r_mvPL; rfl)
    | (apply r_mvS; rfl)
    | (apply r_mvSL; rfl)
    | (apply r_mvA; rfl)
    | (apply r_mvT; rfl)
    | (apply r_mvF; rfl)
    | (apply r_mvD; rfl)
    | (apply r_faddD; rfl)
    | (apply r_faddL; rfl)
    | (apply r_ldL (v := .b true); rfl; rfl; rfl)
    | (apply r_ldL (v := .agg [.b gn, .i gl, .i gh, .d (.val (.int .u64 ga)), .d (.val (.int .u64 gb)), .d (.val (.int .u64 gc)), .d (.val (.int .u64 gd))]); rfl; rfl; rfl)
    | (apply r_ldL; rfl; rfl; rfl)
    | (apply r_eql; rfl; rfl; (first | (apply decide_eq_true; omega) | (apply decide_eq_false; omega) | rfl))
    | (apply r_max2; rfl; rfl; rfl)
    | (apply r_min2; rfl; rfl; rfl)
    | (apply r_pickT; rfl)
    | (apply r_pickF; rfl)
    | (apply r_gT; rfl)
    | (apply r_gF'; rfl; rfl)
    | (apply r_gN'; rfl)
    | ((apply r_gS (o := default); rfl) <;> (intro h; try simp only [decide_eq_true_eq, decide_eq_false_iff_not, Bool.not_eq_true, Bool.not_eq_false] at h))
    | (apply r_alloc; ((conv => lhs; simp only [Nat.reduceAdd]) <;> rfl); rfl)
    | (apply r_box; ((conv => lhs; simp only [Nat.reduceAdd]) <;> rfl); rfl; rfl; rfl)
    | (apply r_stL; rfl; rfl; rfl; rfl; (first | rfl | (simp only [z_nil, z_add] <;> rfl)); rfl; rfl)
    | (apply r_p; rfl)
    | (apply r_nilK)
    | (apply r_nil)
    | (apply k_V; rfl)
    | (apply k_P; rfl)
    | (apply k_PL; rfl)
    | (apply k_S; rfl)
    | (apply k_SL; rfl)
    | (apply k_A; rfl)
    | (apply k_T; rfl)
    | (apply k_F; rfl)
    | (apply k_D; rfl; rotate_left; rfl)
    | (apply k_nil)
    | (apply e_ret (vs := [.d (.val _)]); rfl)
    | (apply e_ret; rfl)
    | (apply e_ret' (vs := [.d (.val _)]); rfl)
    | (apply e_ret'; rfl)
    | (apply w_seq)
    | (apply w_ops; ((conv => lhs; simp only [Nat.reduceAdd]) <;> rfl))
    | (apply w_condT; rfl)
    | (apply w_condF; rfl)
    | ((apply w_condS; rfl) <;> (intro h; try simp only [decide_eq_true_eq, decide_eq_false_iff_not, Bool.not_eq_true, Bool.not_eq_false] at h))
    | (apply e_thenN)
    | (apply w_block)
    | (apply e_thenR)
    | (apply e_thenX)
    | (apply e_blkN)
    | (apply e_blkR)
    | (apply e_blkE)
    | (apply w_exit)
    | (apply w_ret)
    | (apply w_skip)
    | (apply e_blkE'; rfl))
    exact .data _ rfl
  | false =>
  cases gn with
  | true =>
    have e : faOr ⟨false, fl, fh, fa, fb, fc, fd⟩ ⟨true, gl, gh, ga, gb, gc, gd⟩ = ⟨false, fl, fh, fa, fb, fc, fd⟩ := rfl
    rw [e, ef]
    refine b167 (by simp) (by simp) (w_init ?_)
    unfold x167
    repeat' (first
    | (apply r_mvV; rfl)
    | (apply r_mvP; rfl)
    | (apply r_mvPL; rfl)
    | (apply r_mvS; rfl)
    | (apply r_mvSL; rfl)
    | (apply r_mvA; rfl)
    | (apply r_mvT; rfl)
    | (apply r_mvF; rfl)
    | (apply r_mvD; rfl)
    | (apply r_faddD; rfl)
    | (apply r_faddL; rfl)
    | (apply r_ldL (v := .b false); rfl; rfl; rfl)
    | (apply r_ldL (v := .b true); rfl; rfl; rfl)
    | (apply r_ldL (v := .agg [.b false, .i fl, .i fh, .d (.val (.int .u64 fa)), .d (.val (.int .u64 fb)), .d (.val (.int .u64 fc)), .d (.val (.int .u64 fd))]); rfl; rfl; rfl)
    | (apply r_ldL; rfl; rfl; rfl)
    | (apply r_eql; rfl; rfl; (first | (apply decide_eq_true; omega) | (apply decide_eq_false; omega) | rfl))
    | (apply r_max2; rfl; rfl; rfl)
    | (apply r_min2; rfl; rfl; rfl)
    | (apply r_pickT; rfl)
    | (apply r_pickF; rfl)
    | (apply r_gT; rfl)
    | (apply r_gF'; rfl; rfl)
    | (apply r_gN'; rfl)
    | ((apply r_gS (o := default); rfl) <;> (intro h; try simp only [decide_eq_true_eq, decide_eq_false_iff_not, Bool.not_eq_true, Bool.not_eq_false] at h))
    | (apply r_alloc; ((conv => lhs; simp only [Nat.reduceAdd]) <;> rfl); rfl)
    | (apply r_box; ((conv => lhs; simp only [Nat.reduceAdd]) <;> rfl); rfl; rfl; rfl)
    | (apply r_stL; rfl; rfl; rfl; rfl; (first | rfl | (simp only [z_nil, z_add] <;> rfl)); rfl; rfl)
    | (apply r_p; rfl)
    | (apply r_nilK)
    | (apply r_nil)
    | (apply k_V; rfl)
    | (apply k_P; rfl)
    | (apply k_PL; rfl)
    | (apply k_S; rfl)
    | (apply k_SL; rfl)
    | (apply k_A; rfl)
    | (apply k_T; rfl)
    | (apply k_F; rfl)
    | (apply k_D; rfl; rotate_left; rfl)
    | (apply k_nil)
    | (apply e_ret (vs := [.d (.val _)]); rfl)
    | (apply e_ret; rfl)
    | (apply e_ret' (vs := [.d (.val _)]); rfl)
    | (apply e_ret'; rfl)
    | (apply w_seq)
    | (apply w_ops; ((conv => lhs; simp only [Nat.reduceAdd]) <;> rfl))
    | (apply w_condT; rfl)
    | (apply w_condF; rfl)
    | ((apply w_condS; rfl) <;> (intro h; try simp only [decide_eq_true_eq, decide_eq_false_iff_not, Bool.not_eq_true, Bool.not_eq_false] at h))
    | (apply e_thenN)
    | (apply w_block)
    | (apply e_thenR)
    | (apply e_thenX)
    | (apply e_blkN)
    | (apply e_blkR)
    | (apply e_blkE)
    | (apply w_exit)
    | (apply w_ret)
    | (apply w_skip)
    | (apply e_blkE'; rfl))
    exact .data _ rfl
  | false =>
  have f2 := f2 rfl
  have e2 := e2 rfl
  have hor := or73_good h1 h2 h3 h4 g1 g2 g3 g4
  unfold setA at hor
  by_cases c1 : fh = -1
  · have e : faOr ⟨false, fl, fh, fa, fb, fc, fd⟩ ⟨false, gl, gh, ga, gb, gc, gd⟩ = ⟨false, min fl gl, -1, orW fa ga, orW fb gb, orW fc gc, orW fd gd⟩ := by simp [faOr, c1]
    rw [e]
    have er : faA ⟨false, min fl gl, -1, orW fa ga, orW fb gb, orW fc gc, orW fd gd⟩ = .agg [.b false, .i (min fl gl), .i (-1), .d (.val (.int .u64 (orW fa ga))), .d (.val (.int .u64 (orW fb gb))), .d (.val (.int .u64 (orW fc gc))), .d (.val (.int .u64 (orW fd gd)))] := rfl
    rw [er]
    clear e er hno eno
    refine b167 (by simp) (by simp) (w_init ?_)
    unfold x167
    repeat' (first
    | (apply r_mvV; rfl)
    | (apply r_mvP; rfl)
    | (apply r_mvPL; rfl)
    | (apply r_mvS; rfl)
    | (apply r_mvSL; rfl)
    | (apply r_mvA; rfl)
    | (apply r_mvT; rfl)
    | (apply r_mvF; rfl)
    | (apply r_mvD; rfl)
    | (apply r_faddD; rfl)
    | (apply r_faddL; rfl)
    | (apply r_callA (f := 73); rfl; rfl; exact hor)
    | (apply r_ldL (v := .b false); rfl; rfl; rfl)
    | (apply r_ldL (v := .i fl); rfl; rfl; rfl)
    | (apply r_ldL (v := .i gl); rfl; rfl; rfl)
    | (apply r_ldL (v := .i fh); rfl; rfl; rfl)
    | (apply r_ldL (v := .i gh); rfl; rfl; rfl)
    | (apply r_ldL (v := .agg [.d (.val (.int .u64 fa)), .d (.val (.int .u64 fb)), .d (.val (.int .u64 fc)), .d (.val (.int .u64 fd))]); rfl; rfl; rfl)
    | (apply r_ldL (v := .agg [.d (.val (.int .u64 ga)), .d (.val (.int .u64 gb)), .d (.val (.int .u64 gc)), .d (.val (.int .u64 gd))]); rfl; rfl; rfl)
    | (apply r_ldL (v := .agg [.d (.val (.int .u64 (orW fa ga))), .d (.val (.int .u64 (orW fb gb))), .d (.val (.int .u64 (orW fc gc))), .d (.val (.int .u64 (orW fd gd)))]); rfl; rfl; rfl)
    | (apply r_max2; rfl; rfl; rfl)
    | (apply r_min2; rfl; rfl; rfl)
    | (apply r_p (v := .agg [.b false, .i (min fl gl), .i (-1), .d (.val (.int .u64 (orW fa ga))), .d (.val (.int .u64 (orW fb gb))), .d (.val (.int .u64 (orW fc gc))), .d (.val (.int .u64 (orW fd gd)))]); rfl)
    | (apply r_ldL; rfl; rfl; rfl)
    | (apply r_eql; rfl; rfl; (first | (apply decide_eq_true; omega) | (apply decide_eq_false; omega) | rfl))
    | (apply r_max2; rfl; rfl; rfl)
    | (apply r_min2; rfl; rfl; rfl)
    | (apply r_pickT; rfl)
    | (apply r_pickF; rfl)
    | (apply r_gT; rfl)
    | (apply r_gF'; rfl; rfl)
    | (apply r_gN'; rfl)
    | ((apply r_gS (o := default); rfl) <;> (intro h; try simp only [decide_eq_true_eq, decide_eq_false_iff_not, Bool.not_eq_true, Bool.not_eq_false] at h))
    | (apply r_alloc; ((conv => lhs; simp only [Nat.reduceAdd]) <;> rfl); rfl)
    | (apply r_box; ((conv => lhs; simp only [Nat.reduceAdd]) <;> rfl); rfl; rfl; rfl)
    | (apply r_stL; rfl; rfl; rfl; rfl; (first | rfl | (simp only [z_nil, z_add] <;> rfl)); rfl; rfl)
    | (apply r_p; rfl)
    | (apply r_nilK)
    | (apply r_nil)
    | (apply k_V; rfl)
    | (apply k_P; rfl)
    | (apply k_PL; rfl)
    | (apply k_S; rfl)
    | (apply k_SL; rfl)
    | (apply k_A; rfl)
    | (apply k_T; rfl)
    | (apply k_F; rfl)
    | (apply k_D; rfl; rotate_left; rfl)
    | (apply k_nil)
    | (apply e_ret (vs := [.d (.val _)]); rfl)
    | (apply e_ret; rfl)
    | (apply e_ret' (vs := [.d (.val _)]); rfl)
    | (apply e_ret'; rfl)
    | (apply w_seq)
    | (apply w_ops; ((conv => lhs; simp only [Nat.reduceAdd]) <;> rfl))
    | (apply w_condT; rfl)
    | (apply w_condF; rfl)
    | ((apply w_condS; rfl) <;> (intro h; try simp only [decide_eq_true_eq, decide_eq_false_iff_not, Bool.not_eq_true, Bool.not_eq_false] at h))
    | (apply e_thenN)
    | (apply w_block)
    | (apply e_thenR)
    | (apply e_thenX)
    | (apply e_blkN)
    | (apply e_blkR)
    | (apply e_blkE)
    | (apply w_exit)
    | (apply w_ret)
    | (apply w_skip)
    | (apply e_blkE'; rfl))
    exact .data _ rfl
  by_cases c2 : gh = -1
  · have e : faOr ⟨false, fl, fh, fa, fb, fc, fd⟩ ⟨false, gl, gh, ga, gb, gc, gd⟩ = ⟨false, min fl gl, -1, orW fa ga, orW fb gb, orW fc gc, orW fd gd⟩ := by simp [faOr, c2]
    rw [e]
    have er : faA ⟨false, min fl gl, -1, orW fa ga, orW fb gb, orW fc gc, orW fd gd⟩ = .agg [.b false, .i (min fl gl), .i (-1), .d (.val (.int .u64 (orW fa ga))), .d (.val (.int .u64 (orW fb gb))), .d (.val (.int .u64 (orW fc gc))), .d (.val (.int .u64 (orW fd gd)))] := rfl
    rw [er]
    clear e er hno eno
    refine b167 (by simp) (by simp) (w_init ?_)
    unfold x167
    repeat' (first
    | (apply r_mvV; rfl)
    | (apply r_mvP; rfl)
    | (apply r_mvPL; rfl)
    | (apply r_mvS; rfl)
    | (apply r_mvSL; rfl)
    | (apply r_mvA; rfl)
    | (apply r_mvT; rfl)
    | (apply r_mvF; rfl)
    | (apply r_mvD; rfl)
    | (apply r_faddD; rfl)
    | (apply r_faddL; rfl)
    | (apply r_callA (f := 73); rfl; rfl; exact hor)
    | (apply r_ldL (v := .b false); rfl; rfl; rfl)
    | (apply r_ldL (v := .i fl); rfl; rfl; rfl)
    | (apply r_ldL (v := .i gl); rfl; rfl; rfl)
    | (apply r_ldL (v := .i fh); rfl; rfl; rfl)
    | (apply r_ldL (v := .i gh); rfl; rfl; rfl)
    | (apply r_ldL (v := .agg [.d (.val (.int .u64 fa)), .d (.val (.int .u64 fb)), .d (.val (.int .u64 fc)), .d (.val (.int .u64 fd))]); rfl; rfl; rfl)
    | (apply r_ldL (v := .agg [.d (.val (.int .u64 ga)), .d (.val (.int .u64 gb)), .d (.val (.int .u64 gc)), .d (.val (.int .u64 gd))]); rfl; rfl; rfl)
    | (apply r_ldL (v := .agg [.d (.val (.int .u64 (orW fa ga))), .d (.val (.int .u64 (orW fb gb))), .d (.val (.int .u64 (orW fc gc))), .d (.val (.int .u64 (orW fd gd)))]); rfl; rfl; rfl)
    | (apply r_max2; rfl; rfl; rfl)
    | (apply r_min2; rfl; rfl; rfl)
    | (apply r_p (v := .agg [.b false, .i (min fl gl), .i (-1), .d (.val (.int .u64 (orW fa ga))), .d (.val (.int .u64 (orW fb gb))), .d (.val (.int .u64 (orW fc gc))), .d (.val (.int .u64 (orW fd gd)))]); rfl)
    | (apply r_ldL; rfl; rfl; rfl)
    | (apply r_eql; rfl; rfl; (first | (apply decide_eq_true; omega) | (apply decide_eq_false; omega) | rfl))
    | (apply r_max2; rfl; rfl; rfl)
    | (apply r_min2; rfl; rfl; rfl)
    | (apply r_pickT; rfl)
    | (apply r_pickF; rfl)
    | (apply r_gT; rfl)
    | (apply r_gF'; rfl; rfl)
    | (apply r_gN'; rfl)
    | ((apply r_gS (o := default); rfl) <;> (intro h; try simp only [decide_eq_true_eq, decide_eq_false_iff_not, Bool.not_eq_true, Bool.not_eq_false] at h))
    | (apply r_alloc; ((conv => lhs; simp only [Nat.reduceAdd]) <;> rfl); rfl)
    | (apply r_box; ((conv => lhs; simp only [Nat.reduceAdd]) <;> rfl); rfl; rfl; rfl)
    | (apply r_stL; rfl; rfl; rfl; rfl; (first | rfl | (simp only [z_nil, z_add] <;> rfl)); rfl; rfl)
    | (apply r_p; rfl)
    | (apply r_nilK)
    | (apply r_nil)
    | (apply k_V; rfl)
    | (apply k_P; rfl)
    | (apply k_PL; rfl)
    | (apply k_S; rfl)
    | (apply k_SL; rfl)
    | (apply k_A; rfl)
    | (apply k_T; rfl)
    | (apply k_F; rfl)
    | (apply k_D; rfl; rotate_left; rfl)
    | (apply k_nil)
    | (apply e_ret (vs := [.d (.val _)]); rfl)
    | (apply e_ret; rfl)
    | (apply e_ret' (vs := [.d (.val _)]); rfl)
    | (apply e_ret'; rfl)
    | (apply w_seq)
    | (apply w_ops; ((conv => lhs; simp only [Nat.reduceAdd]) <;> rfl))
    | (apply w_condT; rfl)
    | (apply w_condF; rfl)
    | ((apply w_condS; rfl) <;> (intro h; try simp only [decide_eq_true_eq, decide_eq_false_iff_not, Bool.not_eq_true, Bool.not_eq_false] at h))
    | (apply e_thenN)
    | (apply w_block)
    | (apply e_thenR)
    | (apply e_thenX)
    | (apply e_blkN)
    | (apply e_blkR)
    | (apply e_blkE)
    | (apply w_exit)
    | (apply w_ret)
    | (apply w_skip)
    | (apply e_blkE'; rfl))
    exact .data _ rfl
  · have e : faOr ⟨false, fl, fh, fa, fb, fc, fd⟩ ⟨false, gl, gh, ga, gb, gc, gd⟩ = ⟨false, min fl gl, max fh gh, orW fa ga, orW fb gb, orW fc gc, orW fd gd⟩ := by simp [faOr, c1, c2]
    rw [e]
    have er : faA ⟨false, min fl gl, max fh gh, orW fa ga, orW fb gb, orW fc gc, orW fd gd⟩ = .agg [.b false, .i (min fl gl), .i (max fh gh), .d (.val (.int .u64 (orW fa ga))), .d (.val (.int .u64 (orW fb gb))), .d (.val (.int .u64 (orW fc gc))), .d (.val (.int .u64 (orW fd gd)))] := rfl
    rw [er]
    clear e er hno eno
    refine b167 (by simp) (by simp) (w_init ?_)
    unfold x167
    repeat' (first
    | (apply r_mvV; rfl)
    | (apply r_mvP; rfl)
    | (apply r_mvPL; rfl)
    | (apply r_mvS; rfl)
    | (apply r_mvSL; rfl)
    | (apply r_mvA; rfl)
    | (apply r_mvT; rfl)
    | (apply r_mvF; rfl)
    | (apply r_mvD; rfl)
    | (apply r_faddD; rfl)
    | (apply r_faddL; rfl)
    | (apply r_callA (f := 73); rfl; rfl; exact hor)
    | (apply r_ldL (v := .b false); rfl; rfl; rfl)
    | (apply r_ldL (v := .i fl); rfl; rfl; rfl)
    | (apply r_ldL (v := .i gl); rfl; rfl; rfl)
    | (apply r_ldL (v := .i fh); rfl; rfl; rfl)
    | (apply r_ldL (v := .i gh); rfl; rfl; rfl)
    | (apply r_ldL (v := .agg [.d (.val (.int .u64 fa)), .d (.val (.int .u64 fb)), .d (.val (.int .u64 fc)), .d (.val (.int .u64 fd))]); rfl; rfl; rfl)
    | (apply r_ldL (v := .agg [.d (.val (.int .u64 ga)), .d (.val (.int .u64 gb)), .d (.val (.int .u64 gc)), .d (.val (.int .u64 gd))]); rfl; rfl; rfl)
    | (apply r_ldL (v := .agg [.d (.val (.int .u64 (orW fa ga))), .d (.val (.int .u64 (orW fb gb))), .d (.val (.int .u64 (orW fc gc))), .d (.val (.int .u64 (orW fd gd)))]); rfl; rfl; rfl)
    | (apply r_max2; rfl; rfl; rfl)
    | (apply r_min2; rfl; rfl; rfl)
    | (apply r_p (v := .agg [.b false, .i (min fl gl), .i (max fh gh), .d (.val (.int .u64 (orW fa ga))), .d (.val (.int .u64 (orW fb gb))), .d (.val (.int .u64 (orW fc gc))), .d (.val (.int .u64 (orW fd gd)))]); rfl)
    | (apply r_ldL; rfl; rfl; rfl)
    | (apply r_eql; rfl; rfl; (first | (apply decide_eq_true; omega) | (apply decide_eq_false; omega) | rfl))
    | (apply r_max2; rfl; rfl; rfl)
    | (apply r_min2; rfl; rfl; rfl)
    | (apply r_pickT; rfl)
    | (apply r_pickF; rfl)
    | (apply r_gT; rfl)
    | (apply r_gF'; rfl; rfl)
    | (apply r_gN'; rfl)
    | ((apply r_gS (o := default); rfl) <;> (intro h; try simp only [decide_eq_true_eq, decide_eq_false_iff_not, Bool.not_eq_true, Bool.not_eq_false] at h))
    | (apply r_alloc; ((conv => lhs; simp only [Nat.reduceAdd]) <;> rfl); rfl)
    | (apply r_box; ((conv => lhs; simp only [Nat.reduceAdd]) <;> rfl); rfl; rfl; rfl)
    | (apply r_stL; rfl; rfl; rfl; rfl; (first | rfl | (simp only [z_nil, z_add] <;> rfl)); rfl; rfl)
    | (apply r_p; rfl)
    | (apply r_nilK)
    | (apply r_nil)
    | (apply k_V; rfl)
    | (apply k_P; rfl)
    | (apply k_PL; rfl)
    | (apply k_S; rfl)
    | (apply k_SL; rfl)
    | (apply k_A; rfl)
    | (apply k_T; rfl)
    | (apply k_F; rfl)
    | (apply k_D; rfl; rotate_left; rfl)
    | (apply k_nil)
    | (apply e_ret (vs := [.d (.val _)]); rfl)
    | (apply e_ret; rfl)
    | (apply e_ret' (vs := [.d (.val _)]); rfl)
    | (apply e_ret'; rfl)
    | (apply w_seq)
    | (apply w_ops; ((conv => lhs; simp only [Nat.reduceAdd]) <;> rfl))
    | (apply w_condT; rfl)
    | (apply w_condF; rfl)
    | ((apply w_condS; rfl) <;> (intro h; try simp only [decide_eq_true_eq, decide_eq_false_iff_not, Bool.not_eq_true, Bool.not_eq_false] at h))
    | (apply e_thenN)
    | (apply w_block)
    | (apply e_thenR)
    | (apply e_thenX)
    | (apply e_blkN)
    | (apply e_blkR)
    | (apply e_blkE)
    | (apply w_exit)
    | (apply w_ret)
    | (apply w_skip)
    | (apply e_blkE'; rfl))
    exact .data _ rfl
theorem times168_good {f : Fa} {X mn mx : Int} (hf : okF f X) (hX : 0 ≤ X) (h20 : 0 ≤ mn ∧ mn ≤ 20) (h21 : mx = -1 ∨ (mn ≤ mx ∧ mx ≤ 20)) (hH : 20 * X ≤ 16384000000000000000) : Good Try.prog 168 [faA f, .i mn, .i mx] none (faA (faTimes f mn mx)) none none := by
  have hno := no165_good
  have eno : faA faNo = .agg [.b true, .i (-1), .i (-1), .d (.val (.int .u64 0)), .d (.val (.int .u64 0)), .d (.val (.int .u64 0)), .d (.val (.int .u64 0))] := rfl
  rw [eno] at hno
  have eE : faA faE = .agg [.b false, .i 0, .i 0, .d (.val (.int .u64 0)), .d (.val (.int .u64 0)), .d (.val (.int .u64 0)), .d (.val (.int .u64 0))] := rfl
  obtain ⟨⟨h1, h2, h3, h4⟩, f1, f2, f3, f4⟩ := hf
  obtain ⟨fn, fl, fh, fa, fb, fc, fd⟩ := f
  dsimp only at h1 h2 h3 h4 f2 f3 f4
  have ef : faA ⟨fn, fl, fh, fa, fb, fc, fd⟩ = .agg [.b fn, .i fl, .i fh, .d (.val (.int .u64 fa)), .d (.val (.int .u64 fb)), .d (.val (.int .u64 fc)), .d (.val (.int .u64 fd))] := rfl
  rw [ef]
  by_cases c1 : mx = 0
  · have e : faTimes ⟨fn, fl, fh, fa, fb, fc, fd⟩ mn mx = faE := by simp [faTimes, c1]
    rw [e, eE]
    refine b168 (by simp) (by simp) (w_init ?_)
    unfold x168
    repeat' (first
    | (apply r_mvV; rfl)
    | (apply r_mvP; rfl)
    | (apply r_mvPL; rfl)
    | (apply r_mvS; rfl)
    | (apply r_mvSL; rfl)
    | (apply r_mvA; rfl)
    | (apply r_mvT; rfl)
    | (apply r_mvF; rfl)
    | (apply r_mvD; rfl)
    | (apply r_faddD; rfl)
    | (apply r_faddL; rfl)
    | (apply r_p (v := .agg [.b false, .i 0, .i 0, .d (.val (.int .u64 0)), .d (.val (.int .u64 0)), .d (.val (.int .u64 0)), .d (.val (.int .u64 0))]); rfl)
    | (apply r_ldL; rfl; rfl; rfl)
    | (apply r_eql; rfl; rfl; (first | (apply decide_eq_true; omega) | (apply decide_eq_false; omega) | rfl))
    | (apply r_pickT; rfl)
    | (apply r_pickF; rfl)
    | (apply r_gT; rfl)
    | (apply r_gF'; rfl; rfl)
    | (apply r_gN'; rfl)
    | ((apply r_gS (o := default); rfl) <;> (intro h; try simp only [decide_eq_true_eq, decide_eq_false_iff_not, Bool.not_eq_true, Bool.not_eq_false] at h))
    | (apply r_alloc; ((conv => lhs; simp only [Nat.reduceAdd]) <;> rfl); rfl)
    | (apply r_box; ((conv => lhs; simp only [Nat.reduceAdd]) <;> rfl); rfl; rfl; rfl)
    | (apply r_stL; rfl; rfl; rfl; rfl; (first | rfl | (simp only [z_nil, z_add] <;> rfl)); rfl; rfl)
    | (apply r_p; rfl)
    | (apply r_nilK)
    | (apply r_nil)
    | (apply k_V; rfl)
    | (apply k_P; rfl)
    | (apply k_PL; rfl)
    | (apply k_S; rfl)
    | (apply k_SL; rfl)
    | (apply k_A; rfl)
    | (apply k_T; rfl)
    | (apply k_F; rfl)
    | (apply k_D; rfl; rotate_left; rfl)
    | (apply k_nil)
    | (apply e_ret (vs := [.d (.val _)]); rfl)
    | (apply e_ret; rfl)
    | (apply e_ret' (vs := [.d (.val _)]); rfl)
    | (apply e_ret'; rfl)
    | (apply w_seq)
    | (apply w_ops; ((conv => lhs; simp only [Nat.reduceAdd]) <;> rfl))
    | (apply w_condT; rfl)
    | (apply w_condF; rfl)
    | ((apply w_condS; rfl) <;> (intro h; try simp only [decide_eq_true_eq, decide_eq_false_iff_not, Bool.not_eq_true, Bool.not_eq_false] at h))
    | (apply e_thenN)
    | (apply w_block)
    | (apply e_thenR)
    | (apply e_thenX)
    | (apply e_blkN)
    | (apply e_blkR)
    | (apply e_blkE)
    | (apply w_exit)
    | (apply w_ret)
    | (apply w_skip)
    | (apply e_blkE'; rfl))
    exact .data _ rfl
  cases fn with
  | true =>
    by_cases c2 : mn = 0
    · have e : faTimes ⟨true, fl, fh, fa, fb, fc, fd⟩ mn mx = faE := by simp [faTimes, c2]
      rw [e, eE]
      refine b168 (by simp) (by simp) (w_init ?_)
      unfold x168
      repeat' (first
    | (apply r_mvV; rfl)
    | (apply r_mvP; rfl)
    | (apply r_mvPL; rfl)
    | (apply r_mvS; rfl)
    | (apply r_mvSL; rfl)
    | (apply r_mvA; rfl)
    | (apply r_mvT; rfl)
    | (apply r_mvF; rfl)
    | (apply r_mvD; rfl)
    | (apply r_faddD; rfl)
    | (apply r_faddL; rfl)
    | (apply r_ldL (v := .b true); rfl; rfl; rfl)
    | (apply r_p (v := .agg [.b false, .i 0, .i 0, .d (.val (.int .u64 0)), .d (.val (.int .u64 0)), .d (.val (.int .u64 0)), .d (.val (.int .u64 0))]); rfl)
    | (apply r_ldL; rfl; rfl; rfl)
    | (apply r_eql; rfl; rfl; (first | (apply decide_eq_true; omega) | (apply decide_eq_false; omega) | rfl))
    | (apply r_pickT; rfl)
    | (apply r_pickF; rfl)
    | (apply r_gT; rfl)
    | (apply r_gF'; rfl; rfl)
    | (apply r_gN'; rfl)
    | ((apply r_gS (o := default); rfl) <;> (intro h; try simp only [decide_eq_true_eq, decide_eq_false_iff_not, Bool.not_eq_true, Bool.not_eq_false] at h))
    | (apply r_alloc; ((conv => lhs; simp only [Nat.reduceAdd]) <;> rfl); rfl)
    | (apply r_box; ((conv => lhs; simp only [Nat.reduceAdd]) <;> rfl); rfl; rfl; rfl)
    | (apply r_stL; rfl; rfl; rfl; rfl; (first | rfl | (simp only [z_nil, z_add] <;> rfl)); rfl; rfl)
    | (apply r_p; rfl)
    | (apply r_nilK)
    | (apply r_nil)
    | (apply k_V; rfl)
    | (apply k_P; rfl)
    | (apply k_PL; rfl)
    | (apply k_S; rfl)
    | (apply k_SL; rfl)
    | (apply k_A; rfl)
    | (apply k_T; rfl)
    | (apply k_F; rfl)
    | (apply k_D; rfl; rotate_left; rfl)
    | (apply k_nil)
    | (apply e_ret (vs := [.d (.val _)]); rfl)
    | (apply e_ret; rfl)
    | (apply e_ret' (vs := [.d (.val _)]); rfl)
    | (apply e_ret'; rfl)
    | (apply w_seq)
    | (apply w_ops; ((conv => lhs; simp only [Nat.reduceAdd]) <;> rfl))
    | (apply w_condT; rfl)
    | (apply w_condF; rfl)
    | ((apply w_condS; rfl) <;> (intro h; try simp only [decide_eq_true_eq, decide_eq_false_iff_not, Bool.not_eq_true, Bool.not_eq_false] at h))
    | (apply e_thenN)
    | (apply w_block)
    | (apply e_thenR)
    | (apply e_thenX)
    | (apply e_blkN)
    | (apply e_blkR)
    | (apply e_blkE)
    | (apply w_exit)
    | (apply w_ret)
    | (apply w_skip)
    | (apply e_blkE'; rfl))
      exact .data _ rfl
    · have e : faTimes ⟨true, fl, fh, fa, fb, fc, fd⟩ mn mx = faNo := by simp [faTimes, c1, c2]
      rw [e, eno]
      refine b168 (by simp) (by simp) (w_init ?_)
      unfold x168
      repeat' (first
    | (apply r_mvV; rfl)
    | (apply r_mvP; rfl)
    | (apply r_mvPL; rfl)
    | (apply r_mvS; rfl)
    | (apply r_mvSL; rfl)
    | (apply r_mvA; rfl)
    | (apply r_mvT; rfl)
    | (apply r_mvF; rfl)
    | (apply r_mvD; rfl)
    | (apply r_faddD; rfl)
    | (apply r_faddL; rfl)
    | (apply r_ldL (v := .b true); rfl; rfl; rfl)
    | (apply r_callA (f := 165) (ags := []); rfl; rfl; exact hno)
    | (apply r_ldL (v := .agg [.b true, .i (-1), .i (-1), .d (.val (.int .u64 0)), .d (.val (.int .u64 0)), .d (.val (.int .u64 0)), .d (.val (.int .u64 0))]); rfl; rfl; rfl)
    | (apply r_ldL; rfl; rfl; rfl)
    | (apply r_eql; rfl; rfl; (first | (apply decide_eq_true; omega) | (apply decide_eq_false; omega) | rfl))
    | (apply r_pickT; rfl)
    | (apply r_pickF; rfl)
    | (apply r_gT; rfl)
    | (apply r_gF'; rfl; rfl)
    | (apply r_gN'; rfl)
    | ((apply r_gS (o := default); rfl) <;> (intro h; try simp only [decide_eq_true_eq, decide_eq_false_iff_not, Bool.not_eq_true, Bool.not_eq_false] at h))
    | (apply r_alloc; ((conv => lhs; simp only [Nat.reduceAdd]) <;> rfl); rfl)
    | (apply r_box; ((conv => lhs; simp only [Nat.reduceAdd]) <;> rfl); rfl; rfl; rfl)
    | (apply r_stL; rfl; rfl; rfl; rfl; (first | rfl | (simp only [z_nil, z_add] <;> rfl)); rfl; rfl)
    | (apply r_p; rfl)
    | (apply r_nilK)
    | (apply r_nil)
    | (apply k_V; rfl)
    | (apply k_P; rfl)
    | (apply k_PL; rfl)
    | (apply k_S; rfl)
    | (apply k_SL; rfl)
    | (apply k_A; rfl)
    | (apply k_T; rfl)
    | (apply k_F; rfl)
    | (apply k_D; rfl; rotate_left; rfl)
    | (apply k_nil)
    | (apply e_ret (vs := [.d (.val _)]); rfl)
    | (apply e_ret; rfl)
    | (apply e_ret' (vs := [.d (.val _)]); rfl)
    | (apply e_ret'; rfl)
    | (apply w_seq)
    | (apply w_ops; ((conv => lhs; simp only [Nat.reduceAdd]) <;> rfl))
    | (apply w_condT; rfl)
    | (apply w_condF; rfl)
    | ((apply w_condS; rfl) <;> (intro h; try simp only [decide_eq_true_eq, decide_eq_false_iff_not, Bool.not_eq_true, Bool.not_eq_false] at h))
    | (apply e_thenN)
    | (apply w_block)
    | (apply e_thenR)
    | (apply e_thenX)
    | (apply e_blkN)
    | (apply e_blkR)
    | (apply e_blkE)
    | (apply w_exit)
    | (apply w_ret)
    | (apply w_skip)
    | (apply e_blkE'; rfl))
      exact .data _ rfl
  | false =>
  have f2 := f2 rfl
  have m1 : 0 ≤ fl * mn := Int.mul_nonneg f2.1 h20.1
  have m2 : fl * mn ≤ fl * 20 := Int.mul_le_mul_of_nonneg_left h20.2 f2.1
  have m3 : -9223372036854775808 ≤ fl * mn ∧ fl * mn < 9223372036854775808 := by omega
  by_cases c3 : fh = 0
  · have e : faTimes ⟨false, fl, fh, fa, fb, fc, fd⟩ mn mx = ⟨false, fl * mn, 0, fa, fb, fc, fd⟩ := by simp [faTimes, c1, c3]
    rw [e]
    have er : faA ⟨false, fl * mn, 0, fa, fb, fc, fd⟩ = .agg [.b false, .i (fl * mn), .i (0), .d (.val (.int .u64 fa)), .d (.val (.int .u64 fb)), .d (.val (.int .u64 fc)), .d (.val (.int .u64 fd))] := rfl
    rw [er]
    subst c3
    refine b168 (by simp) (by simp) (w_init ?_)
    unfold x168
    repeat' (first
    | (apply r_mvV; rfl)
    | (apply r_mvP; rfl)
    | (apply r_mvPL; rfl)
    | (apply r_mvS; rfl)
    | (apply r_mvSL; rfl)
    | (apply r_mvA; rfl)
    | (apply r_mvT; rfl)
    | (apply r_mvF; rfl)
    | (apply r_mvD; rfl)
    | (apply r_faddD; rfl)
    | (apply r_faddL; rfl)
    | (apply r_ldL (v := .b false); rfl; rfl; rfl)
    | (apply r_mul; rfl; rfl; rfl; exact m3)
    | (apply r_mul; rfl; rfl; rfl; exact m6)
    | (apply r_ldL (v := .agg [.b false, .i (fl * mn), .i (0), .d (.val (.int .u64 fa)), .d (.val (.int .u64 fb)), .d (.val (.int .u64 fc)), .d (.val (.int .u64 fd))]); rfl; rfl; rfl)
    | (apply r_ldL; rfl; rfl; rfl)
    | (apply r_eql; rfl; rfl; (first | (apply decide_eq_true; omega) | (apply decide_eq_false; omega) | rfl))
    | (apply r_pickT; rfl)
    | (apply r_pickF; rfl)
    | (apply r_gT; rfl)
    | (apply r_gF'; rfl; rfl)
    | (apply r_gN'; rfl)
    | ((apply r_gS (o := default); rfl) <;> (intro h; try simp only [decide_eq_true_eq, decide_eq_false_iff_not, Bool.not_eq_true, Bool.not_eq_false] at h))
    | (apply r_alloc; ((conv => lhs; simp only [Nat.reduceAdd]) <;> rfl); rfl)
    | (apply r_box; ((conv => lhs; simp only [Nat.reduceAdd]) <;> rfl); rfl; rfl; rfl)
    | (apply r_stL; rfl; rfl; rfl; rfl; (first | rfl | (simp only [z_nil, z_add] <;> rfl)); rfl; rfl)
    | (apply r_p; rfl)
    | (apply r_nilK)
    | (apply r_nil)
    | (apply k_V; rfl)
    | (apply k_P; rfl)
    | (apply k_PL; rfl)
    | (apply k_S; rfl)
    | (apply k_SL; rfl)
    | (apply k_A; rfl)
    | (apply k_T; rfl)
    | (apply k_F; rfl)
    | (apply k_D; rfl; rotate_left; rfl)
    | (apply k_nil)
    | (apply e_ret (vs := [.d (.val _)]); rfl)
    | (apply e_ret; rfl)
    | (apply e_ret' (vs := [.d (.val _)]); rfl)
    | (apply e_ret'; rfl)
    | (apply w_seq)
    | (apply w_ops; ((conv => lhs; simp only [Nat.reduceAdd]) <;> rfl))
    | (apply w_condT; rfl)
    | (apply w_condF; rfl)
    | ((apply w_condS; rfl) <;> (intro h; try simp only [decide_eq_true_eq, decide_eq_false_iff_not, Bool.not_eq_true, Bool.not_eq_false] at h))
    | (apply e_thenN)
    | (apply w_block)
    | (apply e_thenR)
    | (apply e_thenX)
    | (apply e_blkN)
    | (apply e_blkR)
    | (apply e_blkE)
    | (apply w_exit)
    | (apply w_ret)
    | (apply w_skip)
    | (apply e_blkE'; rfl))
    exact .data _ rfl
  by_cases c4 : fh = -1
  · have e : faTimes ⟨false, fl, fh, fa, fb, fc, fd⟩ mn mx = ⟨false, fl * mn, -1, fa, fb, fc, fd⟩ := by simp [faTimes, c1, c3, c4]
    rw [e]
    have er : faA ⟨false, fl * mn, -1, fa, fb, fc, fd⟩ = .agg [.b false, .i (fl * mn), .i (-1), .d (.val (.int .u64 fa)), .d (.val (.int .u64 fb)), .d (.val (.int .u64 fc)), .d (.val (.int .u64 fd))] := rfl
    rw [er]
    refine b168 (by simp) (by simp) (w_init ?_)
    unfold x168
    repeat' (first
    | (apply r_mvV; rfl)
    | (apply r_mvP; rfl)
    | (apply r_mvPL; rfl)
    | (apply r_mvS; rfl)
    | (apply r_mvSL; rfl)
    | (apply r_mvA; rfl)
    | (apply r_mvT; rfl)
    | (apply r_mvF; rfl)
    | (apply r_mvD; rfl)
    | (apply r_faddD; rfl)
    | (apply r_faddL; rfl)
    | (apply r_ldL (v := .b false); rfl; rfl; rfl)
    | (apply r_mul; rfl; rfl; rfl; exact m3)
    | (apply r_mul; rfl; rfl; rfl; exact m6)
    | (apply r_ldL (v := .agg [.b false, .i (fl * mn), .i (-1), .d (.val (.int .u64 fa)), .d (.val (.int .u64 fb)), .d (.val (.int .u64 fc)), .d (.val (.int .u64 fd))]); rfl; rfl; rfl)
    | (apply r_ldL; rfl; rfl; rfl)
    | (apply r_eql; rfl; rfl; (first | (apply decide_eq_true; omega) | (apply decide_eq_false; omega) | rfl))
    | (apply r_pickT; rfl)
    | (apply r_pickF; rfl)
    | (apply r_gT; rfl)
    | (apply r_gF'; rfl; rfl)
    | (apply r_gN'; rfl)
    | ((apply r_gS (o := default); rfl) <;> (intro h; try simp only [decide_eq_true_eq, decide_eq_false_iff_not, Bool.not_eq_true, Bool.not_eq_false] at h))
    | (apply r_alloc; ((conv => lhs; simp only [Nat.reduceAdd]) <;> rfl); rfl)
    | (apply r_box; ((conv => lhs; simp only [Nat.reduceAdd]) <;> rfl); rfl; rfl; rfl)
    | (apply r_stL; rfl; rfl; rfl; rfl; (first | rfl | (simp only [z_nil, z_add] <;> rfl)); rfl; rfl)
    | (apply r_p; rfl)
    | (apply r_nilK)
    | (apply r_nil)
    | (apply k_V; rfl)
    | (apply k_P; rfl)
    | (apply k_PL; rfl)
    | (apply k_S; rfl)
    | (apply k_SL; rfl)
    | (apply k_A; rfl)
    | (apply k_T; rfl)
    | (apply k_F; rfl)
    | (apply k_D; rfl; rotate_left; rfl)
    | (apply k_nil)
    | (apply e_ret (vs := [.d (.val _)]); rfl)
    | (apply e_ret; rfl)
    | (apply e_ret' (vs := [.d (.val _)]); rfl)
    | (apply e_ret'; rfl)
    | (apply w_seq)
    | (apply w_ops; ((conv => lhs; simp only [Nat.reduceAdd]) <;> rfl))
    | (apply w_condT; rfl)
    | (apply w_condF; rfl)
    | ((apply w_condS; rfl) <;> (intro h; try simp only [decide_eq_true_eq, decide_eq_false_iff_not, Bool.not_eq_true, Bool.not_eq_false] at h))
    | (apply e_thenN)
    | (apply w_block)
    | (apply e_thenR)
    | (apply e_thenX)
    | (apply e_blkN)
    | (apply e_blkR)
    | (apply e_blkE)
    | (apply w_exit)
    | (apply w_ret)
    | (apply w_skip)
    | (apply e_blkE'; rfl))
    exact .data _ rfl
  by_cases c5 : mx = -1
  · have e : faTimes ⟨false, fl, fh, fa, fb, fc, fd⟩ mn mx = ⟨false, fl * mn, -1, fa, fb, fc, fd⟩ := by simp [faTimes, c1, c3, c5]
    rw [e]
    have er : faA ⟨false, fl * mn, -1, fa, fb, fc, fd⟩ = .agg [.b false, .i (fl * mn), .i (-1), .d (.val (.int .u64 fa)), .d (.val (.int .u64 fb)), .d (.val (.int .u64 fc)), .d (.val (.int .u64 fd))] := rfl
    rw [er]
    refine b168 (by simp) (by simp) (w_init ?_)
    unfold x168
    repeat' (first
    | (apply r_mvV; rfl)
    | (apply r_mvP; rfl)
    | (apply r_mvPL; rfl)
    | (apply r_mvS; rfl)
    | (apply r_mvSL; rfl)
    | (apply r_mvA; rfl)
    | (apply r_mvT; rfl)
    | (apply r_mvF; rfl)
    | (apply r_mvD; rfl)
    | (apply r_faddD; rfl)
    | (apply r_faddL; rfl)
    | (apply r_ldL (v := .b false); rfl; rfl; rfl)
    | (apply r_mul; rfl; rfl; rfl; exact m3)
    | (apply r_mul; rfl; rfl; rfl; exact m6)
    | (apply r_ldL (v := .agg [.b false, .i (fl * mn), .i (-1), .d (.val (.int .u64 fa)), .d (.val (.int .u64 fb)), .d (.val (.int .u64 fc)), .d (.val (.int .u64 fd))]); rfl; rfl; rfl)
    | (apply r_ldL; rfl; rfl; rfl)
    | (apply r_eql; rfl; rfl; (first | (apply decide_eq_true; omega) | (apply decide_eq_false; omega) | rfl))
    | (apply r_pickT; rfl)
    | (apply r_pickF; rfl)
    | (apply r_gT; rfl)
    | (apply r_gF'; rfl; rfl)
    | (apply r_gN'; rfl)
    | ((apply r_gS (o := default); rfl) <;> (intro h; try simp only [decide_eq_true_eq, decide_eq_false_iff_not, Bool.not_eq_true, Bool.not_eq_false] at h))
    | (apply r_alloc; ((conv => lhs; simp only [Nat.reduceAdd]) <;> rfl); rfl)
    | (apply r_box; ((conv => lhs; simp only [Nat.reduceAdd]) <;> rfl); rfl; rfl; rfl)
    | (apply r_stL; rfl; rfl; rfl; rfl; (first | rfl | (simp only [z_nil, z_add] <;> rfl)); rfl; rfl)
    | (apply r_p; rfl)
    | (apply r_nilK)
    | (apply r_nil)
    | (apply k_V; rfl)
    | (apply k_P; rfl)
    | (apply k_PL; rfl)
    | (apply k_S; rfl)
    | (apply k_SL; rfl)
    | (apply k_A; rfl)
    | (apply k_T; rfl)
    | (apply k_F; rfl)
    | (apply k_D; rfl; rotate_left; rfl)
    | (apply k_nil)
    | (apply e_ret (vs := [.d (.val _)]); rfl)
    | (apply e_ret; rfl)
    | (apply e_ret' (vs := [.d (.val _)]); rfl)
    | (apply e_ret'; rfl)
    | (apply w_seq)
    | (apply w_ops; ((conv => lhs; simp only [Nat.reduceAdd]) <;> rfl))
    | (apply w_condT; rfl)
    | (apply w_condF; rfl)
    | ((apply w_condS; rfl) <;> (intro h; try simp only [decide_eq_true_eq, decide_eq_false_iff_not, Bool.not_eq_true, Bool.not_eq_false] at h))
    | (apply e_thenN)
    | (apply w_block)
    | (apply e_thenR)
    | (apply e_thenX)
    | (apply e_blkN)
    | (apply e_blkR)
    | (apply e_blkE)
    | (apply w_exit)
    | (apply w_ret)
    | (apply w_skip)
    | (apply e_blkE'; rfl))
    exact .data _ rfl
  · have e : faTimes ⟨false, fl, fh, fa, fb, fc, fd⟩ mn mx = ⟨false, fl * mn, fh * mx, fa, fb, fc, fd⟩ := by simp [faTimes, c1, c3, c4, c5]
    rw [e]
    have er : faA ⟨false, fl * mn, fh * mx, fa, fb, fc, fd⟩ = .agg [.b false, .i (fl * mn), .i (fh * mx), .d (.val (.int .u64 fa)), .d (.val (.int .u64 fb)), .d (.val (.int .u64 fc)), .d (.val (.int .u64 fd))] := rfl
    rw [er]
    have m4 : 0 ≤ fh * mx := Int.mul_nonneg (by omega) (by omega)
    have m5 : fh * mx ≤ fh * 20 := Int.mul_le_mul_of_nonneg_left (by omega) (by omega)
    have m6 : -9223372036854775808 ≤ fh * mx ∧ fh * mx < 9223372036854775808 := by omega
    refine b168 (by simp) (by simp) (w_init ?_)
    unfold x168
    repeat' (first
    | (apply r_mvV; rfl)
    | (apply r_mvP; rfl)
    | (apply r_mvPL; rfl)
    | (apply r_mvS; rfl)
    | (apply r_mvSL; rfl)
    | (apply r_mvA; rfl)
    | (apply r_mvT; rfl)
    | (apply r_mvF; rfl)
    | (apply r_mvD; rfl)
    | (apply r_faddD; rfl)
    | (apply r_faddL; rfl)
    | (apply r_ldL (v := .b false); rfl; rfl; rfl)
    | (apply r_mul; rfl; rfl; rfl; exact m3)
    | (apply r_mul; rfl; rfl; rfl; exact m6)
    | (apply r_ldL (v := .agg [.b false, .i (fl * mn), .i (fh * mx), .d (.val (.int .u64 fa)), .d (.val (.int .u64 fb)), .d (.val (.int .u64 fc)), .d (.val (.int .u64 fd))]); rfl; rfl; rfl)
    | (apply r_ldL; rfl; rfl; rfl)
    | (apply r_eql; rfl; rfl; (first | (apply decide_eq_true; omega) | (apply decide_eq_false; omega) | rfl))
    | (apply r_pickT; rfl)
    | (apply r_pickF; rfl)
    | (apply r_gT; rfl)
    | (apply r_gF'; rfl; rfl)
    | (apply r_gN'; rfl)
    | ((apply r_gS (o := default); rfl) <;> (intro h; try simp only [decide_eq_true_eq, decide_eq_false_iff_not, Bool.not_eq_true, Bool.not_eq_false] at h))
    | (apply r_alloc; ((conv => lhs; simp only [Nat.reduceAdd]) <;> rfl); rfl)
    | (apply r_box; ((conv => lhs; simp only [Nat.reduceAdd]) <;> rfl); rfl; rfl; rfl)
    | (apply r_stL; rfl; rfl; rfl; rfl; (first | rfl | (simp only [z_nil, z_add] <;> rfl)); rfl; rfl)
    | (apply r_p; rfl)
    | (apply r_nilK)
    | (apply r_nil)
    | (apply k_V; rfl)
    | (apply k_P; rfl)
    | (apply k_PL; rfl)
    | (apply k_S; rfl)
    | (apply k_SL; rfl)
    | (apply k_A; rfl)
    | (apply k_T; rfl)
    | (apply k_F; rfl)
    | (apply k_D; rfl; rotate_left; rfl)
    | (apply k_nil)
    | (apply e_ret (vs := [.d (.val _)]); rfl)
    | (apply e_ret; rfl)
    | (apply e_ret' (vs := [.d (.val _)]); rfl)
    | (apply e_ret'; rfl)
    | (apply w_seq)
    | (apply w_ops; ((conv => lhs; simp only [Nat.reduceAdd]) <;> rfl))
    | (apply w_condT; rfl)
    | (apply w_condF; rfl)
    | ((apply w_condS; rfl) <;> (intro h; try simp only [decide_eq_true_eq, decide_eq_false_iff_not, Bool.not_eq_true, Bool.not_eq_false] at h))
    | (apply e_thenN)
    | (apply w_block)
    | (apply e_thenR)
    | (apply e_thenX)
    | (apply e_blkN)
    | (apply e_blkR)
    | (apply e_blkE)
    | (apply w_exit)
    | (apply w_ret)
    | (apply w_skip)
    | (apply e_blkE'; rfl))
    exact .data _ rfl
end Go.Sv
namespace Go.Sv
open Go Go.Proofs
def x151 : XC := (.seq (.ops 1 [
    (0, ⟨(some 2), none, .alloc [(.bool false), (.int .i64 0), (.int .i64 0), (.int .u64 0), (.int .u64 0), (.int .u64 0), (.int .u64 0)]⟩)] (some [0, 2])) (.seq (.seq (.ops 4 [
    (0, ⟨(some 7), none, .mv (.t 0)⟩),
    (1, ⟨(some 8), none, .nilck (.t 7)⟩),
    (2, ⟨(some 9), none, .fadd 0 (.t 8)⟩),
    (3, ⟨(some 10), none, .load none (.t 9)⟩)] (some [0, 2, 10])) (.block 0 (.seq (.ops 2 [
    (0, ⟨(some 12), none, .arith .eql (.t 10) (.k (.d (.val (.int .i64 2))))⟩),
    (1, ⟨(some 11), none, .mv (.t 12)⟩)] (some [0, 2, 10, 11])) (.cond (.t 11) (.seq (.seq (.ops 6 [
    (0, ⟨(some 13), none, .mv (.t 0)⟩),
    (1, ⟨(some 14), none, .nilck (.t 13)⟩),
    (2, ⟨(some 15), none, .fadd 1 (.t 14)⟩),
    (3, ⟨(some 16), none, .load (some 4) (.t 15)⟩),
    (4, ⟨(some 17), none, .build [(.int .u64 0), (.int .u64 0), (.int .u64 0), (.int .u64 0)] []⟩),
    (5, ⟨(some 18), none, .eqAgg 4 false (.t 16) (.t 17)⟩)] (some [0, 2, 18])) (.cond (.t 18) (.seq (.ops 2 [
    (0, ⟨(some 19), none, .call 165 [] none false⟩),
    (1, ⟨none, none, .store 7 (.t 2) (.t 19)⟩)] (some [2])) .ret) .skip)) (.seq (.ops 6 [
    (0, ⟨(some 20), none, .mv (.t 0)⟩),
    (1, ⟨(some 21), none, .nilck (.t 20)⟩),
    (2, ⟨(some 22), none, .fadd 1 (.t 21)⟩),
    (3, ⟨(some 23), none, .load (some 4) (.t 22)⟩),
    (4, ⟨(some 24), none, .build [(.bool false), (.int .i64 0), (.int .i64 0), (.int .u64 0), (.int .u64 0), (.int .u64 0), (.int .u64 0)] [(1, 1, (.k (.d (.val (.int .i64 1))))), (2, 1, (.k (.d (.val (.int .i64 1))))), (3, 4, (.t 23))]⟩),
    (5, ⟨none, none, .store 7 (.t 2) (.t 24)⟩)] (some [2])) .ret)) (.seq (.ops 2 [
    (0, ⟨(some 26), none, .arith .eql (.t 10) (.k (.d (.val (.int .i64 3))))⟩),
    (1, ⟨(some 25), none, .mv (.t 26)⟩)] (some [0, 2, 10, 25])) (.cond (.t 25) (.seq (.ops 3 [
    (0, ⟨(some 27), none, .build [(.bool false), (.int .i64 0), (.int .i64 0), (.int .u64 0), (.int .u64 0), (.int .u64 0), (.int .u64 0)] []⟩),
    (1, ⟨(some 3), none, .alloc [(.bool false), (.int .i64 0), (.int .i64 0), (.int .u64 0), (.int .u64 0), (.int .u64 0), (.int .u64 0)]⟩),
    (2, ⟨none, none, .store 7 (.t 3) (.t 27)⟩)] (some [0, 2, 3])) (.seq (.seq (.ops 6 [
    (0, ⟨(some 28), none, .mv (.t 0)⟩),
    (1, ⟨(some 29), none, .nilck (.t 28)⟩),
    (2, ⟨(some 30), none, .fadd 7 (.t 29)⟩),
    (3, ⟨(some 31), none, .load none (.t 30)⟩),
    (4, ⟨(some 32), none, .lenS (.t 31)⟩),
    (5, ⟨(some 33), none, .mv (.k (.d (.val (.int .i64 0))))⟩)] (some [0, 2, 3, 32, 33])) (.block 1 (.loop (.seq (.ops 1 [
    (0, ⟨(some 34), none, .arith .lss (.t 33) (.t 32)⟩)] (some [0, 2, 3, 32, 33, 34])) (.seq (.cond (.t 34) .skip (.exit 1)) (.seq (.block 2 (.seq (.ops 2 [
    (0, ⟨(some 35), none, .mv (.t 33)⟩),
    (1, ⟨(some 4), none, .mv (.t 35)⟩)] (some [0, 2, 3, 4, 32, 33])) (.ops 10 [
    (0, ⟨(some 36), none, .load (some 7) (.t 3)⟩),
    (1, ⟨(some 37), none, .mv (.t 0)⟩),
    (2, ⟨(some 38), none, .nilck (.t 37)⟩),
    (3, ⟨(some 39), none, .fadd 7 (.t 38)⟩),
    (4, ⟨(some 40), none, .load none (.t 39)⟩),
    (5, ⟨(some 41), none, .mv (.t 4)⟩),
    (6, ⟨(some 42), none, .idxS 8 (.t 40) (.t 41)⟩),
    (7, ⟨(some 43), none, .call 151 [(.t 42)] none false⟩),
    (8, ⟨(some 44), none, .call 166 [(.t 36), (.t 43)] none false⟩),
    (9, ⟨none, none, .store 7 (.t 3) (.t 44)⟩)] (some [0, 2, 3, 32, 33])))) (.ops 2 [
    (0, ⟨(some 45), none, .arith .add (.t 33) (.k (.d (.val (.int .i64 1))))⟩),
    (1, ⟨(some 33), none, .mv (.t 45)⟩)] (some [0, 2, 3, 32, 33])))))))) (.seq (.ops 2 [
    (0, ⟨(some 46), none, .load (some 7) (.t 3)⟩),
    (1, ⟨none, none, .store 7 (.t 2) (.t 46)⟩)] (some [2])) .ret))) (.seq (.ops 2 [
    (0, ⟨(some 48), none, .arith .eql (.t 10) (.k (.d (.val (.int .i64 4))))⟩),
    (1, ⟨(some 47), none, .mv (.t 48)⟩)] (some [0, 2, 10, 47])) (.cond (.t 47) (.seq (.ops 3 [
    (0, ⟨(some 49), none, .call 165 [] none false⟩),
    (1, ⟨(some 5), none, .alloc [(.bool false), (.int .i64 0), (.int .i64 0), (.int .u64 0), (.int .u64 0), (.int .u64 0), (.int .u64 0)]⟩),
    (2, ⟨none, none, .store 7 (.t 5) (.t 49)⟩)] (some [0, 2, 5])) (.seq (.seq (.ops 6 [
    (0, ⟨(some 50), none, .mv (.t 0)⟩),
    (1, ⟨(some 51), none, .nilck (.t 50)⟩),
    (2, ⟨(some 52), none, .fadd 7 (.t 51)⟩),
    (3, ⟨(some 53), none, .load none (.t 52)⟩),
    (4, ⟨(some 54), none, .lenS (.t 53)⟩),
    (5, ⟨(some 55), none, .mv (.k (.d (.val (.int .i64 0))))⟩)] (some [0, 2, 5, 54, 55])) (.block 3 (.loop (.seq (.ops 1 [
    (0, ⟨(some 56), none, .arith .lss (.t 55) (.t 54)⟩)] (some [0, 2, 5, 54, 55, 56])) (.seq (.cond (.t 56) .skip (.exit 3)) (.seq (.block 4 (.seq (.ops 2 [
    (0, ⟨(some 57), none, .mv (.t 55)⟩),
    (1, ⟨(some 6), none, .mv (.t 57)⟩)] (some [0, 2, 5, 6, 54, 55])) (.ops 10 [
    (0, ⟨(some 58), none, .load (some 7) (.t 5)⟩),
    (1, ⟨(some 59), none, .mv (.t 0)⟩),
    (2, ⟨(some 60), none, .nilck (.t 59)⟩),
    (3, ⟨(some 61), none, .fadd 7 (.t 60)⟩),
    (4, ⟨(some 62), none, .load none (.t 61)⟩),
    (5, ⟨(some 63), none, .mv (.t 6)⟩),
    (6, ⟨(some 64), none, .idxS 8 (.t 62) (.t 63)⟩),
    (7, ⟨(some 65), none, .call 151 [(.t 64)] none false⟩),
    (8, ⟨(some 66), none, .call 167 [(.t 58), (.t 65)] none false⟩),
    (9, ⟨none, none, .store 7 (.t 5) (.t 66)⟩)] (some [0, 2, 5, 54, 55])))) (.ops 2 [
    (0, ⟨(some 67), none, .arith .add (.t 55) (.k (.d (.val (.int .i64 1))))⟩),
    (1, ⟨(some 55), none, .mv (.t 67)⟩)] (some [0, 2, 5, 54, 55])))))))) (.seq (.ops 2 [
    (0, ⟨(some 68), none, .load (some 7) (.t 5)⟩),
    (1, ⟨none, none, .store 7 (.t 2) (.t 68)⟩)] (some [2])) .ret))) (.seq (.ops 2 [
    (0, ⟨(some 70), none, .arith .eql (.t 10) (.k (.d (.val (.int .i64 5))))⟩),
    (1, ⟨(some 69), none, .mv (.t 70)⟩)] (some [0, 2, 69])) (.cond (.t 69) (.seq (.ops 16 [
    (0, ⟨(some 71), none, .mv (.t 0)⟩),
    (1, ⟨(some 72), none, .nilck (.t 71)⟩),
    (2, ⟨(some 73), none, .fadd 7 (.t 72)⟩),
    (3, ⟨(some 74), none, .load none (.t 73)⟩),
    (4, ⟨(some 75), none, .idxS 8 (.t 74) (.k (.d (.val (.int .i64 0))))⟩),
    (5, ⟨(some 76), none, .call 151 [(.t 75)] none false⟩),
    (6, ⟨(some 77), none, .mv (.t 0)⟩),
    (7, ⟨(some 78), none, .nilck (.t 77)⟩),
    (8, ⟨(some 79), none, .fadd 5 (.t 78)⟩),
    (9, ⟨(some 80), none, .load none (.t 79)⟩),
    (10, ⟨(some 81), none, .mv (.t 0)⟩),
    (11, ⟨(some 82), none, .nilck (.t 81)⟩),
    (12, ⟨(some 83), none, .fadd 6 (.t 82)⟩),
    (13, ⟨(some 84), none, .load none (.t 83)⟩),
    (14, ⟨(some 85), none, .call 168 [(.t 76), (.t 80), (.t 84)] none false⟩),
    (15, ⟨none, none, .store 7 (.t 2) (.t 85)⟩)] (some [2])) .ret) .skip)))))))))) (.seq (.ops 2 [
    (0, ⟨(some 86), none, .build [(.bool false), (.int .i64 0), (.int .i64 0), (.int .u64 0), (.int .u64 0), (.int .u64 0), (.int .u64 0)] []⟩),
    (1, ⟨none, none, .store 7 (.t 2) (.t 86)⟩)] (some [2])) .ret)))
def md151 : FuncId → Option Nat × Bool
  | _ => (none, false)
def od151 : Nat → List (List Nat) × List Nat × Option (List Nat)
  | 0 => ([], [], some [0, 2])
  | 1 => ([], [], some [0, 2, 10])
  | 2 => ([], [], some [0, 2, 10, 11])
  | 3 => ([], [], some [0, 2, 18])
  | 4 => ([], [], some [2])
  | 5 => ([], [], some [2])
  | 6 => ([], [], some [0, 2, 10, 25])
  | 7 => ([], [], some [0, 2, 3])
  | 8 => ([], [], some [0, 2, 3, 32, 33])
  | 9 => ([], [], some [0, 2, 3, 32, 33, 34])
  | 10 => ([], [], some [0, 2, 3, 4, 32, 33])
  | 11 => ([[], [], [1], [1, 2], [1, 2, 3], [], [1, 2, 3, 4, 5], [1, 2, 3, 4, 5, 6], [0, 1, 2, 3, 4, 5, 6, 7], [0, 1, 2, 3, 4, 5, 6, 7, 8]], [0, 1, 2, 3, 4, 5, 6, 7, 8, 9], some [0, 2, 3, 32, 33])
  | 12 => ([], [], some [0, 2, 3, 32, 33])
  | 13 => ([], [], some [2])
  | 14 => ([], [], some [0, 2, 10, 47])
  | 15 => ([], [], some [0, 2, 5])
  | 16 => ([], [], some [0, 2, 5, 54, 55])
  | 17 => ([], [], some [0, 2, 5, 54, 55, 56])
  | 18 => ([], [], some [0, 2, 5, 6, 54, 55])
  | 19 => ([[], [], [1], [1, 2], [1, 2, 3], [], [1, 2, 3, 4, 5], [1, 2, 3, 4, 5, 6], [0, 1, 2, 3, 4, 5, 6, 7], [0, 1, 2, 3, 4, 5, 6, 7, 8]], [0, 1, 2, 3, 4, 5, 6, 7, 8, 9], some [0, 2, 5, 54, 55])
  | 20 => ([], [], some [0, 2, 5, 54, 55])
  | 21 => ([], [], some [2])
  | 22 => ([], [], some [0, 2, 69])
  | 23 => ([[], [0], [0, 1], [0, 1, 2], [0, 1, 2, 3], [0, 1, 2, 3, 4], [], [6], [6, 7], [6, 7, 8], [], [10], [10, 11], [10, 11, 12], [0, 1, 2, 3, 4, 5, 6, 7, 8, 9, 10, 11, 12, 13], [0, 1, 2, 3, 4, 5, 6, 7, 8, 9, 10, 11, 12, 13, 14]], [0, 1, 2, 3, 4, 5, 6, 7, 8, 9, 10, 11, 12, 13, 14, 15], some [2])
  | 24 => ([], [], some [2])
  | _ => ([], [], none)
theorem b151 {ags : List AV} {row : Option (List DV)} {r : AV} {row' nw : Option (List DV)} (hal : ags.length ≤ 87) (hrow : row'.isSome = true → row.isSome = true) (h : xwp Try.prog x151 (retK [.cell 2 (some 7)] row.isSome r row' nw) (St.init ags row)) : Good Try.prog 151 ags row r row' nw :=
  good_of_body' (md := md151) (od := od151) Try.f151 (by kernel_rfl) (by kernel_rfl) (by kernel_rfl) (by kernel_rfl) (by kernel_rfl) hal hrow h

def faC (f : Fa) : List AV := [.b f.no, .i f.lo, .i f.hi, .d (.val (.int .u64 f.a)), .d (.val (.int .u64 f.b)), .d (.val (.int .u64 f.c)), .d (.val (.int .u64 f.d))]
theorem knC_step (l : List T) (i : Nat) (h : i < l.length) (f : Fa) : knC (l.take (i + 1)) f = faThen (knC (l.take i) f) (knT l[i]) := by
  rw [List.take_succ_eq_append_getElem h, knC_app]; rfl
theorem knO_step (l : List T) (i : Nat) (h : i < l.length) (f : Fa) : knO (l.take (i + 1)) f = faOr (knO (l.take i) f) (knT l[i]) := by
  rw [List.take_succ_eq_append_getElem h, knO_app]; rfl
set_option maxRecDepth 100000
set_option maxHeartbeats 4000000
attribute [local irreducible] W E R KP thenK blockK retK Good xwp aRun
theorem know151_good : ∀ (n : Nat) (t : T) (cs : List DV) (off : Nat), NodeAt cs off t → t.cnt ≤ n → n ≤ 1000000 → okT t → bT t ≤ 16384000000000000000 → Good Try.prog 151 [.d (.ptr cs off)] none (faA (knT t)) none none := by
  intro n
  induction n with
  | zero => intro t cs off _ ht; have := cnt_pos t; omega
  | succ n ih =>
  intro t cs off hs ht hc hok hbt
  obtain ⟨k, a, b, c, d, mn, mx, subs⟩ := t
  have hR := okT_R hok
  have hoks := okT_subs hok
  have hno := no165_good
  have eno : faA faNo = .agg [.b true, .i (-1), .i (-1), .d (.val (.int .u64 0)), .d (.val (.int .u64 0)), .d (.val (.int .u64 0)), .d (.val (.int .u64 0))] := rfl
  rw [eno] at hno
  have ih' : ∀ i (h : i < subs.length), Good Try.prog 151 [.d (.ptr (encL subs) (i * 8))] none (faA (knT subs[i])) none none := by
    intro i h
    refine ih _ _ _ (NodeAt.sub h) ?_ (by omega) (okL_get subs i h hoks) ?_
    · have := cntL_get subs i h
      simp only [T.cnt] at ht
      omega
    · have := bT_sub (u := subs[i]) hok (List.getElem_mem h)
      omega
  have hlen : subs.length ≤ 1000000 := by
    have := cntL_len subs
    simp only [T.cnt] at ht
    omega
  have hpw := pw_pos (openT (.node k a b c d mn mx subs)).toNat
  have hsub' : ∀ u ∈ subs, okF (knT u) ((u.cnt : Nat) * pw (openT (.node k a b c d mn mx subs)).toNat) := fun u hu => by
    refine okF_mono (kn_ok u ((okL_iff _).1 hoks u hu)) ?_
    have h1 := sub_open (u := u) hok hu
    exact bT_le (Nat.le_refl _) (by have := open_nonneg _ hok; omega)
  have hsum : ∀ i (h : i < subs.length), ((cntL (subs.take i) : Nat) : Int) * pw (openT (.node k a b c d mn mx subs)).toNat + ((subs[i].cnt : Nat) : Int) * pw (openT (.node k a b c d mn mx subs)).toNat ≤ 16384000000000000000 := by
    intro i h
    have e : cntL (subs.take (i + 1)) = cntL (subs.take i) + subs[i].cnt := by
      rw [List.take_succ_eq_append_getElem h, cntL_app]; simp [cntL]
    have h1 := cntL_take_le subs (i + 1)
    have h2 : ((cntL (subs.take i) + subs[i].cnt : Nat) : Int) * pw (openT (.node k a b c d mn mx subs)).toNat ≤ bT (.node k a b c d mn mx subs) := by
      unfold bT
      exact Int.mul_le_mul_of_nonneg_right (by simp only [T.cnt]; omega) (by omega)
    rw [Int.natCast_add, Int.add_mul] at h2
    omega
  by_cases h2 : k = 2
  · cases hz : isZero a b c d with
    | true =>
      have e : knT (.node k a b c d mn mx subs) = faNo := by rw [knT, if_pos h2, if_pos hz]
      rw [e, eno]
      clear ih ih' hsub' hsum
      refine b151 (by simp) (by simp) (w_init ?_)
      unfold x151
      repeat' (first
    | (apply r_mvV; rfl)
    | (apply r_mvP; rfl)
    | (apply r_mvPL; rfl)
    | (apply r_mvS; rfl)
    | (apply r_mvSL; rfl)
    | (apply r_mvA; rfl)
    | (apply r_mvT; rfl)
    | (apply r_mvF; rfl)
    | (apply r_mvD; rfl)
    | (apply r_nckD; rfl)
    | (apply r_faddD; rfl)
    | (apply r_nckL; rfl)
    | (apply r_faddL; rfl)
    | (apply r_l; apply ld_kind; assumption; rfl)
    | (apply r_l; apply ld_mn; assumption; rfl)
    | (apply r_l; apply ld_mx; assumption; rfl)
    | (apply r_l; apply ld_subs; assumption; rfl)
    | (apply r_l; apply ld_set; assumption; rfl)
    | (apply r_l; apply ld_node; assumption; rfl)
    | (apply r_l; apply ld_kind'; assumption; rfl)
    | (apply r_l; apply ld_mn'; assumption; rfl)
    | (apply r_l; apply ld_mx'; assumption; rfl)
    | (apply r_l; apply ld_subs'; assumption; rfl)
    | (apply r_l; apply ld_node'; assumption; rfl)
    | (apply r_p (v := .agg [.d (.val (.int .u64 0)), .d (.val (.int .u64 0)), .d (.val (.int .u64 0)), .d (.val (.int .u64 0))]); rfl)
    | (apply r_eqX (r := true); rfl; rfl; exact hz)
    | (apply r_callA (f := 165) (ags := []); rfl; rfl; exact hno)
    | (apply r_ldL (v := .agg [.b true, .i (-1), .i (-1), .d (.val (.int .u64 0)), .d (.val (.int .u64 0)), .d (.val (.int .u64 0)), .d (.val (.int .u64 0))]); rfl; rfl; rfl)
    | (apply r_ldL; rfl; rfl; rfl)
    | (apply r_eql; rfl; rfl; (first | (apply decide_eq_true; omega) | (apply decide_eq_false; omega) | rfl))
    | (apply r_lss; rfl; rfl; (first | (apply decide_eq_true; omega) | (apply decide_eq_false; omega) | rfl))
    | (apply r_add; rfl; rfl; rfl; omega)
    | (apply r_lenD; rfl)
    | (apply r_lenL; rfl)
    | (apply r_len0; rfl)
    | (apply r_alloc; ((conv => lhs; simp only [Nat.reduceAdd]) <;> rfl); rfl)
    | (apply r_stL; rfl; rfl; rfl; rfl; (first | rfl | (simp only [z_nil, z_add] <;> rfl)); rfl; rfl)
    | (apply r_p; rfl)
    | (apply r_nilK)
    | (apply r_nil)
    | (apply k_V; rfl)
    | (apply k_P; rfl)
    | (apply k_PL; rfl)
    | (apply k_S; rfl)
    | (apply k_SL; rfl)
    | (apply k_A; rfl)
    | (apply k_T; rfl)
    | (apply k_F; rfl)
    | (apply k_D; rfl; rotate_left; rfl)
    | (apply k_nil)
    | (apply e_ret (vs := [.d (.val _)]); rfl)
    | (apply e_ret; rfl)
    | (apply e_ret' (vs := [.d (.val _)]); rfl)
    | (apply e_ret'; rfl)
    | (apply w_seq)
    | (apply w_ops; ((conv => lhs; simp only [Nat.reduceAdd]) <;> rfl))
    | (apply w_condT; rfl)
    | (apply w_condF; rfl)
    | ((apply w_condS; rfl) <;> (intro h; try simp only [decide_eq_true_eq, decide_eq_false_iff_not, Bool.not_eq_true, Bool.not_eq_false] at h))
    | (apply e_thenN)
    | (apply w_block)
    | (apply e_thenR)
    | (apply e_thenX)
    | (apply e_blkN)
    | (apply e_blkR)
    | (apply e_blkE)
    | (apply w_exit)
    | (apply w_ret)
    | (apply w_skip)
    | (apply e_blkE'; rfl))
      exact .data _ rfl
    | false =>
      have e : knT (.node k a b c d mn mx subs) = ⟨false, 1, 1, a, b, c, d⟩ := by rw [knT, if_pos h2, if_neg (by simp [hz])]
      have e2 : faA ⟨false, 1, 1, a, b, c, d⟩ = .agg [.b false, .i 1, .i 1, .d (.val (.int .u64 a)), .d (.val (.int .u64 b)), .d (.val (.int .u64 c)), .d (.val (.int .u64 d))] := rfl
      rw [e, e2]
      clear ih ih' hsub' hsum
      refine b151 (by simp) (by simp) (w_init ?_)
      unfold x151
      repeat' (first
    | (apply r_mvV; rfl)
    | (apply r_mvP; rfl)
    | (apply r_mvPL; rfl)
    | (apply r_mvS; rfl)
    | (apply r_mvSL; rfl)
    | (apply r_mvA; rfl)
    | (apply r_mvT; rfl)
    | (apply r_mvF; rfl)
    | (apply r_mvD; rfl)
    | (apply r_nckD; rfl)
    | (apply r_faddD; rfl)
    | (apply r_nckL; rfl)
    | (apply r_faddL; rfl)
    | (apply r_l; apply ld_kind; assumption; rfl)
    | (apply r_l; apply ld_mn; assumption; rfl)
    | (apply r_l; apply ld_mx; assumption; rfl)
    | (apply r_l; apply ld_subs; assumption; rfl)
    | (apply r_l; apply ld_set; assumption; rfl)
    | (apply r_l; apply ld_node; assumption; rfl)
    | (apply r_l; apply ld_kind'; assumption; rfl)
    | (apply r_l; apply ld_mn'; assumption; rfl)
    | (apply r_l; apply ld_mx'; assumption; rfl)
    | (apply r_l; apply ld_subs'; assumption; rfl)
    | (apply r_l; apply ld_node'; assumption; rfl)
    | (apply r_p (v := .agg [.d (.val (.int .u64 0)), .d (.val (.int .u64 0)), .d (.val (.int .u64 0)), .d (.val (.int .u64 0))]); rfl)
    | (apply r_eqX (r := false); rfl; rfl; exact hz)
    | (apply r_p (v := .agg [.b false, .i 1, .i 1, .d (.val (.int .u64 a)), .d (.val (.int .u64 b)), .d (.val (.int .u64 c)), .d (.val (.int .u64 d))]); rfl)
    | (apply r_ldL; rfl; rfl; rfl)
    | (apply r_eql; rfl; rfl; (first | (apply decide_eq_true; omega) | (apply decide_eq_false; omega) | rfl))
    | (apply r_lss; rfl; rfl; (first | (apply decide_eq_true; omega) | (apply decide_eq_false; omega) | rfl))
    | (apply r_add; rfl; rfl; rfl; omega)
    | (apply r_lenD; rfl)
    | (apply r_lenL; rfl)
    | (apply r_len0; rfl)
    | (apply r_alloc; ((conv => lhs; simp only [Nat.reduceAdd]) <;> rfl); rfl)
    | (apply r_stL; rfl; rfl; rfl; rfl; (first | rfl | (simp only [z_nil, z_add] <;> rfl)); rfl; rfl)
    | (apply r_p; rfl)
    | (apply r_nilK)
    | (apply r_nil)
    | (apply k_V; rfl)
    | (apply k_P; rfl)
    | (apply k_PL; rfl)
    | (apply k_S; rfl)
    | (apply k_SL; rfl)
    | (apply k_A; rfl)
    | (apply k_T; rfl)
    | (apply k_F; rfl)
    | (apply k_D; rfl; rotate_left; rfl)
    | (apply k_nil)
    | (apply e_ret (vs := [.d (.val _)]); rfl)
    | (apply e_ret; rfl)
    | (apply e_ret' (vs := [.d (.val _)]); rfl)
    | (apply e_ret'; rfl)
    | (apply w_seq)
    | (apply w_ops; ((conv => lhs; simp only [Nat.reduceAdd]) <;> rfl))
    | (apply w_condT; rfl)
    | (apply w_condF; rfl)
    | ((apply w_condS; rfl) <;> (intro h; try simp only [decide_eq_true_eq, decide_eq_false_iff_not, Bool.not_eq_true, Bool.not_eq_false] at h))
    | (apply e_thenN)
    | (apply w_block)
    | (apply e_thenR)
    | (apply e_thenX)
    | (apply e_blkN)
    | (apply e_blkR)
    | (apply e_blkE)
    | (apply w_exit)
    | (apply w_ret)
    | (apply w_skip)
    | (apply e_blkE'; rfl))
      exact .data _ rfl
  by_cases h3 : k = 3
  · have e : knT (.node k a b c d mn mx subs) = knC subs faE := by rw [knT, if_neg h2, if_pos h3]
    rw [e]
    have hpre : ∀ i (h : i < subs.length), Good Try.prog 166 [faA (knC (subs.take i) faE), faA (knT subs[i])] none (faA (faThen (knC (subs.take i) faE) (knT subs[i]))) none none := fun i h => by
      have h1 := knC_ok (openT (.node k a b c d mn mx subs)).toNat (subs.take i) faE 0 (Int.le_refl _) (okF_E (Int.le_refl _)) (fun u hu => hsub' u (List.mem_of_mem_take hu))
      rw [Int.zero_add] at h1
      exact then166_good h1 (hsub' _ (List.getElem_mem h)) (Int.mul_nonneg (by omega) (by omega)) (Int.mul_nonneg (by omega) (by omega)) (hsum i h)
    clear ih hsub' hsum hno eno e hbt hoks hok hR ht
    refine b151 (by simp) (by simp) (w_init ?_)
    unfold x151
    repeat' (first
    | (apply r_mvV; rfl)
    | (apply r_mvP; rfl)
    | (apply r_mvPL; rfl)
    | (apply r_mvS; rfl)
    | (apply r_mvSL; rfl)
    | (apply r_mvA; rfl)
    | (apply r_mvT; rfl)
    | (apply r_mvF; rfl)
    | (apply r_mvD; rfl)
    | (apply r_nckD; rfl)
    | (apply r_faddD; rfl)
    | (apply r_nckL; rfl)
    | (apply r_faddL; rfl)
    | (apply r_l; apply ld_kind; assumption; rfl)
    | (apply r_l; apply ld_mn; assumption; rfl)
    | (apply r_l; apply ld_mx; assumption; rfl)
    | (apply r_l; apply ld_subs; assumption; rfl)
    | (apply r_l; apply ld_set; assumption; rfl)
    | (apply r_l; apply ld_node; assumption; rfl)
    | (apply r_l; apply ld_kind'; assumption; rfl)
    | (apply r_l; apply ld_mn'; assumption; rfl)
    | (apply r_l; apply ld_mx'; assumption; rfl)
    | (apply r_l; apply ld_subs'; assumption; rfl)
    | (apply r_l; apply ld_node'; assumption; rfl)
    | (apply r_p (v := .agg [.b false, .i 0, .i 0, .d (.val (.int .u64 0)), .d (.val (.int .u64 0)), .d (.val (.int .u64 0)), .d (.val (.int .u64 0))]); rfl)
    | (apply r_ldL; rfl; rfl; rfl)
    | (apply r_eql; rfl; rfl; (first | (apply decide_eq_true; omega) | (apply decide_eq_false; omega) | rfl))
    | (apply r_lss; rfl; rfl; (first | (apply decide_eq_true; omega) | (apply decide_eq_false; omega) | rfl))
    | (apply r_add; rfl; rfl; rfl; omega)
    | (apply r_lenD; rfl)
    | (apply r_lenL; rfl)
    | (apply r_len0; rfl)
    | (apply r_alloc; ((conv => lhs; simp only [Nat.reduceAdd]) <;> rfl); rfl)
    | (apply r_stL; rfl; rfl; rfl; rfl; (first | rfl | (simp only [z_nil, z_add] <;> rfl)); rfl; rfl)
    | (apply r_p; rfl)
    | (apply r_nilK)
    | (apply r_nil)
    | (apply k_V; rfl)
    | (apply k_P; rfl)
    | (apply k_PL; rfl)
    | (apply k_S; rfl)
    | (apply k_SL; rfl)
    | (apply k_A; rfl)
    | (apply k_T; rfl)
    | (apply k_F; rfl)
    | (apply k_D; rfl; rotate_left; rfl)
    | (apply k_nil)
    | (apply e_ret (vs := [.d (.val _)]); rfl)
    | (apply e_ret; rfl)
    | (apply e_ret' (vs := [.d (.val _)]); rfl)
    | (apply e_ret'; rfl)
    | (apply w_seq)
    | (apply w_ops; ((conv => lhs; simp only [Nat.reduceAdd]) <;> rfl))
    | (apply w_condT; rfl)
    | (apply w_condF; rfl)
    | ((apply w_condS; rfl) <;> (intro h; try simp only [decide_eq_true_eq, decide_eq_false_iff_not, Bool.not_eq_true, Bool.not_eq_false] at h))
    | (apply e_thenN)
    | (apply w_block)
    | (apply e_thenR)
    | (apply e_thenX)
    | (apply e_blkN)
    | (apply e_blkR)
    | (apply e_blkE)
    | (apply w_exit)
    | (apply w_ret)
    | (apply w_skip)
    | (apply e_blkE'; rfl))
    apply w_loopI (S := fun i : Nat => ⟨((((Fr.nil.put 0 (.d (.ptr cs off))).put 2 (.ptrL 1 0)).put 3 (.ptrL 11 0)).put 32 (.i subs.length)).put 33 (.i i), rowsOf [(1, [.b false, .i 0, .i 0, .d (.val (.int .u64 0)), .d (.val (.int .u64 0)), .d (.val (.int .u64 0)), .d (.val (.int .u64 0))]), (11, faC (knC (subs.take i) faE))], Frz.buts 100 [1, 11], 100⟩) (m := fun i => subs.length - i) (I := fun i => i ≤ subs.length) (i0 := 0)
    · exact Nat.zero_le _
    · refine wkM [] [] rfl ?_ ?_ rfl ?_
      · intro p hp
        simp only [List.mem_cons, List.not_mem_nil, or_false] at hp
        rcases hp with rfl | rfl
        · exact ⟨by omega, .inr ⟨rfl, _, rfl, .data rfl⟩⟩
        · exact ⟨by omega, .inr ⟨rfl, _, rfl, .data rfl⟩⟩
      · intro q hq; simp only [List.mem_cons, List.not_mem_nil, or_false] at hq; rcases hq with rfl | rfl <;> rfl
      · repeat' (first
    | exact FWk.nil
    | (apply FWk.i; rfl; (first | rfl | omega | (simp; done)))
    | (apply FWk.sl; rfl; rfl; rfl; rfl; omega; rfl)
    | (apply FWk.ptr; rfl; rfl; rfl; omega; rfl)
    | (apply FWk.d; rfl; rfl)
    | (apply FWk.a; rfl; rfl; rfl)
    | (apply FWk.slN; rfl; omega; rfl))
    intro i K hi hK
    dsimp only
    rcases Nat.lt_or_ge i subs.length with hlt | hge
    · have hg := hpre i hlt
      have hgs := ih' i hlt
      rw [← knC_step subs i hlt] at hg
      have fin : ∀ fr C Z nx, Wk ⟨fr, C, Z, nx⟩ ⟨((((Fr.nil.put 0 (.d (.ptr cs off))).put 2 (.ptrL 1 0)).put 3 (.ptrL 11 0)).put 32 (.i subs.length)).put 33 (.i ((i + 1 : Nat) : Int)), rowsOf [(1, [.b false, .i 0, .i 0, .d (.val (.int .u64 0)), .d (.val (.int .u64 0)), .d (.val (.int .u64 0)), .d (.val (.int .u64 0))]), (11, faC (knC (subs.take (i + 1)) faE))], Frz.buts 100 [1, 11], 100⟩ → K ⟨fr, C, Z, nx⟩ := fun fr C Z nx hw => hK (i + 1) fr C Z nx (by omega) (by omega) hw
      generalize knC (subs.take (i + 1)) faE = f2 at hg fin
      generalize knC (subs.take i) faE = f1 at hg ⊢
      generalize knT subs[i] = g at hg hgs
      repeat' (first
    | (apply r_mvV; rfl)
    | (apply r_mvP; rfl)
    | (apply r_mvPL; rfl)
    | (apply r_mvS; rfl)
    | (apply r_mvSL; rfl)
    | (apply r_mvA; rfl)
    | (apply r_mvT; rfl)
    | (apply r_mvF; rfl)
    | (apply r_mvD; rfl)
    | (apply r_nckD; rfl)
    | (apply r_faddD; rfl)
    | (apply r_nckL; rfl)
    | (apply r_faddL; rfl)
    | (apply r_l; apply ld_kind; assumption; rfl)
    | (apply r_l; apply ld_mn; assumption; rfl)
    | (apply r_l; apply ld_mx; assumption; rfl)
    | (apply r_l; apply ld_subs; assumption; rfl)
    | (apply r_l; apply ld_set; assumption; rfl)
    | (apply r_l; apply ld_node; assumption; rfl)
    | (apply r_l; apply ld_kind'; assumption; rfl)
    | (apply r_l; apply ld_mn'; assumption; rfl)
    | (apply r_l; apply ld_mx'; assumption; rfl)
    | (apply r_l; apply ld_subs'; assumption; rfl)
    | (apply r_l; apply ld_node'; assumption; rfl)
    | (apply r_p; apply ix_sub; rfl; rfl; omega)
    | (apply r_callA (f := 151); rfl; rfl; exact hgs)
    | (apply r_ldL (v := faA f1); rfl; rfl; rfl)
    | (apply r_callA (f := 166) (ags := [faA f1, faA g]); rfl; rfl; exact hg)
    | (apply r_ldL; rfl; rfl; rfl)
    | (apply r_eql; rfl; rfl; (first | (apply decide_eq_true; omega) | (apply decide_eq_false; omega) | rfl))
    | (apply r_lss; rfl; rfl; (first | (apply decide_eq_true; omega) | (apply decide_eq_false; omega) | rfl))
    | (apply r_add; rfl; rfl; rfl; omega)
    | (apply r_lenD; rfl)
    | (apply r_lenL; rfl)
    | (apply r_len0; rfl)
    | (apply r_alloc; ((conv => lhs; simp only [Nat.reduceAdd]) <;> rfl); rfl)
    | (apply r_stL; rfl; rfl; rfl; rfl; (first | rfl | (simp only [z_nil, z_add] <;> rfl)); rfl; rfl)
    | (apply r_p; rfl)
    | (apply r_nilK)
    | (apply r_nil)
    | (apply k_V; rfl)
    | (apply k_P; rfl)
    | (apply k_PL; rfl)
    | (apply k_S; rfl)
    | (apply k_SL; rfl)
    | (apply k_A; rfl)
    | (apply k_T; rfl)
    | (apply k_F; rfl)
    | (apply k_D; rfl; rotate_left; rfl)
    | (apply k_nil)
    | (apply e_ret (vs := [.d (.val _)]); rfl)
    | (apply e_ret; rfl)
    | (apply e_ret' (vs := [.d (.val _)]); rfl)
    | (apply e_ret'; rfl)
    | (apply w_seq)
    | (apply w_ops; ((conv => lhs; simp only [Nat.reduceAdd]) <;> rfl))
    | (apply w_condT; rfl)
    | (apply w_condF; rfl)
    | ((apply w_condS; rfl) <;> (intro h; try simp only [decide_eq_true_eq, decide_eq_false_iff_not, Bool.not_eq_true, Bool.not_eq_false] at h))
    | (apply e_thenN)
    | (apply w_block)
    | (apply e_thenR)
    | (apply e_thenX)
    | (apply e_blkN)
    | (apply e_blkR)
    | (apply e_blkE)
    | (apply w_exit)
    | (apply w_ret)
    | (apply w_skip)
    | (apply e_blkE'; rfl))
      apply e_thenK
      apply fin
      refine wkM [] [] rfl ?_ ?_ rfl ?_
      · intro p hp
        simp only [List.mem_cons, List.not_mem_nil, or_false] at hp
        rcases hp with rfl | rfl
        · exact ⟨by omega, .inr ⟨rfl, _, rfl, .data rfl⟩⟩
        · exact ⟨by omega, .inr ⟨rfl, _, rfl, .data rfl⟩⟩
      · intro q hq; simp only [List.mem_cons, List.not_mem_nil, or_false] at hq; rcases hq with rfl | rfl <;> rfl
      · repeat' (first
    | exact FWk.nil
    | (apply FWk.i; rfl; (first | rfl | omega | (simp; done)))
    | (apply FWk.sl; rfl; rfl; rfl; rfl; omega; rfl)
    | (apply FWk.ptr; rfl; rfl; rfl; omega; rfl)
    | (apply FWk.d; rfl; rfl)
    | (apply FWk.a; rfl; rfl; rfl)
    | (apply FWk.slN; rfl; omega; rfl))
    · rw [List.take_of_length_le hge]
      generalize knC subs faE = f1
      repeat' (first
    | (apply r_mvV; rfl)
    | (apply r_mvP; rfl)
    | (apply r_mvPL; rfl)
    | (apply r_mvS; rfl)
    | (apply r_mvSL; rfl)
    | (apply r_mvA; rfl)
    | (apply r_mvT; rfl)
    | (apply r_mvF; rfl)
    | (apply r_mvD; rfl)
    | (apply r_nckD; rfl)
    | (apply r_faddD; rfl)
    | (apply r_nckL; rfl)
    | (apply r_faddL; rfl)
    | (apply r_l; apply ld_kind; assumption; rfl)
    | (apply r_l; apply ld_mn; assumption; rfl)
    | (apply r_l; apply ld_mx; assumption; rfl)
    | (apply r_l; apply ld_subs; assumption; rfl)
    | (apply r_l; apply ld_set; assumption; rfl)
    | (apply r_l; apply ld_node; assumption; rfl)
    | (apply r_l; apply ld_kind'; assumption; rfl)
    | (apply r_l; apply ld_mn'; assumption; rfl)
    | (apply r_l; apply ld_mx'; assumption; rfl)
    | (apply r_l; apply ld_subs'; assumption; rfl)
    | (apply r_l; apply ld_node'; assumption; rfl)
    | (apply r_ldL (v := faA f1); rfl; rfl; rfl)
    | (apply r_ldL; rfl; rfl; rfl)
    | (apply r_eql; rfl; rfl; (first | (apply decide_eq_true; omega) | (apply decide_eq_false; omega) | rfl))
    | (apply r_lss; rfl; rfl; (first | (apply decide_eq_true; omega) | (apply decide_eq_false; omega) | rfl))
    | (apply r_add; rfl; rfl; rfl; omega)
    | (apply r_lenD; rfl)
    | (apply r_lenL; rfl)
    | (apply r_len0; rfl)
    | (apply r_alloc; ((conv => lhs; simp only [Nat.reduceAdd]) <;> rfl); rfl)
    | (apply r_stL; rfl; rfl; rfl; rfl; (first | rfl | (simp only [z_nil, z_add] <;> rfl)); rfl; rfl)
    | (apply r_p; rfl)
    | (apply r_nilK)
    | (apply r_nil)
    | (apply k_V; rfl)
    | (apply k_P; rfl)
    | (apply k_PL; rfl)
    | (apply k_S; rfl)
    | (apply k_SL; rfl)
    | (apply k_A; rfl)
    | (apply k_T; rfl)
    | (apply k_F; rfl)
    | (apply k_D; rfl; rotate_left; rfl)
    | (apply k_nil)
    | (apply e_ret (vs := [.d (.val _)]); rfl)
    | (apply e_ret; rfl)
    | (apply e_ret' (vs := [.d (.val _)]); rfl)
    | (apply e_ret'; rfl)
    | (apply w_seq)
    | (apply w_ops; ((conv => lhs; simp only [Nat.reduceAdd]) <;> rfl))
    | (apply w_condT; rfl)
    | (apply w_condF; rfl)
    | ((apply w_condS; rfl) <;> (intro h; try simp only [decide_eq_true_eq, decide_eq_false_iff_not, Bool.not_eq_true, Bool.not_eq_false] at h))
    | (apply e_thenN)
    | (apply w_block)
    | (apply e_thenR)
    | (apply e_thenX)
    | (apply e_blkN)
    | (apply e_blkR)
    | (apply e_blkE)
    | (apply w_exit)
    | (apply w_ret)
    | (apply w_skip)
    | (apply e_blkE'; rfl))
      exact .data _ rfl
  by_cases h4 : k = 4
  · have e : knT (.node k a b c d mn mx subs) = knO subs faNo := by rw [knT, if_neg h2, if_neg h3, if_pos h4]
    rw [e]
    have hpre : ∀ i (h : i < subs.length), Good Try.prog 167 [faA (knO (subs.take i) faNo), faA (knT subs[i])] none (faA (faOr (knO (subs.take i) faNo) (knT subs[i]))) none none := fun i h => by
      have h1 := knO_ok (openT (.node k a b c d mn mx subs)).toNat (subs.take i) faNo 0 (Int.le_refl _) (okF_no (Int.le_refl _)) (fun u hu => hsub' u (List.mem_of_mem_take hu))
      rw [Int.zero_add] at h1
      exact or167_good h1 (hsub' _ (List.getElem_mem h)) (Int.mul_nonneg (by omega) (by omega)) (Int.mul_nonneg (by omega) (by omega)) (hsum i h)
    clear ih hsub' hsum e hbt hoks hok hR ht
    refine b151 (by simp) (by simp) (w_init ?_)
    unfold x151
    repeat' (first
    | (apply r_mvV; rfl)
    | (apply r_mvP; rfl)
    | (apply r_mvPL; rfl)
    | (apply r_mvS; rfl)
    | (apply r_mvSL; rfl)
    | (apply r_mvA; rfl)
    | (apply r_mvT; rfl)
    | (apply r_mvF; rfl)
    | (apply r_mvD; rfl)
    | (apply r_nckD; rfl)
    | (apply r_faddD; rfl)
    | (apply r_nckL; rfl)
    | (apply r_faddL; rfl)
    | (apply r_l; apply ld_kind; assumption; rfl)
    | (apply r_l; apply ld_mn; assumption; rfl)
    | (apply r_l; apply ld_mx; assumption; rfl)
    | (apply r_l; apply ld_subs; assumption; rfl)
    | (apply r_l; apply ld_set; assumption; rfl)
    | (apply r_l; apply ld_node; assumption; rfl)
    | (apply r_l; apply ld_kind'; assumption; rfl)
    | (apply r_l; apply ld_mn'; assumption; rfl)
    | (apply r_l; apply ld_mx'; assumption; rfl)
    | (apply r_l; apply ld_subs'; assumption; rfl)
    | (apply r_l; apply ld_node'; assumption; rfl)
    | (apply r_callA (f := 165) (ags := []); rfl; rfl; exact hno)
    | (apply r_ldL; rfl; rfl; rfl)
    | (apply r_eql; rfl; rfl; (first | (apply decide_eq_true; omega) | (apply decide_eq_false; omega) | rfl))
    | (apply r_lss; rfl; rfl; (first | (apply decide_eq_true; omega) | (apply decide_eq_false; omega) | rfl))
    | (apply r_add; rfl; rfl; rfl; omega)
    | (apply r_lenD; rfl)
    | (apply r_lenL; rfl)
    | (apply r_len0; rfl)
    | (apply r_alloc; ((conv => lhs; simp only [Nat.reduceAdd]) <;> rfl); rfl)
    | (apply r_stL; rfl; rfl; rfl; rfl; (first | rfl | (simp only [z_nil, z_add] <;> rfl)); rfl; rfl)
    | (apply r_p; rfl)
    | (apply r_nilK)
    | (apply r_nil)
    | (apply k_V; rfl)
    | (apply k_P; rfl)
    | (apply k_PL; rfl)
    | (apply k_S; rfl)
    | (apply k_SL; rfl)
    | (apply k_A; rfl)
    | (apply k_T; rfl)
    | (apply k_F; rfl)
    | (apply k_D; rfl; rotate_left; rfl)
    | (apply k_nil)
    | (apply e_ret (vs := [.d (.val _)]); rfl)
    | (apply e_ret; rfl)
    | (apply e_ret' (vs := [.d (.val _)]); rfl)
    | (apply e_ret'; rfl)
    | (apply w_seq)
    | (apply w_ops; ((conv => lhs; simp only [Nat.reduceAdd]) <;> rfl))
    | (apply w_condT; rfl)
    | (apply w_condF; rfl)
    | ((apply w_condS; rfl) <;> (intro h; try simp only [decide_eq_true_eq, decide_eq_false_iff_not, Bool.not_eq_true, Bool.not_eq_false] at h))
    | (apply e_thenN)
    | (apply w_block)
    | (apply e_thenR)
    | (apply e_thenX)
    | (apply e_blkN)
    | (apply e_blkR)
    | (apply e_blkE)
    | (apply w_exit)
    | (apply w_ret)
    | (apply w_skip)
    | (apply e_blkE'; rfl))
    apply w_loopI (S := fun i : Nat => ⟨((((Fr.nil.put 0 (.d (.ptr cs off))).put 2 (.ptrL 1 0)).put 5 (.ptrL 13 0)).put 54 (.i subs.length)).put 55 (.i i), rowsOf [(1, [.b false, .i 0, .i 0, .d (.val (.int .u64 0)), .d (.val (.int .u64 0)), .d (.val (.int .u64 0)), .d (.val (.int .u64 0))]), (13, faC (knO (subs.take i) faNo))], Frz.buts 100 [1, 13], 100⟩) (m := fun i => subs.length - i) (I := fun i => i ≤ subs.length) (i0 := 0)
    · exact Nat.zero_le _
    · refine wkM [] [] rfl ?_ ?_ rfl ?_
      · intro p hp
        simp only [List.mem_cons, List.not_mem_nil, or_false] at hp
        rcases hp with rfl | rfl
        · exact ⟨by omega, .inr ⟨rfl, _, rfl, .data rfl⟩⟩
        · exact ⟨by omega, .inr ⟨rfl, _, rfl, .data rfl⟩⟩
      · intro q hq; simp only [List.mem_cons, List.not_mem_nil, or_false] at hq; rcases hq with rfl | rfl <;> rfl
      · repeat' (first
    | exact FWk.nil
    | (apply FWk.i; rfl; (first | rfl | omega | (simp; done)))
    | (apply FWk.sl; rfl; rfl; rfl; rfl; omega; rfl)
    | (apply FWk.ptr; rfl; rfl; rfl; omega; rfl)
    | (apply FWk.d; rfl; rfl)
    | (apply FWk.a; rfl; rfl; rfl)
    | (apply FWk.slN; rfl; omega; rfl))
    intro i K hi hK
    dsimp only
    rcases Nat.lt_or_ge i subs.length with hlt | hge
    · have hg := hpre i hlt
      have hgs := ih' i hlt
      rw [← knO_step subs i hlt] at hg
      have fin : ∀ fr C Z nx, Wk ⟨fr, C, Z, nx⟩ ⟨((((Fr.nil.put 0 (.d (.ptr cs off))).put 2 (.ptrL 1 0)).put 5 (.ptrL 13 0)).put 54 (.i subs.length)).put 55 (.i ((i + 1 : Nat) : Int)), rowsOf [(1, [.b false, .i 0, .i 0, .d (.val (.int .u64 0)), .d (.val (.int .u64 0)), .d (.val (.int .u64 0)), .d (.val (.int .u64 0))]), (13, faC (knO (subs.take (i + 1)) faNo))], Frz.buts 100 [1, 13], 100⟩ → K ⟨fr, C, Z, nx⟩ := fun fr C Z nx hw => hK (i + 1) fr C Z nx (by omega) (by omega) hw
      generalize knO (subs.take (i + 1)) faNo = f2 at hg fin
      generalize knO (subs.take i) faNo = f1 at hg ⊢
      generalize knT subs[i] = g at hg hgs
      repeat' (first
    | (apply r_mvV; rfl)
    | (apply r_mvP; rfl)
    | (apply r_mvPL; rfl)
    | (apply r_mvS; rfl)
    | (apply r_mvSL; rfl)
    | (apply r_mvA; rfl)
    | (apply r_mvT; rfl)
    | (apply r_mvF; rfl)
    | (apply r_mvD; rfl)
    | (apply r_nckD; rfl)
    | (apply r_faddD; rfl)
    | (apply r_nckL; rfl)
    | (apply r_faddL; rfl)
    | (apply r_l; apply ld_kind; assumption; rfl)
    | (apply r_l; apply ld_mn; assumption; rfl)
    | (apply r_l; apply ld_mx; assumption; rfl)
    | (apply r_l; apply ld_subs; assumption; rfl)
    | (apply r_l; apply ld_set; assumption; rfl)
    | (apply r_l; apply ld_node; assumption; rfl)
    | (apply r_l; apply ld_kind'; assumption; rfl)
    | (apply r_l; apply ld_mn'; assumption; rfl)
    | (apply r_l; apply ld_mx'; assumption; rfl)
    | (apply r_l; apply ld_subs'; assumption; rfl)
    | (apply r_l; apply ld_node'; assumption; rfl)
    | (apply r_p; apply ix_sub; rfl; rfl; omega)
    | (apply r_callA (f := 151); rfl; rfl; exact hgs)
    | (apply r_ldL (v := faA f1); rfl; rfl; rfl)
    | (apply r_callA (f := 167) (ags := [faA f1, faA g]); rfl; rfl; exact hg)
    | (apply r_ldL; rfl; rfl; rfl)
    | (apply r_eql; rfl; rfl; (first | (apply decide_eq_true; omega) | (apply decide_eq_false; omega) | rfl))
    | (apply r_lss; rfl; rfl; (first | (apply decide_eq_true; omega) | (apply decide_eq_false; omega) | rfl))
    | (apply r_add; rfl; rfl; rfl; omega)
    | (apply r_lenD; rfl)
    | (apply r_lenL; rfl)
    | (apply r_len0; rfl)
    | (apply r_alloc; ((conv => lhs; simp only [Nat.reduceAdd]) <;> rfl); rfl)
    | (apply r_stL; rfl; rfl; rfl; rfl; (first | rfl | (simp only [z_nil, z_add] <;> rfl)); rfl; rfl)
    | (apply r_p; rfl)
    | (apply r_nilK)
    | (apply r_nil)
    | (apply k_V; rfl)
    | (apply k_P; rfl)
    | (apply k_PL; rfl)
    | (apply k_S; rfl)
    | (apply k_SL; rfl)
    | (apply k_A; rfl)
    | (apply k_T; rfl)
    | (apply k_F; rfl)
    | (apply k_D; rfl; rotate_left; rfl)
    | (apply k_nil)
    | (apply e_ret (vs := [.d (.val _)]); rfl)
    | (apply e_ret; rfl)
    | (apply e_ret' (vs := [.d (.val _)]); rfl)
    | (apply e_ret'; rfl)
    | (apply w_seq)
    | (apply w_ops; ((conv => lhs; simp only [Nat.reduceAdd]) <;> rfl))
    | (apply w_condT; rfl)
    | (apply w_condF; rfl)
    | ((apply w_condS; rfl) <;> (intro h; try simp only [decide_eq_true_eq, decide_eq_false_iff_not, Bool.not_eq_true, Bool.not_eq_false] at h))
    | (apply e_thenN)
    | (apply w_block)
    | (apply e_thenR)
    | (apply e_thenX)
    | (apply e_blkN)
    | (apply e_blkR)
    | (apply e_blkE)
    | (apply w_exit)
    | (apply w_ret)
    | (apply w_skip)
    | (apply e_blkE'; rfl))
      apply e_thenK
      apply fin
      refine wkM [] [] rfl ?_ ?_ rfl ?_
      · intro p hp
        simp only [List.mem_cons, List.not_mem_nil, or_false] at hp
        rcases hp with rfl | rfl
        · exact ⟨by omega, .inr ⟨rfl, _, rfl, .data rfl⟩⟩
        · exact ⟨by omega, .inr ⟨rfl, _, rfl, .data rfl⟩⟩
      · intro q hq; simp only [List.mem_cons, List.not_mem_nil, or_false] at hq; rcases hq with rfl | rfl <;> rfl
      · repeat' (first
    | exact FWk.nil
    | (apply FWk.i; rfl; (first | rfl | omega | (simp; done)))
    | (apply FWk.sl; rfl; rfl; rfl; rfl; omega; rfl)
    | (apply FWk.ptr; rfl; rfl; rfl; omega; rfl)
    | (apply FWk.d; rfl; rfl)
    | (apply FWk.a; rfl; rfl; rfl)
    | (apply FWk.slN; rfl; omega; rfl))
    · rw [List.take_of_length_le hge]
      generalize knO subs faNo = f1
      repeat' (first
    | (apply r_mvV; rfl)
    | (apply r_mvP; rfl)
    | (apply r_mvPL; rfl)
    | (apply r_mvS; rfl)
    | (apply r_mvSL; rfl)
    | (apply r_mvA; rfl)
    | (apply r_mvT; rfl)
    | (apply r_mvF; rfl)
    | (apply r_mvD; rfl)
    | (apply r_nckD; rfl)
    | (apply r_faddD; rfl)
    | (apply r_nckL; rfl)
    | (apply r_faddL; rfl)
    | (apply r_l; apply ld_kind; assumption; rfl)
    | (apply r_l; apply ld_mn; assumption; rfl)
    | (apply r_l; apply ld_mx; assumption; rfl)
    | (apply r_l; apply ld_subs; assumption; rfl)
    | (apply r_l; apply ld_set; assumption; rfl)
    | (apply r_l; apply ld_node; assumption; rfl)
    | (apply r_l; apply ld_kind'; assumption; rfl)
    | (apply r_l; apply ld_mn'; assumption; rfl)
    | (apply r_l; apply ld_mx'; assumption; rfl)
    | (apply r_l; apply ld_subs'; assumption; rfl)
    | (apply r_l; apply ld_node'; assumption; rfl)
    | (apply r_ldL (v := faA f1); rfl; rfl; rfl)
    | (apply r_ldL; rfl; rfl; rfl)
    | (apply r_eql; rfl; rfl; (first | (apply decide_eq_true; omega) | (apply decide_eq_false; omega) | rfl))
    | (apply r_lss; rfl; rfl; (first | (apply decide_eq_true; omega) | (apply decide_eq_false; omega) | rfl))
    | (apply r_add; rfl; rfl; rfl; omega)
    | (apply r_lenD; rfl)
    | (apply r_lenL; rfl)
    | (apply r_len0; rfl)
    | (apply r_alloc; ((conv => lhs; simp only [Nat.reduceAdd]) <;> rfl); rfl)
    | (apply r_stL; rfl; rfl; rfl; rfl; (first | rfl | (simp only [z_nil, z_add] <;> rfl)); rfl; rfl)
    | (apply r_p; rfl)
    | (apply r_nilK)
    | (apply r_nil)
    | (apply k_V; rfl)
    | (apply k_P; rfl)
    | (apply k_PL; rfl)
    | (apply k_S; rfl)
    | (apply k_SL; rfl)
    | (apply k_A; rfl)
    | (apply k_T; rfl)
    | (apply k_F; rfl)
    | (apply k_D; rfl; rotate_left; rfl)
    | (apply k_nil)
    | (apply e_ret (vs := [.d (.val _)]); rfl)
    | (apply e_ret; rfl)
    | (apply e_ret' (vs := [.d (.val _)]); rfl)
    | (apply e_ret'; rfl)
    | (apply w_seq)
    | (apply w_ops; ((conv => lhs; simp only [Nat.reduceAdd]) <;> rfl))
    | (apply w_condT; rfl)
    | (apply w_condF; rfl)
    | ((apply w_condS; rfl) <;> (intro h; try simp only [decide_eq_true_eq, decide_eq_false_iff_not, Bool.not_eq_true, Bool.not_eq_false] at h))
    | (apply e_thenN)
    | (apply w_block)
    | (apply e_thenR)
    | (apply e_thenX)
    | (apply e_blkN)
    | (apply e_blkR)
    | (apply e_blkE)
    | (apply w_exit)
    | (apply w_ret)
    | (apply w_skip)
    | (apply e_blkE'; rfl))
      exact .data _ rfl
  by_cases h5 : k = 5
  · obtain ⟨u, rfl⟩ : ∃ u, subs = [u] := by
      subst h5; exact plainT_5 (okT_plain hok)
    have e : knT (.node k a b c d mn mx [u]) = faTimes (knT u) mn mx := by rw [knT, if_neg h2, if_neg h3, if_neg h4, if_pos h5, knR]
    rw [e]
    have hr := hR h5
    have hg := ih' 0 (by simp)
    simp only [List.getElem_cons_zero, Nat.zero_mul] at hg
    have hX : ∃ X : Int, 0 ≤ X ∧ okF (knT u) X ∧ 20 * X ≤ 16384000000000000000 := by
      subst h5
      have hou : okT u := (okL_iff _).1 hoks u (by simp)
      have h20 := times_bound hok
      obtain ⟨X, x1, x2, x3⟩ := h20
      exact ⟨X, x1, x2, by omega⟩
    obtain ⟨X, x1, x2, x3⟩ := hX
    have h168 := times168_good x2 x1 hr.1 hr.2 x3
    generalize knT u = g at hg h168
    clear ih ih' hsub' hsum hno eno e hbt hoks hok hR ht x2 x1 x3
    refine b151 (by simp) (by simp) (w_init ?_)
    unfold x151
    repeat' (first
    | (apply r_mvV; rfl)
    | (apply r_mvP; rfl)
    | (apply r_mvPL; rfl)
    | (apply r_mvS; rfl)
    | (apply r_mvSL; rfl)
    | (apply r_mvA; rfl)
    | (apply r_mvT; rfl)
    | (apply r_mvF; rfl)
    | (apply r_mvD; rfl)
    | (apply r_nckD; rfl)
    | (apply r_faddD; rfl)
    | (apply r_nckL; rfl)
    | (apply r_faddL; rfl)
    | (apply r_l; apply ld_kind; assumption; rfl)
    | (apply r_l; apply ld_mn; assumption; rfl)
    | (apply r_l; apply ld_mx; assumption; rfl)
    | (apply r_l; apply ld_subs; assumption; rfl)
    | (apply r_l; apply ld_set; assumption; rfl)
    | (apply r_l; apply ld_node; assumption; rfl)
    | (apply r_l; apply ld_kind'; assumption; rfl)
    | (apply r_l; apply ld_mn'; assumption; rfl)
    | (apply r_l; apply ld_mx'; assumption; rfl)
    | (apply r_l; apply ld_subs'; assumption; rfl)
    | (apply r_l; apply ld_node'; assumption; rfl)
    | (apply r_p; apply ix_sub0; rfl; rfl; simp)
    | (apply r_callA (f := 151); rfl; rfl; exact hg)
    | (apply r_callA (f := 168) (ags := [faA g, .i mn, .i mx]); rfl; rfl; exact h168)
    | (apply r_ldL; rfl; rfl; rfl)
    | (apply r_eql; rfl; rfl; (first | (apply decide_eq_true; omega) | (apply decide_eq_false; omega) | rfl))
    | (apply r_lss; rfl; rfl; (first | (apply decide_eq_true; omega) | (apply decide_eq_false; omega) | rfl))
    | (apply r_add; rfl; rfl; rfl; omega)
    | (apply r_lenD; rfl)
    | (apply r_lenL; rfl)
    | (apply r_len0; rfl)
    | (apply r_alloc; ((conv => lhs; simp only [Nat.reduceAdd]) <;> rfl); rfl)
    | (apply r_stL; rfl; rfl; rfl; rfl; (first | rfl | (simp only [z_nil, z_add] <;> rfl)); rfl; rfl)
    | (apply r_p; rfl)
    | (apply r_nilK)
    | (apply r_nil)
    | (apply k_V; rfl)
    | (apply k_P; rfl)
    | (apply k_PL; rfl)
    | (apply k_S; rfl)
    | (apply k_SL; rfl)
    | (apply k_A; rfl)
    | (apply k_T; rfl)
    | (apply k_F; rfl)
    | (apply k_D; rfl; rotate_left; rfl)
    | (apply k_nil)
    | (apply e_ret (vs := [.d (.val _)]); rfl)
    | (apply e_ret; rfl)
    | (apply e_ret' (vs := [.d (.val _)]); rfl)
    | (apply e_ret'; rfl)
    | (apply w_seq)
    | (apply w_ops; ((conv => lhs; simp only [Nat.reduceAdd]) <;> rfl))
    | (apply w_condT; rfl)
    | (apply w_condF; rfl)
    | ((apply w_condS; rfl) <;> (intro h; try simp only [decide_eq_true_eq, decide_eq_false_iff_not, Bool.not_eq_true, Bool.not_eq_false] at h))
    | (apply e_thenN)
    | (apply w_block)
    | (apply e_thenR)
    | (apply e_thenX)
    | (apply e_blkN)
    | (apply e_blkR)
    | (apply e_blkE)
    | (apply w_exit)
    | (apply w_ret)
    | (apply w_skip)
    | (apply e_blkE'; rfl))
    exact .data _ rfl
  · have e : knT (.node k a b c d mn mx subs) = faE := by rw [knT, if_neg h2, if_neg h3, if_neg h4, if_neg h5]
    have e2 : faA faE = .agg [.b false, .i 0, .i 0, .d (.val (.int .u64 0)), .d (.val (.int .u64 0)), .d (.val (.int .u64 0)), .d (.val (.int .u64 0))] := rfl
    rw [e, e2]
    clear ih ih' hsub' hsum hno eno e hbt hoks hok hR ht
    refine b151 (by simp) (by simp) (w_init ?_)
    unfold x151
    repeat' (first
    | (apply r_mvV; rfl)
    | (apply r_mvP; rfl)
    | (apply r_mvPL; rfl)
    | (apply r_mvS; rfl)
    | (apply r_mvSL; rfl)
    | (apply r_mvA; rfl)
    | (apply r_mvT; rfl)
    | (apply r_mvF; rfl)
    | (apply r_mvD; rfl)
    | (apply r_nckD; rfl)
    | (apply r_faddD; rfl)
    | (apply r_nckL; rfl)
    | (apply r_faddL; rfl)
    | (apply r_l; apply ld_kind; assumption; rfl)
    | (apply r_l; apply ld_mn; assumption; rfl)
    | (apply r_l; apply ld_mx; assumption; rfl)
    | (apply r_l; apply ld_subs; assumption; rfl)
    | (apply r_l; apply ld_set; assumption; rfl)
    | (apply r_l; apply ld_node; assumption; rfl)
    | (apply r_l; apply ld_kind'; assumption; rfl)
    | (apply r_l; apply ld_mn'; assumption; rfl)
    | (apply r_l; apply ld_mx'; assumption; rfl)
    | (apply r_l; apply ld_subs'; assumption; rfl)
    | (apply r_l; apply ld_node'; assumption; rfl)
    | (apply r_p (v := .agg [.b false, .i 0, .i 0, .d (.val (.int .u64 0)), .d (.val (.int .u64 0)), .d (.val (.int .u64 0)), .d (.val (.int .u64 0))]); rfl)
    | (apply r_ldL; rfl; rfl; rfl)
    | (apply r_eql; rfl; rfl; (first | (apply decide_eq_true; omega) | (apply decide_eq_false; omega) | rfl))
    | (apply r_lss; rfl; rfl; (first | (apply decide_eq_true; omega) | (apply decide_eq_false; omega) | rfl))
    | (apply r_add; rfl; rfl; rfl; omega)
    | (apply r_lenD; rfl)
    | (apply r_lenL; rfl)
    | (apply r_len0; rfl)
    | (apply r_alloc; ((conv => lhs; simp only [Nat.reduceAdd]) <;> rfl); rfl)
    | (apply r_stL; rfl; rfl; rfl; rfl; (first | rfl | (simp only [z_nil, z_add] <;> rfl)); rfl; rfl)
    | (apply r_p; rfl)
    | (apply r_nilK)
    | (apply r_nil)
    | (apply k_V; rfl)
    | (apply k_P; rfl)
    | (apply k_PL; rfl)
    | (apply k_S; rfl)
    | (apply k_SL; rfl)
    | (apply k_A; rfl)
    | (apply k_T; rfl)
    | (apply k_F; rfl)
    | (apply k_D; rfl; rotate_left; rfl)
    | (apply k_nil)
    | (apply e_ret (vs := [.d (.val _)]); rfl)
    | (apply e_ret; rfl)
    | (apply e_ret' (vs := [.d (.val _)]); rfl)
    | (apply e_ret'; rfl)
    | (apply w_seq)
    | (apply w_ops; ((conv => lhs; simp only [Nat.reduceAdd]) <;> rfl))
    | (apply w_condT; rfl)
    | (apply w_condF; rfl)
    | ((apply w_condS; rfl) <;> (intro h; try simp only [decide_eq_true_eq, decide_eq_false_iff_not, Bool.not_eq_true, Bool.not_eq_false] at h))
    | (apply e_thenN)
    | (apply w_block)
    | (apply e_thenR)
    | (apply e_thenX)
    | (apply e_blkN)
    | (apply e_blkR)
    | (apply e_blkE)
    | (apply w_exit)
    | (apply w_ret)
    | (apply w_skip)
    | (apply e_blkE'; rfl))
    exact .data _ rfl
end Go.Sv
namespace Go.Sv
open Go Go.Proofs
def x121 : XC := (.seq (.ops 3 [
    (0, ⟨(some 1), none, .box (.t 0)⟩),
    (1, ⟨(some 2), none, .alloc [(.bool false), (.int .i64 0), (.int .i64 0), (.int .u64 0), (.int .u64 0), (.int .u64 0), (.int .u64 0)]⟩),
    (2, ⟨(some 3), none, .mv (.k (.d (.val (.bool false))))⟩)] (some [1, 2])) (.seq (.seq (.ops 3 [
    (0, ⟨(some 4), none, .load (some 8) (.t 1)⟩),
    (1, ⟨(some 5), none, .call 84 [(.t 4)] none false⟩),
    (2, ⟨(some 6), none, .un .not (.t 5)⟩)] (some [1, 2, 6])) (.cond (.t 6) (.seq (.ops 3 [
    (0, ⟨(some 7), none, .build [(.bool false), (.int .i64 0), (.int .i64 0), (.int .u64 0), (.int .u64 0), (.int .u64 0), (.int .u64 0)] []⟩),
    (1, ⟨none, none, .store 7 (.t 2) (.t 7)⟩),
    (2, ⟨(some 3), none, .mv (.k (.d (.val (.bool false))))⟩)] (some [2, 3])) .ret) .skip)) (.seq (.ops 3 [
    (0, ⟨(some 8), none, .call 151 [(.t 1)] none false⟩),
    (1, ⟨none, none, .store 7 (.t 2) (.t 8)⟩),
    (2, ⟨(some 3), none, .mv (.k (.d (.val (.bool true))))⟩)] (some [2, 3])) .ret)))
def md121 : FuncId → Option Nat × Bool
  | _ => (none, false)
def od121 : Nat → List (List Nat) × List Nat × Option (List Nat)
  | 0 => ([], [], some [1, 2])
  | 1 => ([], [], some [1, 2, 6])
  | 2 => ([], [], some [2, 3])
  | 3 => ([], [], some [2, 3])
  | _ => ([], [], none)
theorem b121 {ags : List AV} {row : Option (List DV)} {r : AV} {row' nw : Option (List DV)} (hal : ags.length ≤ 9) (hrow : row'.isSome = true → row.isSome = true) (h : xwp Try.prog x121 (retK [.cell 2 (some 7), .tmp 3] row.isSome r row' nw) (St.init ags row)) : Good Try.prog 121 ags row r row' nw :=
  good_of_body' (md := md121) (od := od121) Try.f121 (by kernel_rfl) (by kernel_rfl) (by kernel_rfl) (by kernel_rfl) (by kernel_rfl) hal hrow h

def x69 : XC := (.seq (.ops 2 [
    (0, ⟨(some 1), none, .box (.t 0)⟩),
    (1, ⟨(some 2), none, .mv (.k (.d (.val (.bool false))))⟩)] (some [1])) (.seq (.ops 8 [
    (0, ⟨(some 6), none, .load (some 8) (.t 1)⟩),
    (1, ⟨(some 7), none, .call 121 [(.t 6)] none false⟩),
    (2, ⟨(some 5), none, .mv (.t 7)⟩),
    (3, ⟨(some 8), none, .ext (.t 5) 0⟩),
    (4, ⟨(some 9), none, .ext (.t 5) 1⟩),
    (5, ⟨(some 3), none, .alloc [(.bool false), (.int .i64 0), (.int .i64 0), (.int .u64 0), (.int .u64 0), (.int .u64 0), (.int .u64 0)]⟩),
    (6, ⟨none, none, .store 7 (.t 3) (.t 8)⟩),
    (7, ⟨(some 4), none, .mv (.t 9)⟩)] (some [3, 4])) (.seq (.ops 12 [
    (0, ⟨(some 10), none, .mv (.t 4)⟩),
    (1, ⟨(some 11), none, .mv (.t 10)⟩),
    (2, ⟨(some 12), (some (11, true)), .fadd 0 (.t 3)⟩),
    (3, ⟨(some 13), (some (11, true)), .load none (.t 12)⟩),
    (4, ⟨(some 14), (some (11, true)), .un .not (.t 13)⟩),
    (5, ⟨(some 15), none, .pick (.t 11) (.t 14) (.k (.d (.val (.bool false))))⟩),
    (6, ⟨(some 16), none, .mv (.t 15)⟩),
    (7, ⟨(some 17), (some (16, true)), .fadd 1 (.t 3)⟩),
    (8, ⟨(some 18), (some (16, true)), .load none (.t 17)⟩),
    (9, ⟨(some 19), (some (16, true)), .arith .eql (.t 18) (.k (.d (.val (.int .i64 0))))⟩),
    (10, ⟨(some 20), none, .pick (.t 16) (.t 19) (.k (.d (.val (.bool false))))⟩),
    (11, ⟨(some 2), none, .mv (.t 20)⟩)] (some [2])) .ret)))
def md69 : FuncId → Option Nat × Bool
  | _ => (none, false)
def od69 : Nat → List (List Nat) × List Nat × Option (List Nat)
  | 0 => ([], [], some [1])
  | 1 => ([], [], some [3, 4])
  | 2 => ([], [], some [2])
  | _ => ([], [], none)
theorem b69 {ags : List AV} {row : Option (List DV)} {r : AV} {row' nw : Option (List DV)} (hal : ags.length ≤ 21) (hrow : row'.isSome = true → row.isSome = true) (h : xwp Try.prog x69 (retK [.tmp 2] row.isSome r row' nw) (St.init ags row)) : Good Try.prog 69 ags row r row' nw :=
  good_of_body' (md := md69) (od := od69) Try.f69 (by kernel_rfl) (by kernel_rfl) (by kernel_rfl) (by kernel_rfl) (by kernel_rfl) hal hrow h

def x70 : XC := (.seq (.ops 2 [
    (0, ⟨(some 1), none, .box (.t 0)⟩),
    (1, ⟨(some 2), none, .alloc [(.int .u64 0), (.int .u64 0), (.int .u64 0), (.int .u64 0)]⟩)] (some [1, 2])) (.seq (.ops 8 [
    (0, ⟨(some 6), none, .load (some 8) (.t 1)⟩),
    (1, ⟨(some 7), none, .call 121 [(.t 6)] none false⟩),
    (2, ⟨(some 5), none, .mv (.t 7)⟩),
    (3, ⟨(some 8), none, .ext (.t 5) 0⟩),
    (4, ⟨(some 9), none, .ext (.t 5) 1⟩),
    (5, ⟨(some 3), none, .alloc [(.bool false), (.int .i64 0), (.int .i64 0), (.int .u64 0), (.int .u64 0), (.int .u64 0), (.int .u64 0)]⟩),
    (6, ⟨none, none, .store 7 (.t 3) (.t 8)⟩),
    (7, ⟨(some 4), none, .mv (.t 9)⟩)] (some [2, 3])) (.seq (.ops 3 [
    (0, ⟨(some 10), none, .fadd 3 (.t 3)⟩),
    (1, ⟨(some 11), none, .load (some 4) (.t 10)⟩),
    (2, ⟨none, none, .store 4 (.t 2) (.t 11)⟩)] (some [2])) .ret)))
def md70 : FuncId → Option Nat × Bool
  | _ => (none, false)
def od70 : Nat → List (List Nat) × List Nat × Option (List Nat)
  | 0 => ([], [], some [1, 2])
  | 1 => ([], [], some [2, 3])
  | 2 => ([], [], some [2])
  | _ => ([], [], none)
theorem b70 {ags : List AV} {row : Option (List DV)} {r : AV} {row' nw : Option (List DV)} (hal : ags.length ≤ 12) (hrow : row'.isSome = true → row.isSome = true) (h : xwp Try.prog x70 (retK [.cell 2 (some 4)] row.isSome r row' nw) (St.init ags row)) : Good Try.prog 70 ags row r row' nw :=
  good_of_body' (md := md70) (od := od70) Try.f70 (by kernel_rfl) (by kernel_rfl) (by kernel_rfl) (by kernel_rfl) (by kernel_rfl) hal hrow h

def x66 : XC := (.seq (.ops 3 [
    (0, ⟨(some 1), none, .box (.t 0)⟩),
    (1, ⟨(some 2), none, .mv (.k (.d (.val (.int .i64 0))))⟩),
    (2, ⟨(some 3), none, .mv (.k (.d (.val (.int .i64 0))))⟩)] (some [1])) (.seq (.ops 8 [
    (0, ⟨(some 7), none, .load (some 8) (.t 1)⟩),
    (1, ⟨(some 8), none, .call 121 [(.t 7)] none false⟩),
    (2, ⟨(some 6), none, .mv (.t 8)⟩),
    (3, ⟨(some 9), none, .ext (.t 6) 0⟩),
    (4, ⟨(some 10), none, .ext (.t 6) 1⟩),
    (5, ⟨(some 4), none, .alloc [(.bool false), (.int .i64 0), (.int .i64 0), (.int .u64 0), (.int .u64 0), (.int .u64 0), (.int .u64 0)]⟩),
    (6, ⟨none, none, .store 7 (.t 4) (.t 9)⟩),
    (7, ⟨(some 5), none, .mv (.t 10)⟩)] (some [4])) (.seq (.ops 6 [
    (0, ⟨(some 11), none, .fadd 1 (.t 4)⟩),
    (1, ⟨(some 12), none, .load none (.t 11)⟩),
    (2, ⟨(some 13), none, .fadd 2 (.t 4)⟩),
    (3, ⟨(some 14), none, .load none (.t 13)⟩),
    (4, ⟨(some 2), none, .mv (.t 12)⟩),
    (5, ⟨(some 3), none, .mv (.t 14)⟩)] (some [2, 3])) .ret)))
def md66 : FuncId → Option Nat × Bool
  | _ => (none, false)
def od66 : Nat → List (List Nat) × List Nat × Option (List Nat)
  | 0 => ([], [], some [1])
  | 1 => ([], [], some [4])
  | 2 => ([[], [0], [], [2], [0, 1], [0, 1, 2, 3, 4]], [0, 1, 2, 3, 4, 5], some [2, 3])
  | _ => ([], [], none)
theorem b66 {ags : List AV} {row : Option (List DV)} {r : AV} {row' nw : Option (List DV)} (hal : ags.length ≤ 15) (hrow : row'.isSome = true → row.isSome = true) (h : xwp Try.prog x66 (retK [.tmp 2, .tmp 3] row.isSome r row' nw) (St.init ags row)) : Good Try.prog 66 ags row r row' nw :=
  good_of_body' (md := md66) (od := od66) Try.f66 (by kernel_rfl) (by kernel_rfl) (by kernel_rfl) (by kernel_rfl) (by kernel_rfl) hal hrow h

def x71 : XC := (.seq (.ops 2 [
    (0, ⟨(some 1), none, .box (.t 0)⟩),
    (1, ⟨(some 2), none, .mv (.k (.d (.val (.bool false))))⟩)] (some [1])) (.seq (.ops 8 [
    (0, ⟨(some 6), none, .load (some 8) (.t 1)⟩),
    (1, ⟨(some 7), none, .call 121 [(.t 6)] none false⟩),
    (2, ⟨(some 5), none, .mv (.t 7)⟩),
    (3, ⟨(some 8), none, .ext (.t 5) 0⟩),
    (4, ⟨(some 9), none, .ext (.t 5) 1⟩),
    (5, ⟨(some 3), none, .alloc [(.bool false), (.int .i64 0), (.int .i64 0), (.int .u64 0), (.int .u64 0), (.int .u64 0), (.int .u64 0)]⟩),
    (6, ⟨none, none, .store 7 (.t 3) (.t 8)⟩),
    (7, ⟨(some 4), none, .mv (.t 9)⟩)] (some [3])) (.seq (.ops 3 [
    (0, ⟨(some 10), none, .fadd 0 (.t 3)⟩),
    (1, ⟨(some 11), none, .load none (.t 10)⟩),
    (2, ⟨(some 2), none, .mv (.t 11)⟩)] (some [2])) .ret)))
def md71 : FuncId → Option Nat × Bool
  | _ => (none, false)
def od71 : Nat → List (List Nat) × List Nat × Option (List Nat)
  | 0 => ([], [], some [1])
  | 1 => ([], [], some [3])
  | 2 => ([], [], some [2])
  | _ => ([], [], none)
theorem b71 {ags : List AV} {row : Option (List DV)} {r : AV} {row' nw : Option (List DV)} (hal : ags.length ≤ 12) (hrow : row'.isSome = true → row.isSome = true) (h : xwp Try.prog x71 (retK [.tmp 2] row.isSome r row' nw) (St.init ags row)) : Good Try.prog 71 ags row r row' nw :=
  good_of_body' (md := md71) (od := od71) Try.f71 (by kernel_rfl) (by kernel_rfl) (by kernel_rfl) (by kernel_rfl) (by kernel_rfl) hal hrow h

set_option maxRecDepth 100000
set_option maxHeartbeats 4000000
attribute [local irreducible] W E R KP thenK blockK retK Good xwp aRun
def ofK (t : T) : Fa := if fitsT t 12 = true then knT t else faE
theorem of121_good (t : T) (hc : t.cnt ≤ 200) (hok : fitsT t 12 = true → okT t) : Good Try.prog 121 [nodeA t] none (.tup [faA (ofK t), .b (fitsT t 12)]) none none := by
  have hright := right_good t (by omega)
  have hk := fun (h : fitsT t 12 = true) => know151_good 1000000 t (encN t) 0 (NodeAt.self _) (by omega) (Nat.le_refl _) (hok h) (bT_few hc h)
  have eE : faA faE = .agg [.b false, .i 0, .i 0, .d (.val (.int .u64 0)), .d (.val (.int .u64 0)), .d (.val (.int .u64 0)), .d (.val (.int .u64 0))] := rfl
  unfold ofK
  rcases Bool.eq_false_or_eq_true (fitsT t 12) with hR | hR
  case inr =>
    rw [hR] at hright ⊢
    rw [if_neg (by simp), eE]
    obtain ⟨k, a, b, c, d, mn, mx, subs⟩ := t
    have e0 : nodeA (T.node k a b c d mn mx subs) = .agg [.i k, .d (.val (.int .u64 a)), .d (.val (.int .u64 b)), .d (.val (.int .u64 c)), .d (.val (.int .u64 d)), .i mn, .i mx, .d (.sl (encL subs) subs.length)] := rfl
    rw [e0] at hright ⊢
    refine b121 (by simp) (by simp) (w_init ?_)
    unfold x121
    repeat' (first
    | (apply r_mvV; rfl)
    | (apply r_mvP; rfl)
    | (apply r_mvPL; rfl)
    | (apply r_mvS; rfl)
    | (apply r_mvSL; rfl)
    | (apply r_mvA; rfl)
    | (apply r_mvT; rfl)
    | (apply r_mvF; rfl)
    | (apply r_mvD; rfl)
    | (apply r_l; apply ld_kind; assumption; rfl)
    | (apply r_l; apply ld_mn; assumption; rfl)
    | (apply r_l; apply ld_mx; assumption; rfl)
    | (apply r_l; apply ld_subs; assumption; rfl)
    | (apply r_l; apply ld_set; assumption; rfl)
    | (apply r_l; apply ld_node; assumption; rfl)
    | (apply r_l; apply ld_kind'; assumption; rfl)
    | (apply r_l; apply ld_mn'; assumption; rfl)
    | (apply r_l; apply ld_mx'; assumption; rfl)
    | (apply r_l; apply ld_subs'; assumption; rfl)
    | (apply r_l; apply ld_node'; assumption; rfl)
    | (apply r_callA; rfl; rfl; exact hright)
    | (apply r_p (v := .agg [.b false, .i 0, .i 0, .d (.val (.int .u64 0)), .d (.val (.int .u64 0)), .d (.val (.int .u64 0)), .d (.val (.int .u64 0))]); rfl)
    | (apply r_ldL; rfl; rfl; rfl)
    | (apply r_not; rfl; rfl)
    | (apply r_alloc; ((conv => lhs; simp only [Nat.reduceAdd]) <;> rfl); rfl)
    | (apply r_box; ((conv => lhs; simp only [Nat.reduceAdd]) <;> rfl); rfl; rfl; rfl)
    | (apply r_stL; rfl; rfl; rfl; rfl; (first | rfl | (simp only [z_nil, z_add] <;> rfl)); rfl; rfl)
    | (apply r_p; rfl)
    | (apply r_nilK)
    | (apply r_nil)
    | (apply k_V; rfl)
    | (apply k_P; rfl)
    | (apply k_PL; rfl)
    | (apply k_S; rfl)
    | (apply k_SL; rfl)
    | (apply k_A; rfl)
    | (apply k_T; rfl)
    | (apply k_F; rfl)
    | (apply k_D; rfl; rotate_left; rfl)
    | (apply k_nil)
    | (apply e_ret (vs := [.d (.val _)]); rfl)
    | (apply e_ret; rfl)
    | (apply e_ret' (vs := [.d (.val _)]); rfl)
    | (apply e_ret'; rfl)
    | (apply w_seq)
    | (apply w_ops; ((conv => lhs; simp only [Nat.reduceAdd]) <;> rfl))
    | (apply w_condT; rfl)
    | (apply w_condF; rfl)
    | ((apply w_condS; rfl) <;> (intro h; try simp only [decide_eq_true_eq, decide_eq_false_iff_not, Bool.not_eq_true, Bool.not_eq_false] at h))
    | (apply e_thenN)
    | (apply w_block)
    | (apply e_thenR)
    | (apply e_thenX)
    | (apply e_blkN)
    | (apply e_blkR)
    | (apply e_blkE)
    | (apply w_exit)
    | (apply w_ret)
    | (apply w_skip)
    | (apply e_blkE'; rfl))
    exact .data _ rfl
  have hk := hk hR
  rw [hR] at hright ⊢
  rw [if_pos rfl]
  generalize knT t = f at hk
  obtain ⟨k, a, b, c, d, mn, mx, subs⟩ := t
  have e0 : nodeA (T.node k a b c d mn mx subs) = .agg [.i k, .d (.val (.int .u64 a)), .d (.val (.int .u64 b)), .d (.val (.int .u64 c)), .d (.val (.int .u64 d)), .i mn, .i mx, .d (.sl (encL subs) subs.length)] := rfl
  rw [e0] at hright ⊢
  refine b121 (by simp) (by simp) (w_init ?_)
  unfold x121
  repeat' (first
    | (apply r_mvV; rfl)
    | (apply r_mvP; rfl)
    | (apply r_mvPL; rfl)
    | (apply r_mvS; rfl)
    | (apply r_mvSL; rfl)
    | (apply r_mvA; rfl)
    | (apply r_mvT; rfl)
    | (apply r_mvF; rfl)
    | (apply r_mvD; rfl)
    | (apply r_l; apply ld_kind; assumption; rfl)
    | (apply r_l; apply ld_mn; assumption; rfl)
    | (apply r_l; apply ld_mx; assumption; rfl)
    | (apply r_l; apply ld_subs; assumption; rfl)
    | (apply r_l; apply ld_set; assumption; rfl)
    | (apply r_l; apply ld_node; assumption; rfl)
    | (apply r_l; apply ld_kind'; assumption; rfl)
    | (apply r_l; apply ld_mn'; assumption; rfl)
    | (apply r_l; apply ld_mx'; assumption; rfl)
    | (apply r_l; apply ld_subs'; assumption; rfl)
    | (apply r_l; apply ld_node'; assumption; rfl)
    | (apply r_callA; rfl; rfl; exact hright)
    | (apply r_call (bs := [.d (.ptr (encN (.node k a b c d mn mx subs)) 0)]) (us := [1]); rfl; rfl; exact hk; rfl)
    | (apply r_ldL; rfl; rfl; rfl)
    | (apply r_not; rfl; rfl)
    | (apply r_alloc; ((conv => lhs; simp only [Nat.reduceAdd]) <;> rfl); rfl)
    | (apply r_box; ((conv => lhs; simp only [Nat.reduceAdd]) <;> rfl); rfl; rfl; rfl)
    | (apply r_stL; rfl; rfl; rfl; rfl; (first | rfl | (simp only [z_nil, z_add] <;> rfl)); rfl; rfl)
    | (apply r_p; rfl)
    | (apply r_nilK)
    | (apply r_nil)
    | (apply k_V; rfl)
    | (apply k_P; rfl)
    | (apply k_PL; rfl)
    | (apply k_S; rfl)
    | (apply k_SL; rfl)
    | (apply k_A; rfl)
    | (apply k_T; rfl)
    | (apply k_F; rfl)
    | (apply k_D; rfl; rotate_left; rfl)
    | (apply k_nil)
    | (apply e_ret (vs := [.d (.val _)]); rfl)
    | (apply e_ret; rfl)
    | (apply e_ret' (vs := [.d (.val _)]); rfl)
    | (apply e_ret'; rfl)
    | (apply w_seq)
    | (apply w_ops; ((conv => lhs; simp only [Nat.reduceAdd]) <;> rfl))
    | (apply w_condT; rfl)
    | (apply w_condF; rfl)
    | ((apply w_condS; rfl) <;> (intro h; try simp only [decide_eq_true_eq, decide_eq_false_iff_not, Bool.not_eq_true, Bool.not_eq_false] at h))
    | (apply e_thenN)
    | (apply w_block)
    | (apply e_thenR)
    | (apply e_thenX)
    | (apply e_blkN)
    | (apply e_blkR)
    | (apply e_blkE)
    | (apply w_exit)
    | (apply w_ret)
    | (apply w_skip)
    | (apply e_blkE'; rfl))
  exact .data _ rfl
def nulF (t : T) : Bool := fitsT t 12 && (!(ofK t).no && decide ((ofK t).lo = 0))
theorem null69_good (t : T) (hc : t.cnt ≤ 200) (hok : fitsT t 12 = true → okT t) : Good Try.prog 69 [nodeA t] none (.b (nulF t)) none none := by
  have h := of121_good t hc hok
  unfold nulF
  generalize fitsT t 12 = q at h
  generalize ofK t = f at h
  obtain ⟨fn, fl, fh, fa, fb, fc, fd⟩ := f
  have e : faA ⟨fn, fl, fh, fa, fb, fc, fd⟩ = .agg [.b fn, .i fl, .i fh, .d (.val (.int .u64 fa)), .d (.val (.int .u64 fb)), .d (.val (.int .u64 fc)), .d (.val (.int .u64 fd))] := rfl
  rw [e] at h
  dsimp only
  obtain ⟨k, a, b, c, d, mn, mx, subs⟩ := t
  have e0 : nodeA (T.node k a b c d mn mx subs) = .agg [.i k, .d (.val (.int .u64 a)), .d (.val (.int .u64 b)), .d (.val (.int .u64 c)), .d (.val (.int .u64 d)), .i mn, .i mx, .d (.sl (encL subs) subs.length)] := rfl
  rw [e0] at h ⊢
  cases q with
  | false =>
    refine b69 (by simp) (by simp) (w_init ?_)
    unfold x69
    repeat' (first
    | (apply r_mvV; rfl)
    | (apply r_mvP; rfl)
    | (apply r_mvPL; rfl)
    | (apply r_mvS; rfl)
    | (apply r_mvSL; rfl)
    | (apply r_mvA; rfl)
    | (apply r_mvT; rfl)
    | (apply r_mvF; rfl)
    | (apply r_mvD; rfl)
    | (apply r_faddD; rfl)
    | (apply r_faddL; rfl)
    | (apply r_l; apply ld_kind; assumption; rfl)
    | (apply r_l; apply ld_mn; assumption; rfl)
    | (apply r_l; apply ld_mx; assumption; rfl)
    | (apply r_l; apply ld_subs; assumption; rfl)
    | (apply r_l; apply ld_set; assumption; rfl)
    | (apply r_l; apply ld_node; assumption; rfl)
    | (apply r_l; apply ld_kind'; assumption; rfl)
    | (apply r_l; apply ld_mn'; assumption; rfl)
    | (apply r_l; apply ld_mx'; assumption; rfl)
    | (apply r_l; apply ld_subs'; assumption; rfl)
    | (apply r_l; apply ld_node'; assumption; rfl)
    | (apply r_callA; rfl; rfl; exact h)
    | (apply r_ldL; rfl; rfl; rfl)
    | (apply r_eql; rfl; rfl; (first | (apply decide_eq_true; omega) | (apply decide_eq_false; omega) | rfl))
    | (apply r_not; rfl; rfl)
    | (apply r_pickT; rfl)
    | (apply r_pickF; rfl)
    | (apply r_ext; rfl; rfl)
    | (apply r_gT; rfl)
    | (apply r_gF'; rfl; rfl)
    | (apply r_gN'; rfl)
    | ((apply r_gS (o := default); rfl) <;> (intro h; try simp only [decide_eq_true_eq, decide_eq_false_iff_not, Bool.not_eq_true, Bool.not_eq_false] at h))
    | (apply r_alloc; ((conv => lhs; simp only [Nat.reduceAdd]) <;> rfl); rfl)
    | (apply r_box; ((conv => lhs; simp only [Nat.reduceAdd]) <;> rfl); rfl; rfl; rfl)
    | (apply r_stL; rfl; rfl; rfl; rfl; (first | rfl | (simp only [z_nil, z_add] <;> rfl)); rfl; rfl)
    | (apply r_nilK)
    | (apply r_nil)
    | (apply k_V; rfl)
    | (apply k_P; rfl)
    | (apply k_PL; rfl)
    | (apply k_S; rfl)
    | (apply k_SL; rfl)
    | (apply k_A; rfl)
    | (apply k_T; rfl)
    | (apply k_F; rfl)
    | (apply k_D; rfl; rotate_left; rfl)
    | (apply k_nil)
    | (apply e_ret (vs := [.d (.val _)]); rfl)
    | (apply e_ret; rfl)
    | (apply e_ret' (vs := [.d (.val _)]); rfl)
    | (apply e_ret'; rfl)
    | (apply w_seq)
    | (apply w_ops; ((conv => lhs; simp only [Nat.reduceAdd]) <;> rfl))
    | (apply e_thenN)
    | (apply w_block)
    | (apply e_thenR)
    | (apply e_thenX)
    | (apply e_blkN)
    | (apply e_blkR)
    | (apply e_blkE)
    | (apply w_exit)
    | (apply w_ret)
    | (apply w_skip)
    | (apply e_blkE'; rfl))
    exact retB rfl
  | true =>
  cases fn with
  | true =>
    refine b69 (by simp) (by simp) (w_init ?_)
    unfold x69
    repeat' (first
    | (apply r_mvV; rfl)
    | (apply r_mvP; rfl)
    | (apply r_mvPL; rfl)
    | (apply r_mvS; rfl)
    | (apply r_mvSL; rfl)
    | (apply r_mvA; rfl)
    | (apply r_mvT; rfl)
    | (apply r_mvF; rfl)
    | (apply r_mvD; rfl)
    | (apply r_faddD; rfl)
    | (apply r_faddL; rfl)
    | (apply r_l; apply ld_kind; assumption; rfl)
    | (apply r_l; apply ld_mn; assumption; rfl)
    | (apply r_l; apply ld_mx; assumption; rfl)
    | (apply r_l; apply ld_subs; assumption; rfl)
    | (apply r_l; apply ld_set; assumption; rfl)
    | (apply r_l; apply ld_node; assumption; rfl)
    | (apply r_l; apply ld_kind'; assumption; rfl)
    | (apply r_l; apply ld_mn'; assumption; rfl)
    | (apply r_l; apply ld_mx'; assumption; rfl)
    | (apply r_l; apply ld_subs'; assumption; rfl)
    | (apply r_l; apply ld_node'; assumption; rfl)
    | (apply r_callA; rfl; rfl; exact h)
    | (apply r_ldL (v := .b true); rfl; rfl; rfl)
    | (apply r_ldL; rfl; rfl; rfl)
    | (apply r_eql; rfl; rfl; (first | (apply decide_eq_true; omega) | (apply decide_eq_false; omega) | rfl))
    | (apply r_not; rfl; rfl)
    | (apply r_pickT; rfl)
    | (apply r_pickF; rfl)
    | (apply r_ext; rfl; rfl)
    | (apply r_gT; rfl)
    | (apply r_gF'; rfl; rfl)
    | (apply r_gN'; rfl)
    | ((apply r_gS (o := default); rfl) <;> (intro h; try simp only [decide_eq_true_eq, decide_eq_false_iff_not, Bool.not_eq_true, Bool.not_eq_false] at h))
    | (apply r_alloc; ((conv => lhs; simp only [Nat.reduceAdd]) <;> rfl); rfl)
    | (apply r_box; ((conv => lhs; simp only [Nat.reduceAdd]) <;> rfl); rfl; rfl; rfl)
    | (apply r_stL; rfl; rfl; rfl; rfl; (first | rfl | (simp only [z_nil, z_add] <;> rfl)); rfl; rfl)
    | (apply r_nilK)
    | (apply r_nil)
    | (apply k_V; rfl)
    | (apply k_P; rfl)
    | (apply k_PL; rfl)
    | (apply k_S; rfl)
    | (apply k_SL; rfl)
    | (apply k_A; rfl)
    | (apply k_T; rfl)
    | (apply k_F; rfl)
    | (apply k_D; rfl; rotate_left; rfl)
    | (apply k_nil)
    | (apply e_ret (vs := [.d (.val _)]); rfl)
    | (apply e_ret; rfl)
    | (apply e_ret' (vs := [.d (.val _)]); rfl)
    | (apply e_ret'; rfl)
    | (apply w_seq)
    | (apply w_ops; ((conv => lhs; simp only [Nat.reduceAdd]) <;> rfl))
    | (apply e_thenN)
    | (apply w_block)
    | (apply e_thenR)
    | (apply e_thenX)
    | (apply e_blkN)
    | (apply e_blkR)
    | (apply e_blkE)
    | (apply w_exit)
    | (apply w_ret)
    | (apply w_skip)
    | (apply e_blkE'; rfl))
    exact retB rfl
  | false =>
    refine b69 (by simp) (by simp) (w_init ?_)
    unfold x69
    by_cases hz : fl = 0
    · repeat' (first
    | (apply r_mvV; rfl)
    | (apply r_mvP; rfl)
    | (apply r_mvPL; rfl)
    | (apply r_mvS; rfl)
    | (apply r_mvSL; rfl)
    | (apply r_mvA; rfl)
    | (apply r_mvT; rfl)
    | (apply r_mvF; rfl)
    | (apply r_mvD; rfl)
    | (apply r_faddD; rfl)
    | (apply r_faddL; rfl)
    | (apply r_l; apply ld_kind; assumption; rfl)
    | (apply r_l; apply ld_mn; assumption; rfl)
    | (apply r_l; apply ld_mx; assumption; rfl)
    | (apply r_l; apply ld_subs; assumption; rfl)
    | (apply r_l; apply ld_set; assumption; rfl)
    | (apply r_l; apply ld_node; assumption; rfl)
    | (apply r_l; apply ld_kind'; assumption; rfl)
    | (apply r_l; apply ld_mn'; assumption; rfl)
    | (apply r_l; apply ld_mx'; assumption; rfl)
    | (apply r_l; apply ld_subs'; assumption; rfl)
    | (apply r_l; apply ld_node'; assumption; rfl)
    | (apply r_callA; rfl; rfl; exact h)
    | (apply r_ldL (v := .b false); rfl; rfl; rfl)
    | (apply r_ldL (v := .i fl); rfl; rfl; rfl)
    | (apply r_ldL; rfl; rfl; rfl)
    | (apply r_eql; rfl; rfl; (first | (apply decide_eq_true; omega) | (apply decide_eq_false; omega) | rfl))
    | (apply r_not; rfl; rfl)
    | (apply r_pickT; rfl)
    | (apply r_pickF; rfl)
    | (apply r_ext; rfl; rfl)
    | (apply r_gT; rfl)
    | (apply r_gF'; rfl; rfl)
    | (apply r_gN'; rfl)
    | ((apply r_gS (o := default); rfl) <;> (intro h; try simp only [decide_eq_true_eq, decide_eq_false_iff_not, Bool.not_eq_true, Bool.not_eq_false] at h))
    | (apply r_alloc; ((conv => lhs; simp only [Nat.reduceAdd]) <;> rfl); rfl)
    | (apply r_box; ((conv => lhs; simp only [Nat.reduceAdd]) <;> rfl); rfl; rfl; rfl)
    | (apply r_stL; rfl; rfl; rfl; rfl; (first | rfl | (simp only [z_nil, z_add] <;> rfl)); rfl; rfl)
    | (apply r_nilK)
    | (apply r_nil)
    | (apply k_V; rfl)
    | (apply k_P; rfl)
    | (apply k_PL; rfl)
    | (apply k_S; rfl)
    | (apply k_SL; rfl)
    | (apply k_A; rfl)
    | (apply k_T; rfl)
    | (apply k_F; rfl)
    | (apply k_D; rfl; rotate_left; rfl)
    | (apply k_nil)
    | (apply e_ret (vs := [.d (.val _)]); rfl)
    | (apply e_ret; rfl)
    | (apply e_ret' (vs := [.d (.val _)]); rfl)
    | (apply e_ret'; rfl)
    | (apply w_seq)
    | (apply w_ops; ((conv => lhs; simp only [Nat.reduceAdd]) <;> rfl))
    | (apply e_thenN)
    | (apply w_block)
    | (apply e_thenR)
    | (apply e_thenX)
    | (apply e_blkN)
    | (apply e_blkR)
    | (apply e_blkE)
    | (apply w_exit)
    | (apply w_ret)
    | (apply w_skip)
    | (apply e_blkE'; rfl))
      exact retB (by simp [hz])
    · repeat' (first
    | (apply r_mvV; rfl)
    | (apply r_mvP; rfl)
    | (apply r_mvPL; rfl)
    | (apply r_mvS; rfl)
    | (apply r_mvSL; rfl)
    | (apply r_mvA; rfl)
    | (apply r_mvT; rfl)
    | (apply r_mvF; rfl)
    | (apply r_mvD; rfl)
    | (apply r_faddD; rfl)
    | (apply r_faddL; rfl)
    | (apply r_l; apply ld_kind; assumption; rfl)
    | (apply r_l; apply ld_mn; assumption; rfl)
    | (apply r_l; apply ld_mx; assumption; rfl)
    | (apply r_l; apply ld_subs; assumption; rfl)
    | (apply r_l; apply ld_set; assumption; rfl)
    | (apply r_l; apply ld_node; assumption; rfl)
    | (apply r_l; apply ld_kind'; assumption; rfl)
    | (apply r_l; apply ld_mn'; assumption; rfl)
    | (apply r_l; apply ld_mx'; assumption; rfl)
    | (apply r_l; apply ld_subs'; assumption; rfl)
    | (apply r_l; apply ld_node'; assumption; rfl)
    | (apply r_callA; rfl; rfl; exact h)
    | (apply r_ldL (v := .b false); rfl; rfl; rfl)
    | (apply r_ldL (v := .i fl); rfl; rfl; rfl)
    | (apply r_ldL; rfl; rfl; rfl)
    | (apply r_eql; rfl; rfl; (first | (apply decide_eq_true; omega) | (apply decide_eq_false; omega) | rfl))
    | (apply r_not; rfl; rfl)
    | (apply r_pickT; rfl)
    | (apply r_pickF; rfl)
    | (apply r_ext; rfl; rfl)
    | (apply r_gT; rfl)
    | (apply r_gF'; rfl; rfl)
    | (apply r_gN'; rfl)
    | ((apply r_gS (o := default); rfl) <;> (intro h; try simp only [decide_eq_true_eq, decide_eq_false_iff_not, Bool.not_eq_true, Bool.not_eq_false] at h))
    | (apply r_alloc; ((conv => lhs; simp only [Nat.reduceAdd]) <;> rfl); rfl)
    | (apply r_box; ((conv => lhs; simp only [Nat.reduceAdd]) <;> rfl); rfl; rfl; rfl)
    | (apply r_stL; rfl; rfl; rfl; rfl; (first | rfl | (simp only [z_nil, z_add] <;> rfl)); rfl; rfl)
    | (apply r_nilK)
    | (apply r_nil)
    | (apply k_V; rfl)
    | (apply k_P; rfl)
    | (apply k_PL; rfl)
    | (apply k_S; rfl)
    | (apply k_SL; rfl)
    | (apply k_A; rfl)
    | (apply k_T; rfl)
    | (apply k_F; rfl)
    | (apply k_D; rfl; rotate_left; rfl)
    | (apply k_nil)
    | (apply e_ret (vs := [.d (.val _)]); rfl)
    | (apply e_ret; rfl)
    | (apply e_ret' (vs := [.d (.val _)]); rfl)
    | (apply e_ret'; rfl)
    | (apply w_seq)
    | (apply w_ops; ((conv => lhs; simp only [Nat.reduceAdd]) <;> rfl))
    | (apply e_thenN)
    | (apply w_block)
    | (apply e_thenR)
    | (apply e_thenX)
    | (apply e_blkN)
    | (apply e_blkR)
    | (apply e_blkE)
    | (apply w_exit)
    | (apply w_ret)
    | (apply w_skip)
    | (apply e_blkE'; rfl))
      exact retB (by simp [hz])
theorem first70_good (t : T) (hc : t.cnt ≤ 200) (hok : fitsT t 12 = true → okT t) : Good Try.prog 70 [nodeA t] none (setA (ofK t).a (ofK t).b (ofK t).c (ofK t).d) none none := by
  have h := of121_good t hc hok
  generalize fitsT t 12 = q at h
  generalize ofK t = f at h
  obtain ⟨fn, fl, fh, fa, fb, fc, fd⟩ := f
  have e : faA ⟨fn, fl, fh, fa, fb, fc, fd⟩ = .agg [.b fn, .i fl, .i fh, .d (.val (.int .u64 fa)), .d (.val (.int .u64 fb)), .d (.val (.int .u64 fc)), .d (.val (.int .u64 fd))] := rfl
  rw [e] at h
  dsimp only
  unfold setA
  obtain ⟨k, a, b, c, d, mn, mx, subs⟩ := t
  have e0 : nodeA (T.node k a b c d mn mx subs) = .agg [.i k, .d (.val (.int .u64 a)), .d (.val (.int .u64 b)), .d (.val (.int .u64 c)), .d (.val (.int .u64 d)), .i mn, .i mx, .d (.sl (encL subs) subs.length)] := rfl
  rw [e0] at h ⊢
  refine b70 (by simp) (by simp) (w_init ?_)
  unfold x70
  repeat' (first
    | (apply r_mvV; rfl)
    | (apply r_mvP; rfl)
    | (apply r_mvPL; rfl)
    | (apply r_mvS; rfl)
    | (apply r_mvSL; rfl)
    | (apply r_mvA; rfl)
    | (apply r_mvT; rfl)
    | (apply r_mvF; rfl)
    | (apply r_mvD; rfl)
    | (apply r_faddD; rfl)
    | (apply r_faddL; rfl)
    | (apply r_l; apply ld_kind; assumption; rfl)
    | (apply r_l; apply ld_mn; assumption; rfl)
    | (apply r_l; apply ld_mx; assumption; rfl)
    | (apply r_l; apply ld_subs; assumption; rfl)
    | (apply r_l; apply ld_set; assumption; rfl)
    | (apply r_l; apply ld_node; assumption; rfl)
    | (apply r_l; apply ld_kind'; assumption; rfl)
    | (apply r_l; apply ld_mn'; assumption; rfl)
    | (apply r_l; apply ld_mx'; assumption; rfl)
    | (apply r_l; apply ld_subs'; assumption; rfl)
    | (apply r_l; apply ld_node'; assumption; rfl)
    | (apply r_callA; rfl; rfl; exact h)
    | (apply r_ldL (v := .agg [.d (.val (.int .u64 fa)), .d (.val (.int .u64 fb)), .d (.val (.int .u64 fc)), .d (.val (.int .u64 fd))]); rfl; rfl; rfl)
    | (apply r_ldL; rfl; rfl; rfl)
    | (apply r_ext; rfl; rfl)
    | (apply r_alloc; ((conv => lhs; simp only [Nat.reduceAdd]) <;> rfl); rfl)
    | (apply r_box; ((conv => lhs; simp only [Nat.reduceAdd]) <;> rfl); rfl; rfl; rfl)
    | (apply r_stL; rfl; rfl; rfl; rfl; (first | rfl | (simp only [z_nil, z_add] <;> rfl)); rfl; rfl)
    | (apply r_nilK)
    | (apply r_nil)
    | (apply k_V; rfl)
    | (apply k_P; rfl)
    | (apply k_PL; rfl)
    | (apply k_S; rfl)
    | (apply k_SL; rfl)
    | (apply k_A; rfl)
    | (apply k_T; rfl)
    | (apply k_F; rfl)
    | (apply k_D; rfl; rotate_left; rfl)
    | (apply k_nil)
    | (apply e_ret (vs := [.d (.val _)]); rfl)
    | (apply e_ret; rfl)
    | (apply e_ret' (vs := [.d (.val _)]); rfl)
    | (apply e_ret'; rfl)
    | (apply w_seq)
    | (apply w_ops; ((conv => lhs; simp only [Nat.reduceAdd]) <;> rfl))
    | (apply e_thenN)
    | (apply w_block)
    | (apply e_thenR)
    | (apply e_thenX)
    | (apply e_blkN)
    | (apply e_blkR)
    | (apply e_blkE)
    | (apply w_exit)
    | (apply w_ret)
    | (apply w_skip)
    | (apply e_blkE'; rfl))
  exact .data _ rfl
theorem len66_good (t : T) (hc : t.cnt ≤ 200) (hok : fitsT t 12 = true → okT t) : Good Try.prog 66 [nodeA t] none (.tup [.i (ofK t).lo, .i (ofK t).hi]) none none := by
  have h := of121_good t hc hok
  generalize fitsT t 12 = q at h
  generalize ofK t = f at h
  obtain ⟨fn, fl, fh, fa, fb, fc, fd⟩ := f
  have e : faA ⟨fn, fl, fh, fa, fb, fc, fd⟩ = .agg [.b fn, .i fl, .i fh, .d (.val (.int .u64 fa)), .d (.val (.int .u64 fb)), .d (.val (.int .u64 fc)), .d (.val (.int .u64 fd))] := rfl
  rw [e] at h
  dsimp only
  obtain ⟨k, a, b, c, d, mn, mx, subs⟩ := t
  have e0 : nodeA (T.node k a b c d mn mx subs) = .agg [.i k, .d (.val (.int .u64 a)), .d (.val (.int .u64 b)), .d (.val (.int .u64 c)), .d (.val (.int .u64 d)), .i mn, .i mx, .d (.sl (encL subs) subs.length)] := rfl
  rw [e0] at h ⊢
  refine b66 (by simp) (by simp) (w_init ?_)
  unfold x66
  repeat' (first
    | (apply r_mvV; rfl)
    | (apply r_mvP; rfl)
    | (apply r_mvPL; rfl)
    | (apply r_mvS; rfl)
    | (apply r_mvSL; rfl)
    | (apply r_mvA; rfl)
    | (apply r_mvT; rfl)
    | (apply r_mvF; rfl)
    | (apply r_mvD; rfl)
    | (apply r_faddD; rfl)
    | (apply r_faddL; rfl)
    | (apply r_l; apply ld_kind; assumption; rfl)
    | (apply r_l; apply ld_mn; assumption; rfl)
    | (apply r_l; apply ld_mx; assumption; rfl)
    | (apply r_l; apply ld_subs; assumption; rfl)
    | (apply r_l; apply ld_set; assumption; rfl)
    | (apply r_l; apply ld_node; assumption; rfl)
    | (apply r_l; apply ld_kind'; assumption; rfl)
    | (apply r_l; apply ld_mn'; assumption; rfl)
    | (apply r_l; apply ld_mx'; assumption; rfl)
    | (apply r_l; apply ld_subs'; assumption; rfl)
    | (apply r_l; apply ld_node'; assumption; rfl)
    | (apply r_callA; rfl; rfl; exact h)
    | (apply r_ldL (v := .i fl); rfl; rfl; rfl)
    | (apply r_ldL (v := .i fh); rfl; rfl; rfl)
    | (apply r_ldL; rfl; rfl; rfl)
    | (apply r_ext; rfl; rfl)
    | (apply r_alloc; ((conv => lhs; simp only [Nat.reduceAdd]) <;> rfl); rfl)
    | (apply r_box; ((conv => lhs; simp only [Nat.reduceAdd]) <;> rfl); rfl; rfl; rfl)
    | (apply r_stL; rfl; rfl; rfl; rfl; (first | rfl | (simp only [z_nil, z_add] <;> rfl)); rfl; rfl)
    | (apply r_nilK)
    | (apply r_nil)
    | (apply k_V; rfl)
    | (apply k_P; rfl)
    | (apply k_PL; rfl)
    | (apply k_S; rfl)
    | (apply k_SL; rfl)
    | (apply k_A; rfl)
    | (apply k_T; rfl)
    | (apply k_F; rfl)
    | (apply k_D; rfl; rotate_left; rfl)
    | (apply k_nil)
    | (apply e_ret (vs := [.d (.val _)]); rfl)
    | (apply e_ret; rfl)
    | (apply e_ret' (vs := [.d (.val _)]); rfl)
    | (apply e_ret'; rfl)
    | (apply w_seq)
    | (apply w_ops; ((conv => lhs; simp only [Nat.reduceAdd]) <;> rfl))
    | (apply e_thenN)
    | (apply w_block)
    | (apply e_thenR)
    | (apply e_thenX)
    | (apply e_blkN)
    | (apply e_blkR)
    | (apply e_blkE)
    | (apply w_exit)
    | (apply w_ret)
    | (apply w_skip)
    | (apply e_blkE'; rfl))
  exact .data _ rfl
theorem none71_good (t : T) (hc : t.cnt ≤ 200) (hok : fitsT t 12 = true → okT t) : Good Try.prog 71 [nodeA t] none (.b (ofK t).no) none none := by
  have h := of121_good t hc hok
  generalize fitsT t 12 = q at h
  generalize ofK t = f at h
  obtain ⟨fn, fl, fh, fa, fb, fc, fd⟩ := f
  have e : faA ⟨fn, fl, fh, fa, fb, fc, fd⟩ = .agg [.b fn, .i fl, .i fh, .d (.val (.int .u64 fa)), .d (.val (.int .u64 fb)), .d (.val (.int .u64 fc)), .d (.val (.int .u64 fd))] := rfl
  rw [e] at h
  dsimp only
  obtain ⟨k, a, b, c, d, mn, mx, subs⟩ := t
  have e0 : nodeA (T.node k a b c d mn mx subs) = .agg [.i k, .d (.val (.int .u64 a)), .d (.val (.int .u64 b)), .d (.val (.int .u64 c)), .d (.val (.int .u64 d)), .i mn, .i mx, .d (.sl (encL subs) subs.length)] := rfl
  rw [e0] at h ⊢
  refine b71 (by simp) (by simp) (w_init ?_)
  unfold x71
  repeat' (first
    | (apply r_mvV; rfl)
    | (apply r_mvP; rfl)
    | (apply r_mvPL; rfl)
    | (apply r_mvS; rfl)
    | (apply r_mvSL; rfl)
    | (apply r_mvA; rfl)
    | (apply r_mvT; rfl)
    | (apply r_mvF; rfl)
    | (apply r_mvD; rfl)
    | (apply r_faddD; rfl)
    | (apply r_faddL; rfl)
    | (apply r_l; apply ld_kind; assumption; rfl)
    | (apply r_l; apply ld_mn; assumption; rfl)
    | (apply r_l; apply ld_mx; assumption; rfl)
    | (apply r_l; apply ld_subs; assumption; rfl)
    | (apply r_l; apply ld_set; assumption; rfl)
    | (apply r_l; apply ld_node; assumption; rfl)
    | (apply r_l; apply ld_kind'; assumption; rfl)
    | (apply r_l; apply ld_mn'; assumption; rfl)
    | (apply r_l; apply ld_mx'; assumption; rfl)
    | (apply r_l; apply ld_subs'; assumption; rfl)
    | (apply r_l; apply ld_node'; assumption; rfl)
    | (apply r_callA; rfl; rfl; exact h)
    | (apply r_ldL (v := .b fn); rfl; rfl; rfl)
    | (apply r_ldL; rfl; rfl; rfl)
    | (apply r_ext; rfl; rfl)
    | (apply r_alloc; ((conv => lhs; simp only [Nat.reduceAdd]) <;> rfl); rfl)
    | (apply r_box; ((conv => lhs; simp only [Nat.reduceAdd]) <;> rfl); rfl; rfl; rfl)
    | (apply r_stL; rfl; rfl; rfl; rfl; (first | rfl | (simp only [z_nil, z_add] <;> rfl)); rfl; rfl)
    | (apply r_nilK)
    | (apply r_nil)
    | (apply k_V; rfl)
    | (apply k_P; rfl)
    | (apply k_PL; rfl)
    | (apply k_S; rfl)
    | (apply k_SL; rfl)
    | (apply k_A; rfl)
    | (apply k_T; rfl)
    | (apply k_F; rfl)
    | (apply k_D; rfl; rotate_left; rfl)
    | (apply k_nil)
    | (apply e_ret (vs := [.d (.val _)]); rfl)
    | (apply e_ret; rfl)
    | (apply e_ret' (vs := [.d (.val _)]); rfl)
    | (apply e_ret'; rfl)
    | (apply w_seq)
    | (apply w_ops; ((conv => lhs; simp only [Nat.reduceAdd]) <;> rfl))
    | (apply e_thenN)
    | (apply w_block)
    | (apply e_thenR)
    | (apply e_thenX)
    | (apply e_blkN)
    | (apply e_blkR)
    | (apply e_blkE)
    | (apply w_exit)
    | (apply w_ret)
    | (apply w_skip)
    | (apply e_blkE'; rfl))
  exact retB rfl
end Go.Sv
namespace Go.Sv
open Go Go.Proofs
set_option maxRecDepth 100000
def x64 : XC := (.seq (.ops 1 [
    (0, ⟨(some 0), none, .mv (.k (.d (.val (.bool false))))⟩)] (some [])) (.seq (.ops 9 [
    (0, ⟨(some 12), none, .call 118 [(.k (.d (.val (.string ⟨#[97, 123, 50, 44, 51, 125, 124, 98, 42]⟩))))] none false⟩),
    (1, ⟨(some 11), none, .mv (.t 12)⟩),
    (2, ⟨(some 13), none, .ext (.t 11) 0⟩),
    (3, ⟨(some 14), none, .ext (.t 11) 1⟩),
    (4, ⟨(some 15), none, .ext (.t 11) 2⟩),
    (5, ⟨(some 1), none, .alloc [(.int .i64 0), (.int .u64 0), (.int .u64 0), (.int .u64 0), (.int .u64 0), (.int .i64 0), (.int .i64 0), (.slice none 0 0)]⟩),
    (6, ⟨none, none, .store 8 (.t 1) (.t 13)⟩),
    (7, ⟨(some 2), none, .mv (.t 14)⟩),
    (8, ⟨(some 3), none, .mv (.t 15)⟩)] (some [1])) (.seq (.ops 9 [
    (0, ⟨(some 17), none, .call 118 [(.k (.d (.val (.string ⟨#[97, 91, 93]⟩))))] none false⟩),
    (1, ⟨(some 16), none, .mv (.t 17)⟩),
    (2, ⟨(some 18), none, .ext (.t 16) 0⟩),
    (3, ⟨(some 19), none, .ext (.t 16) 1⟩),
    (4, ⟨(some 20), none, .ext (.t 16) 2⟩),
    (5, ⟨(some 4), none, .alloc [(.int .i64 0), (.int .u64 0), (.int .u64 0), (.int .u64 0), (.int .u64 0), (.int .i64 0), (.int .i64 0), (.slice none 0 0)]⟩),
    (6, ⟨none, none, .store 8 (.t 4) (.t 18)⟩),
    (7, ⟨(some 5), none, .mv (.t 19)⟩),
    (8, ⟨(some 6), none, .mv (.t 20)⟩)] (some [1, 4])) (.seq (.ops 7 [
    (0, ⟨(some 22), none, .load (some 8) (.t 1)⟩),
    (1, ⟨(some 23), none, .call 66 [(.t 22)] none false⟩),
    (2, ⟨(some 21), none, .mv (.t 23)⟩),
    (3, ⟨(some 24), none, .ext (.t 21) 0⟩),
    (4, ⟨(some 25), none, .ext (.t 21) 1⟩),
    (5, ⟨(some 7), none, .mv (.t 24)⟩),
    (6, ⟨(some 8), none, .mv (.t 25)⟩)] (some [1, 4, 7, 8])) (.seq (.ops 7 [
    (0, ⟨(some 27), none, .load (some 8) (.t 4)⟩),
    (1, ⟨(some 28), none, .call 66 [(.t 27)] none false⟩),
    (2, ⟨(some 26), none, .mv (.t 28)⟩),
    (3, ⟨(some 29), none, .ext (.t 26) 0⟩),
    (4, ⟨(some 30), none, .ext (.t 26) 1⟩),
    (5, ⟨(some 9), none, .mv (.t 29)⟩),
    (6, ⟨(some 10), none, .mv (.t 30)⟩)] (some [1, 4, 7, 8, 9, 10])) (.seq (.ops 60 [
    (0, ⟨(some 31), none, .load (some 8) (.t 1)⟩),
    (1, ⟨(some 32), none, .call 67 [(.t 31)] none false⟩),
    (2, ⟨(some 33), none, .arith .eql (.t 32) (.k (.d (.val (.int .i64 5))))⟩),
    (3, ⟨(some 34), none, .mv (.t 33)⟩),
    (4, ⟨(some 35), (some (34, true)), .load (some 8) (.t 1)⟩),
    (5, ⟨(some 36), (some (34, true)), .call 68 [(.t 35)] none false⟩),
    (6, ⟨(some 37), (some (34, true)), .arith .eql (.t 36) (.k (.d (.val (.int .i64 14))))⟩),
    (7, ⟨(some 38), none, .pick (.t 34) (.t 37) (.k (.d (.val (.bool false))))⟩),
    (8, ⟨(some 39), none, .mv (.t 38)⟩),
    (9, ⟨(some 40), (some (39, true)), .load (some 8) (.t 1)⟩),
    (10, ⟨(some 41), (some (39, true)), .call 69 [(.t 40)] none false⟩),
    (11, ⟨(some 42), none, .pick (.t 39) (.t 41) (.k (.d (.val (.bool false))))⟩),
    (12, ⟨(some 43), none, .mv (.t 42)⟩),
    (13, ⟨(some 44), (some (43, true)), .load (some 8) (.t 1)⟩),
    (14, ⟨(some 45), (some (43, true)), .call 70 [(.t 44)] none false⟩),
    (15, ⟨(some 46), (some (43, true)), .call 119 [(.k (.d (.val (.int .u8 97)))), (.k (.d (.val (.int .u8 98))))] none false⟩),
    (16, ⟨(some 47), (some (43, true)), .eqAgg 4 false (.t 45) (.t 46)⟩),
    (17, ⟨(some 48), none, .pick (.t 43) (.t 47) (.k (.d (.val (.bool false))))⟩),
    (18, ⟨(some 49), none, .mv (.t 48)⟩),
    (19, ⟨(some 50), (some (49, true)), .mv (.t 7)⟩),
    (20, ⟨(some 51), (some (49, true)), .arith .eql (.t 50) (.k (.d (.val (.int .i64 0))))⟩),
    (21, ⟨(some 52), none, .pick (.t 49) (.t 51) (.k (.d (.val (.bool false))))⟩),
    (22, ⟨(some 53), none, .mv (.t 52)⟩),
    (23, ⟨(some 54), (some (53, true)), .mv (.t 8)⟩),
    (24, ⟨(some 55), (some (53, true)), .arith .eql (.t 54) (.k (.d (.val (.int .i64 (-1)))))⟩),
    (25, ⟨(some 56), none, .pick (.t 53) (.t 55) (.k (.d (.val (.bool false))))⟩),
    (26, ⟨(some 57), none, .mv (.t 56)⟩),
    (27, ⟨(some 58), (some (57, true)), .mv (.t 9)⟩),
    (28, ⟨(some 59), (some (57, true)), .arith .eql (.t 58) (.k (.d (.val (.int .i64 (-1)))))⟩),
    (29, ⟨(some 60), none, .pick (.t 57) (.t 59) (.k (.d (.val (.bool false))))⟩),
    (30, ⟨(some 61), none, .mv (.t 60)⟩),
    (31, ⟨(some 62), (some (61, true)), .mv (.t 10)⟩),
    (32, ⟨(some 63), (some (61, true)), .arith .eql (.t 62) (.k (.d (.val (.int .i64 (-1)))))⟩),
    (33, ⟨(some 64), none, .pick (.t 61) (.t 63) (.k (.d (.val (.bool false))))⟩),
    (34, ⟨(some 65), none, .mv (.t 64)⟩),
    (35, ⟨(some 66), (some (65, true)), .load (some 8) (.t 4)⟩),
    (36, ⟨(some 67), (some (65, true)), .call 71 [(.t 66)] none false⟩),
    (37, ⟨(some 68), none, .pick (.t 65) (.t 67) (.k (.d (.val (.bool false))))⟩),
    (38, ⟨(some 69), none, .mv (.t 68)⟩),
    (39, ⟨(some 70), (some (69, true)), .load (some 8) (.t 1)⟩),
    (40, ⟨(some 71), (some (69, true)), .call 71 [(.t 70)] none false⟩),
    (41, ⟨(some 72), (some (69, true)), .un .not (.t 71)⟩),
    (42, ⟨(some 73), none, .pick (.t 69) (.t 72) (.k (.d (.val (.bool false))))⟩),
    (43, ⟨(some 74), none, .mv (.t 73)⟩),
    (44, ⟨(some 75), (some (74, true)), .load (some 8) (.t 1)⟩),
    (45, ⟨(some 76), (some (74, true)), .call 65 [(.t 75)] none false⟩),
    (46, ⟨(some 77), (some (74, true)), .lenS (.t 76)⟩),
    (47, ⟨(some 78), (some (74, true)), .arith .eql (.t 77) (.k (.d (.val (.int .i64 2))))⟩),
    (48, ⟨(some 79), none, .pick (.t 74) (.t 78) (.k (.d (.val (.bool false))))⟩),
    (49, ⟨(some 80), none, .mv (.t 79)⟩),
    (50, ⟨(some 81), (some (80, true)), .build [(.int .i64 0), (.int .u64 0), (.int .u64 0), (.int .u64 0), (.int .u64 0), (.int .i64 0), (.int .i64 0), (.slice none 0 0)] []⟩),
    (51, ⟨(some 82), (some (80, true)), .call 67 [(.t 81)] none false⟩),
    (52, ⟨(some 83), (some (80, true)), .arith .eql (.t 82) (.k (.d (.val (.int .i64 0))))⟩),
    (53, ⟨(some 84), none, .pick (.t 80) (.t 83) (.k (.d (.val (.bool false))))⟩),
    (54, ⟨(some 85), none, .mv (.t 84)⟩),
    (55, ⟨(some 86), (some (85, true)), .build [(.int .i64 0), (.int .u64 0), (.int .u64 0), (.int .u64 0), (.int .u64 0), (.int .i64 0), (.int .i64 0), (.slice none 0 0)] []⟩),
    (56, ⟨(some 87), (some (85, true)), .call 68 [(.t 86)] none false⟩),
    (57, ⟨(some 88), (some (85, true)), .arith .eql (.t 87) (.k (.d (.val (.int .i64 0))))⟩),
    (58, ⟨(some 89), none, .pick (.t 85) (.t 88) (.k (.d (.val (.bool false))))⟩),
    (59, ⟨(some 0), none, .mv (.t 89)⟩)] (some [0])) .ret))))))
def md64 : FuncId → Option Nat × Bool
  | _ => (none, false)
def od64 : Nat → List (List Nat) × List Nat × Option (List Nat)
  | 0 => ([], [], some [])
  | 1 => ([], [], some [1])
  | 2 => ([], [], some [1, 4])
  | 3 => ([], [], some [1, 4, 7, 8])
  | 4 => ([], [], some [1, 4, 7, 8, 9, 10])
  | 5 => ([], [], some [0])
  | _ => ([], [], none)
theorem b64 {ags : List AV} {row : Option (List DV)} {r : AV} {row' nw : Option (List DV)} (hal : ags.length ≤ 90) (hrow : row'.isSome = true → row.isSome = true) (h : xwp Try.prog x64 (retK [.tmp 0] row.isSome r row' nw) (St.init ags row)) : Good Try.prog 64 ags row r row' nw :=
  good_of_body' (md := md64) (od := od64) Try.f64 (by kernel_rfl) (by kernel_rfl) (by kernel_rfl) (by kernel_rfl) (by kernel_rfl) hal hrow h

def x65 : XC := (.seq (.ops 2 [
    (0, ⟨(some 1), none, .box (.t 0)⟩),
    (1, ⟨(some 2), none, .mv (.k (.d (.val (.slice none 0 0))))⟩)] (some [1])) (.seq (.seq (.ops 3 [
    (0, ⟨(some 3), none, .load (some 8) (.t 1)⟩),
    (1, ⟨(some 4), none, .call 84 [(.t 3)] none false⟩),
    (2, ⟨(some 5), none, .un .not (.t 4)⟩)] (some [1, 5])) (.cond (.t 5) (.seq (.ops 1 [
    (0, ⟨(some 2), none, .mv (.k (.d (.val (.slice none 0 0))))⟩)] (some [2])) .ret) .skip)) (.seq (.ops 2 [
    (0, ⟨(some 6), none, .call 120 [(.t 1), (.k (.d (.val (.slice none 0 0))))] (some 1) true⟩),
    (1, ⟨(some 2), none, .mv (.t 6)⟩)] (some [2])) .ret)))
def md65 : FuncId → Option Nat × Bool
  | 120 => (some 1, true)
  | _ => (none, false)
def od65 : Nat → List (List Nat) × List Nat × Option (List Nat)
  | 0 => ([], [], some [1])
  | 1 => ([], [], some [1, 5])
  | 2 => ([], [], some [2])
  | 3 => ([], [], some [2])
  | _ => ([], [], none)
theorem b65 {ags : List AV} {row : Option (List DV)} {r : AV} {row' nw : Option (List DV)} (hal : ags.length ≤ 7) (hrow : row'.isSome = true → row.isSome = true) (h : xwp Try.prog x65 (retK [.tmp 2] row.isSome r row' nw) (St.init ags row)) : Good Try.prog 65 ags row r row' nw :=
  good_of_body' (md := md65) (od := od65) Try.f65 (by kernel_rfl) (by kernel_rfl) (by kernel_rfl) (by kernel_rfl) (by kernel_rfl) hal hrow h

def x67 : XC := (.seq (.ops 2 [
    (0, ⟨(some 1), none, .box (.t 0)⟩),
    (1, ⟨(some 2), none, .mv (.k (.d (.val (.int .i64 0))))⟩)] (some [1])) (.seq (.seq (.ops 3 [
    (0, ⟨(some 3), none, .load (some 8) (.t 1)⟩),
    (1, ⟨(some 4), none, .call 84 [(.t 3)] none false⟩),
    (2, ⟨(some 5), none, .un .not (.t 4)⟩)] (some [1, 5])) (.cond (.t 5) (.seq (.ops 1 [
    (0, ⟨(some 2), none, .mv (.k (.d (.val (.int .i64 0))))⟩)] (some [2])) .ret) .skip)) (.seq (.ops 2 [
    (0, ⟨(some 6), none, .call 122 [(.t 1)] none false⟩),
    (1, ⟨(some 2), none, .mv (.t 6)⟩)] (some [2])) .ret)))
def md67 : FuncId → Option Nat × Bool
  | _ => (none, false)
def od67 : Nat → List (List Nat) × List Nat × Option (List Nat)
  | 0 => ([], [], some [1])
  | 1 => ([], [], some [1, 5])
  | 2 => ([], [], some [2])
  | 3 => ([], [], some [2])
  | _ => ([], [], none)
theorem b67 {ags : List AV} {row : Option (List DV)} {r : AV} {row' nw : Option (List DV)} (hal : ags.length ≤ 7) (hrow : row'.isSome = true → row.isSome = true) (h : xwp Try.prog x67 (retK [.tmp 2] row.isSome r row' nw) (St.init ags row)) : Good Try.prog 67 ags row r row' nw :=
  good_of_body' (md := md67) (od := od67) Try.f67 (by kernel_rfl) (by kernel_rfl) (by kernel_rfl) (by kernel_rfl) (by kernel_rfl) hal hrow h

def x120 : XC := (.seq (.ops 1 [
    (0, ⟨(some 4), none, .mv (.k (.d (.val (.slice none 0 0))))⟩)] (some [0, 1])) (.seq (.seq (.ops 5 [
    (0, ⟨(some 6), none, .mv (.t 0)⟩),
    (1, ⟨(some 7), none, .nilck (.t 6)⟩),
    (2, ⟨(some 8), none, .fadd 0 (.t 7)⟩),
    (3, ⟨(some 9), none, .load none (.t 8)⟩),
    (4, ⟨(some 10), none, .arith .eql (.t 9) (.k (.d (.val (.int .i64 2))))⟩)] (some [0, 1, 10])) (.cond (.t 10) (.seq (.ops 8 [
    (0, ⟨(some 11), none, .mv (.t 1)⟩),
    (1, ⟨(some 12), none, .mv (.t 0)⟩),
    (2, ⟨(some 13), none, .nilck (.t 12)⟩),
    (3, ⟨(some 14), none, .fadd 1 (.t 13)⟩),
    (4, ⟨(some 15), none, .load (some 4) (.t 14)⟩),
    (5, ⟨(some 16), none, .mkrow [(.int .u64 0), (.int .u64 0), (.int .u64 0), (.int .u64 0)] 1 4 [(0, 4, (.t 15))]⟩),
    (6, ⟨(some 17), none, .app [(.int .u64 0), (.int .u64 0), (.int .u64 0), (.int .u64 0)] 32 (.t 11) (.t 16)⟩),
    (7, ⟨(some 4), none, .mv (.t 17)⟩)] (some [4])) .ret) .skip)) (.seq (.seq (.ops 6 [
    (0, ⟨(some 18), none, .mv (.t 0)⟩),
    (1, ⟨(some 19), none, .nilck (.t 18)⟩),
    (2, ⟨(some 20), none, .fadd 7 (.t 19)⟩),
    (3, ⟨(some 21), none, .load none (.t 20)⟩),
    (4, ⟨(some 22), none, .lenS (.t 21)⟩),
    (5, ⟨(some 23), none, .mv (.k (.d (.val (.int .i64 0))))⟩)] (some [0, 1, 22, 23])) (.block 0 (.loop (.seq (.ops 1 [
    (0, ⟨(some 24), none, .arith .lss (.t 23) (.t 22)⟩)] (some [0, 1, 22, 23, 24])) (.seq (.cond (.t 24) .skip (.exit 0)) (.seq (.block 1 (.seq (.ops 2 [
    (0, ⟨(some 25), none, .mv (.t 23)⟩),
    (1, ⟨(some 5), none, .mv (.t 25)⟩)] (some [0, 1, 5, 22, 23])) (.ops 9 [
    (0, ⟨(some 26), none, .mv (.t 0)⟩),
    (1, ⟨(some 27), none, .nilck (.t 26)⟩),
    (2, ⟨(some 28), none, .fadd 7 (.t 27)⟩),
    (3, ⟨(some 29), none, .load none (.t 28)⟩),
    (4, ⟨(some 30), none, .mv (.t 5)⟩),
    (5, ⟨(some 31), none, .idxS 8 (.t 29) (.t 30)⟩),
    (6, ⟨(some 32), none, .mv (.t 1)⟩),
    (7, ⟨(some 33), none, .call 120 [(.t 31), (.t 32)] (some 1) true⟩),
    (8, ⟨(some 1), none, .mv (.t 33)⟩)] (some [0, 1, 22, 23])))) (.ops 2 [
    (0, ⟨(some 34), none, .arith .add (.t 23) (.k (.d (.val (.int .i64 1))))⟩),
    (1, ⟨(some 23), none, .mv (.t 34)⟩)] (some [0, 1, 22, 23])))))))) (.seq (.ops 2 [
    (0, ⟨(some 35), none, .mv (.t 1)⟩),
    (1, ⟨(some 4), none, .mv (.t 35)⟩)] (some [4])) .ret))))
def md120 : FuncId → Option Nat × Bool
  | 120 => (some 1, true)
  | _ => (none, false)
def od120 : Nat → List (List Nat) × List Nat × Option (List Nat)
  | 0 => ([], [], some [0, 1])
  | 1 => ([], [], some [0, 1, 10])
  | 2 => ([], [], some [4])
  | 3 => ([], [], some [0, 1, 22, 23])
  | 4 => ([], [], some [0, 1, 22, 23, 24])
  | 5 => ([], [], some [0, 1, 5, 22, 23])
  | 6 => ([], [], some [0, 1, 22, 23])
  | 7 => ([], [], some [0, 1, 22, 23])
  | 8 => ([], [], some [4])
  | _ => ([], [], none)
theorem b120 {ags : List AV} {row : Option (List DV)} {r : AV} {row' nw : Option (List DV)} (hal : ags.length ≤ 36) (hrow : row'.isSome = true → row.isSome = true) (h : xwp Try.prog x120 (retK [.tmp 4] row.isSome r row' nw) (St.init ags row)) : Good Try.prog 120 ags row r row' nw :=
  good_of_body' (md := md120) (od := od120) Try.f120 (by kernel_rfl) (by kernel_rfl) (by kernel_rfl) (by kernel_rfl) (by kernel_rfl) hal hrow h

def x122 : XC := (.seq (.ops 1 [
    (0, ⟨(some 2), none, .mv (.k (.d (.val (.int .i64 0))))⟩)] (some [0])) (.seq (.ops 1 [
    (0, ⟨(some 3), none, .mv (.k (.d (.val (.int .i64 1))))⟩)] (some [0, 3])) (.seq (.seq (.ops 6 [
    (0, ⟨(some 5), none, .mv (.t 0)⟩),
    (1, ⟨(some 6), none, .nilck (.t 5)⟩),
    (2, ⟨(some 7), none, .fadd 7 (.t 6)⟩),
    (3, ⟨(some 8), none, .load none (.t 7)⟩),
    (4, ⟨(some 9), none, .lenS (.t 8)⟩),
    (5, ⟨(some 10), none, .mv (.k (.d (.val (.int .i64 0))))⟩)] (some [0, 3, 9, 10])) (.block 0 (.loop (.seq (.ops 1 [
    (0, ⟨(some 11), none, .arith .lss (.t 10) (.t 9)⟩)] (some [0, 3, 9, 10, 11])) (.seq (.cond (.t 11) .skip (.exit 0)) (.seq (.block 1 (.seq (.ops 2 [
    (0, ⟨(some 12), none, .mv (.t 10)⟩),
    (1, ⟨(some 4), none, .mv (.t 12)⟩)] (some [0, 3, 4, 9, 10])) (.ops 10 [
    (0, ⟨(some 13), none, .mv (.t 3)⟩),
    (1, ⟨(some 14), none, .mv (.t 0)⟩),
    (2, ⟨(some 15), none, .nilck (.t 14)⟩),
    (3, ⟨(some 16), none, .fadd 7 (.t 15)⟩),
    (4, ⟨(some 17), none, .load none (.t 16)⟩),
    (5, ⟨(some 18), none, .mv (.t 4)⟩),
    (6, ⟨(some 19), none, .idxS 8 (.t 17) (.t 18)⟩),
    (7, ⟨(some 20), none, .call 122 [(.t 19)] none false⟩),
    (8, ⟨(some 21), none, .arith .add (.t 13) (.t 20)⟩),
    (9, ⟨(some 3), none, .mv (.t 21)⟩)] (some [0, 3, 9, 10])))) (.ops 2 [
    (0, ⟨(some 22), none, .arith .add (.t 10) (.k (.d (.val (.int .i64 1))))⟩),
    (1, ⟨(some 10), none, .mv (.t 22)⟩)] (some [0, 3, 9, 10])))))))) (.seq (.ops 2 [
    (0, ⟨(some 23), none, .mv (.t 3)⟩),
    (1, ⟨(some 2), none, .mv (.t 23)⟩)] (some [2])) .ret))))
def md122 : FuncId → Option Nat × Bool
  | _ => (none, false)
def od122 : Nat → List (List Nat) × List Nat × Option (List Nat)
  | 0 => ([], [], some [0])
  | 1 => ([], [], some [0, 3])
  | 2 => ([], [], some [0, 3, 9, 10])
  | 3 => ([], [], some [0, 3, 9, 10, 11])
  | 4 => ([], [], some [0, 3, 4, 9, 10])
  | 5 => ([], [], some [0, 3, 9, 10])
  | 6 => ([], [], some [0, 3, 9, 10])
  | 7 => ([], [], some [2])
  | _ => ([], [], none)
theorem b122 {ags : List AV} {row : Option (List DV)} {r : AV} {row' nw : Option (List DV)} (hal : ags.length ≤ 24) (hrow : row'.isSome = true → row.isSome = true) (h : xwp Try.prog x122 (retK [.tmp 2] row.isSome r row' nw) (St.init ags row)) : Good Try.prog 122 ags row r row' nw :=
  good_of_body' (md := md122) (od := od122) Try.f122 (by kernel_rfl) (by kernel_rfl) (by kernel_rfl) (by kernel_rfl) (by kernel_rfl) hal hrow h

def tabM : Tab
  | 64 => some ⟨x64, [.tmp 0], 90, false, 8⟩
  | 65 => some ⟨x65, [.tmp 2], 7, false, 8⟩
  | 67 => some ⟨x67, [.tmp 2], 7, false, 8⟩
  | 120 => some ⟨x120, [.tmp 4], 36, true, 4⟩
  | 122 => some ⟨x122, [.tmp 2], 24, false, 8⟩
  | 121 => some ⟨x121, [.cell 2 (some 7), .tmp 3], 9, false, 8⟩
  | 69 => some ⟨x69, [.tmp 2], 21, false, 8⟩
  | 70 => some ⟨x70, [.cell 2 (some 4)], 12, false, 8⟩
  | 66 => some ⟨x66, [.tmp 2, .tmp 3], 15, false, 8⟩
  | 71 => some ⟨x71, [.tmp 2], 12, false, 8⟩
  | 151 => some ⟨x151, [.cell 2 (some 7)], 87, false, 8⟩
  | 165 => some ⟨x165, [.cell 0 (some 7)], 2, false, 8⟩
  | 173 => some ⟨x173, [.tmp 4], 14, false, 8⟩
  | 166 => some ⟨x166, [.cell 4 (some 7)], 34, false, 8⟩
  | 167 => some ⟨x167, [.cell 4 (some 7)], 39, false, 8⟩
  | 168 => some ⟨x168, [.cell 6 (some 7)], 45, false, 8⟩
  | 68 => some ⟨x68, [.tmp 2], 7, false, 8⟩
  | 123 => some ⟨x123, [.tmp 2], 54, false, 8⟩
  | 84 => some ⟨x84, [.tmp 2], 4, false, 8⟩
  | 132 => some ⟨x132, [.tmp 4], 46, false, 8⟩
  | 156 => some ⟨x156, [.tmp 2], 121, false, 8⟩
  | 157 => some ⟨x157, [.tmp 4], 24, false, 8⟩
  | 83 => some ⟨x83, [.cell 2 (some 8)], 13, false, 8⟩
  | 119 => some ⟨x119, [.cell 4 (some 4)], 24, false, 8⟩
  | 149 => some ⟨x149, [.cell 2 (some 8)], 16, false, 8⟩
  | 150 => some ⟨x150, [], 10, false, 8⟩
  | 162 => some ⟨x162, [.cell 2 (some 8)], 14, false, 8⟩
  | 163 => some ⟨x163, [.tmp 4], 17, false, 8⟩
  | 164 => some ⟨x164, [.cell 4 (some 8)], 20, false, 8⟩
  | 170 => some ⟨x170, [.tmp 2], 16, false, 8⟩
  | 171 => some ⟨x171, [.cell 2 (some 8)], 33, false, 8⟩
  | 172 => some ⟨x172, [.tmp 2], 23, false, 8⟩
  | 176 => some ⟨x176, [.cell 2 (some 8)], 60, false, 8⟩
  | 177 => some ⟨x177, [.tmp 2, .tmp 3], 29, false, 8⟩
  | 178 => some ⟨x178, [], 15, false, 8⟩
  | 179 => some ⟨x179, [.cell 2 (some 4)], 19, false, 8⟩
  | 180 => some ⟨x180, [.cell 2 (some 4)], 10, false, 8⟩
  | 181 => some ⟨x181, [.tmp 2], 34, false, 8⟩
  | 182 => some ⟨x182, [.tmp 2], 54, false, 8⟩
  | 183 => some ⟨x183, [.cell 2 (some 4)], 28, false, 8⟩
  | 184 => some ⟨x184, [.cell 2 (some 4)], 15, false, 8⟩
  | 185 => some ⟨x185, [.tmp 2], 50, false, 8⟩
  | 186 => some ⟨x186, [.tmp 2], 22, false, 8⟩
  | 187 => some ⟨x187, [.tmp 2], 28, false, 8⟩
  | 188 => some ⟨x188, [.tmp 4], 8, false, 8⟩
  | 189 => some ⟨x189, [.tmp 2], 24, false, 8⟩
  | 190 => some ⟨x190, [.tmp 4], 8, false, 8⟩
  | 73 => some ⟨x73, [.cell 4 (some 4)], 19, false, 8⟩
  | _ => none
theorem tabM_ok : TabOK Try.prog tabM := by
  intro f t h ags row r row' nw hal hrow hx
  unfold tabM at h
  split at h
  · cases h; exact b64 hal hrow hx
  · cases h; exact b65 hal hrow hx
  · cases h; exact b67 hal hrow hx
  · cases h; exact b120 hal hrow hx
  · cases h; exact b122 hal hrow hx
  · cases h; exact b121 hal hrow hx
  · cases h; exact b69 hal hrow hx
  · cases h; exact b70 hal hrow hx
  · cases h; exact b66 hal hrow hx
  · cases h; exact b71 hal hrow hx
  · cases h; exact b151 hal hrow hx
  · cases h; exact b165 hal hrow hx
  · cases h; exact b173 hal hrow hx
  · cases h; exact b166 hal hrow hx
  · cases h; exact b167 hal hrow hx
  · cases h; exact b168 hal hrow hx
  · cases h; exact b68 hal hrow hx
  · cases h; exact b123 hal hrow hx
  · cases h; exact b84 hal hrow hx
  · cases h; exact b132 hal hrow hx
  · cases h; exact b156 hal hrow hx
  · cases h; exact b157 hal hrow hx
  · cases h; exact b83 hal hrow hx
  · cases h; exact b119 hal hrow hx
  · cases h; exact b149 hal hrow hx
  · cases h; exact b150 hal hrow hx
  · cases h; exact b162 hal hrow hx
  · cases h; exact b163 hal hrow hx
  · cases h; exact b164 hal hrow hx
  · cases h; exact b170 hal hrow hx
  · cases h; exact b171 hal hrow hx
  · cases h; exact b172 hal hrow hx
  · cases h; exact b176 hal hrow hx
  · cases h; exact b177 hal hrow hx
  · cases h; exact b178 hal hrow hx
  · cases h; exact b179 hal hrow hx
  · cases h; exact b180 hal hrow hx
  · cases h; exact b181 hal hrow hx
  · cases h; exact b182 hal hrow hx
  · cases h; exact b183 hal hrow hx
  · cases h; exact b184 hal hrow hx
  · cases h; exact b185 hal hrow hx
  · cases h; exact b186 hal hrow hx
  · cases h; exact b187 hal hrow hx
  · cases h; exact b188 hal hrow hx
  · cases h; exact b189 hal hrow hx
  · cases h; exact b190 hal hrow hx
  · cases h; exact b73 hal hrow hx
  · cases h

theorem awake64_ev : evF tabM (spP 100) 100 40 64 [] none = some (.b true, none, none) := by kernel_rfl
theorem awake64_good : Good Try.prog 64 [] none (.b true) none none := evF_sound tabM_ok (spP_ok 100) 40 64 [] none _ _ _ awake64_ev
end Go.Sv
namespace Go.Sv
open Go Go.Proofs

set_option maxRecDepth 100000
set_option maxHeartbeats 4000000
attribute [local irreducible] W E R KP thenK blockK retK Good xwp aRun
theorem msize122_good : ∀ (n : Nat) (t : T) (cs : List DV) (off : Nat), NodeAt cs off t → t.cnt ≤ n → n ≤ 1000000 → Good Try.prog 122 [.d (.ptr cs off)] none (.i (t.cnt : Nat)) none none := by
  intro n
  induction n with
  | zero => intro t cs off _ ht; have := cnt_pos t; omega
  | succ n ih =>
  intro t cs off hs ht hc
  obtain ⟨k, a, b, c, d, mn, mx, subs⟩ := t
  have ih' : ∀ i (h : i < subs.length), Good Try.prog 122 [.d (.ptr (encL subs) (i * 8))] none (.i (subs[i].cnt : Nat)) none none := by
    intro i h
    refine ih _ _ _ (NodeAt.sub h) ?_ (by omega)
    have := cntL_get subs i h
    simp only [T.cnt] at ht
    omega
  have hlen : subs.length ≤ 1000000 := by
    have := cntL_len subs
    simp only [T.cnt] at ht
    omega
  have hstep : ∀ i (h : i < subs.length), cntL (subs.take (i + 1)) = cntL (subs.take i) + subs[i].cnt := fun i h => by
    rw [List.take_succ_eq_append_getElem h, cntL_app]; simp [cntL]
  have htl : ∀ i, cntL (subs.take i) ≤ 1000000 := fun i => by
    have := cntL_take_le subs i
    simp only [T.cnt] at ht
    omega
  refine b122 (by simp) (by simp) (w_init ?_)
  unfold x122
  repeat' (first
    | (apply r_mvV; rfl)
    | (apply r_mvP; rfl)
    | (apply r_mvPL; rfl)
    | (apply r_mvS; rfl)
    | (apply r_mvSL; rfl)
    | (apply r_mvA; rfl)
    | (apply r_mvT; rfl)
    | (apply r_mvF; rfl)
    | (apply r_mvD; rfl)
    | (apply r_nckD; rfl)
    | (apply r_faddD; rfl)
    | (apply r_nckL; rfl)
    | (apply r_faddL; rfl)
    | (apply r_l; apply ld_kind; assumption; rfl)
    | (apply r_l; apply ld_mn; assumption; rfl)
    | (apply r_l; apply ld_mx; assumption; rfl)
    | (apply r_l; apply ld_subs; assumption; rfl)
    | (apply r_l; apply ld_set; assumption; rfl)
    | (apply r_l; apply ld_node; assumption; rfl)
    | (apply r_l; apply ld_kind'; assumption; rfl)
    | (apply r_l; apply ld_mn'; assumption; rfl)
    | (apply r_l; apply ld_mx'; assumption; rfl)
    | (apply r_l; apply ld_subs'; assumption; rfl)
    | (apply r_l; apply ld_node'; assumption; rfl)
    | (apply r_ldL; rfl; rfl; rfl)
    | (apply r_lss; rfl; rfl; (first | (apply decide_eq_true; omega) | (apply decide_eq_false; omega) | rfl))
    | (apply r_add; rfl; rfl; rfl; omega)
    | (apply r_lenD; rfl)
    | (apply r_lenL; rfl)
    | (apply r_len0; rfl)
    | (apply r_p; rfl)
    | (apply r_nilK)
    | (apply r_nil)
    | (apply k_V; rfl)
    | (apply k_P; rfl)
    | (apply k_PL; rfl)
    | (apply k_S; rfl)
    | (apply k_SL; rfl)
    | (apply k_A; rfl)
    | (apply k_T; rfl)
    | (apply k_F; rfl)
    | (apply k_D; rfl; rotate_left; rfl)
    | (apply k_nil)
    | (apply e_ret (vs := [.d (.val _)]); rfl)
    | (apply e_ret; rfl)
    | (apply e_ret' (vs := [.d (.val _)]); rfl)
    | (apply e_ret'; rfl)
    | (apply w_seq)
    | (apply w_ops; ((conv => lhs; simp only [Nat.reduceAdd]) <;> rfl))
    | (apply w_condT; rfl)
    | (apply w_condF; rfl)
    | ((apply w_condS; rfl) <;> (intro h; try simp only [decide_eq_true_eq, decide_eq_false_iff_not, Bool.not_eq_true, Bool.not_eq_false] at h))
    | (apply e_thenN)
    | (apply w_block)
    | (apply e_thenR)
    | (apply e_thenX)
    | (apply e_blkN)
    | (apply e_blkR)
    | (apply e_blkE)
    | (apply w_exit)
    | (apply w_ret)
    | (apply w_skip)
    | (apply e_blkE'; rfl))
  apply w_loopI (S := fun i : Nat => ⟨(((Fr.nil.put 0 (.d (.ptr cs off))).put 3 (.i ((1 + cntL (subs.take i) : Nat) : Int))).put 9 (.i subs.length)).put 10 (.i i), Heap.nil, Frz.lo 100, 100⟩) (m := fun i => subs.length - i) (I := fun i => i ≤ subs.length) (i0 := 0)
  · exact Nat.zero_le _
  · refine wk0 (by omega) ?_
    repeat' (first
    | exact FWk.nil
    | (apply FWk.i; rfl; (first | rfl | omega | (simp; done)))
    | (apply FWk.sl; rfl; rfl; rfl; rfl; omega; rfl)
    | (apply FWk.ptr; rfl; rfl; rfl; omega; rfl)
    | (apply FWk.d; rfl; rfl)
    | (apply FWk.a; rfl; rfl; rfl)
    | (apply FWk.slN; rfl; omega; rfl))
  intro i K hi hK
  dsimp only
  rcases Nat.lt_or_ge i subs.length with hlt | hge
  · have hg := ih' i hlt
    have hs1 := hstep i hlt
    have h1 := htl i
    have h2 := htl (i + 1)
    have fin : ∀ fr C Z nx, Wk ⟨fr, C, Z, nx⟩ ⟨(((Fr.nil.put 0 (.d (.ptr cs off))).put 3 (.i (((1 + cntL (subs.take i) : Nat) : Int) + ((subs[i].cnt : Nat) : Int)))).put 9 (.i subs.length)).put 10 (.i ((i + 1 : Nat) : Int)), Heap.nil, Frz.lo 100, 100⟩ → K ⟨fr, C, Z, nx⟩ := fun fr C Z nx hw => hK (i + 1) fr C Z nx (by omega) (by omega) (by
      rw [hs1, show ((1 + (cntL (subs.take i) + subs[i].cnt) : Nat) : Int) = ((1 + cntL (subs.take i) : Nat) : Int) + ((subs[i].cnt : Nat) : Int) by omega]; exact hw)
    generalize subs[i].cnt = c1 at *
    generalize cntL (subs.take i) = c0 at *
    repeat' (first
    | (apply r_mvV; rfl)
    | (apply r_mvP; rfl)
    | (apply r_mvPL; rfl)
    | (apply r_mvS; rfl)
    | (apply r_mvSL; rfl)
    | (apply r_mvA; rfl)
    | (apply r_mvT; rfl)
    | (apply r_mvF; rfl)
    | (apply r_mvD; rfl)
    | (apply r_nckD; rfl)
    | (apply r_faddD; rfl)
    | (apply r_nckL; rfl)
    | (apply r_faddL; rfl)
    | (apply r_l; apply ld_kind; assumption; rfl)
    | (apply r_l; apply ld_mn; assumption; rfl)
    | (apply r_l; apply ld_mx; assumption; rfl)
    | (apply r_l; apply ld_subs; assumption; rfl)
    | (apply r_l; apply ld_set; assumption; rfl)
    | (apply r_l; apply ld_node; assumption; rfl)
    | (apply r_l; apply ld_kind'; assumption; rfl)
    | (apply r_l; apply ld_mn'; assumption; rfl)
    | (apply r_l; apply ld_mx'; assumption; rfl)
    | (apply r_l; apply ld_subs'; assumption; rfl)
    | (apply r_l; apply ld_node'; assumption; rfl)
    | (apply r_p; apply ix_sub; rfl; rfl; omega)
    | (apply r_callA; rfl; rfl; exact hg)
    | (apply r_ldL; rfl; rfl; rfl)
    | (apply r_lss; rfl; rfl; (first | (apply decide_eq_true; omega) | (apply decide_eq_false; omega) | rfl))
    | (apply r_add; rfl; rfl; rfl; omega)
    | (apply r_lenD; rfl)
    | (apply r_lenL; rfl)
    | (apply r_len0; rfl)
    | (apply r_p; rfl)
    | (apply r_nilK)
    | (apply r_nil)
    | (apply k_V; rfl)
    | (apply k_P; rfl)
    | (apply k_PL; rfl)
    | (apply k_S; rfl)
    | (apply k_SL; rfl)
    | (apply k_A; rfl)
    | (apply k_T; rfl)
    | (apply k_F; rfl)
    | (apply k_D; rfl; rotate_left; rfl)
    | (apply k_nil)
    | (apply e_ret (vs := [.d (.val _)]); rfl)
    | (apply e_ret; rfl)
    | (apply e_ret' (vs := [.d (.val _)]); rfl)
    | (apply e_ret'; rfl)
    | (apply w_seq)
    | (apply w_ops; ((conv => lhs; simp only [Nat.reduceAdd]) <;> rfl))
    | (apply w_condT; rfl)
    | (apply w_condF; rfl)
    | ((apply w_condS; rfl) <;> (intro h; try simp only [decide_eq_true_eq, decide_eq_false_iff_not, Bool.not_eq_true, Bool.not_eq_false] at h))
    | (apply e_thenN)
    | (apply w_block)
    | (apply e_thenR)
    | (apply e_thenX)
    | (apply e_blkN)
    | (apply e_blkR)
    | (apply e_blkE)
    | (apply w_exit)
    | (apply w_ret)
    | (apply w_skip)
    | (apply e_blkE'; rfl))
    apply e_thenK
    apply fin
    refine wk0 (by omega) ?_
    repeat' (first
    | exact FWk.nil
    | (apply FWk.i; rfl; (first | rfl | omega | (simp; done)))
    | (apply FWk.sl; rfl; rfl; rfl; rfl; omega; rfl)
    | (apply FWk.ptr; rfl; rfl; rfl; omega; rfl)
    | (apply FWk.d; rfl; rfl)
    | (apply FWk.a; rfl; rfl; rfl)
    | (apply FWk.slN; rfl; omega; rfl))
  · rw [List.take_of_length_le hge]
    repeat' (first
    | (apply r_mvV; rfl)
    | (apply r_mvP; rfl)
    | (apply r_mvPL; rfl)
    | (apply r_mvS; rfl)
    | (apply r_mvSL; rfl)
    | (apply r_mvA; rfl)
    | (apply r_mvT; rfl)
    | (apply r_mvF; rfl)
    | (apply r_mvD; rfl)
    | (apply r_nckD; rfl)
    | (apply r_faddD; rfl)
    | (apply r_nckL; rfl)
    | (apply r_faddL; rfl)
    | (apply r_l; apply ld_kind; assumption; rfl)
    | (apply r_l; apply ld_mn; assumption; rfl)
    | (apply r_l; apply ld_mx; assumption; rfl)
    | (apply r_l; apply ld_subs; assumption; rfl)
    | (apply r_l; apply ld_set; assumption; rfl)
    | (apply r_l; apply ld_node; assumption; rfl)
    | (apply r_l; apply ld_kind'; assumption; rfl)
    | (apply r_l; apply ld_mn'; assumption; rfl)
    | (apply r_l; apply ld_mx'; assumption; rfl)
    | (apply r_l; apply ld_subs'; assumption; rfl)
    | (apply r_l; apply ld_node'; assumption; rfl)
    | (apply r_ldL; rfl; rfl; rfl)
    | (apply r_lss; rfl; rfl; (first | (apply decide_eq_true; omega) | (apply decide_eq_false; omega) | rfl))
    | (apply r_add; rfl; rfl; rfl; omega)
    | (apply r_lenD; rfl)
    | (apply r_lenL; rfl)
    | (apply r_len0; rfl)
    | (apply r_p; rfl)
    | (apply r_nilK)
    | (apply r_nil)
    | (apply k_V; rfl)
    | (apply k_P; rfl)
    | (apply k_PL; rfl)
    | (apply k_S; rfl)
    | (apply k_SL; rfl)
    | (apply k_A; rfl)
    | (apply k_T; rfl)
    | (apply k_F; rfl)
    | (apply k_D; rfl; rotate_left; rfl)
    | (apply k_nil)
    | (apply e_ret (vs := [.d (.val _)]); rfl)
    | (apply e_ret; rfl)
    | (apply e_ret' (vs := [.d (.val _)]); rfl)
    | (apply e_ret'; rfl)
    | (apply w_seq)
    | (apply w_ops; ((conv => lhs; simp only [Nat.reduceAdd]) <;> rfl))
    | (apply w_condT; rfl)
    | (apply w_condF; rfl)
    | ((apply w_condS; rfl) <;> (intro h; try simp only [decide_eq_true_eq, decide_eq_false_iff_not, Bool.not_eq_true, Bool.not_eq_false] at h))
    | (apply e_thenN)
    | (apply w_block)
    | (apply e_thenR)
    | (apply e_thenX)
    | (apply e_blkN)
    | (apply e_blkR)
    | (apply e_blkE)
    | (apply w_exit)
    | (apply w_ret)
    | (apply w_skip)
    | (apply e_blkE'; rfl))
    exact retI (by simp only [T.cnt])
theorem mSize67_good (t : T) (hc : t.cnt ≤ 1000000) : Good Try.prog 67 [nodeA t] none (.i (if fitsT t 12 = true then (t.cnt : Nat) else 0)) none none := by
  have hright := right_good t hc
  have hw := msize122_good 1000000 t (encN t) 0 (NodeAt.self _) hc (Nat.le_refl _)
  rcases Bool.eq_false_or_eq_true (fitsT t 12) with hR | hR
  case inr =>
    rw [hR] at hright ⊢
    rw [if_neg (by simp)]
    obtain ⟨k, a, b, c, d, mn, mx, subs⟩ := t
    have e0 : nodeA (.node k a b c d mn mx subs) = .agg [.i k, .d (.val (.int .u64 a)), .d (.val (.int .u64 b)), .d (.val (.int .u64 c)), .d (.val (.int .u64 d)), .i mn, .i mx, .d (.sl (encL subs) subs.length)] := rfl
    rw [e0] at hright ⊢
    refine b67 (by simp) (by simp) (w_init ?_)
    unfold x67
    repeat' (first
    | (apply r_mvV; rfl)
    | (apply r_mvP; rfl)
    | (apply r_mvPL; rfl)
    | (apply r_mvS; rfl)
    | (apply r_mvSL; rfl)
    | (apply r_mvA; rfl)
    | (apply r_mvT; rfl)
    | (apply r_mvF; rfl)
    | (apply r_mvD; rfl)
    | (apply r_l; apply ld_kind; assumption; rfl)
    | (apply r_l; apply ld_mn; assumption; rfl)
    | (apply r_l; apply ld_mx; assumption; rfl)
    | (apply r_l; apply ld_subs; assumption; rfl)
    | (apply r_l; apply ld_set; assumption; rfl)
    | (apply r_l; apply ld_node; assumption; rfl)
    | (apply r_l; apply ld_kind'; assumption; rfl)
    | (apply r_l; apply ld_mn'; assumption; rfl)
    | (apply r_l; apply ld_mx'; assumption; rfl)
    | (apply r_l; apply ld_subs'; assumption; rfl)
    | (apply r_l; apply ld_node'; assumption; rfl)
    | (apply r_callA; rfl; rfl; exact hright)
    | (apply r_ldL; rfl; rfl; rfl)
    | (apply r_not; rfl; rfl)
    | (apply r_box; ((conv => lhs; simp only [Nat.reduceAdd]) <;> rfl); rfl; rfl; rfl)
    | (apply r_nilK)
    | (apply r_nil)
    | (apply k_V; rfl)
    | (apply k_P; rfl)
    | (apply k_PL; rfl)
    | (apply k_S; rfl)
    | (apply k_SL; rfl)
    | (apply k_A; rfl)
    | (apply k_T; rfl)
    | (apply k_F; rfl)
    | (apply k_D; rfl; rotate_left; rfl)
    | (apply k_nil)
    | (apply e_ret (vs := [.d (.val _)]); rfl)
    | (apply e_ret; rfl)
    | (apply e_ret' (vs := [.d (.val _)]); rfl)
    | (apply e_ret'; rfl)
    | (apply w_seq)
    | (apply w_ops; ((conv => lhs; simp only [Nat.reduceAdd]) <;> rfl))
    | (apply w_condT; rfl)
    | (apply w_condF; rfl)
    | ((apply w_condS; rfl) <;> (intro h; try simp only [decide_eq_true_eq, decide_eq_false_iff_not, Bool.not_eq_true, Bool.not_eq_false] at h))
    | (apply e_thenN)
    | (apply w_block)
    | (apply e_thenR)
    | (apply e_thenX)
    | (apply e_blkN)
    | (apply e_blkR)
    | (apply e_blkE)
    | (apply w_exit)
    | (apply w_ret)
    | (apply w_skip)
    | (apply e_blkE'; rfl))
    exact retI rfl
  rw [hR] at hright ⊢
  rw [if_pos rfl]
  generalize t.cnt = ct at hw
  obtain ⟨k, a, b, c, d, mn, mx, subs⟩ := t
  have e0 : nodeA (.node k a b c d mn mx subs) = .agg [.i k, .d (.val (.int .u64 a)), .d (.val (.int .u64 b)), .d (.val (.int .u64 c)), .d (.val (.int .u64 d)), .i mn, .i mx, .d (.sl (encL subs) subs.length)] := rfl
  rw [e0] at hright ⊢
  refine b67 (by simp) (by simp) (w_init ?_)
  unfold x67
  repeat' (first
    | (apply r_mvV; rfl)
    | (apply r_mvP; rfl)
    | (apply r_mvPL; rfl)
    | (apply r_mvS; rfl)
    | (apply r_mvSL; rfl)
    | (apply r_mvA; rfl)
    | (apply r_mvT; rfl)
    | (apply r_mvF; rfl)
    | (apply r_mvD; rfl)
    | (apply r_l; apply ld_kind; assumption; rfl)
    | (apply r_l; apply ld_mn; assumption; rfl)
    | (apply r_l; apply ld_mx; assumption; rfl)
    | (apply r_l; apply ld_subs; assumption; rfl)
    | (apply r_l; apply ld_set; assumption; rfl)
    | (apply r_l; apply ld_node; assumption; rfl)
    | (apply r_l; apply ld_kind'; assumption; rfl)
    | (apply r_l; apply ld_mn'; assumption; rfl)
    | (apply r_l; apply ld_mx'; assumption; rfl)
    | (apply r_l; apply ld_subs'; assumption; rfl)
    | (apply r_l; apply ld_node'; assumption; rfl)
    | (apply r_callA; rfl; rfl; exact hright)
    | (apply r_call (bs := [.d (.ptr (encN (.node k a b c d mn mx subs)) 0)]) (us := [1]); rfl; rfl; exact hw; rfl)
    | (apply r_ldL; rfl; rfl; rfl)
    | (apply r_not; rfl; rfl)
    | (apply r_box; ((conv => lhs; simp only [Nat.reduceAdd]) <;> rfl); rfl; rfl; rfl)
    | (apply r_nilK)
    | (apply r_nil)
    | (apply k_V; rfl)
    | (apply k_P; rfl)
    | (apply k_PL; rfl)
    | (apply k_S; rfl)
    | (apply k_SL; rfl)
    | (apply k_A; rfl)
    | (apply k_T; rfl)
    | (apply k_F; rfl)
    | (apply k_D; rfl; rotate_left; rfl)
    | (apply k_nil)
    | (apply e_ret (vs := [.d (.val _)]); rfl)
    | (apply e_ret; rfl)
    | (apply e_ret' (vs := [.d (.val _)]); rfl)
    | (apply e_ret'; rfl)
    | (apply w_seq)
    | (apply w_ops; ((conv => lhs; simp only [Nat.reduceAdd]) <;> rfl))
    | (apply w_condT; rfl)
    | (apply w_condF; rfl)
    | ((apply w_condS; rfl) <;> (intro h; try simp only [decide_eq_true_eq, decide_eq_false_iff_not, Bool.not_eq_true, Bool.not_eq_false] at h))
    | (apply e_thenN)
    | (apply w_block)
    | (apply e_thenR)
    | (apply e_thenX)
    | (apply e_blkN)
    | (apply e_blkR)
    | (apply e_blkE)
    | (apply w_exit)
    | (apply w_ret)
    | (apply w_skip)
    | (apply e_blkE'; rfl))
  exact retI rfl
end Go.Sv
namespace Go.Sv
open Go
set_option linter.unusedVariables false
section
variable {P : Program} {Q : Cont} {fr : Fr} {C : Heap} {Z : Frz} {nx : Nat} {base n d : Nat} {l : List (Nat × XO)} {kp : Option (List Nat)} {x i y s : X}
end
end Go.Sv
namespace Go.Sv
open Go
set_option linter.unusedVariables false
theorem good_nil {P : Program} {f : FuncId} {ags : List AV} {r : AV} {nw : Option (List DV)} {j sz : Nat} (hj : ags[j]? = some (.slL 0 0 0 sz))
    (h : Good P f ags (some []) r none nw) : Good P f (ags.set j (.d (.val (.slice none 0 0)))) none r none nw := by
  obtain ⟨h1, h2, h3⟩ := h
  refine ⟨h1, fun h => by simp at h, ?_⟩
  intro w S m vs hS hm hrow hvs
  have h4 := h3 w S none vs hS (fun k _ hk => by cases hk) (fun ds hds => by cases hds; exact .inl ⟨rfl, rfl⟩) (by
    refine RAs.of_get? (by have := hvs.1; rw [List.length_set] at this; exact this) fun i x hx => ?_
    by_cases e : i = j
    · subst e
      have hl : i < ags.length := (List.getElem?_eq_some_iff.1 hj).1
      obtain ⟨v, hv, hr⟩ := hvs.get? (j := i) (x := .d (.val (.slice none 0 0))) (by rw [List.getElem?_set_self hl])
      rw [hj] at hx
      cases hx
      refine ⟨v, hv, ?_⟩
      cases hr with
      | d _ _ hd =>
        cases hd with
        | val _ _ => exact .slN 0 sz ⟨rfl, rfl⟩ rfl
    · obtain ⟨v, hv, hr⟩ := hvs.get? (j := i) (x := x) (by rw [List.getElem?_set_ne (fun h => e h.symm)]; exact hx)
      refine ⟨v, hv, ?_⟩
      refine hr.mono (fun b _ hb => ?_) (fun _ _ _ => rfl) (fun _ _ h => h) (fun b hb => ?_) (fun b hb => ?_)
      · rcases hb with hb | ⟨_, hb⟩
        · exact .inl hb
        · cases hb
      · simp at hb
      · simp at hb)
  refine Calls.mono h4 ?_
  rintro e w' ⟨v, nm, he, hk, hnm, hr1, hr2, hra⟩
  have hA : ∀ k, (S k ∨ ((none : Option (List DV)).isSome = true ∧ m = some k) ∨ (nw.isSome = true ∧ nm = some k)) → (S k ∨ ((none : Option (List DV)).isSome = true ∧ (none : Option Nat) = some k) ∨ (nw.isSome = true ∧ nm = some k)) := by
    rintro k (h | ⟨h, _⟩ | h)
    · exact .inl h
    · simp at h
    · exact .inr (.inr h)
  refine ⟨v, nm, he, ⟨hk.os, hk.tape, hk.output, hk.size, fun k hk1 _ => hk.keep k hk1 (by rintro ⟨_, h⟩; cases h), hk.shape⟩, ?_, ?_, fun ds hds => (hr2 ds hds).mono hA, ?_⟩
  · intro k h5 h6
    rcases hnm k h5 h6 with h | ⟨_, _, h⟩
    · exact .inl h
    · cases h
  · intro ds h; cases h
  · refine hra.mono (fun k _ hk => hA k hk) (fun _ _ _ => rfl) (fun _ _ h => h) (fun b hb => hb) (fun b hb => ?_)
    rcases hb with ⟨_, h⟩ | ⟨rfl, _⟩
    · simp at h
    · rfl
end Go.Sv
