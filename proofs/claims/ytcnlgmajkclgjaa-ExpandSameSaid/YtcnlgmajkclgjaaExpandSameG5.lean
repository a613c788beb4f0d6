/- A part of the proof of the law ExpandSame: that it answers true for every input, and that the input reads behind the call as before (no condition). -/
import Derived.Test.YtcnlgmajkclgjaaExpandSameG4
set_option linter.all false
set_option linter.unusedSectionVars false
set_option linter.unusedVariables false
set_option linter.unusedSimpArgs false
namespace Go.Sv
open Go Go.Proofs
set_option maxRecDepth 100000
def x83 : XC := (.seq (.ops 1 [
    (0, ⟨(some 2), none, .alloc [(.int .i64 0), (.int .u64 0), (.int .u64 0), (.int .u64 0), (.int .u64 0), (.int .i64 0), (.int .i64 0), (.slice none 0 0)]⟩)] (some [0, 2])) (.seq (.ops 10 [
    (0, ⟨(some 7), none, .mv (.t 0)⟩),
    (1, ⟨(some 8), none, .call 118 [(.t 7)] none false⟩),
    (2, ⟨(some 6), none, .mv (.t 8)⟩),
    (3, ⟨(some 9), none, .ext (.t 6) 0⟩),
    (4, ⟨(some 10), none, .ext (.t 6) 1⟩),
    (5, ⟨(some 11), none, .ext (.t 6) 2⟩),
    (6, ⟨(some 3), none, .alloc [(.int .i64 0), (.int .u64 0), (.int .u64 0), (.int .u64 0), (.int .u64 0), (.int .i64 0), (.int .i64 0), (.slice none 0 0)]⟩),
    (7, ⟨none, none, .store 8 (.t 3) (.t 9)⟩),
    (8, ⟨(some 4), none, .mv (.t 10)⟩),
    (9, ⟨(some 5), none, .mv (.t 11)⟩)] (some [2, 3])) (.seq (.ops 2 [
    (0, ⟨(some 12), none, .load (some 8) (.t 3)⟩),
    (1, ⟨none, none, .store 8 (.t 2) (.t 12)⟩)] (some [2])) .ret)))
def md83 : FuncId → Option Nat × Bool
  | _ => (none, false)
def od83 : Nat → List (List Nat) × List Nat × Option (List Nat)
  | 0 => ([], [], some [0, 2])
  | 1 => ([], [], some [2, 3])
  | 2 => ([], [], some [2])
  | _ => ([], [], none)
theorem b83 {ags : List AV} {row : Option (List DV)} {r : AV} {row' nw : Option (List DV)} (hal : ags.length ≤ 13) (hrow : row'.isSome = true → row.isSome = true) (h : xwp Try.prog x83 (retK [.cell 2 (some 8)] row.isSome r row' nw) (St.init ags row)) : Good Try.prog 83 ags row r row' nw :=
  good_of_body' (md := md83) (od := od83) Try.f83 (by kernel_rfl) (by kernel_rfl) (by kernel_rfl) (by kernel_rfl) (by kernel_rfl) hal hrow h

def x119 : XC := (.seq (.ops 1 [
    (0, ⟨(some 4), none, .alloc [(.int .u64 0), (.int .u64 0), (.int .u64 0), (.int .u64 0)]⟩)] (some [0, 1, 4])) (.seq (.seq (.ops 3 [
    (0, ⟨(some 6), none, .mv (.t 0)⟩),
    (1, ⟨(some 7), none, .conv .i64 (.t 6)⟩),
    (2, ⟨(some 5), none, .mv (.t 7)⟩)] (some [1, 4, 5])) (.block 0 (.loop (.seq (.seq (.ops 4 [
    (0, ⟨(some 8), none, .mv (.t 5)⟩),
    (1, ⟨(some 9), none, .mv (.t 1)⟩),
    (2, ⟨(some 10), none, .conv .i64 (.t 9)⟩),
    (3, ⟨(some 11), none, .arith .leq (.t 8) (.t 10)⟩)] (some [1, 4, 5, 11])) (.cond (.t 11) .skip (.exit 0))) (.seq (.block 1 (.ops 10 [
    (0, ⟨(some 14), none, .mv (.t 5)⟩),
    (1, ⟨(some 15), none, .arith .quo (.t 14) (.k (.d (.val (.int .i64 64))))⟩),
    (2, ⟨(some 16), none, .idxP 4 1 (.t 4) (.t 15)⟩),
    (3, ⟨(some 17), none, .load none (.t 16)⟩),
    (4, ⟨(some 18), none, .mv (.t 5)⟩),
    (5, ⟨(some 19), none, .arith .rem (.t 18) (.k (.d (.val (.int .i64 64))))⟩),
    (6, ⟨(some 20), none, .arith .shl (.k (.d (.val (.int .u64 1)))) (.t 19)⟩),
    (7, ⟨(some 21), none, .arith .or (.t 17) (.t 20)⟩),
    (8, ⟨(some 22), none, .idxP 4 1 (.t 4) (.t 15)⟩),
    (9, ⟨none, none, .store 1 (.t 22) (.t 21)⟩)] (some [1, 4, 5]))) (.ops 3 [
    (0, ⟨(some 12), none, .mv (.t 5)⟩),
    (1, ⟨(some 13), none, .arith .add (.t 12) (.k (.d (.val (.int .i64 1))))⟩),
    (2, ⟨(some 5), none, .mv (.t 13)⟩)] (some [1, 4, 5]))))))) (.seq (.ops 2 [
    (0, ⟨(some 23), none, .load (some 4) (.t 4)⟩),
    (1, ⟨none, none, .store 4 (.t 4) (.t 23)⟩)] (some [4])) .ret)))
def md119 : FuncId → Option Nat × Bool
  | _ => (none, false)
def od119 : Nat → List (List Nat) × List Nat × Option (List Nat)
  | 0 => ([], [], some [0, 1, 4])
  | 1 => ([], [], some [1, 4, 5])
  | 2 => ([], [], some [1, 4, 5, 11])
  | 3 => ([], [], some [1, 4, 5])
  | 4 => ([[], [0], [0, 1], [0, 1, 2], [], [4], [4, 5], [0, 1, 2, 3, 4, 5, 6], [0, 1, 2, 3, 4, 5, 6, 7], [0, 1, 2, 3, 4, 5, 6, 7, 8]], [0, 1, 2, 3, 4, 5, 6, 7, 8, 9], some [1, 4, 5])
  | 5 => ([], [], some [4])
  | _ => ([], [], none)
theorem b119 {ags : List AV} {row : Option (List DV)} {r : AV} {row' nw : Option (List DV)} (hal : ags.length ≤ 24) (hrow : row'.isSome = true → row.isSome = true) (h : xwp Try.prog x119 (retK [.cell 4 (some 4)] row.isSome r row' nw) (St.init ags row)) : Good Try.prog 119 ags row r row' nw :=
  good_of_body' (md := md119) (od := od119) Try.f119 (by kernel_rfl) (by kernel_rfl) (by kernel_rfl) (by kernel_rfl) (by kernel_rfl) hal hrow h

def x149 : XC := (.seq (.ops 1 [
    (0, ⟨(some 2), none, .alloc [(.int .i64 0), (.int .u64 0), (.int .u64 0), (.int .u64 0), (.int .u64 0), (.int .i64 0), (.int .i64 0), (.slice none 0 0)]⟩)] (some [0, 2])) (.seq (.ops 4 [
    (0, ⟨(some 4), none, .mv (.t 0)⟩),
    (1, ⟨(some 5), none, .call 162 [(.t 4)] (some 0) false⟩),
    (2, ⟨(some 6), none, .mkrow [(.int .i64 0), (.int .u64 0), (.int .u64 0), (.int .u64 0), (.int .u64 0), (.int .i64 0), (.int .i64 0), (.slice none 0 0)] 1 8 [(0, 8, (.t 5))]⟩),
    (3, ⟨(some 3), none, .mv (.t 6)⟩)] (some [0, 2, 3])) (.seq (.block 0 (.loop (.seq (.seq (.ops 2 [
    (0, ⟨(some 7), none, .mv (.t 0)⟩),
    (1, ⟨(some 8), none, .call 163 [(.t 7), (.k (.d (.val (.int .u8 124))))] (some 0) false⟩)] (some [0, 2, 3, 8])) (.cond (.t 8) .skip (.exit 0))) (.block 1 (.ops 6 [
    (0, ⟨(some 9), none, .mv (.t 3)⟩),
    (1, ⟨(some 10), none, .mv (.t 0)⟩),
    (2, ⟨(some 11), none, .call 162 [(.t 10)] (some 0) false⟩),
    (3, ⟨(some 12), none, .mkrow [(.int .i64 0), (.int .u64 0), (.int .u64 0), (.int .u64 0), (.int .u64 0), (.int .i64 0), (.int .i64 0), (.slice none 0 0)] 1 8 [(0, 8, (.t 11))]⟩),
    (4, ⟨(some 13), none, .app [(.int .i64 0), (.int .u64 0), (.int .u64 0), (.int .u64 0), (.int .u64 0), (.int .i64 0), (.int .i64 0), (.slice none 0 0)] 80 (.t 9) (.t 12)⟩),
    (5, ⟨(some 3), none, .mv (.t 13)⟩)] (some [0, 2, 3])))))) (.seq (.ops 3 [
    (0, ⟨(some 14), none, .mv (.t 3)⟩),
    (1, ⟨(some 15), none, .call 164 [(.k (.d (.val (.int .i64 4)))), (.t 14)] none false⟩),
    (2, ⟨none, none, .store 8 (.t 2) (.t 15)⟩)] (some [2])) .ret))))
def md149 : FuncId → Option Nat × Bool
  | 162 => (some 0, false)
  | 163 => (some 0, false)
  | _ => (none, false)
def od149 : Nat → List (List Nat) × List Nat × Option (List Nat)
  | 0 => ([], [], some [0, 2])
  | 1 => ([], [], some [0, 2, 3])
  | 2 => ([], [], some [0, 2, 3, 8])
  | 3 => ([], [], some [0, 2, 3])
  | 4 => ([], [], some [2])
  | _ => ([], [], none)
theorem b149 {ags : List AV} {row : Option (List DV)} {r : AV} {row' nw : Option (List DV)} (hal : ags.length ≤ 16) (hrow : row'.isSome = true → row.isSome = true) (h : xwp Try.prog x149 (retK [.cell 2 (some 8)] row.isSome r row' nw) (St.init ags row)) : Good Try.prog 149 ags row r row' nw :=
  good_of_body' (md := md149) (od := od149) Try.f149 (by kernel_rfl) (by kernel_rfl) (by kernel_rfl) (by kernel_rfl) (by kernel_rfl) hal hrow h

def x150 : XC := (.seq (.ops 2 [
    (0, ⟨(some 6), none, .mv (.t 1)⟩),
    (1, ⟨(some 7), none, .un .not (.t 6)⟩)] (some [2, 7])) (.cond (.t 7) (.ops 3 [
    (0, ⟨(some 8), none, .mv (.t 2)⟩),
    (1, ⟨(some 9), none, .bad⟩),
    (2, ⟨none, none, .bad⟩)] (some [])) .skip))
def md150 : FuncId → Option Nat × Bool
  | _ => (none, false)
def od150 : Nat → List (List Nat) × List Nat × Option (List Nat)
  | 0 => ([], [], some [2, 7])
  | 1 => ([], [], some [])
  | _ => ([], [], none)
theorem b150 {ags : List AV} {row : Option (List DV)} {r : AV} {row' nw : Option (List DV)} (hal : ags.length ≤ 10) (hrow : row'.isSome = true → row.isSome = true) (h : xwp Try.prog x150 (retK [] row.isSome r row' nw) (St.init ags row)) : Good Try.prog 150 ags row r row' nw :=
  good_of_body' (md := md150) (od := od150) Try.f150 (by kernel_rfl) (by kernel_rfl) (by kernel_rfl) (by kernel_rfl) (by kernel_rfl) hal hrow h

def x162 : XC := (.seq (.ops 1 [
    (0, ⟨(some 2), none, .alloc [(.int .i64 0), (.int .u64 0), (.int .u64 0), (.int .u64 0), (.int .u64 0), (.int .i64 0), (.int .i64 0), (.slice none 0 0)]⟩)] (some [0, 2])) (.seq (.ops 1 [
    (0, ⟨(some 3), none, .mv (.k (.d (.val (.slice none 0 0))))⟩)] (some [0, 2, 3])) (.seq (.block 0 (.loop (.seq (.seq (.ops 3 [
    (0, ⟨(some 4), none, .mv (.t 0)⟩),
    (1, ⟨(some 5), none, .call 170 [(.t 4)] none false⟩),
    (2, ⟨(some 6), none, .un .not (.t 5)⟩)] (some [0, 2, 3, 6])) (.cond (.t 6) .skip (.exit 0))) (.block 1 (.ops 6 [
    (0, ⟨(some 7), none, .mv (.t 3)⟩),
    (1, ⟨(some 8), none, .mv (.t 0)⟩),
    (2, ⟨(some 9), none, .call 171 [(.t 8)] (some 0) false⟩),
    (3, ⟨(some 10), none, .mkrow [(.int .i64 0), (.int .u64 0), (.int .u64 0), (.int .u64 0), (.int .u64 0), (.int .i64 0), (.int .i64 0), (.slice none 0 0)] 1 8 [(0, 8, (.t 9))]⟩),
    (4, ⟨(some 11), none, .app [(.int .i64 0), (.int .u64 0), (.int .u64 0), (.int .u64 0), (.int .u64 0), (.int .i64 0), (.int .i64 0), (.slice none 0 0)] 80 (.t 7) (.t 10)⟩),
    (5, ⟨(some 3), none, .mv (.t 11)⟩)] (some [0, 2, 3])))))) (.seq (.ops 3 [
    (0, ⟨(some 12), none, .mv (.t 3)⟩),
    (1, ⟨(some 13), none, .call 164 [(.k (.d (.val (.int .i64 3)))), (.t 12)] none false⟩),
    (2, ⟨none, none, .store 8 (.t 2) (.t 13)⟩)] (some [2])) .ret))))
def md162 : FuncId → Option Nat × Bool
  | 171 => (some 0, false)
  | _ => (none, false)
def od162 : Nat → List (List Nat) × List Nat × Option (List Nat)
  | 0 => ([], [], some [0, 2])
  | 1 => ([], [], some [0, 2, 3])
  | 2 => ([], [], some [0, 2, 3, 6])
  | 3 => ([], [], some [0, 2, 3])
  | 4 => ([], [], some [2])
  | _ => ([], [], none)
theorem b162 {ags : List AV} {row : Option (List DV)} {r : AV} {row' nw : Option (List DV)} (hal : ags.length ≤ 14) (hrow : row'.isSome = true → row.isSome = true) (h : xwp Try.prog x162 (retK [.cell 2 (some 8)] row.isSome r row' nw) (St.init ags row)) : Good Try.prog 162 ags row r row' nw :=
  good_of_body' (md := md162) (od := od162) Try.f162 (by kernel_rfl) (by kernel_rfl) (by kernel_rfl) (by kernel_rfl) (by kernel_rfl) hal hrow h

def x163 : XC := (.seq (.ops 1 [
    (0, ⟨(some 4), none, .mv (.k (.d (.val (.bool false))))⟩)] (some [0, 1])) (.seq (.seq (.ops 5 [
    (0, ⟨(some 5), none, .mv (.t 0)⟩),
    (1, ⟨(some 6), none, .call 172 [(.t 5)] none false⟩),
    (2, ⟨(some 7), none, .mv (.t 1)⟩),
    (3, ⟨(some 8), none, .conv .i64 (.t 7)⟩),
    (4, ⟨(some 9), none, .arith .neq (.t 6) (.t 8)⟩)] (some [0, 9])) (.cond (.t 9) (.seq (.ops 1 [
    (0, ⟨(some 4), none, .mv (.k (.d (.val (.bool false))))⟩)] (some [4])) .ret) .skip)) (.seq (.ops 8 [
    (0, ⟨(some 10), none, .mv (.t 0)⟩),
    (1, ⟨(some 11), none, .nilck (.t 10)⟩),
    (2, ⟨(some 12), none, .fadd 1 (.t 11)⟩),
    (3, ⟨(some 13), none, .load none (.t 12)⟩),
    (4, ⟨(some 14), none, .arith .add (.t 13) (.k (.d (.val (.int .i64 1))))⟩),
    (5, ⟨(some 15), none, .nilck (.t 10)⟩),
    (6, ⟨(some 16), none, .fadd 1 (.t 15)⟩),
    (7, ⟨none, none, .store 1 (.t 16) (.t 14)⟩)] (some [])) (.seq (.ops 1 [
    (0, ⟨(some 4), none, .mv (.k (.d (.val (.bool true))))⟩)] (some [4])) .ret))))
def md163 : FuncId → Option Nat × Bool
  | _ => (none, false)
def od163 : Nat → List (List Nat) × List Nat × Option (List Nat)
  | 0 => ([], [], some [0, 1])
  | 1 => ([], [], some [0, 9])
  | 2 => ([], [], some [4])
  | 3 => ([], [], some [])
  | 4 => ([], [], some [4])
  | _ => ([], [], none)
theorem b163 {ags : List AV} {row : Option (List DV)} {r : AV} {row' nw : Option (List DV)} (hal : ags.length ≤ 17) (hrow : row'.isSome = true → row.isSome = true) (h : xwp Try.prog x163 (retK [.tmp 4] row.isSome r row' nw) (St.init ags row)) : Good Try.prog 163 ags row r row' nw :=
  good_of_body' (md := md163) (od := od163) Try.f163 (by kernel_rfl) (by kernel_rfl) (by kernel_rfl) (by kernel_rfl) (by kernel_rfl) hal hrow h

def x164 : XC := (.seq (.ops 1 [
    (0, ⟨(some 4), none, .alloc [(.int .i64 0), (.int .u64 0), (.int .u64 0), (.int .u64 0), (.int .u64 0), (.int .i64 0), (.int .i64 0), (.slice none 0 0)]⟩)] (some [0, 1, 4])) (.seq (.block 0 (.seq (.ops 4 [
    (0, ⟨(some 6), none, .mv (.t 1)⟩),
    (1, ⟨(some 7), none, .lenS (.t 6)⟩),
    (2, ⟨(some 8), none, .arith .eql (.t 7) (.k (.d (.val (.int .i64 0))))⟩),
    (3, ⟨(some 5), none, .mv (.t 8)⟩)] (some [0, 1, 4, 5])) (.cond (.t 5) (.seq (.ops 2 [
    (0, ⟨(some 9), none, .build [(.int .i64 0), (.int .u64 0), (.int .u64 0), (.int .u64 0), (.int .u64 0), (.int .i64 0), (.int .i64 0), (.slice none 0 0)] [(0, 1, (.k (.d (.val (.int .i64 1)))))]⟩),
    (1, ⟨none, none, .store 8 (.t 4) (.t 9)⟩)] (some [4])) .ret) (.seq (.ops 4 [
    (0, ⟨(some 11), none, .mv (.t 1)⟩),
    (1, ⟨(some 12), none, .lenS (.t 11)⟩),
    (2, ⟨(some 13), none, .arith .eql (.t 12) (.k (.d (.val (.int .i64 1))))⟩),
    (3, ⟨(some 10), none, .mv (.t 13)⟩)] (some [0, 1, 4, 10])) (.cond (.t 10) (.seq (.ops 4 [
    (0, ⟨(some 14), none, .mv (.t 1)⟩),
    (1, ⟨(some 15), none, .idxS 8 (.t 14) (.k (.d (.val (.int .i64 0))))⟩),
    (2, ⟨(some 16), none, .load (some 8) (.t 15)⟩),
    (3, ⟨none, none, .store 8 (.t 4) (.t 16)⟩)] (some [4])) .ret) .skip))))) (.seq (.ops 4 [
    (0, ⟨(some 17), none, .mv (.t 0)⟩),
    (1, ⟨(some 18), none, .mv (.t 1)⟩),
    (2, ⟨(some 19), none, .build [(.int .i64 0), (.int .u64 0), (.int .u64 0), (.int .u64 0), (.int .u64 0), (.int .i64 0), (.int .i64 0), (.slice none 0 0)] [(0, 1, (.t 17)), (7, 1, (.t 18))]⟩),
    (3, ⟨none, none, .store 8 (.t 4) (.t 19)⟩)] (some [4])) .ret)))
def md164 : FuncId → Option Nat × Bool
  | _ => (none, false)
def od164 : Nat → List (List Nat) × List Nat × Option (List Nat)
  | 0 => ([], [], some [0, 1, 4])
  | 1 => ([], [], some [0, 1, 4, 5])
  | 2 => ([], [], some [4])
  | 3 => ([], [], some [0, 1, 4, 10])
  | 4 => ([], [], some [4])
  | 5 => ([], [], some [4])
  | _ => ([], [], none)
theorem b164 {ags : List AV} {row : Option (List DV)} {r : AV} {row' nw : Option (List DV)} (hal : ags.length ≤ 20) (hrow : row'.isSome = true → row.isSome = true) (h : xwp Try.prog x164 (retK [.cell 4 (some 8)] row.isSome r row' nw) (St.init ags row)) : Good Try.prog 164 ags row r row' nw :=
  good_of_body' (md := md164) (od := od164) Try.f164 (by kernel_rfl) (by kernel_rfl) (by kernel_rfl) (by kernel_rfl) (by kernel_rfl) hal hrow h

def x170 : XC := (.seq (.ops 1 [
    (0, ⟨(some 2), none, .mv (.k (.d (.val (.bool false))))⟩)] (some [0])) (.seq (.ops 3 [
    (0, ⟨(some 4), none, .mv (.t 0)⟩),
    (1, ⟨(some 5), none, .call 172 [(.t 4)] none false⟩),
    (2, ⟨(some 3), none, .mv (.t 5)⟩)] (some [3])) (.seq (.ops 11 [
    (0, ⟨(some 6), none, .mv (.t 3)⟩),
    (1, ⟨(some 7), none, .arith .lss (.t 6) (.k (.d (.val (.int .i64 0))))⟩),
    (2, ⟨(some 8), none, .mv (.t 7)⟩),
    (3, ⟨(some 9), (some (8, false)), .mv (.t 3)⟩),
    (4, ⟨(some 10), (some (8, false)), .arith .eql (.t 9) (.k (.d (.val (.int .i64 124))))⟩),
    (5, ⟨(some 11), none, .pick (.t 8) (.k (.d (.val (.bool true)))) (.t 10)⟩),
    (6, ⟨(some 12), none, .mv (.t 11)⟩),
    (7, ⟨(some 13), (some (12, false)), .mv (.t 3)⟩),
    (8, ⟨(some 14), (some (12, false)), .arith .eql (.t 13) (.k (.d (.val (.int .i64 41))))⟩),
    (9, ⟨(some 15), none, .pick (.t 12) (.k (.d (.val (.bool true)))) (.t 14)⟩),
    (10, ⟨(some 2), none, .mv (.t 15)⟩)] (some [2])) .ret)))
def md170 : FuncId → Option Nat × Bool
  | _ => (none, false)
def od170 : Nat → List (List Nat) × List Nat × Option (List Nat)
  | 0 => ([], [], some [0])
  | 1 => ([], [], some [3])
  | 2 => ([], [], some [2])
  | _ => ([], [], none)
theorem b170 {ags : List AV} {row : Option (List DV)} {r : AV} {row' nw : Option (List DV)} (hal : ags.length ≤ 16) (hrow : row'.isSome = true → row.isSome = true) (h : xwp Try.prog x170 (retK [.tmp 2] row.isSome r row' nw) (St.init ags row)) : Good Try.prog 170 ags row r row' nw :=
  good_of_body' (md := md170) (od := od170) Try.f170 (by kernel_rfl) (by kernel_rfl) (by kernel_rfl) (by kernel_rfl) (by kernel_rfl) hal hrow h

def x171 : XC := (.seq (.ops 1 [
    (0, ⟨(some 2), none, .alloc [(.int .i64 0), (.int .u64 0), (.int .u64 0), (.int .u64 0), (.int .u64 0), (.int .i64 0), (.int .i64 0), (.slice none 0 0)]⟩)] (some [0, 2])) (.seq (.ops 4 [
    (0, ⟨(some 5), none, .mv (.t 0)⟩),
    (1, ⟨(some 6), none, .call 176 [(.t 5)] (some 0) false⟩),
    (2, ⟨(some 3), none, .alloc [(.int .i64 0), (.int .u64 0), (.int .u64 0), (.int .u64 0), (.int .u64 0), (.int .i64 0), (.int .i64 0), (.slice none 0 0)]⟩),
    (3, ⟨none, none, .store 8 (.t 3) (.t 6)⟩)] (some [0, 2, 3])) (.seq (.ops 5 [
    (0, ⟨(some 7), none, .load (some 8) (.t 3)⟩),
    (1, ⟨(some 8), none, .mkrow [(.int .i64 0), (.int .u64 0), (.int .u64 0), (.int .u64 0), (.int .u64 0), (.int .i64 0), (.int .i64 0), (.slice none 0 0)] 1 8 [(0, 8, (.t 7))]⟩),
    (2, ⟨(some 9), none, .build [(.int .i64 0), (.int .u64 0), (.int .u64 0), (.int .u64 0), (.int .u64 0), (.int .i64 0), (.int .i64 0), (.slice none 0 0)] [(0, 1, (.k (.d (.val (.int .i64 5))))), (6, 1, (.k (.d (.val (.int .i64 (-1)))))), (7, 1, (.t 8))]⟩),
    (3, ⟨(some 4), none, .alloc [(.int .i64 0), (.int .u64 0), (.int .u64 0), (.int .u64 0), (.int .u64 0), (.int .i64 0), (.int .i64 0), (.slice none 0 0)]⟩),
    (4, ⟨none, none, .store 8 (.t 4) (.t 9)⟩)] (some [0, 2, 3, 4])) (.seq (.block 0 (.seq (.ops 3 [
    (0, ⟨(some 12), none, .mv (.t 0)⟩),
    (1, ⟨(some 13), none, .call 163 [(.t 12), (.k (.d (.val (.int .u8 42))))] (some 0) false⟩),
    (2, ⟨(some 11), none, .mv (.t 13)⟩)] (some [0, 2, 3, 4, 11])) (.cond (.t 11) .skip (.seq (.ops 3 [
    (0, ⟨(some 15), none, .mv (.t 0)⟩),
    (1, ⟨(some 16), none, .call 163 [(.t 15), (.k (.d (.val (.int .u8 43))))] (some 0) false⟩),
    (2, ⟨(some 14), none, .mv (.t 16)⟩)] (some [0, 2, 3, 4, 14])) (.cond (.t 14) (.ops 2 [
    (0, ⟨(some 17), none, .fadd 5 (.t 4)⟩),
    (1, ⟨none, none, .store 1 (.t 17) (.k (.d (.val (.int .i64 1))))⟩)] (some [2, 4])) (.seq (.ops 3 [
    (0, ⟨(some 19), none, .mv (.t 0)⟩),
    (1, ⟨(some 20), none, .call 163 [(.t 19), (.k (.d (.val (.int .u8 63))))] (some 0) false⟩),
    (2, ⟨(some 18), none, .mv (.t 20)⟩)] (some [0, 2, 3, 4, 18])) (.cond (.t 18) (.ops 2 [
    (0, ⟨(some 21), none, .fadd 6 (.t 4)⟩),
    (1, ⟨none, none, .store 1 (.t 21) (.k (.d (.val (.int .i64 1))))⟩)] (some [2, 4])) (.seq (.ops 3 [
    (0, ⟨(some 23), none, .mv (.t 0)⟩),
    (1, ⟨(some 24), none, .call 163 [(.t 23), (.k (.d (.val (.int .u8 123))))] (some 0) false⟩),
    (2, ⟨(some 22), none, .mv (.t 24)⟩)] (some [0, 2, 3, 4, 22])) (.cond (.t 22) (.ops 9 [
    (0, ⟨(some 26), none, .mv (.t 0)⟩),
    (1, ⟨(some 27), none, .call 177 [(.t 26)] (some 0) false⟩),
    (2, ⟨(some 25), none, .mv (.t 27)⟩),
    (3, ⟨(some 28), none, .ext (.t 25) 0⟩),
    (4, ⟨(some 29), none, .ext (.t 25) 1⟩),
    (5, ⟨(some 30), none, .fadd 5 (.t 4)⟩),
    (6, ⟨none, none, .store 1 (.t 30) (.t 28)⟩),
    (7, ⟨(some 31), none, .fadd 6 (.t 4)⟩),
    (8, ⟨none, none, .store 1 (.t 31) (.t 29)⟩)] (some [2, 4])) (.seq (.ops 2 [
    (0, ⟨(some 10), none, .load (some 8) (.t 3)⟩),
    (1, ⟨none, none, .store 8 (.t 2) (.t 10)⟩)] (some [2])) .ret)))))))))) (.seq (.ops 2 [
    (0, ⟨(some 32), none, .load (some 8) (.t 4)⟩),
    (1, ⟨none, none, .store 8 (.t 2) (.t 32)⟩)] (some [2])) .ret)))))
def md171 : FuncId → Option Nat × Bool
  | 163 => (some 0, false)
  | 176 => (some 0, false)
  | 177 => (some 0, false)
  | _ => (none, false)
def od171 : Nat → List (List Nat) × List Nat × Option (List Nat)
  | 0 => ([], [], some [0, 2])
  | 1 => ([], [], some [0, 2, 3])
  | 2 => ([], [], some [0, 2, 3, 4])
  | 3 => ([], [], some [2])
  | 4 => ([], [], some [0, 2, 3, 4, 11])
  | 5 => ([], [], some [0, 2, 3, 4, 14])
  | 6 => ([], [], some [2, 4])
  | 7 => ([], [], some [0, 2, 3, 4, 18])
  | 8 => ([], [], some [2, 4])
  | 9 => ([], [], some [0, 2, 3, 4, 22])
  | 10 => ([], [], some [2, 4])
  | 11 => ([], [], some [2])
  | _ => ([], [], none)
theorem b171 {ags : List AV} {row : Option (List DV)} {r : AV} {row' nw : Option (List DV)} (hal : ags.length ≤ 33) (hrow : row'.isSome = true → row.isSome = true) (h : xwp Try.prog x171 (retK [.cell 2 (some 8)] row.isSome r row' nw) (St.init ags row)) : Good Try.prog 171 ags row r row' nw :=
  good_of_body' (md := md171) (od := od171) Try.f171 (by kernel_rfl) (by kernel_rfl) (by kernel_rfl) (by kernel_rfl) (by kernel_rfl) hal hrow h

def x172 : XC := (.seq (.ops 1 [
    (0, ⟨(some 2), none, .mv (.k (.d (.val (.int .i64 0))))⟩)] (some [0])) (.seq (.seq (.ops 10 [
    (0, ⟨(some 3), none, .mv (.t 0)⟩),
    (1, ⟨(some 4), none, .nilck (.t 3)⟩),
    (2, ⟨(some 5), none, .fadd 1 (.t 4)⟩),
    (3, ⟨(some 6), none, .load none (.t 5)⟩),
    (4, ⟨(some 7), none, .mv (.t 0)⟩),
    (5, ⟨(some 8), none, .nilck (.t 7)⟩),
    (6, ⟨(some 9), none, .fadd 0 (.t 8)⟩),
    (7, ⟨(some 10), none, .load none (.t 9)⟩),
    (8, ⟨(some 11), none, .lenT (.t 10)⟩),
    (9, ⟨(some 12), none, .arith .geq (.t 6) (.t 11)⟩)] (some [0, 12])) (.cond (.t 12) (.seq (.ops 1 [
    (0, ⟨(some 2), none, .mv (.k (.d (.val (.int .i64 (-1)))))⟩)] (some [2])) .ret) .skip)) (.seq (.ops 11 [
    (0, ⟨(some 13), none, .mv (.t 0)⟩),
    (1, ⟨(some 14), none, .nilck (.t 13)⟩),
    (2, ⟨(some 15), none, .fadd 0 (.t 14)⟩),
    (3, ⟨(some 16), none, .load none (.t 15)⟩),
    (4, ⟨(some 17), none, .mv (.t 0)⟩),
    (5, ⟨(some 18), none, .nilck (.t 17)⟩),
    (6, ⟨(some 19), none, .fadd 1 (.t 18)⟩),
    (7, ⟨(some 20), none, .load none (.t 19)⟩),
    (8, ⟨(some 21), none, .idxT (.t 16) (.t 20)⟩),
    (9, ⟨(some 22), none, .conv .i64 (.t 21)⟩),
    (10, ⟨(some 2), none, .mv (.t 22)⟩)] (some [2])) .ret)))
def md172 : FuncId → Option Nat × Bool
  | _ => (none, false)
def od172 : Nat → List (List Nat) × List Nat × Option (List Nat)
  | 0 => ([], [], some [0])
  | 1 => ([[], [0], [0, 1], [0, 1, 2], [], [4], [4, 5], [4, 5, 6], [4, 5, 6, 7], [0, 1, 2, 3, 4, 5, 6, 7, 8]], [0, 1, 2, 3, 4, 5, 6, 7, 8, 9], some [0, 12])
  | 2 => ([], [], some [2])
  | 3 => ([[], [0], [0, 1], [0, 1, 2], [], [4], [4, 5], [4, 5, 6], [0, 1, 2, 3, 4, 5, 6, 7], [0, 1, 2, 3, 4, 5, 6, 7, 8], [0, 1, 2, 3, 4, 5, 6, 7, 8, 9]], [0, 1, 2, 3, 4, 5, 6, 7, 8, 9, 10], some [2])
  | _ => ([], [], none)
theorem b172 {ags : List AV} {row : Option (List DV)} {r : AV} {row' nw : Option (List DV)} (hal : ags.length ≤ 23) (hrow : row'.isSome = true → row.isSome = true) (h : xwp Try.prog x172 (retK [.tmp 2] row.isSome r row' nw) (St.init ags row)) : Good Try.prog 172 ags row r row' nw :=
  good_of_body' (md := md172) (od := od172) Try.f172 (by kernel_rfl) (by kernel_rfl) (by kernel_rfl) (by kernel_rfl) (by kernel_rfl) hal hrow h

def x176 : XC := (.seq (.ops 1 [
    (0, ⟨(some 2), none, .alloc [(.int .i64 0), (.int .u64 0), (.int .u64 0), (.int .u64 0), (.int .u64 0), (.int .i64 0), (.int .i64 0), (.slice none 0 0)]⟩)] (some [0, 2])) (.seq (.block 0 (.seq (.ops 4 [
    (0, ⟨(some 5), none, .mv (.t 0)⟩),
    (1, ⟨(some 6), none, .call 172 [(.t 5)] none false⟩),
    (2, ⟨(some 7), none, .arith .eql (.t 6) (.k (.d (.val (.int .i64 40))))⟩),
    (3, ⟨(some 4), none, .mv (.t 7)⟩)] (some [0, 2, 4])) (.cond (.t 4) (.seq (.ops 11 [
    (0, ⟨(some 8), none, .mv (.t 0)⟩),
    (1, ⟨(some 9), none, .mv (.t 0)⟩),
    (2, ⟨(some 10), none, .nilck (.t 9)⟩),
    (3, ⟨(some 11), none, .fadd 2 (.t 10)⟩),
    (4, ⟨(some 12), none, .load none (.t 11)⟩),
    (5, ⟨(some 13), none, .arith .lss (.t 12) (.k (.d (.val (.int .i64 12))))⟩),
    (6, ⟨(some 14), none, .mv (.t 0)⟩),
    (7, ⟨(some 15), none, .nilck (.t 14)⟩),
    (8, ⟨(some 16), none, .fadd 1 (.t 15)⟩),
    (9, ⟨(some 17), none, .load none (.t 16)⟩),
    (10, ⟨(some 18), none, .call 150 [(.t 8), (.t 13), (.t 17)] none false⟩)] (some [0, 2])) (.seq (.ops 8 [
    (0, ⟨(some 19), none, .mv (.t 0)⟩),
    (1, ⟨(some 20), none, .nilck (.t 19)⟩),
    (2, ⟨(some 21), none, .fadd 1 (.t 20)⟩),
    (3, ⟨(some 22), none, .load none (.t 21)⟩),
    (4, ⟨(some 23), none, .arith .add (.t 22) (.k (.d (.val (.int .i64 1))))⟩),
    (5, ⟨(some 24), none, .nilck (.t 19)⟩),
    (6, ⟨(some 25), none, .fadd 1 (.t 24)⟩),
    (7, ⟨none, none, .store 1 (.t 25) (.t 23)⟩)] (some [0, 2])) (.seq (.ops 8 [
    (0, ⟨(some 26), none, .mv (.t 0)⟩),
    (1, ⟨(some 27), none, .nilck (.t 26)⟩),
    (2, ⟨(some 28), none, .fadd 2 (.t 27)⟩),
    (3, ⟨(some 29), none, .load none (.t 28)⟩),
    (4, ⟨(some 30), none, .arith .add (.t 29) (.k (.d (.val (.int .i64 1))))⟩),
    (5, ⟨(some 31), none, .nilck (.t 26)⟩),
    (6, ⟨(some 32), none, .fadd 2 (.t 31)⟩),
    (7, ⟨none, none, .store 1 (.t 32) (.t 30)⟩)] (some [0, 2])) (.seq (.ops 4 [
    (0, ⟨(some 33), none, .mv (.t 0)⟩),
    (1, ⟨(some 34), none, .call 149 [(.t 33)] (some 0) false⟩),
    (2, ⟨(some 3), none, .alloc [(.int .i64 0), (.int .u64 0), (.int .u64 0), (.int .u64 0), (.int .u64 0), (.int .i64 0), (.int .i64 0), (.slice none 0 0)]⟩),
    (3, ⟨none, none, .store 8 (.t 3) (.t 34)⟩)] (some [0, 2, 3])) (.seq (.ops 8 [
    (0, ⟨(some 35), none, .mv (.t 0)⟩),
    (1, ⟨(some 36), none, .nilck (.t 35)⟩),
    (2, ⟨(some 37), none, .fadd 2 (.t 36)⟩),
    (3, ⟨(some 38), none, .load none (.t 37)⟩),
    (4, ⟨(some 39), none, .arith .sub (.t 38) (.k (.d (.val (.int .i64 1))))⟩),
    (5, ⟨(some 40), none, .nilck (.t 35)⟩),
    (6, ⟨(some 41), none, .fadd 2 (.t 40)⟩),
    (7, ⟨none, none, .store 1 (.t 41) (.t 39)⟩)] (some [0, 2, 3])) (.seq (.ops 2 [
    (0, ⟨(some 42), none, .mv (.t 0)⟩),
    (1, ⟨(some 43), none, .call 178 [(.t 42), (.k (.d (.val (.int .u8 41))))] (some 0) false⟩)] (some [2, 3])) (.seq (.ops 2 [
    (0, ⟨(some 44), none, .load (some 8) (.t 3)⟩),
    (1, ⟨none, none, .store 8 (.t 2) (.t 44)⟩)] (some [2])) .ret))))))) (.seq (.ops 3 [
    (0, ⟨(some 46), none, .mv (.t 0)⟩),
    (1, ⟨(some 47), none, .call 163 [(.t 46), (.k (.d (.val (.int .u8 46))))] (some 0) false⟩),
    (2, ⟨(some 45), none, .mv (.t 47)⟩)] (some [0, 2, 45])) (.cond (.t 45) (.seq (.ops 3 [
    (0, ⟨(some 48), none, .call 119 [(.k (.d (.val (.int .u8 0)))), (.k (.d (.val (.int .u8 255))))] none false⟩),
    (1, ⟨(some 49), none, .build [(.int .i64 0), (.int .u64 0), (.int .u64 0), (.int .u64 0), (.int .u64 0), (.int .i64 0), (.int .i64 0), (.slice none 0 0)] [(0, 1, (.k (.d (.val (.int .i64 2))))), (1, 4, (.t 48))]⟩),
    (2, ⟨none, none, .store 8 (.t 2) (.t 49)⟩)] (some [2])) .ret) (.seq (.ops 3 [
    (0, ⟨(some 51), none, .mv (.t 0)⟩),
    (1, ⟨(some 52), none, .call 163 [(.t 51), (.k (.d (.val (.int .u8 91))))] (some 0) false⟩),
    (2, ⟨(some 50), none, .mv (.t 52)⟩)] (some [0, 2, 50])) (.cond (.t 50) (.seq (.ops 4 [
    (0, ⟨(some 53), none, .mv (.t 0)⟩),
    (1, ⟨(some 54), none, .call 179 [(.t 53)] (some 0) false⟩),
    (2, ⟨(some 55), none, .build [(.int .i64 0), (.int .u64 0), (.int .u64 0), (.int .u64 0), (.int .u64 0), (.int .i64 0), (.int .i64 0), (.slice none 0 0)] [(0, 1, (.k (.d (.val (.int .i64 2))))), (1, 4, (.t 54))]⟩),
    (3, ⟨none, none, .store 8 (.t 2) (.t 55)⟩)] (some [2])) .ret) .skip))))))) (.seq (.ops 5 [
    (0, ⟨(some 56), none, .mv (.t 0)⟩),
    (1, ⟨(some 57), none, .call 181 [(.t 56)] (some 0) false⟩),
    (2, ⟨(some 58), none, .call 180 [(.t 57)] none false⟩),
    (3, ⟨(some 59), none, .build [(.int .i64 0), (.int .u64 0), (.int .u64 0), (.int .u64 0), (.int .u64 0), (.int .i64 0), (.int .i64 0), (.slice none 0 0)] [(0, 1, (.k (.d (.val (.int .i64 2))))), (1, 4, (.t 58))]⟩),
    (4, ⟨none, none, .store 8 (.t 2) (.t 59)⟩)] (some [2])) .ret)))
def md176 : FuncId → Option Nat × Bool
  | 149 => (some 0, false)
  | 163 => (some 0, false)
  | 178 => (some 0, false)
  | 179 => (some 0, false)
  | 181 => (some 0, false)
  | _ => (none, false)
def od176 : Nat → List (List Nat) × List Nat × Option (List Nat)
  | 0 => ([], [], some [0, 2])
  | 1 => ([], [], some [0, 2, 4])
  | 2 => ([[], [], [1], [1, 2], [1, 2, 3], [1, 2, 3, 4], [], [6], [6, 7], [6, 7, 8], [0, 1, 2, 3, 4, 5, 6, 7, 8, 9]], [0, 1, 2, 3, 4, 5, 6, 7, 8, 9, 10], some [0, 2])
  | 3 => ([], [], some [0, 2])
  | 4 => ([], [], some [0, 2])
  | 5 => ([], [], some [0, 2, 3])
  | 6 => ([], [], some [0, 2, 3])
  | 7 => ([], [], some [2, 3])
  | 8 => ([], [], some [2])
  | 9 => ([], [], some [0, 2, 45])
  | 10 => ([], [], some [2])
  | 11 => ([], [], some [0, 2, 50])
  | 12 => ([], [], some [2])
  | 13 => ([], [], some [2])
  | _ => ([], [], none)
theorem b176 {ags : List AV} {row : Option (List DV)} {r : AV} {row' nw : Option (List DV)} (hal : ags.length ≤ 60) (hrow : row'.isSome = true → row.isSome = true) (h : xwp Try.prog x176 (retK [.cell 2 (some 8)] row.isSome r row' nw) (St.init ags row)) : Good Try.prog 176 ags row r row' nw :=
  good_of_body' (md := md176) (od := od176) Try.f176 (by kernel_rfl) (by kernel_rfl) (by kernel_rfl) (by kernel_rfl) (by kernel_rfl) hal hrow h

def x177 : XC := (.seq (.ops 2 [
    (0, ⟨(some 2), none, .mv (.k (.d (.val (.int .i64 0))))⟩),
    (1, ⟨(some 3), none, .mv (.k (.d (.val (.int .i64 0))))⟩)] (some [0])) (.seq (.ops 3 [
    (0, ⟨(some 5), none, .mv (.t 0)⟩),
    (1, ⟨(some 6), none, .call 182 [(.t 5)] (some 0) false⟩),
    (2, ⟨(some 2), none, .mv (.t 6)⟩)] (some [0, 2])) (.seq (.ops 2 [
    (0, ⟨(some 7), none, .mv (.t 2)⟩),
    (1, ⟨(some 3), none, .mv (.t 7)⟩)] (some [0, 2, 3])) (.seq (.seq (.ops 2 [
    (0, ⟨(some 8), none, .mv (.t 0)⟩),
    (1, ⟨(some 9), none, .call 163 [(.t 8), (.k (.d (.val (.int .u8 44))))] (some 0) false⟩)] (some [0, 2, 3, 9])) (.cond (.t 9) (.seq (.ops 1 [
    (0, ⟨(some 3), none, .mv (.k (.d (.val (.int .i64 (-1)))))⟩)] (some [0, 2, 3])) (.seq (.ops 3 [
    (0, ⟨(some 10), none, .mv (.t 0)⟩),
    (1, ⟨(some 11), none, .call 172 [(.t 10)] none false⟩),
    (2, ⟨(some 12), none, .arith .neq (.t 11) (.k (.d (.val (.int .i64 125))))⟩)] (some [0, 2, 3, 12])) (.cond (.t 12) (.seq (.ops 5 [
    (0, ⟨(some 13), none, .mv (.t 0)⟩),
    (1, ⟨(some 14), none, .nilck (.t 13)⟩),
    (2, ⟨(some 15), none, .fadd 1 (.t 14)⟩),
    (3, ⟨(some 16), none, .load none (.t 15)⟩),
    (4, ⟨(some 4), none, .mv (.t 16)⟩)] (some [0, 2, 4])) (.seq (.ops 3 [
    (0, ⟨(some 17), none, .mv (.t 0)⟩),
    (1, ⟨(some 18), none, .call 182 [(.t 17)] (some 0) false⟩),
    (2, ⟨(some 3), none, .mv (.t 18)⟩)] (some [0, 2, 3, 4])) (.ops 6 [
    (0, ⟨(some 19), none, .mv (.t 0)⟩),
    (1, ⟨(some 20), none, .mv (.t 3)⟩),
    (2, ⟨(some 21), none, .mv (.t 2)⟩),
    (3, ⟨(some 22), none, .arith .geq (.t 20) (.t 21)⟩),
    (4, ⟨(some 23), none, .mv (.t 4)⟩),
    (5, ⟨(some 24), none, .call 150 [(.t 19), (.t 22), (.t 23)] none false⟩)] (some [0, 2, 3])))) .skip))) .skip)) (.seq (.ops 2 [
    (0, ⟨(some 25), none, .mv (.t 0)⟩),
    (1, ⟨(some 26), none, .call 178 [(.t 25), (.k (.d (.val (.int .u8 125))))] (some 0) false⟩)] (some [2, 3])) (.seq (.ops 4 [
    (0, ⟨(some 27), none, .mv (.t 2)⟩),
    (1, ⟨(some 28), none, .mv (.t 3)⟩),
    (2, ⟨(some 2), none, .mv (.t 27)⟩),
    (3, ⟨(some 3), none, .mv (.t 28)⟩)] (some [2, 3])) .ret))))))
def md177 : FuncId → Option Nat × Bool
  | 163 => (some 0, false)
  | 178 => (some 0, false)
  | 182 => (some 0, false)
  | _ => (none, false)
def od177 : Nat → List (List Nat) × List Nat × Option (List Nat)
  | 0 => ([], [], some [0])
  | 1 => ([], [], some [0, 2])
  | 2 => ([], [], some [0, 2, 3])
  | 3 => ([], [], some [0, 2, 3, 9])
  | 4 => ([], [], some [0, 2, 3])
  | 5 => ([], [], some [0, 2, 3, 12])
  | 6 => ([], [], some [0, 2, 4])
  | 7 => ([], [], some [0, 2, 3, 4])
  | 8 => ([], [], some [0, 2, 3])
  | 9 => ([], [], some [2, 3])
  | 10 => ([], [], some [2, 3])
  | _ => ([], [], none)
theorem b177 {ags : List AV} {row : Option (List DV)} {r : AV} {row' nw : Option (List DV)} (hal : ags.length ≤ 29) (hrow : row'.isSome = true → row.isSome = true) (h : xwp Try.prog x177 (retK [.tmp 2, .tmp 3] row.isSome r row' nw) (St.init ags row)) : Good Try.prog 177 ags row r row' nw :=
  good_of_body' (md := md177) (od := od177) Try.f177 (by kernel_rfl) (by kernel_rfl) (by kernel_rfl) (by kernel_rfl) (by kernel_rfl) hal hrow h

def x178 : XC := (.seq (.ops 4 [
    (0, ⟨(some 5), none, .mv (.t 0)⟩),
    (1, ⟨(some 6), none, .mv (.t 1)⟩),
    (2, ⟨(some 7), none, .call 163 [(.t 5), (.t 6)] (some 0) false⟩),
    (3, ⟨(some 4), none, .mv (.t 7)⟩)] (some [0, 4])) (.ops 7 [
    (0, ⟨(some 8), none, .mv (.t 0)⟩),
    (1, ⟨(some 9), none, .mv (.t 4)⟩),
    (2, ⟨(some 10), none, .mv (.t 0)⟩),
    (3, ⟨(some 11), none, .nilck (.t 10)⟩),
    (4, ⟨(some 12), none, .fadd 1 (.t 11)⟩),
    (5, ⟨(some 13), none, .load none (.t 12)⟩),
    (6, ⟨(some 14), none, .call 150 [(.t 8), (.t 9), (.t 13)] none false⟩)] (some [])))
def md178 : FuncId → Option Nat × Bool
  | 163 => (some 0, false)
  | _ => (none, false)
def od178 : Nat → List (List Nat) × List Nat × Option (List Nat)
  | 0 => ([], [], some [0, 4])
  | 1 => ([], [], some [])
  | _ => ([], [], none)
theorem b178 {ags : List AV} {row : Option (List DV)} {r : AV} {row' nw : Option (List DV)} (hal : ags.length ≤ 15) (hrow : row'.isSome = true → row.isSome = true) (h : xwp Try.prog x178 (retK [] row.isSome r row' nw) (St.init ags row)) : Good Try.prog 178 ags row r row' nw :=
  good_of_body' (md := md178) (od := od178) Try.f178 (by kernel_rfl) (by kernel_rfl) (by kernel_rfl) (by kernel_rfl) (by kernel_rfl) hal hrow h

def x179 : XC := (.seq (.ops 1 [
    (0, ⟨(some 2), none, .alloc [(.int .u64 0), (.int .u64 0), (.int .u64 0), (.int .u64 0)]⟩)] (some [0, 2])) (.seq (.ops 3 [
    (0, ⟨(some 4), none, .mv (.t 0)⟩),
    (1, ⟨(some 5), none, .call 163 [(.t 4), (.k (.d (.val (.int .u8 94))))] (some 0) false⟩),
    (2, ⟨(some 3), none, .mv (.t 5)⟩)] (some [0, 2, 3])) (.seq (.block 0 (.loop (.seq (.seq (.ops 3 [
    (0, ⟨(some 6), none, .mv (.t 0)⟩),
    (1, ⟨(some 7), none, .call 172 [(.t 6)] none false⟩),
    (2, ⟨(some 8), none, .arith .neq (.t 7) (.k (.d (.val (.int .i64 93))))⟩)] (some [0, 2, 3, 8])) (.cond (.t 8) .skip (.exit 0))) (.block 1 (.ops 5 [
    (0, ⟨(some 9), none, .load (some 4) (.t 2)⟩),
    (1, ⟨(some 10), none, .mv (.t 0)⟩),
    (2, ⟨(some 11), none, .callA 183 [(.t 10)] 0 [2]⟩),
    (3, ⟨(some 12), none, .call 73 [(.t 9), (.t 11)] none false⟩),
    (4, ⟨none, none, .store 4 (.t 2) (.t 12)⟩)] (some [0, 2, 3])))))) (.seq (.ops 2 [
    (0, ⟨(some 13), none, .mv (.t 0)⟩),
    (1, ⟨(some 14), none, .call 178 [(.t 13), (.k (.d (.val (.int .u8 93))))] (some 0) false⟩)] (some [2, 3])) (.seq (.seq (.ops 1 [
    (0, ⟨(some 15), none, .mv (.t 3)⟩)] (some [2, 15])) (.cond (.t 15) (.ops 3 [
    (0, ⟨(some 16), none, .load (some 4) (.t 2)⟩),
    (1, ⟨(some 17), none, .call 184 [(.t 16)] none false⟩),
    (2, ⟨none, none, .store 4 (.t 2) (.t 17)⟩)] (some [2])) .skip)) (.seq (.ops 2 [
    (0, ⟨(some 18), none, .load (some 4) (.t 2)⟩),
    (1, ⟨none, none, .store 4 (.t 2) (.t 18)⟩)] (some [2])) .ret))))))
def md179 : FuncId → Option Nat × Bool
  | 163 => (some 0, false)
  | 178 => (some 0, false)
  | 183 => (some 0, false)
  | _ => (none, false)
def od179 : Nat → List (List Nat) × List Nat × Option (List Nat)
  | 0 => ([], [], some [0, 2])
  | 1 => ([], [], some [0, 2, 3])
  | 2 => ([], [], some [0, 2, 3, 8])
  | 3 => ([[], [], [1], [0, 1, 2], [0, 1, 2, 3]], [0, 1, 2, 3, 4], some [0, 2, 3])
  | 4 => ([], [], some [2, 3])
  | 5 => ([], [], some [2, 15])
  | 6 => ([], [], some [2])
  | 7 => ([], [], some [2])
  | _ => ([], [], none)
theorem b179 {ags : List AV} {row : Option (List DV)} {r : AV} {row' nw : Option (List DV)} (hal : ags.length ≤ 19) (hrow : row'.isSome = true → row.isSome = true) (h : xwp Try.prog x179 (retK [.cell 2 (some 4)] row.isSome r row' nw) (St.init ags row)) : Good Try.prog 179 ags row r row' nw :=
  good_of_body' (md := md179) (od := od179) Try.f179 (by kernel_rfl) (by kernel_rfl) (by kernel_rfl) (by kernel_rfl) (by kernel_rfl) hal hrow h

def x180 : XC := (.seq (.ops 1 [
    (0, ⟨(some 2), none, .alloc [(.int .u64 0), (.int .u64 0), (.int .u64 0), (.int .u64 0)]⟩)] (some [0, 2])) (.seq (.ops 7 [
    (0, ⟨(some 3), none, .mv (.t 0)⟩),
    (1, ⟨(some 4), none, .arith .quo (.t 3) (.k (.d (.val (.int .u8 64))))⟩),
    (2, ⟨(some 5), none, .mv (.t 0)⟩),
    (3, ⟨(some 6), none, .arith .rem (.t 5) (.k (.d (.val (.int .u8 64))))⟩),
    (4, ⟨(some 7), none, .arith .shl (.k (.d (.val (.int .u64 1)))) (.t 6)⟩),
    (5, ⟨(some 8), none, .idxP 4 1 (.t 2) (.t 4)⟩),
    (6, ⟨none, none, .store 1 (.t 8) (.t 7)⟩)] (some [2])) (.seq (.ops 2 [
    (0, ⟨(some 9), none, .load (some 4) (.t 2)⟩),
    (1, ⟨none, none, .store 4 (.t 2) (.t 9)⟩)] (some [2])) .ret)))
def md180 : FuncId → Option Nat × Bool
  | _ => (none, false)
def od180 : Nat → List (List Nat) × List Nat × Option (List Nat)
  | 0 => ([], [], some [0, 2])
  | 1 => ([], [], some [2])
  | 2 => ([], [], some [2])
  | _ => ([], [], none)
theorem b180 {ags : List AV} {row : Option (List DV)} {r : AV} {row' nw : Option (List DV)} (hal : ags.length ≤ 10) (hrow : row'.isSome = true → row.isSome = true) (h : xwp Try.prog x180 (retK [.cell 2 (some 4)] row.isSome r row' nw) (St.init ags row)) : Good Try.prog 180 ags row r row' nw :=
  good_of_body' (md := md180) (od := od180) Try.f180 (by kernel_rfl) (by kernel_rfl) (by kernel_rfl) (by kernel_rfl) (by kernel_rfl) hal hrow h

def x181 : XC := (.seq (.ops 1 [
    (0, ⟨(some 2), none, .mv (.k (.d (.val (.int .u8 0))))⟩)] (some [0])) (.seq (.ops 3 [
    (0, ⟨(some 4), none, .mv (.t 0)⟩),
    (1, ⟨(some 5), none, .call 172 [(.t 4)] none false⟩),
    (2, ⟨(some 3), none, .mv (.t 5)⟩)] (some [0, 3])) (.seq (.seq (.ops 2 [
    (0, ⟨(some 6), none, .mv (.t 0)⟩),
    (1, ⟨(some 7), none, .call 163 [(.t 6), (.k (.d (.val (.int .u8 92))))] (some 0) false⟩)] (some [0, 3, 7])) (.cond (.t 7) (.seq (.ops 3 [
    (0, ⟨(some 8), none, .mv (.t 0)⟩),
    (1, ⟨(some 9), none, .call 185 [(.t 8)] (some 0) false⟩),
    (2, ⟨(some 2), none, .mv (.t 9)⟩)] (some [2])) .ret) .skip)) (.seq (.ops 15 [
    (0, ⟨(some 10), none, .mv (.t 0)⟩),
    (1, ⟨(some 11), none, .mv (.t 3)⟩),
    (2, ⟨(some 12), none, .arith .geq (.t 11) (.k (.d (.val (.int .i64 0))))⟩),
    (3, ⟨(some 13), none, .mv (.t 12)⟩),
    (4, ⟨(some 14), (some (13, true)), .mv (.t 3)⟩),
    (5, ⟨(some 15), (some (13, true)), .conv .u8 (.t 14)⟩),
    (6, ⟨(some 16), (some (13, true)), .call 186 [(.t 15)] none false⟩),
    (7, ⟨(some 17), (some (13, true)), .lenT (.t 16)⟩),
    (8, ⟨(some 18), (some (13, true)), .arith .eql (.t 17) (.k (.d (.val (.int .i64 1))))⟩),
    (9, ⟨(some 19), none, .pick (.t 13) (.t 18) (.k (.d (.val (.bool false))))⟩),
    (10, ⟨(some 20), none, .mv (.t 0)⟩),
    (11, ⟨(some 21), none, .nilck (.t 20)⟩),
    (12, ⟨(some 22), none, .fadd 1 (.t 21)⟩),
    (13, ⟨(some 23), none, .load none (.t 22)⟩),
    (14, ⟨(some 24), none, .call 150 [(.t 10), (.t 19), (.t 23)] none false⟩)] (some [0, 3])) (.seq (.ops 8 [
    (0, ⟨(some 25), none, .mv (.t 0)⟩),
    (1, ⟨(some 26), none, .nilck (.t 25)⟩),
    (2, ⟨(some 27), none, .fadd 1 (.t 26)⟩),
    (3, ⟨(some 28), none, .load none (.t 27)⟩),
    (4, ⟨(some 29), none, .arith .add (.t 28) (.k (.d (.val (.int .i64 1))))⟩),
    (5, ⟨(some 30), none, .nilck (.t 25)⟩),
    (6, ⟨(some 31), none, .fadd 1 (.t 30)⟩),
    (7, ⟨none, none, .store 1 (.t 31) (.t 29)⟩)] (some [3])) (.seq (.ops 3 [
    (0, ⟨(some 32), none, .mv (.t 3)⟩),
    (1, ⟨(some 33), none, .conv .u8 (.t 32)⟩),
    (2, ⟨(some 2), none, .mv (.t 33)⟩)] (some [2])) .ret))))))
def md181 : FuncId → Option Nat × Bool
  | 163 => (some 0, false)
  | 185 => (some 0, false)
  | _ => (none, false)
def od181 : Nat → List (List Nat) × List Nat × Option (List Nat)
  | 0 => ([], [], some [0])
  | 1 => ([], [], some [0, 3])
  | 2 => ([], [], some [0, 3, 7])
  | 3 => ([], [], some [2])
  | 4 => ([[], [], [1], [1, 2], [1, 2, 3], [1, 2, 3, 4], [1, 2, 3, 4, 5], [1, 2, 3, 4, 5, 6], [1, 2, 3, 4, 5, 6, 7], [1, 2, 3, 4, 5, 6, 7, 8], [], [10], [10, 11], [10, 11, 12], [0, 1, 2, 3, 4, 5, 6, 7, 8, 9, 10, 11, 12, 13]], [0, 1, 2, 3, 4, 5, 6, 7, 8, 9, 10, 11, 12, 13, 14], some [0, 3])
  | 5 => ([], [], some [3])
  | 6 => ([], [], some [2])
  | _ => ([], [], none)
theorem b181 {ags : List AV} {row : Option (List DV)} {r : AV} {row' nw : Option (List DV)} (hal : ags.length ≤ 34) (hrow : row'.isSome = true → row.isSome = true) (h : xwp Try.prog x181 (retK [.tmp 2] row.isSome r row' nw) (St.init ags row)) : Good Try.prog 181 ags row r row' nw :=
  good_of_body' (md := md181) (od := od181) Try.f181 (by kernel_rfl) (by kernel_rfl) (by kernel_rfl) (by kernel_rfl) (by kernel_rfl) hal hrow h

def x182 : XC := (.seq (.ops 1 [
    (0, ⟨(some 2), none, .mv (.k (.d (.val (.int .i64 0))))⟩)] (some [0, 2])) (.seq (.ops 5 [
    (0, ⟨(some 5), none, .mv (.t 0)⟩),
    (1, ⟨(some 6), none, .nilck (.t 5)⟩),
    (2, ⟨(some 7), none, .fadd 1 (.t 6)⟩),
    (3, ⟨(some 8), none, .load none (.t 7)⟩),
    (4, ⟨(some 3), none, .mv (.t 8)⟩)] (some [0, 2, 3])) (.seq (.seq (.ops 3 [
    (0, ⟨(some 9), none, .mv (.t 0)⟩),
    (1, ⟨(some 10), none, .call 172 [(.t 9)] none false⟩),
    (2, ⟨(some 4), none, .mv (.t 10)⟩)] (some [0, 2, 3, 4])) (.block 0 (.loop (.seq (.seq (.ops 15 [
    (0, ⟨(some 11), none, .mv (.t 4)⟩),
    (1, ⟨(some 12), none, .arith .geq (.t 11) (.k (.d (.val (.int .i64 48))))⟩),
    (2, ⟨(some 13), none, .mv (.t 12)⟩),
    (3, ⟨(some 14), (some (13, true)), .mv (.t 4)⟩),
    (4, ⟨(some 15), (some (13, true)), .arith .leq (.t 14) (.k (.d (.val (.int .i64 57))))⟩),
    (5, ⟨(some 16), none, .pick (.t 13) (.t 15) (.k (.d (.val (.bool false))))⟩),
    (6, ⟨(some 17), none, .mv (.t 16)⟩),
    (7, ⟨(some 18), (some (17, true)), .mv (.t 0)⟩),
    (8, ⟨(some 19), (some (17, true)), .nilck (.t 18)⟩),
    (9, ⟨(some 20), (some (17, true)), .fadd 1 (.t 19)⟩),
    (10, ⟨(some 21), (some (17, true)), .load none (.t 20)⟩),
    (11, ⟨(some 22), (some (17, true)), .mv (.t 3)⟩),
    (12, ⟨(some 23), (some (17, true)), .arith .sub (.t 21) (.t 22)⟩),
    (13, ⟨(some 24), (some (17, true)), .arith .lss (.t 23) (.k (.d (.val (.int .i64 2))))⟩),
    (14, ⟨(some 25), none, .pick (.t 17) (.t 24) (.k (.d (.val (.bool false))))⟩)] (some [0, 2, 3, 4, 25])) (.cond (.t 25) .skip (.exit 0))) (.seq (.block 1 (.seq (.ops 6 [
    (0, ⟨(some 28), none, .mv (.t 2)⟩),
    (1, ⟨(some 29), none, .arith .mul (.k (.d (.val (.int .i64 10)))) (.t 28)⟩),
    (2, ⟨(some 30), none, .mv (.t 4)⟩),
    (3, ⟨(some 31), none, .arith .add (.t 29) (.t 30)⟩),
    (4, ⟨(some 32), none, .arith .sub (.t 31) (.k (.d (.val (.int .i64 48))))⟩),
    (5, ⟨(some 2), none, .mv (.t 32)⟩)] (some [0, 2, 3])) (.ops 8 [
    (0, ⟨(some 33), none, .mv (.t 0)⟩),
    (1, ⟨(some 34), none, .nilck (.t 33)⟩),
    (2, ⟨(some 35), none, .fadd 1 (.t 34)⟩),
    (3, ⟨(some 36), none, .load none (.t 35)⟩),
    (4, ⟨(some 37), none, .arith .add (.t 36) (.k (.d (.val (.int .i64 1))))⟩),
    (5, ⟨(some 38), none, .nilck (.t 33)⟩),
    (6, ⟨(some 39), none, .fadd 1 (.t 38)⟩),
    (7, ⟨none, none, .store 1 (.t 39) (.t 37)⟩)] (some [0, 2, 3])))) (.ops 3 [
    (0, ⟨(some 26), none, .mv (.t 0)⟩),
    (1, ⟨(some 27), none, .call 172 [(.t 26)] none false⟩),
    (2, ⟨(some 4), none, .mv (.t 27)⟩)] (some [0, 2, 3, 4]))))))) (.seq (.ops 13 [
    (0, ⟨(some 40), none, .mv (.t 0)⟩),
    (1, ⟨(some 41), none, .mv (.t 0)⟩),
    (2, ⟨(some 42), none, .nilck (.t 41)⟩),
    (3, ⟨(some 43), none, .fadd 1 (.t 42)⟩),
    (4, ⟨(some 44), none, .load none (.t 43)⟩),
    (5, ⟨(some 45), none, .mv (.t 3)⟩),
    (6, ⟨(some 46), none, .arith .gtr (.t 44) (.t 45)⟩),
    (7, ⟨(some 47), none, .mv (.t 46)⟩),
    (8, ⟨(some 48), (some (47, true)), .mv (.t 2)⟩),
    (9, ⟨(some 49), (some (47, true)), .arith .leq (.t 48) (.k (.d (.val (.int .i64 20))))⟩),
    (10, ⟨(some 50), none, .pick (.t 47) (.t 49) (.k (.d (.val (.bool false))))⟩),
    (11, ⟨(some 51), none, .mv (.t 3)⟩),
    (12, ⟨(some 52), none, .call 150 [(.t 40), (.t 50), (.t 51)] none false⟩)] (some [2])) (.seq (.ops 2 [
    (0, ⟨(some 53), none, .mv (.t 2)⟩),
    (1, ⟨(some 2), none, .mv (.t 53)⟩)] (some [2])) .ret)))))
def md182 : FuncId → Option Nat × Bool
  | _ => (none, false)
def od182 : Nat → List (List Nat) × List Nat × Option (List Nat)
  | 0 => ([], [], some [0, 2])
  | 1 => ([], [], some [0, 2, 3])
  | 2 => ([], [], some [0, 2, 3, 4])
  | 3 => ([], [], some [0, 2, 3, 4, 25])
  | 4 => ([], [], some [0, 2, 3, 4])
  | 5 => ([], [], some [0, 2, 3])
  | 6 => ([], [], some [0, 2, 3])
  | 7 => ([], [], some [2])
  | 8 => ([], [], some [2])
  | _ => ([], [], none)
theorem b182 {ags : List AV} {row : Option (List DV)} {r : AV} {row' nw : Option (List DV)} (hal : ags.length ≤ 54) (hrow : row'.isSome = true → row.isSome = true) (h : xwp Try.prog x182 (retK [.tmp 2] row.isSome r row' nw) (St.init ags row)) : Good Try.prog 182 ags row r row' nw :=
  good_of_body' (md := md182) (od := od182) Try.f182 (by kernel_rfl) (by kernel_rfl) (by kernel_rfl) (by kernel_rfl) (by kernel_rfl) hal hrow h

def x183 : XC := (.seq (.ops 1 [
    (0, ⟨(some 2), none, .alloc [(.int .u64 0), (.int .u64 0), (.int .u64 0), (.int .u64 0)]⟩)] (some [0, 2])) (.seq (.ops 3 [
    (0, ⟨(some 6), none, .mv (.t 0)⟩),
    (1, ⟨(some 7), none, .call 181 [(.t 6)] (some 0) false⟩),
    (2, ⟨(some 3), none, .mv (.t 7)⟩)] (some [0, 2, 3])) (.seq (.seq (.ops 3 [
    (0, ⟨(some 8), none, .mv (.t 0)⟩),
    (1, ⟨(some 9), none, .call 163 [(.t 8), (.k (.d (.val (.int .u8 45))))] (some 0) false⟩),
    (2, ⟨(some 10), none, .un .not (.t 9)⟩)] (some [0, 2, 3, 10])) (.cond (.t 10) (.seq (.ops 3 [
    (0, ⟨(some 11), none, .mv (.t 3)⟩),
    (1, ⟨(some 12), none, .call 180 [(.t 11)] none false⟩),
    (2, ⟨none, none, .store 4 (.t 2) (.t 12)⟩)] (some [2])) .ret) .skip)) (.seq (.ops 5 [
    (0, ⟨(some 13), none, .mv (.t 0)⟩),
    (1, ⟨(some 14), none, .nilck (.t 13)⟩),
    (2, ⟨(some 15), none, .fadd 1 (.t 14)⟩),
    (3, ⟨(some 16), none, .load none (.t 15)⟩),
    (4, ⟨(some 4), none, .mv (.t 16)⟩)] (some [0, 2, 3, 4])) (.seq (.ops 3 [
    (0, ⟨(some 17), none, .mv (.t 0)⟩),
    (1, ⟨(some 18), none, .call 181 [(.t 17)] (some 0) false⟩),
    (2, ⟨(some 5), none, .mv (.t 18)⟩)] (some [0, 2, 3, 4, 5])) (.seq (.ops 6 [
    (0, ⟨(some 19), none, .mv (.t 0)⟩),
    (1, ⟨(some 20), none, .mv (.t 5)⟩),
    (2, ⟨(some 21), none, .mv (.t 3)⟩),
    (3, ⟨(some 22), none, .arith .geq (.t 20) (.t 21)⟩),
    (4, ⟨(some 23), none, .mv (.t 4)⟩),
    (5, ⟨(some 24), none, .call 150 [(.t 19), (.t 22), (.t 23)] none false⟩)] (some [2, 3, 5])) (.seq (.ops 4 [
    (0, ⟨(some 25), none, .mv (.t 3)⟩),
    (1, ⟨(some 26), none, .mv (.t 5)⟩),
    (2, ⟨(some 27), none, .call 119 [(.t 25), (.t 26)] none false⟩),
    (3, ⟨none, none, .store 4 (.t 2) (.t 27)⟩)] (some [2])) .ret)))))))
def md183 : FuncId → Option Nat × Bool
  | 163 => (some 0, false)
  | 181 => (some 0, false)
  | _ => (none, false)
def od183 : Nat → List (List Nat) × List Nat × Option (List Nat)
  | 0 => ([], [], some [0, 2])
  | 1 => ([], [], some [0, 2, 3])
  | 2 => ([], [], some [0, 2, 3, 10])
  | 3 => ([], [], some [2])
  | 4 => ([], [], some [0, 2, 3, 4])
  | 5 => ([], [], some [0, 2, 3, 4, 5])
  | 6 => ([], [], some [2, 3, 5])
  | 7 => ([], [], some [2])
  | _ => ([], [], none)
theorem b183 {ags : List AV} {row : Option (List DV)} {r : AV} {row' nw : Option (List DV)} (hal : ags.length ≤ 28) (hrow : row'.isSome = true → row.isSome = true) (h : xwp Try.prog x183 (retK [.cell 2 (some 4)] row.isSome r row' nw) (St.init ags row)) : Good Try.prog 183 ags row r row' nw :=
  good_of_body' (md := md183) (od := od183) Try.f183 (by kernel_rfl) (by kernel_rfl) (by kernel_rfl) (by kernel_rfl) (by kernel_rfl) hal hrow h

def x184 : XC := (.seq (.ops 2 [
    (0, ⟨(some 1), none, .box (.t 0)⟩),
    (1, ⟨(some 2), none, .alloc [(.int .u64 0), (.int .u64 0), (.int .u64 0), (.int .u64 0)]⟩)] (some [1, 2])) (.seq (.seq (.ops 1 [
    (0, ⟨(some 4), none, .mv (.k (.d (.val (.int .i64 0))))⟩)] (some [1, 2, 4])) (.block 0 (.loop (.seq (.ops 1 [
    (0, ⟨(some 5), none, .arith .lss (.t 4) (.k (.d (.val (.int .i64 4))))⟩)] (some [1, 2, 4, 5])) (.seq (.cond (.t 5) .skip (.exit 0)) (.seq (.block 1 (.seq (.ops 2 [
    (0, ⟨(some 6), none, .mv (.t 4)⟩),
    (1, ⟨(some 3), none, .mv (.t 6)⟩)] (some [1, 2, 3, 4])) (.ops 7 [
    (0, ⟨(some 7), none, .mv (.t 3)⟩),
    (1, ⟨(some 8), none, .mv (.t 3)⟩),
    (2, ⟨(some 9), none, .idxP 4 1 (.t 1) (.t 8)⟩),
    (3, ⟨(some 10), none, .load none (.t 9)⟩),
    (4, ⟨(some 11), none, .un .xor (.t 10)⟩),
    (5, ⟨(some 12), none, .idxP 4 1 (.t 1) (.t 7)⟩),
    (6, ⟨none, none, .store 1 (.t 12) (.t 11)⟩)] (some [1, 2, 4])))) (.ops 2 [
    (0, ⟨(some 13), none, .arith .add (.t 4) (.k (.d (.val (.int .i64 1))))⟩),
    (1, ⟨(some 4), none, .mv (.t 13)⟩)] (some [1, 2, 4])))))))) (.seq (.ops 2 [
    (0, ⟨(some 14), none, .load (some 4) (.t 1)⟩),
    (1, ⟨none, none, .store 4 (.t 2) (.t 14)⟩)] (some [2])) .ret)))
def md184 : FuncId → Option Nat × Bool
  | _ => (none, false)
def od184 : Nat → List (List Nat) × List Nat × Option (List Nat)
  | 0 => ([], [], some [1, 2])
  | 1 => ([], [], some [1, 2, 4])
  | 2 => ([], [], some [1, 2, 4, 5])
  | 3 => ([], [], some [1, 2, 3, 4])
  | 4 => ([], [], some [1, 2, 4])
  | 5 => ([], [], some [1, 2, 4])
  | 6 => ([], [], some [2])
  | _ => ([], [], none)
theorem b184 {ags : List AV} {row : Option (List DV)} {r : AV} {row' nw : Option (List DV)} (hal : ags.length ≤ 15) (hrow : row'.isSome = true → row.isSome = true) (h : xwp Try.prog x184 (retK [.cell 2 (some 4)] row.isSome r row' nw) (St.init ags row)) : Good Try.prog 184 ags row r row' nw :=
  good_of_body' (md := md184) (od := od184) Try.f184 (by kernel_rfl) (by kernel_rfl) (by kernel_rfl) (by kernel_rfl) (by kernel_rfl) hal hrow h

def x185 : XC := (.seq (.ops 1 [
    (0, ⟨(some 2), none, .mv (.k (.d (.val (.int .u8 0))))⟩)] (some [0])) (.seq (.ops 3 [
    (0, ⟨(some 5), none, .mv (.t 0)⟩),
    (1, ⟨(some 6), none, .call 172 [(.t 5)] none false⟩),
    (2, ⟨(some 3), none, .mv (.t 6)⟩)] (some [0, 3])) (.seq (.ops 8 [
    (0, ⟨(some 7), none, .mv (.t 0)⟩),
    (1, ⟨(some 8), none, .mv (.t 3)⟩),
    (2, ⟨(some 9), none, .arith .geq (.t 8) (.k (.d (.val (.int .i64 0))))⟩),
    (3, ⟨(some 10), none, .mv (.t 0)⟩),
    (4, ⟨(some 11), none, .nilck (.t 10)⟩),
    (5, ⟨(some 12), none, .fadd 1 (.t 11)⟩),
    (6, ⟨(some 13), none, .load none (.t 12)⟩),
    (7, ⟨(some 14), none, .call 150 [(.t 7), (.t 9), (.t 13)] none false⟩)] (some [0, 3])) (.seq (.ops 8 [
    (0, ⟨(some 15), none, .mv (.t 0)⟩),
    (1, ⟨(some 16), none, .nilck (.t 15)⟩),
    (2, ⟨(some 17), none, .fadd 1 (.t 16)⟩),
    (3, ⟨(some 18), none, .load none (.t 17)⟩),
    (4, ⟨(some 19), none, .arith .add (.t 18) (.k (.d (.val (.int .i64 1))))⟩),
    (5, ⟨(some 20), none, .nilck (.t 15)⟩),
    (6, ⟨(some 21), none, .fadd 1 (.t 20)⟩),
    (7, ⟨none, none, .store 1 (.t 21) (.t 19)⟩)] (some [0, 3])) (.seq (.seq (.ops 1 [
    (0, ⟨(some 22), none, .mv (.t 3)⟩)] (some [0, 3, 22])) (.block 0 (.seq (.ops 2 [
    (0, ⟨(some 24), none, .arith .eql (.t 22) (.k (.d (.val (.int .i64 120))))⟩),
    (1, ⟨(some 23), none, .mv (.t 24)⟩)] (some [0, 3, 22, 23])) (.cond (.t 23) (.seq (.ops 4 [
    (0, ⟨(some 25), none, .mv (.t 0)⟩),
    (1, ⟨(some 26), none, .call 187 [(.t 25)] (some 0) false⟩),
    (2, ⟨(some 27), none, .arith .shl (.t 26) (.k (.d (.val (.int .u64 4))))⟩),
    (3, ⟨(some 4), none, .mv (.t 27)⟩)] (some [0, 4])) (.seq (.ops 6 [
    (0, ⟨(some 28), none, .mv (.t 4)⟩),
    (1, ⟨(some 29), none, .mv (.t 0)⟩),
    (2, ⟨(some 30), none, .call 187 [(.t 29)] (some 0) false⟩),
    (3, ⟨(some 31), none, .arith .or (.t 28) (.t 30)⟩),
    (4, ⟨(some 32), none, .conv .u8 (.t 31)⟩),
    (5, ⟨(some 2), none, .mv (.t 32)⟩)] (some [2])) .ret)) (.seq (.ops 2 [
    (0, ⟨(some 34), none, .arith .eql (.t 22) (.k (.d (.val (.int .i64 110))))⟩),
    (1, ⟨(some 33), none, .mv (.t 34)⟩)] (some [0, 3, 22, 33])) (.cond (.t 33) (.seq (.ops 1 [
    (0, ⟨(some 2), none, .mv (.k (.d (.val (.int .u8 10))))⟩)] (some [2])) .ret) (.seq (.ops 2 [
    (0, ⟨(some 36), none, .arith .eql (.t 22) (.k (.d (.val (.int .i64 116))))⟩),
    (1, ⟨(some 35), none, .mv (.t 36)⟩)] (some [0, 3, 35])) (.cond (.t 35) (.seq (.ops 1 [
    (0, ⟨(some 2), none, .mv (.k (.d (.val (.int .u8 9))))⟩)] (some [2])) .ret) .skip)))))))) (.seq (.ops 11 [
    (0, ⟨(some 37), none, .mv (.t 0)⟩),
    (1, ⟨(some 38), none, .mv (.t 3)⟩),
    (2, ⟨(some 39), none, .conv .u8 (.t 38)⟩),
    (3, ⟨(some 40), none, .call 188 [(.k (.d (.val (.string ⟨#[124, 42, 43, 63, 40, 41, 91, 93, 123, 125, 46, 92, 94, 36, 45]⟩)))), (.t 39)] none false⟩),
    (4, ⟨(some 41), none, .arith .geq (.t 40) (.k (.d (.val (.int .i64 0))))⟩),
    (5, ⟨(some 42), none, .mv (.t 0)⟩),
    (6, ⟨(some 43), none, .nilck (.t 42)⟩),
    (7, ⟨(some 44), none, .fadd 1 (.t 43)⟩),
    (8, ⟨(some 45), none, .load none (.t 44)⟩),
    (9, ⟨(some 46), none, .arith .sub (.t 45) (.k (.d (.val (.int .i64 1))))⟩),
    (10, ⟨(some 47), none, .call 150 [(.t 37), (.t 41), (.t 46)] none false⟩)] (some [3])) (.seq (.ops 3 [
    (0, ⟨(some 48), none, .mv (.t 3)⟩),
    (1, ⟨(some 49), none, .conv .u8 (.t 48)⟩),
    (2, ⟨(some 2), none, .mv (.t 49)⟩)] (some [2])) .ret)))))))
def md185 : FuncId → Option Nat × Bool
  | 187 => (some 0, false)
  | _ => (none, false)
def od185 : Nat → List (List Nat) × List Nat × Option (List Nat)
  | 0 => ([], [], some [0])
  | 1 => ([], [], some [0, 3])
  | 2 => ([], [], some [0, 3])
  | 3 => ([], [], some [0, 3])
  | 4 => ([], [], some [0, 3, 22])
  | 5 => ([], [], some [0, 3, 22, 23])
  | 6 => ([], [], some [0, 4])
  | 7 => ([], [], some [2])
  | 8 => ([], [], some [0, 3, 22, 33])
  | 9 => ([], [], some [2])
  | 10 => ([], [], some [0, 3, 35])
  | 11 => ([], [], some [2])
  | 12 => ([[], [], [1], [1, 2], [1, 2, 3], [], [5], [5, 6], [5, 6, 7], [5, 6, 7, 8], [0, 1, 2, 3, 4, 5, 6, 7, 8, 9]], [0, 1, 2, 3, 4, 5, 6, 7, 8, 9, 10], some [3])
  | 13 => ([], [], some [2])
  | _ => ([], [], none)
theorem b185 {ags : List AV} {row : Option (List DV)} {r : AV} {row' nw : Option (List DV)} (hal : ags.length ≤ 50) (hrow : row'.isSome = true → row.isSome = true) (h : xwp Try.prog x185 (retK [.tmp 2] row.isSome r row' nw) (St.init ags row)) : Good Try.prog 185 ags row r row' nw :=
  good_of_body' (md := md185) (od := od185) Try.f185 (by kernel_rfl) (by kernel_rfl) (by kernel_rfl) (by kernel_rfl) (by kernel_rfl) hal hrow h

def x186 : XC := (.seq (.ops 1 [
    (0, ⟨(some 2), none, .mv (.k (.d (.val (.string ⟨#[]⟩))))⟩)] (some [0])) (.seq (.seq (.ops 2 [
    (0, ⟨(some 3), none, .mv (.t 0)⟩),
    (1, ⟨(some 4), none, .call 189 [(.t 3)] none false⟩)] (some [0, 4])) (.cond (.t 4) (.seq (.ops 4 [
    (0, ⟨(some 5), none, .mv (.t 0)⟩),
    (1, ⟨(some 6), none, .mkrow [(.int .u8 0)] 1 1 [(0, 1, (.t 5))]⟩),
    (2, ⟨(some 7), none, .strB (.t 6)⟩),
    (3, ⟨(some 2), none, .mv (.t 7)⟩)] (some [2])) .ret) .skip)) (.seq (.ops 15 [
    (0, ⟨(some 8), none, .mv (.t 0)⟩),
    (1, ⟨(some 9), none, .arith .shr (.t 8) (.k (.d (.val (.int .u64 4))))⟩),
    (2, ⟨(some 10), none, .mv (.t 0)⟩),
    (3, ⟨(some 11), none, .arith .shr (.t 10) (.k (.d (.val (.int .u64 4))))⟩),
    (4, ⟨(some 12), none, .arith .add (.t 11) (.k (.d (.val (.int .u8 1))))⟩),
    (5, ⟨(some 13), none, .slT (.k (.d (.val (.string ⟨#[48, 49, 50, 51, 52, 53, 54, 55, 56, 57, 97, 98, 99, 100, 101, 102]⟩)))) (some (.t 9)) (some (.t 12))⟩),
    (6, ⟨(some 14), none, .arith .add (.k (.d (.val (.string ⟨#[92, 120]⟩)))) (.t 13)⟩),
    (7, ⟨(some 15), none, .mv (.t 0)⟩),
    (8, ⟨(some 16), none, .arith .and (.t 15) (.k (.d (.val (.int .u8 15))))⟩),
    (9, ⟨(some 17), none, .mv (.t 0)⟩),
    (10, ⟨(some 18), none, .arith .and (.t 17) (.k (.d (.val (.int .u8 15))))⟩),
    (11, ⟨(some 19), none, .arith .add (.t 18) (.k (.d (.val (.int .u8 1))))⟩),
    (12, ⟨(some 20), none, .slT (.k (.d (.val (.string ⟨#[48, 49, 50, 51, 52, 53, 54, 55, 56, 57, 97, 98, 99, 100, 101, 102]⟩)))) (some (.t 16)) (some (.t 19))⟩),
    (13, ⟨(some 21), none, .arith .add (.t 14) (.t 20)⟩),
    (14, ⟨(some 2), none, .mv (.t 21)⟩)] (some [2])) .ret)))
def md186 : FuncId → Option Nat × Bool
  | _ => (none, false)
def od186 : Nat → List (List Nat) × List Nat × Option (List Nat)
  | 0 => ([], [], some [0])
  | 1 => ([], [], some [0, 4])
  | 2 => ([], [], some [2])
  | 3 => ([[], [0], [], [2], [2, 3], [0, 1, 2, 3, 4], [0, 1, 2, 3, 4, 5], [], [7], [], [9], [9, 10], [7, 8, 9, 10, 11], [0, 1, 2, 3, 4, 5, 6, 7, 8, 9, 10, 11, 12], [0, 1, 2, 3, 4, 5, 6, 7, 8, 9, 10, 11, 12, 13]], [0, 1, 2, 3, 4, 5, 6, 7, 8, 9, 10, 11, 12, 13, 14], some [2])
  | _ => ([], [], none)
theorem b186 {ags : List AV} {row : Option (List DV)} {r : AV} {row' nw : Option (List DV)} (hal : ags.length ≤ 22) (hrow : row'.isSome = true → row.isSome = true) (h : xwp Try.prog x186 (retK [.tmp 2] row.isSome r row' nw) (St.init ags row)) : Good Try.prog 186 ags row r row' nw :=
  good_of_body' (md := md186) (od := od186) Try.f186 (by kernel_rfl) (by kernel_rfl) (by kernel_rfl) (by kernel_rfl) (by kernel_rfl) hal hrow h

def x187 : XC := (.seq (.ops 1 [
    (0, ⟨(some 2), none, .mv (.k (.d (.val (.int .i64 0))))⟩)] (some [0])) (.seq (.ops 3 [
    (0, ⟨(some 5), none, .mv (.t 0)⟩),
    (1, ⟨(some 6), none, .call 172 [(.t 5)] none false⟩),
    (2, ⟨(some 3), none, .mv (.t 6)⟩)] (some [0, 3])) (.seq (.ops 1 [
    (0, ⟨(some 4), none, .mv (.k (.d (.val (.int .i64 (-1)))))⟩)] (some [0, 3, 4])) (.seq (.seq (.ops 2 [
    (0, ⟨(some 7), none, .mv (.t 3)⟩),
    (1, ⟨(some 8), none, .arith .geq (.t 7) (.k (.d (.val (.int .i64 0))))⟩)] (some [0, 3, 4, 8])) (.cond (.t 8) (.ops 4 [
    (0, ⟨(some 9), none, .mv (.t 3)⟩),
    (1, ⟨(some 10), none, .conv .u8 (.t 9)⟩),
    (2, ⟨(some 11), none, .call 188 [(.k (.d (.val (.string ⟨#[48, 49, 50, 51, 52, 53, 54, 55, 56, 57, 97, 98, 99, 100, 101, 102]⟩)))), (.t 10)] none false⟩),
    (3, ⟨(some 4), none, .mv (.t 11)⟩)] (some [0, 4])) .skip)) (.seq (.ops 8 [
    (0, ⟨(some 12), none, .mv (.t 0)⟩),
    (1, ⟨(some 13), none, .mv (.t 4)⟩),
    (2, ⟨(some 14), none, .arith .geq (.t 13) (.k (.d (.val (.int .i64 0))))⟩),
    (3, ⟨(some 15), none, .mv (.t 0)⟩),
    (4, ⟨(some 16), none, .nilck (.t 15)⟩),
    (5, ⟨(some 17), none, .fadd 1 (.t 16)⟩),
    (6, ⟨(some 18), none, .load none (.t 17)⟩),
    (7, ⟨(some 19), none, .call 150 [(.t 12), (.t 14), (.t 18)] none false⟩)] (some [0, 4])) (.seq (.ops 8 [
    (0, ⟨(some 20), none, .mv (.t 0)⟩),
    (1, ⟨(some 21), none, .nilck (.t 20)⟩),
    (2, ⟨(some 22), none, .fadd 1 (.t 21)⟩),
    (3, ⟨(some 23), none, .load none (.t 22)⟩),
    (4, ⟨(some 24), none, .arith .add (.t 23) (.k (.d (.val (.int .i64 1))))⟩),
    (5, ⟨(some 25), none, .nilck (.t 20)⟩),
    (6, ⟨(some 26), none, .fadd 1 (.t 25)⟩),
    (7, ⟨none, none, .store 1 (.t 26) (.t 24)⟩)] (some [4])) (.seq (.ops 2 [
    (0, ⟨(some 27), none, .mv (.t 4)⟩),
    (1, ⟨(some 2), none, .mv (.t 27)⟩)] (some [2])) .ret)))))))
def md187 : FuncId → Option Nat × Bool
  | _ => (none, false)
def od187 : Nat → List (List Nat) × List Nat × Option (List Nat)
  | 0 => ([], [], some [0])
  | 1 => ([], [], some [0, 3])
  | 2 => ([], [], some [0, 3, 4])
  | 3 => ([], [], some [0, 3, 4, 8])
  | 4 => ([], [], some [0, 4])
  | 5 => ([], [], some [0, 4])
  | 6 => ([], [], some [4])
  | 7 => ([], [], some [2])
  | _ => ([], [], none)
theorem b187 {ags : List AV} {row : Option (List DV)} {r : AV} {row' nw : Option (List DV)} (hal : ags.length ≤ 28) (hrow : row'.isSome = true → row.isSome = true) (h : xwp Try.prog x187 (retK [.tmp 2] row.isSome r row' nw) (St.init ags row)) : Good Try.prog 187 ags row r row' nw :=
  good_of_body' (md := md187) (od := od187) Try.f187 (by kernel_rfl) (by kernel_rfl) (by kernel_rfl) (by kernel_rfl) (by kernel_rfl) hal hrow h

def x188 : XC := (.seq (.ops 1 [
    (0, ⟨(some 4), none, .mv (.k (.d (.val (.int .i64 0))))⟩)] (some [0, 1])) (.seq (.ops 4 [
    (0, ⟨(some 5), none, .mv (.t 0)⟩),
    (1, ⟨(some 6), none, .mv (.t 1)⟩),
    (2, ⟨(some 7), none, .call 190 [(.t 5), (.t 6)] none false⟩),
    (3, ⟨(some 4), none, .mv (.t 7)⟩)] (some [4])) .ret))
def md188 : FuncId → Option Nat × Bool
  | _ => (none, false)
def od188 : Nat → List (List Nat) × List Nat × Option (List Nat)
  | 0 => ([], [], some [0, 1])
  | 1 => ([], [], some [4])
  | _ => ([], [], none)
theorem b188 {ags : List AV} {row : Option (List DV)} {r : AV} {row' nw : Option (List DV)} (hal : ags.length ≤ 8) (hrow : row'.isSome = true → row.isSome = true) (h : xwp Try.prog x188 (retK [.tmp 4] row.isSome r row' nw) (St.init ags row)) : Good Try.prog 188 ags row r row' nw :=
  good_of_body' (md := md188) (od := od188) Try.f188 (by kernel_rfl) (by kernel_rfl) (by kernel_rfl) (by kernel_rfl) (by kernel_rfl) hal hrow h

def x189 : XC := (.seq (.ops 1 [
    (0, ⟨(some 2), none, .mv (.k (.d (.val (.bool false))))⟩)] (some [0])) (.seq (.ops 22 [
    (0, ⟨(some 3), none, .mv (.t 0)⟩),
    (1, ⟨(some 4), none, .arith .or (.t 3) (.k (.d (.val (.int .u8 32))))⟩),
    (2, ⟨(some 5), none, .arith .geq (.t 4) (.k (.d (.val (.int .u8 97))))⟩),
    (3, ⟨(some 6), none, .mv (.t 5)⟩),
    (4, ⟨(some 7), (some (6, true)), .mv (.t 0)⟩),
    (5, ⟨(some 8), (some (6, true)), .arith .or (.t 7) (.k (.d (.val (.int .u8 32))))⟩),
    (6, ⟨(some 9), (some (6, true)), .arith .leq (.t 8) (.k (.d (.val (.int .u8 122))))⟩),
    (7, ⟨(some 10), none, .pick (.t 6) (.t 9) (.k (.d (.val (.bool false))))⟩),
    (8, ⟨(some 11), none, .mv (.t 10)⟩),
    (9, ⟨(some 12), (some (11, false)), .mv (.t 0)⟩),
    (10, ⟨(some 13), (some (11, false)), .arith .geq (.t 12) (.k (.d (.val (.int .u8 48))))⟩),
    (11, ⟨(some 14), (some (11, false)), .mv (.t 13)⟩),
    (12, ⟨(some 15), (some (14, true)), .mv (.t 0)⟩),
    (13, ⟨(some 16), (some (14, true)), .arith .leq (.t 15) (.k (.d (.val (.int .u8 57))))⟩),
    (14, ⟨(some 17), (some (11, false)), .pick (.t 14) (.t 16) (.k (.d (.val (.bool false))))⟩),
    (15, ⟨(some 18), none, .pick (.t 11) (.k (.d (.val (.bool true)))) (.t 17)⟩),
    (16, ⟨(some 19), none, .mv (.t 18)⟩),
    (17, ⟨(some 20), (some (19, false)), .mv (.t 0)⟩),
    (18, ⟨(some 21), (some (19, false)), .call 188 [(.k (.d (.val (.string ⟨#[32, 33, 34, 35, 37, 38, 39, 44, 47, 58, 59, 60, 61, 62, 64, 95, 96, 126]⟩)))), (.t 20)] none false⟩),
    (19, ⟨(some 22), (some (19, false)), .arith .geq (.t 21) (.k (.d (.val (.int .i64 0))))⟩),
    (20, ⟨(some 23), none, .pick (.t 19) (.k (.d (.val (.bool true)))) (.t 22)⟩),
    (21, ⟨(some 2), none, .mv (.t 23)⟩)] (some [2])) .ret))
def md189 : FuncId → Option Nat × Bool
  | _ => (none, false)
def od189 : Nat → List (List Nat) × List Nat × Option (List Nat)
  | 0 => ([], [], some [0])
  | 1 => ([], [], some [2])
  | _ => ([], [], none)
theorem b189 {ags : List AV} {row : Option (List DV)} {r : AV} {row' nw : Option (List DV)} (hal : ags.length ≤ 24) (hrow : row'.isSome = true → row.isSome = true) (h : xwp Try.prog x189 (retK [.tmp 2] row.isSome r row' nw) (St.init ags row)) : Good Try.prog 189 ags row r row' nw :=
  good_of_body' (md := md189) (od := od189) Try.f189 (by kernel_rfl) (by kernel_rfl) (by kernel_rfl) (by kernel_rfl) (by kernel_rfl) hal hrow h

def x190 : XC := (.seq (.ops 1 [
    (0, ⟨(some 4), none, .mv (.k (.d (.val (.int .i64 0))))⟩)] (some [0, 1])) (.seq (.ops 4 [
    (0, ⟨(some 5), none, .mv (.t 0)⟩),
    (1, ⟨(some 6), none, .mv (.t 1)⟩),
    (2, ⟨(some 7), none, .call 191 [(.t 5), (.t 6)] none false⟩),
    (3, ⟨(some 4), none, .mv (.t 7)⟩)] (some [4])) .ret))
def md190 : FuncId → Option Nat × Bool
  | _ => (none, false)
def od190 : Nat → List (List Nat) × List Nat × Option (List Nat)
  | 0 => ([], [], some [0, 1])
  | 1 => ([], [], some [4])
  | _ => ([], [], none)
theorem b190 {ags : List AV} {row : Option (List DV)} {r : AV} {row' nw : Option (List DV)} (hal : ags.length ≤ 8) (hrow : row'.isSome = true → row.isSome = true) (h : xwp Try.prog x190 (retK [.tmp 4] row.isSome r row' nw) (St.init ags row)) : Good Try.prog 190 ags row r row' nw :=
  good_of_body' (md := md190) (od := od190) Try.f190 (by kernel_rfl) (by kernel_rfl) (by kernel_rfl) (by kernel_rfl) (by kernel_rfl) hal hrow h

def x73 : XC := (.seq (.ops 3 [
    (0, ⟨(some 2), none, .box (.t 0)⟩),
    (1, ⟨(some 3), none, .box (.t 1)⟩),
    (2, ⟨(some 4), none, .alloc [(.int .u64 0), (.int .u64 0), (.int .u64 0), (.int .u64 0)]⟩)] (some [2, 3, 4])) (.seq (.seq (.ops 1 [
    (0, ⟨(some 6), none, .mv (.k (.d (.val (.int .i64 0))))⟩)] (some [2, 3, 4, 6])) (.block 0 (.loop (.seq (.ops 1 [
    (0, ⟨(some 7), none, .arith .lss (.t 6) (.k (.d (.val (.int .i64 4))))⟩)] (some [2, 3, 4, 6, 7])) (.seq (.cond (.t 7) .skip (.exit 0)) (.seq (.block 1 (.seq (.ops 2 [
    (0, ⟨(some 8), none, .mv (.t 6)⟩),
    (1, ⟨(some 5), none, .mv (.t 8)⟩)] (some [2, 3, 4, 5, 6])) (.ops 9 [
    (0, ⟨(some 9), none, .mv (.t 5)⟩),
    (1, ⟨(some 10), none, .idxP 4 1 (.t 2) (.t 9)⟩),
    (2, ⟨(some 11), none, .load none (.t 10)⟩),
    (3, ⟨(some 12), none, .mv (.t 5)⟩),
    (4, ⟨(some 13), none, .idxP 4 1 (.t 3) (.t 12)⟩),
    (5, ⟨(some 14), none, .load none (.t 13)⟩),
    (6, ⟨(some 15), none, .arith .or (.t 11) (.t 14)⟩),
    (7, ⟨(some 16), none, .idxP 4 1 (.t 2) (.t 9)⟩),
    (8, ⟨none, none, .store 1 (.t 16) (.t 15)⟩)] (some [2, 3, 4, 6])))) (.ops 2 [
    (0, ⟨(some 17), none, .arith .add (.t 6) (.k (.d (.val (.int .i64 1))))⟩),
    (1, ⟨(some 6), none, .mv (.t 17)⟩)] (some [2, 3, 4, 6])))))))) (.seq (.ops 2 [
    (0, ⟨(some 18), none, .load (some 4) (.t 2)⟩),
    (1, ⟨none, none, .store 4 (.t 4) (.t 18)⟩)] (some [4])) .ret)))
def md73 : FuncId → Option Nat × Bool
  | _ => (none, false)
def od73 : Nat → List (List Nat) × List Nat × Option (List Nat)
  | 0 => ([], [], some [2, 3, 4])
  | 1 => ([], [], some [2, 3, 4, 6])
  | 2 => ([], [], some [2, 3, 4, 6, 7])
  | 3 => ([], [], some [2, 3, 4, 5, 6])
  | 4 => ([[], [0], [0, 1], [], [3], [3, 4], [0, 1, 2, 3, 4, 5], [0, 1, 2, 3, 4, 5, 6], [0, 1, 2, 3, 4, 5, 6, 7]], [0, 1, 2, 3, 4, 5, 6, 7, 8], some [2, 3, 4, 6])
  | 5 => ([], [], some [2, 3, 4, 6])
  | 6 => ([], [], some [4])
  | _ => ([], [], none)
theorem b73 {ags : List AV} {row : Option (List DV)} {r : AV} {row' nw : Option (List DV)} (hal : ags.length ≤ 19) (hrow : row'.isSome = true → row.isSome = true) (h : xwp Try.prog x73 (retK [.cell 4 (some 4)] row.isSome r row' nw) (St.init ags row)) : Good Try.prog 73 ags row r row' nw :=
  good_of_body' (md := md73) (od := od73) Try.f73 (by kernel_rfl) (by kernel_rfl) (by kernel_rfl) (by kernel_rfl) (by kernel_rfl) hal hrow h

def spP (n : Nat) : CallF → CallF := fun cf f ags row =>
  if f = 118 ∧ row.isNone = true ∧ ags.length ≤ 26 then
    match evC cf n xa118 (LS.init ags none) with
    | some (.normal, s1) => match frOf s1.fr 6 with
      | .dead => match evC cf n xb118 s1 with
        | some (.normal, s) => (resVals (frOf s.fr) (heapOf s.C) rs118).bind fun vs => evRet (heapOf s.C) (zOf s.Z) (tupOf vs) false false
        | some (.ret, s) => (resVals (frOf s.fr) (heapOf s.C) rs118).bind fun vs => evRet (heapOf s.C) (zOf s.Z) (tupOf vs) false false
        | _ => none
      | _ => none
    | _ => none
  else none
theorem evRet_data {C : Heap} {Z : Frz} {v : AV} {r : AV} {row' nr : Option (List DV)} (h : evRet C Z v false false = some (r, row', nr)) : row' = none ∧ nr = none := by
  simp only [evRet, Bool.false_eq_true, if_false] at h
  obtain ⟨r', _, h3⟩ := Option.map_eq_some_iff.1 h
  cases h3; exact ⟨rfl, rfl⟩
theorem spP_ok (n : Nat) (cf : CallF) (hcf : ∀ f ags row r row' nw, cf f ags row = some (r, row', nw) → Good Try.prog f ags row r row' nw) (f : FuncId) (ags : List AV) (row : Option (List DV)) (r : AV) (row' nw : Option (List DV)) (h : spP n cf f ags row = some (r, row', nw)) : Good Try.prog f ags row r row' nw := by
  unfold spP at h
  split at h
  case isFalse => cases h
  rename_i hc
  obtain ⟨rfl, hr, hal⟩ := hc
  have hr' : row = none := by cases row <;> simp_all
  subst hr'
  split at h
  case h_2 => cases h
  rename_i s1 h1
  split at h
  case h_2 => cases h
  rename_i h6
  have fin : ∀ e s, evC cf n xb118 s1 = some (e, s) → (e = .normal ∨ e = .ret) → ((resVals (frOf s.fr) (heapOf s.C) rs118).bind fun vs => evRet (heapOf s.C) (zOf s.Z) (tupOf vs) false false) = some (r, row', nw) → Good Try.prog 118 ags none r row' nw := by
    intro e s h2 he h3
    obtain ⟨vs, h4, h5⟩ := Option.bind_eq_some_iff.1 h3
    obtain ⟨rfl, rfl⟩ := evRet_data h5
    refine parse_of hal ?_
    rw [← LS.init_eq]
    refine evC_sound hcf n _ _ _ _ h1 _ ⟨rfl, h6, ?_⟩
    refine evC_sound hcf n _ _ _ _ h2 _ ?_
    rcases he with rfl | rfl
    · exact ⟨vs, h4, evRet_sound h5⟩
    · exact ⟨vs, h4, evRet_sound h5⟩
  split at h
  · rename_i s h2; exact fin _ _ h2 (.inl rfl) h
  · rename_i s h2; exact fin _ _ h2 (.inr rfl) h
  · cases h
end Go.Sv
namespace Go.Sv
open Go Go.Proofs
set_option maxRecDepth 100000
def x56 : XC := (.seq (.ops 1 [
    (0, ⟨(some 0), none, .mv (.k (.d (.val (.bool false))))⟩)] (some [])) (.seq (.ops 8 [
    (0, ⟨(some 10), none, .call 114 [(.k (.d (.val (.string ⟨#[97, 123, 49, 44, 50, 125]⟩))))] none false⟩),
    (1, ⟨(some 11), none, .call 57 [(.t 10), (.k (.d (.val (.int .i64 100))))] none false⟩),
    (2, ⟨(some 9), none, .mv (.t 11)⟩),
    (3, ⟨(some 12), none, .ext (.t 9) 0⟩),
    (4, ⟨(some 13), none, .ext (.t 9) 1⟩),
    (5, ⟨(some 1), none, .alloc [(.int .i64 0), (.int .u64 0), (.int .u64 0), (.int .u64 0), (.int .u64 0), (.int .i64 0), (.int .i64 0), (.slice none 0 0)]⟩),
    (6, ⟨none, none, .store 8 (.t 1) (.t 12)⟩),
    (7, ⟨(some 2), none, .mv (.t 13)⟩)] (some [1, 2])) (.seq (.ops 8 [
    (0, ⟨(some 15), none, .call 114 [(.k (.d (.val (.string ⟨#[97, 123, 50, 44, 125]⟩))))] none false⟩),
    (1, ⟨(some 16), none, .call 57 [(.t 15), (.k (.d (.val (.int .i64 100))))] none false⟩),
    (2, ⟨(some 14), none, .mv (.t 16)⟩),
    (3, ⟨(some 17), none, .ext (.t 14) 0⟩),
    (4, ⟨(some 18), none, .ext (.t 14) 1⟩),
    (5, ⟨(some 3), none, .alloc [(.int .i64 0), (.int .u64 0), (.int .u64 0), (.int .u64 0), (.int .u64 0), (.int .i64 0), (.int .i64 0), (.slice none 0 0)]⟩),
    (6, ⟨none, none, .store 8 (.t 3) (.t 17)⟩),
    (7, ⟨(some 4), none, .mv (.t 18)⟩)] (some [1, 2, 3])) (.seq (.ops 8 [
    (0, ⟨(some 20), none, .call 114 [(.k (.d (.val (.string ⟨#[97, 123, 50, 48, 125]⟩))))] none false⟩),
    (1, ⟨(some 21), none, .call 57 [(.t 20), (.k (.d (.val (.int .i64 20))))] none false⟩),
    (2, ⟨(some 19), none, .mv (.t 21)⟩),
    (3, ⟨(some 22), none, .ext (.t 19) 0⟩),
    (4, ⟨(some 23), none, .ext (.t 19) 1⟩),
    (5, ⟨(some 5), none, .alloc [(.int .i64 0), (.int .u64 0), (.int .u64 0), (.int .u64 0), (.int .u64 0), (.int .i64 0), (.int .i64 0), (.slice none 0 0)]⟩),
    (6, ⟨none, none, .store 8 (.t 5) (.t 22)⟩),
    (7, ⟨(some 6), none, .mv (.t 23)⟩)] (some [1, 2, 3, 6])) (.seq (.ops 8 [
    (0, ⟨(some 25), none, .build [(.int .i64 0), (.int .u64 0), (.int .u64 0), (.int .u64 0), (.int .u64 0), (.int .i64 0), (.int .i64 0), (.slice none 0 0)] []⟩),
    (1, ⟨(some 26), none, .call 57 [(.t 25), (.k (.d (.val (.int .i64 100))))] none false⟩),
    (2, ⟨(some 24), none, .mv (.t 26)⟩),
    (3, ⟨(some 27), none, .ext (.t 24) 0⟩),
    (4, ⟨(some 28), none, .ext (.t 24) 1⟩),
    (5, ⟨(some 7), none, .alloc [(.int .i64 0), (.int .u64 0), (.int .u64 0), (.int .u64 0), (.int .u64 0), (.int .i64 0), (.int .i64 0), (.slice none 0 0)]⟩),
    (6, ⟨none, none, .store 8 (.t 7) (.t 27)⟩),
    (7, ⟨(some 8), none, .mv (.t 28)⟩)] (some [1, 2, 3, 6, 8])) (.seq (.ops 30 [
    (0, ⟨(some 29), none, .load (some 8) (.t 1)⟩),
    (1, ⟨(some 30), none, .call 114 [(.k (.d (.val (.string ⟨#[97, 40, 97, 124, 41]⟩))))] none false⟩),
    (2, ⟨(some 31), none, .call 47 [(.t 29), (.t 30)] none false⟩),
    (3, ⟨(some 32), none, .mv (.t 31)⟩),
    (4, ⟨(some 33), (some (32, true)), .mv (.t 2)⟩),
    (5, ⟨(some 34), (some (32, true)), .arith .eql (.t 33) (.k (.d (.val (.int .i64 0))))⟩),
    (6, ⟨(some 35), none, .pick (.t 32) (.t 34) (.k (.d (.val (.bool false))))⟩),
    (7, ⟨(some 36), none, .mv (.t 35)⟩),
    (8, ⟨(some 37), (some (36, true)), .load (some 8) (.t 3)⟩),
    (9, ⟨(some 38), (some (36, true)), .call 114 [(.k (.d (.val (.string ⟨#[97, 97, 97, 42]⟩))))] none false⟩),
    (10, ⟨(some 39), (some (36, true)), .call 47 [(.t 37), (.t 38)] none false⟩),
    (11, ⟨(some 40), none, .pick (.t 36) (.t 39) (.k (.d (.val (.bool false))))⟩),
    (12, ⟨(some 41), none, .mv (.t 40)⟩),
    (13, ⟨(some 42), (some (41, true)), .mv (.t 6)⟩),
    (14, ⟨(some 43), (some (41, true)), .arith .eql (.t 42) (.k (.d (.val (.int .i64 11))))⟩),
    (15, ⟨(some 44), none, .pick (.t 41) (.t 43) (.k (.d (.val (.bool false))))⟩),
    (16, ⟨(some 45), none, .mv (.t 44)⟩),
    (17, ⟨(some 46), (some (45, true)), .mv (.t 8)⟩),
    (18, ⟨(some 47), (some (45, true)), .arith .eql (.t 46) (.k (.d (.val (.int .i64 1))))⟩),
    (19, ⟨(some 48), none, .pick (.t 45) (.t 47) (.k (.d (.val (.bool false))))⟩),
    (20, ⟨(some 49), none, .mv (.t 48)⟩),
    (21, ⟨(some 50), (some (49, true)), .load (some 8) (.t 1)⟩),
    (22, ⟨(some 51), (some (49, true)), .call 60 [(.t 50)] none false⟩),
    (23, ⟨(some 52), none, .pick (.t 49) (.t 51) (.k (.d (.val (.bool false))))⟩),
    (24, ⟨(some 53), none, .mv (.t 52)⟩),
    (25, ⟨(some 54), (some (53, true)), .call 114 [(.k (.d (.val (.string ⟨#[97, 63]⟩))))] none false⟩),
    (26, ⟨(some 55), (some (53, true)), .call 60 [(.t 54)] none false⟩),
    (27, ⟨(some 56), (some (53, true)), .un .not (.t 55)⟩),
    (28, ⟨(some 57), none, .pick (.t 53) (.t 56) (.k (.d (.val (.bool false))))⟩),
    (29, ⟨(some 0), none, .mv (.t 57)⟩)] (some [0])) .ret))))))
def md56 : FuncId → Option Nat × Bool
  | _ => (none, false)
def od56 : Nat → List (List Nat) × List Nat × Option (List Nat)
  | 0 => ([], [], some [])
  | 1 => ([], [], some [1, 2])
  | 2 => ([], [], some [1, 2, 3])
  | 3 => ([], [], some [1, 2, 3, 6])
  | 4 => ([], [], some [1, 2, 3, 6, 8])
  | 5 => ([[], [], [0, 1], [0, 1, 2], [0, 1, 2, 3], [0, 1, 2, 3, 4], [0, 1, 2, 3, 4, 5], [0, 1, 2, 3, 4, 5, 6], [0, 1, 2, 3, 4, 5, 6, 7], [0, 1, 2, 3, 4, 5, 6, 7], [0, 1, 2, 3, 4, 5, 6, 7, 8, 9], [0, 1, 2, 3, 4, 5, 6, 7, 8, 9, 10], [0, 1, 2, 3, 4, 5, 6, 7, 8, 9, 10, 11], [0, 1, 2, 3, 4, 5, 6, 7, 8, 9, 10, 11, 12], [0, 1, 2, 3, 4, 5, 6, 7, 8, 9, 10, 11, 12, 13], [0, 1, 2, 3, 4, 5, 6, 7, 8, 9, 10, 11, 12, 13, 14], [0, 1, 2, 3, 4, 5, 6, 7, 8, 9, 10, 11, 12, 13, 14, 15], [0, 1, 2, 3, 4, 5, 6, 7, 8, 9, 10, 11, 12, 13, 14, 15, 16], [0, 1, 2, 3, 4, 5, 6, 7, 8, 9, 10, 11, 12, 13, 14, 15, 16, 17], [0, 1, 2, 3, 4, 5, 6, 7, 8, 9, 10, 11, 12, 13, 14, 15, 16, 17, 18], [0, 1, 2, 3, 4, 5, 6, 7, 8, 9, 10, 11, 12, 13, 14, 15, 16, 17, 18, 19], [0, 1, 2, 3, 4, 5, 6, 7, 8, 9, 10, 11, 12, 13, 14, 15, 16, 17, 18, 19, 20], [0, 1, 2, 3, 4, 5, 6, 7, 8, 9, 10, 11, 12, 13, 14, 15, 16, 17, 18, 19, 20, 21], [0, 1, 2, 3, 4, 5, 6, 7, 8, 9, 10, 11, 12, 13, 14, 15, 16, 17, 18, 19, 20, 21, 22], [0, 1, 2, 3, 4, 5, 6, 7, 8, 9, 10, 11, 12, 13, 14, 15, 16, 17, 18, 19, 20, 21, 22, 23], [0, 1, 2, 3, 4, 5, 6, 7, 8, 9, 10, 11, 12, 13, 14, 15, 16, 17, 18, 19, 20, 21, 22, 23, 24], [0, 1, 2, 3, 4, 5, 6, 7, 8, 9, 10, 11, 12, 13, 14, 15, 16, 17, 18, 19, 20, 21, 22, 23, 24, 25], [0, 1, 2, 3, 4, 5, 6, 7, 8, 9, 10, 11, 12, 13, 14, 15, 16, 17, 18, 19, 20, 21, 22, 23, 24, 25, 26], [0, 1, 2, 3, 4, 5, 6, 7, 8, 9, 10, 11, 12, 13, 14, 15, 16, 17, 18, 19, 20, 21, 22, 23, 24, 25, 26, 27], [0, 1, 2, 3, 4, 5, 6, 7, 8, 9, 10, 11, 12, 13, 14, 15, 16, 17, 18, 19, 20, 21, 22, 23, 24, 25, 26, 27, 28]], [0, 1, 2, 3, 4, 5, 6, 7, 8, 9, 10, 11, 12, 13, 14, 15, 16, 17, 18, 19, 20, 21, 22, 23, 24, 25, 26, 27, 28, 29], some [0])
  | _ => ([], [], none)
theorem b56 {ags : List AV} {row : Option (List DV)} {r : AV} {row' nw : Option (List DV)} (hal : ags.length ≤ 58) (hrow : row'.isSome = true → row.isSome = true) (h : xwp Try.prog x56 (retK [.tmp 0] row.isSome r row' nw) (St.init ags row)) : Good Try.prog 56 ags row r row' nw :=
  good_of_body' (md := md56) (od := od56) Try.f56 (by kernel_rfl) (by kernel_rfl) (by kernel_rfl) (by kernel_rfl) (by kernel_rfl) hal hrow h

def x114 : XC := (.seq (.ops 1 [
    (0, ⟨(some 2), none, .alloc [(.int .i64 0), (.int .u64 0), (.int .u64 0), (.int .u64 0), (.int .u64 0), (.int .i64 0), (.int .i64 0), (.slice none 0 0)]⟩)] (some [0, 2])) (.seq (.ops 10 [
    (0, ⟨(some 7), none, .mv (.t 0)⟩),
    (1, ⟨(some 8), none, .call 118 [(.t 7)] none false⟩),
    (2, ⟨(some 6), none, .mv (.t 8)⟩),
    (3, ⟨(some 9), none, .ext (.t 6) 0⟩),
    (4, ⟨(some 10), none, .ext (.t 6) 1⟩),
    (5, ⟨(some 11), none, .ext (.t 6) 2⟩),
    (6, ⟨(some 3), none, .alloc [(.int .i64 0), (.int .u64 0), (.int .u64 0), (.int .u64 0), (.int .u64 0), (.int .i64 0), (.int .i64 0), (.slice none 0 0)]⟩),
    (7, ⟨none, none, .store 8 (.t 3) (.t 9)⟩),
    (8, ⟨(some 4), none, .mv (.t 10)⟩),
    (9, ⟨(some 5), none, .mv (.t 11)⟩)] (some [2, 3])) (.seq (.ops 2 [
    (0, ⟨(some 12), none, .load (some 8) (.t 3)⟩),
    (1, ⟨none, none, .store 8 (.t 2) (.t 12)⟩)] (some [2])) .ret)))
def md114 : FuncId → Option Nat × Bool
  | _ => (none, false)
def od114 : Nat → List (List Nat) × List Nat × Option (List Nat)
  | 0 => ([], [], some [0, 2])
  | 1 => ([], [], some [2, 3])
  | 2 => ([], [], some [2])
  | _ => ([], [], none)
theorem b114 {ags : List AV} {row : Option (List DV)} {r : AV} {row' nw : Option (List DV)} (hal : ags.length ≤ 13) (hrow : row'.isSome = true → row.isSome = true) (h : xwp Try.prog x114 (retK [.cell 2 (some 8)] row.isSome r row' nw) (St.init ags row)) : Good Try.prog 114 ags row r row' nw :=
  good_of_body' (md := md114) (od := od114) Try.f114 (by kernel_rfl) (by kernel_rfl) (by kernel_rfl) (by kernel_rfl) (by kernel_rfl) hal hrow h

def x47 : XC := (.seq (.ops 3 [
    (0, ⟨(some 2), none, .box (.t 0)⟩),
    (1, ⟨(some 3), none, .box (.t 1)⟩),
    (2, ⟨(some 4), none, .mv (.k (.d (.val (.bool false))))⟩)] (some [2, 3])) (.seq (.seq (.ops 35 [
    (0, ⟨(some 6), none, .fadd 0 (.t 2)⟩),
    (1, ⟨(some 7), none, .load none (.t 6)⟩),
    (2, ⟨(some 8), none, .fadd 0 (.t 3)⟩),
    (3, ⟨(some 9), none, .load none (.t 8)⟩),
    (4, ⟨(some 10), none, .arith .neq (.t 7) (.t 9)⟩),
    (5, ⟨(some 11), none, .mv (.t 10)⟩),
    (6, ⟨(some 12), (some (11, false)), .fadd 1 (.t 2)⟩),
    (7, ⟨(some 13), (some (11, false)), .load (some 4) (.t 12)⟩),
    (8, ⟨(some 14), (some (11, false)), .fadd 1 (.t 3)⟩),
    (9, ⟨(some 15), (some (11, false)), .load (some 4) (.t 14)⟩),
    (10, ⟨(some 16), (some (11, false)), .eqAgg 4 true (.t 13) (.t 15)⟩),
    (11, ⟨(some 17), none, .pick (.t 11) (.k (.d (.val (.bool true)))) (.t 16)⟩),
    (12, ⟨(some 18), none, .mv (.t 17)⟩),
    (13, ⟨(some 19), (some (18, false)), .fadd 5 (.t 2)⟩),
    (14, ⟨(some 20), (some (18, false)), .load none (.t 19)⟩),
    (15, ⟨(some 21), (some (18, false)), .fadd 5 (.t 3)⟩),
    (16, ⟨(some 22), (some (18, false)), .load none (.t 21)⟩),
    (17, ⟨(some 23), (some (18, false)), .arith .neq (.t 20) (.t 22)⟩),
    (18, ⟨(some 24), none, .pick (.t 18) (.k (.d (.val (.bool true)))) (.t 23)⟩),
    (19, ⟨(some 25), none, .mv (.t 24)⟩),
    (20, ⟨(some 26), (some (25, false)), .fadd 6 (.t 2)⟩),
    (21, ⟨(some 27), (some (25, false)), .load none (.t 26)⟩),
    (22, ⟨(some 28), (some (25, false)), .fadd 6 (.t 3)⟩),
    (23, ⟨(some 29), (some (25, false)), .load none (.t 28)⟩),
    (24, ⟨(some 30), (some (25, false)), .arith .neq (.t 27) (.t 29)⟩),
    (25, ⟨(some 31), none, .pick (.t 25) (.k (.d (.val (.bool true)))) (.t 30)⟩),
    (26, ⟨(some 32), none, .mv (.t 31)⟩),
    (27, ⟨(some 33), (some (32, false)), .fadd 7 (.t 2)⟩),
    (28, ⟨(some 34), (some (32, false)), .load none (.t 33)⟩),
    (29, ⟨(some 35), (some (32, false)), .lenS (.t 34)⟩),
    (30, ⟨(some 36), (some (32, false)), .fadd 7 (.t 3)⟩),
    (31, ⟨(some 37), (some (32, false)), .load none (.t 36)⟩),
    (32, ⟨(some 38), (some (32, false)), .lenS (.t 37)⟩),
    (33, ⟨(some 39), (some (32, false)), .arith .neq (.t 35) (.t 38)⟩),
    (34, ⟨(some 40), none, .pick (.t 32) (.k (.d (.val (.bool true)))) (.t 39)⟩)] (some [2, 3, 40])) (.cond (.t 40) (.seq (.ops 1 [
    (0, ⟨(some 4), none, .mv (.k (.d (.val (.bool false))))⟩)] (some [4])) .ret) .skip)) (.seq (.seq (.ops 1 [
    (0, ⟨(some 5), none, .mv (.k (.d (.val (.int .i64 0))))⟩)] (some [2, 3, 5])) (.block 0 (.loop (.seq (.seq (.ops 5 [
    (0, ⟨(some 41), none, .mv (.t 5)⟩),
    (1, ⟨(some 42), none, .fadd 7 (.t 2)⟩),
    (2, ⟨(some 43), none, .load none (.t 42)⟩),
    (3, ⟨(some 44), none, .lenS (.t 43)⟩),
    (4, ⟨(some 45), none, .arith .lss (.t 41) (.t 44)⟩)] (some [2, 3, 5, 45])) (.cond (.t 45) .skip (.exit 0))) (.seq (.block 1 (.seq (.ops 12 [
    (0, ⟨(some 48), none, .fadd 7 (.t 2)⟩),
    (1, ⟨(some 49), none, .load none (.t 48)⟩),
    (2, ⟨(some 50), none, .mv (.t 5)⟩),
    (3, ⟨(some 51), none, .idxS 8 (.t 49) (.t 50)⟩),
    (4, ⟨(some 52), none, .load (some 8) (.t 51)⟩),
    (5, ⟨(some 53), none, .fadd 7 (.t 3)⟩),
    (6, ⟨(some 54), none, .load none (.t 53)⟩),
    (7, ⟨(some 55), none, .mv (.t 5)⟩),
    (8, ⟨(some 56), none, .idxS 8 (.t 54) (.t 55)⟩),
    (9, ⟨(some 57), none, .load (some 8) (.t 56)⟩),
    (10, ⟨(some 58), none, .call 47 [(.t 52), (.t 57)] none false⟩),
    (11, ⟨(some 59), none, .un .not (.t 58)⟩)] (some [2, 3, 5, 59])) (.cond (.t 59) (.seq (.ops 1 [
    (0, ⟨(some 4), none, .mv (.k (.d (.val (.bool false))))⟩)] (some [4])) .ret) .skip))) (.ops 3 [
    (0, ⟨(some 46), none, .mv (.t 5)⟩),
    (1, ⟨(some 47), none, .arith .add (.t 46) (.k (.d (.val (.int .i64 1))))⟩),
    (2, ⟨(some 5), none, .mv (.t 47)⟩)] (some [2, 3, 5]))))))) (.seq (.ops 1 [
    (0, ⟨(some 4), none, .mv (.k (.d (.val (.bool true))))⟩)] (some [4])) .ret))))
def md47 : FuncId → Option Nat × Bool
  | _ => (none, false)
def od47 : Nat → List (List Nat) × List Nat × Option (List Nat)
  | 0 => ([], [], some [2, 3])
  | 1 => ([], [], some [2, 3, 40])
  | 2 => ([], [], some [4])
  | 3 => ([], [], some [2, 3, 5])
  | 4 => ([], [], some [2, 3, 5, 45])
  | 5 => ([], [], some [2, 3, 5])
  | 6 => ([[], [0], [], [0, 1, 2], [0, 1, 2, 3], [], [5], [], [5, 6, 7], [5, 6, 7, 8], [0, 1, 2, 3, 4, 5, 6, 7, 8, 9], [0, 1, 2, 3, 4, 5, 6, 7, 8, 9, 10]], [0, 1, 2, 3, 4, 5, 6, 7, 8, 9, 10, 11], some [2, 3, 5, 59])
  | 7 => ([], [], some [4])
  | 8 => ([], [], some [4])
  | _ => ([], [], none)
theorem b47 {ags : List AV} {row : Option (List DV)} {r : AV} {row' nw : Option (List DV)} (hal : ags.length ≤ 60) (hrow : row'.isSome = true → row.isSome = true) (h : xwp Try.prog x47 (retK [.tmp 4] row.isSome r row' nw) (St.init ags row)) : Good Try.prog 47 ags row r row' nw :=
  good_of_body' (md := md47) (od := od47) Try.f47 (by kernel_rfl) (by kernel_rfl) (by kernel_rfl) (by kernel_rfl) (by kernel_rfl) hal hrow h

def x57 : XC := (.seq (.ops 3 [
    (0, ⟨(some 2), none, .box (.t 0)⟩),
    (1, ⟨(some 4), none, .alloc [(.int .i64 0), (.int .u64 0), (.int .u64 0), (.int .u64 0), (.int .u64 0), (.int .i64 0), (.int .i64 0), (.slice none 0 0)]⟩),
    (2, ⟨(some 5), none, .mv (.k (.d (.val (.int .i64 0))))⟩)] (some [1, 2, 4])) (.seq (.block 0 (.seq (.ops 4 [
    (0, ⟨(some 7), none, .load (some 8) (.t 2)⟩),
    (1, ⟨(some 8), none, .call 84 [(.t 7)] none false⟩),
    (2, ⟨(some 9), none, .un .not (.t 8)⟩),
    (3, ⟨(some 6), none, .mv (.t 9)⟩)] (some [1, 2, 4, 6])) (.cond (.t 6) (.seq (.ops 3 [
    (0, ⟨(some 10), none, .build [(.int .i64 0), (.int .u64 0), (.int .u64 0), (.int .u64 0), (.int .u64 0), (.int .i64 0), (.int .i64 0), (.slice none 0 0)] []⟩),
    (1, ⟨none, none, .store 8 (.t 4) (.t 10)⟩),
    (2, ⟨(some 5), none, .mv (.k (.d (.val (.int .i64 1))))⟩)] (some [4, 5])) .ret) (.seq (.ops 6 [
    (0, ⟨(some 12), none, .load (some 8) (.t 2)⟩),
    (1, ⟨(some 13), none, .call 68 [(.t 12)] none false⟩),
    (2, ⟨(some 14), none, .mv (.t 1)⟩),
    (3, ⟨(some 15), none, .min [(.t 14), (.k (.d (.val (.int .i64 400))))]⟩),
    (4, ⟨(some 16), none, .arith .gtr (.t 13) (.t 15)⟩),
    (5, ⟨(some 11), none, .mv (.t 16)⟩)] (some [2, 4, 11])) (.cond (.t 11) (.seq (.ops 3 [
    (0, ⟨(some 17), none, .build [(.int .i64 0), (.int .u64 0), (.int .u64 0), (.int .u64 0), (.int .u64 0), (.int .i64 0), (.int .i64 0), (.slice none 0 0)] []⟩),
    (1, ⟨none, none, .store 8 (.t 4) (.t 17)⟩),
    (2, ⟨(some 5), none, .mv (.k (.d (.val (.int .i64 11))))⟩)] (some [4, 5])) .ret) .skip))))) (.seq (.ops 4 [
    (0, ⟨(some 18), none, .load (some 8) (.t 2)⟩),
    (1, ⟨(some 19), none, .call 115 [(.t 18)] none false⟩),
    (2, ⟨none, none, .store 8 (.t 4) (.t 19)⟩),
    (3, ⟨(some 5), none, .mv (.k (.d (.val (.int .i64 0))))⟩)] (some [4, 5])) .ret)))
def md57 : FuncId → Option Nat × Bool
  | _ => (none, false)
def od57 : Nat → List (List Nat) × List Nat × Option (List Nat)
  | 0 => ([], [], some [1, 2, 4])
  | 1 => ([], [], some [1, 2, 4, 6])
  | 2 => ([], [], some [4, 5])
  | 3 => ([], [], some [2, 4, 11])
  | 4 => ([], [], some [4, 5])
  | 5 => ([], [], some [4, 5])
  | _ => ([], [], none)
theorem b57 {ags : List AV} {row : Option (List DV)} {r : AV} {row' nw : Option (List DV)} (hal : ags.length ≤ 20) (hrow : row'.isSome = true → row.isSome = true) (h : xwp Try.prog x57 (retK [.cell 4 (some 8), .tmp 5] row.isSome r row' nw) (St.init ags row)) : Good Try.prog 57 ags row r row' nw :=
  good_of_body' (md := md57) (od := od57) Try.f57 (by kernel_rfl) (by kernel_rfl) (by kernel_rfl) (by kernel_rfl) (by kernel_rfl) hal hrow h

def x60 : XC := (.seq (.ops 2 [
    (0, ⟨(some 1), none, .box (.t 0)⟩),
    (1, ⟨(some 2), none, .mv (.k (.d (.val (.bool false))))⟩)] (some [1])) (.seq (.ops 8 [
    (0, ⟨(some 3), none, .call 116 [(.t 1)] none false⟩),
    (1, ⟨(some 4), none, .mv (.t 3)⟩),
    (2, ⟨(some 5), (some (4, true)), .fadd 7 (.t 1)⟩),
    (3, ⟨(some 6), (some (4, true)), .load none (.t 5)⟩),
    (4, ⟨(some 7), (some (4, true)), .call 104 [(.t 6), (.k (.d (.fn 117 [])))] none false⟩),
    (5, ⟨(some 8), (some (4, true)), .un .not (.t 7)⟩),
    (6, ⟨(some 9), none, .pick (.t 4) (.t 8) (.k (.d (.val (.bool false))))⟩),
    (7, ⟨(some 2), none, .mv (.t 9)⟩)] (some [2])) .ret))
def md60 : FuncId → Option Nat × Bool
  | _ => (none, false)
def od60 : Nat → List (List Nat) × List Nat × Option (List Nat)
  | 0 => ([], [], some [1])
  | 1 => ([], [], some [2])
  | _ => ([], [], none)
theorem b60 {ags : List AV} {row : Option (List DV)} {r : AV} {row' nw : Option (List DV)} (hal : ags.length ≤ 10) (hrow : row'.isSome = true → row.isSome = true) (h : xwp Try.prog x60 (retK [.tmp 2] row.isSome r row' nw) (St.init ags row)) : Good Try.prog 60 ags row r row' nw :=
  good_of_body' (md := md60) (od := od60) Try.f60 (by kernel_rfl) (by kernel_rfl) (by kernel_rfl) (by kernel_rfl) (by kernel_rfl) hal hrow h

def x68 : XC := (.seq (.ops 2 [
    (0, ⟨(some 1), none, .box (.t 0)⟩),
    (1, ⟨(some 2), none, .mv (.k (.d (.val (.int .i64 0))))⟩)] (some [1])) (.seq (.seq (.ops 3 [
    (0, ⟨(some 3), none, .load (some 8) (.t 1)⟩),
    (1, ⟨(some 4), none, .call 84 [(.t 3)] none false⟩),
    (2, ⟨(some 5), none, .un .not (.t 4)⟩)] (some [1, 5])) (.cond (.t 5) (.seq (.ops 1 [
    (0, ⟨(some 2), none, .mv (.k (.d (.val (.int .i64 0))))⟩)] (some [2])) .ret) .skip)) (.seq (.ops 2 [
    (0, ⟨(some 6), none, .call 123 [(.t 1)] none false⟩),
    (1, ⟨(some 2), none, .mv (.t 6)⟩)] (some [2])) .ret)))
def md68 : FuncId → Option Nat × Bool
  | _ => (none, false)
def od68 : Nat → List (List Nat) × List Nat × Option (List Nat)
  | 0 => ([], [], some [1])
  | 1 => ([], [], some [1, 5])
  | 2 => ([], [], some [2])
  | 3 => ([], [], some [2])
  | _ => ([], [], none)
theorem b68 {ags : List AV} {row : Option (List DV)} {r : AV} {row' nw : Option (List DV)} (hal : ags.length ≤ 7) (hrow : row'.isSome = true → row.isSome = true) (h : xwp Try.prog x68 (retK [.tmp 2] row.isSome r row' nw) (St.init ags row)) : Good Try.prog 68 ags row r row' nw :=
  good_of_body' (md := md68) (od := od68) Try.f68 (by kernel_rfl) (by kernel_rfl) (by kernel_rfl) (by kernel_rfl) (by kernel_rfl) hal hrow h

def x104 : XC := (.seq (.ops 1 [
    (0, ⟨(some 4), none, .mv (.k (.d (.val (.bool false))))⟩)] (some [0, 1])) (.seq (.ops 5 [
    (0, ⟨(some 5), none, .mv (.t 0)⟩),
    (1, ⟨(some 6), none, .mv (.t 1)⟩),
    (2, ⟨(some 7), none, .call 145 [(.t 5), (.t 6)] none false⟩),
    (3, ⟨(some 8), none, .arith .geq (.t 7) (.k (.d (.val (.int .i64 0))))⟩),
    (4, ⟨(some 4), none, .mv (.t 8)⟩)] (some [4])) .ret))
def md104 : FuncId → Option Nat × Bool
  | _ => (none, false)
def od104 : Nat → List (List Nat) × List Nat × Option (List Nat)
  | 0 => ([], [], some [0, 1])
  | 1 => ([], [], some [4])
  | _ => ([], [], none)
theorem b104 {ags : List AV} {row : Option (List DV)} {r : AV} {row' nw : Option (List DV)} (hal : ags.length ≤ 9) (hrow : row'.isSome = true → row.isSome = true) (h : xwp Try.prog x104 (retK [.tmp 4] row.isSome r row' nw) (St.init ags row)) : Good Try.prog 104 ags row r row' nw :=
  good_of_body' (md := md104) (od := od104) Try.f104 (by kernel_rfl) (by kernel_rfl) (by kernel_rfl) (by kernel_rfl) (by kernel_rfl) hal hrow h

def x115 : XC := (.seq (.ops 2 [
    (0, ⟨(some 1), none, .box (.t 0)⟩),
    (1, ⟨(some 2), none, .alloc [(.int .i64 0), (.int .u64 0), (.int .u64 0), (.int .u64 0), (.int .u64 0), (.int .i64 0), (.int .i64 0), (.slice none 0 0)]⟩)] (some [1, 2])) (.seq (.seq (.ops 2 [
    (0, ⟨(some 6), none, .fadd 0 (.t 1)⟩),
    (1, ⟨(some 7), none, .load none (.t 6)⟩)] (some [1, 2, 7])) (.block 0 (.seq (.ops 2 [
    (0, ⟨(some 9), none, .arith .eql (.t 7) (.k (.d (.val (.int .i64 5))))⟩),
    (1, ⟨(some 8), none, .mv (.t 9)⟩)] (some [1, 2, 7, 8])) (.cond (.t 8) (.seq (.ops 11 [
    (0, ⟨(some 10), none, .fadd 7 (.t 1)⟩),
    (1, ⟨(some 11), none, .load none (.t 10)⟩),
    (2, ⟨(some 12), none, .idxS 8 (.t 11) (.k (.d (.val (.int .i64 0))))⟩),
    (3, ⟨(some 13), none, .load (some 8) (.t 12)⟩),
    (4, ⟨(some 14), none, .call 115 [(.t 13)] none false⟩),
    (5, ⟨(some 15), none, .fadd 5 (.t 1)⟩),
    (6, ⟨(some 16), none, .load none (.t 15)⟩),
    (7, ⟨(some 17), none, .fadd 6 (.t 1)⟩),
    (8, ⟨(some 18), none, .load none (.t 17)⟩),
    (9, ⟨(some 19), none, .call 147 [(.t 14), (.t 16), (.t 18)] none false⟩),
    (10, ⟨none, none, .store 8 (.t 2) (.t 19)⟩)] (some [2])) .ret) (.seq (.seq (.ops 2 [
    (0, ⟨(some 21), none, .arith .eql (.t 7) (.k (.d (.val (.int .i64 3))))⟩),
    (1, ⟨(some 20), none, .mv (.t 21)⟩)] (some [1, 2, 7, 20])) (.cond (.t 20) .skip (.ops 2 [
    (0, ⟨(some 22), none, .arith .eql (.t 7) (.k (.d (.val (.int .i64 4))))⟩),
    (1, ⟨(some 20), none, .mv (.t 22)⟩)] (some [1, 2, 20])))) (.cond (.t 20) (.seq (.ops 5 [
    (0, ⟨(some 23), none, .fadd 0 (.t 1)⟩),
    (1, ⟨(some 24), none, .load none (.t 23)⟩),
    (2, ⟨(some 25), none, .build [(.int .i64 0), (.int .u64 0), (.int .u64 0), (.int .u64 0), (.int .u64 0), (.int .i64 0), (.int .i64 0), (.slice none 0 0)] [(0, 1, (.t 24))]⟩),
    (3, ⟨(some 3), none, .alloc [(.int .i64 0), (.int .u64 0), (.int .u64 0), (.int .u64 0), (.int .u64 0), (.int .i64 0), (.int .i64 0), (.slice none 0 0)]⟩),
    (4, ⟨none, none, .store 8 (.t 3) (.t 25)⟩)] (some [1, 2, 3])) (.seq (.seq (.ops 4 [
    (0, ⟨(some 26), none, .fadd 7 (.t 1)⟩),
    (1, ⟨(some 27), none, .load none (.t 26)⟩),
    (2, ⟨(some 28), none, .lenS (.t 27)⟩),
    (3, ⟨(some 29), none, .mv (.k (.d (.val (.int .i64 0))))⟩)] (some [2, 3, 27, 28, 29])) (.block 1 (.loop (.seq (.ops 1 [
    (0, ⟨(some 30), none, .arith .lss (.t 29) (.t 28)⟩)] (some [2, 3, 27, 28, 29, 30])) (.seq (.cond (.t 30) .skip (.exit 1)) (.seq (.block 2 (.seq (.ops 4 [
    (0, ⟨(some 31), none, .idxS 8 (.t 27) (.t 29)⟩),
    (1, ⟨(some 32), none, .load (some 8) (.t 31)⟩),
    (2, ⟨(some 5), none, .alloc [(.int .i64 0), (.int .u64 0), (.int .u64 0), (.int .u64 0), (.int .u64 0), (.int .i64 0), (.int .i64 0), (.slice none 0 0)]⟩),
    (3, ⟨none, none, .store 8 (.t 5) (.t 32)⟩)] (some [2, 3, 5, 27, 28, 29])) (.ops 8 [
    (0, ⟨(some 33), none, .fadd 7 (.t 3)⟩),
    (1, ⟨(some 34), none, .load none (.t 33)⟩),
    (2, ⟨(some 35), none, .load (some 8) (.t 5)⟩),
    (3, ⟨(some 36), none, .call 115 [(.t 35)] none false⟩),
    (4, ⟨(some 37), none, .mkrow [(.int .i64 0), (.int .u64 0), (.int .u64 0), (.int .u64 0), (.int .u64 0), (.int .i64 0), (.int .i64 0), (.slice none 0 0)] 1 8 [(0, 8, (.t 36))]⟩),
    (5, ⟨(some 38), none, .app [(.int .i64 0), (.int .u64 0), (.int .u64 0), (.int .u64 0), (.int .u64 0), (.int .i64 0), (.int .i64 0), (.slice none 0 0)] 80 (.t 34) (.t 37)⟩),
    (6, ⟨(some 39), none, .fadd 7 (.t 3)⟩),
    (7, ⟨none, none, .store 1 (.t 39) (.t 38)⟩)] (some [2, 3, 27, 28, 29])))) (.ops 2 [
    (0, ⟨(some 40), none, .arith .add (.t 29) (.k (.d (.val (.int .i64 1))))⟩),
    (1, ⟨(some 29), none, .mv (.t 40)⟩)] (some [2, 3, 27, 28, 29])))))))) (.seq (.ops 2 [
    (0, ⟨(some 41), none, .load (some 8) (.t 3)⟩),
    (1, ⟨none, none, .store 8 (.t 2) (.t 41)⟩)] (some [2])) .ret))) .skip)))))) (.seq (.ops 2 [
    (0, ⟨(some 42), none, .load (some 8) (.t 1)⟩),
    (1, ⟨none, none, .store 8 (.t 2) (.t 42)⟩)] (some [2])) .ret)))
def md115 : FuncId → Option Nat × Bool
  | _ => (none, false)
def od115 : Nat → List (List Nat) × List Nat × Option (List Nat)
  | 0 => ([], [], some [1, 2])
  | 1 => ([], [], some [1, 2, 7])
  | 2 => ([], [], some [1, 2, 7, 8])
  | 3 => ([[], [0], [0, 1], [0, 1, 2], [0, 1, 2, 3], [], [5], [], [7], [0, 1, 2, 3, 4, 5, 6, 7, 8], [0, 1, 2, 3, 4, 5, 6, 7, 8, 9]], [0, 1, 2, 3, 4, 5, 6, 7, 8, 9, 10], some [2])
  | 4 => ([], [], some [1, 2, 7, 20])
  | 5 => ([], [], some [1, 2, 20])
  | 6 => ([], [], some [1, 2, 3])
  | 7 => ([], [], some [2, 3, 27, 28, 29])
  | 8 => ([], [], some [2, 3, 27, 28, 29, 30])
  | 9 => ([], [], some [2, 3, 5, 27, 28, 29])
  | 10 => ([[], [0], [], [2], [2, 3], [0, 1, 2, 3, 4], [0, 1, 2, 3, 4, 5], [0, 1, 2, 3, 4, 5, 6]], [0, 1, 2, 3, 4, 5, 6, 7], some [2, 3, 27, 28, 29])
  | 11 => ([], [], some [2, 3, 27, 28, 29])
  | 12 => ([], [], some [2])
  | 13 => ([], [], some [2])
  | _ => ([], [], none)
theorem b115 {ags : List AV} {row : Option (List DV)} {r : AV} {row' nw : Option (List DV)} (hal : ags.length ≤ 43) (hrow : row'.isSome = true → row.isSome = true) (h : xwp Try.prog x115 (retK [.cell 2 (some 8)] row.isSome r row' nw) (St.init ags row)) : Good Try.prog 115 ags row r row' nw :=
  good_of_body' (md := md115) (od := od115) Try.f115 (by kernel_rfl) (by kernel_rfl) (by kernel_rfl) (by kernel_rfl) (by kernel_rfl) hal hrow h

def x116 : XC := (.seq (.ops 1 [
    (0, ⟨(some 2), none, .mv (.k (.d (.val (.bool false))))⟩)] (some [0])) (.seq (.ops 7 [
    (0, ⟨(some 5), none, .mv (.t 0)⟩),
    (1, ⟨(some 6), none, .nilck (.t 5)⟩),
    (2, ⟨(some 7), none, .fadd 1 (.t 6)⟩),
    (3, ⟨(some 8), none, .load (some 4) (.t 7)⟩),
    (4, ⟨(some 9), none, .build [(.int .u64 0), (.int .u64 0), (.int .u64 0), (.int .u64 0)] []⟩),
    (5, ⟨(some 10), none, .eqAgg 4 false (.t 8) (.t 9)⟩),
    (6, ⟨(some 3), none, .mv (.t 10)⟩)] (some [0, 3])) (.seq (.ops 13 [
    (0, ⟨(some 11), none, .mv (.t 0)⟩),
    (1, ⟨(some 12), none, .nilck (.t 11)⟩),
    (2, ⟨(some 13), none, .fadd 5 (.t 12)⟩),
    (3, ⟨(some 14), none, .load none (.t 13)⟩),
    (4, ⟨(some 15), none, .arith .eql (.t 14) (.k (.d (.val (.int .i64 0))))⟩),
    (5, ⟨(some 16), none, .mv (.t 15)⟩),
    (6, ⟨(some 17), (some (16, true)), .mv (.t 0)⟩),
    (7, ⟨(some 18), (some (16, true)), .nilck (.t 17)⟩),
    (8, ⟨(some 19), (some (16, true)), .fadd 6 (.t 18)⟩),
    (9, ⟨(some 20), (some (16, true)), .load none (.t 19)⟩),
    (10, ⟨(some 21), (some (16, true)), .arith .eql (.t 20) (.k (.d (.val (.int .i64 0))))⟩),
    (11, ⟨(some 22), none, .pick (.t 16) (.t 21) (.k (.d (.val (.bool false))))⟩),
    (12, ⟨(some 4), none, .mv (.t 22)⟩)] (some [0, 3, 4])) (.seq (.seq (.ops 4 [
    (0, ⟨(some 23), none, .mv (.t 0)⟩),
    (1, ⟨(some 24), none, .nilck (.t 23)⟩),
    (2, ⟨(some 25), none, .fadd 0 (.t 24)⟩),
    (3, ⟨(some 26), none, .load none (.t 25)⟩)] (some [0, 3, 4, 26])) (.block 0 (.seq (.ops 2 [
    (0, ⟨(some 28), none, .arith .eql (.t 26) (.k (.d (.val (.int .i64 1))))⟩),
    (1, ⟨(some 27), none, .mv (.t 28)⟩)] (some [0, 3, 4, 26, 27])) (.cond (.t 27) (.seq (.ops 13 [
    (0, ⟨(some 29), none, .mv (.t 3)⟩),
    (1, ⟨(some 30), none, .mv (.t 29)⟩),
    (2, ⟨(some 31), (some (30, true)), .mv (.t 4)⟩),
    (3, ⟨(some 32), none, .pick (.t 30) (.t 31) (.k (.d (.val (.bool false))))⟩),
    (4, ⟨(some 33), none, .mv (.t 32)⟩),
    (5, ⟨(some 34), (some (33, true)), .mv (.t 0)⟩),
    (6, ⟨(some 35), (some (33, true)), .nilck (.t 34)⟩),
    (7, ⟨(some 36), (some (33, true)), .fadd 7 (.t 35)⟩),
    (8, ⟨(some 37), (some (33, true)), .load none (.t 36)⟩),
    (9, ⟨(some 38), (some (33, true)), .lenS (.t 37)⟩),
    (10, ⟨(some 39), (some (33, true)), .arith .eql (.t 38) (.k (.d (.val (.int .i64 0))))⟩),
    (11, ⟨(some 40), none, .pick (.t 33) (.t 39) (.k (.d (.val (.bool false))))⟩),
    (12, ⟨(some 2), none, .mv (.t 40)⟩)] (some [2])) .ret) (.seq (.ops 2 [
    (0, ⟨(some 42), none, .arith .eql (.t 26) (.k (.d (.val (.int .i64 2))))⟩),
    (1, ⟨(some 41), none, .mv (.t 42)⟩)] (some [0, 3, 4, 26, 41])) (.cond (.t 41) (.seq (.ops 10 [
    (0, ⟨(some 43), none, .mv (.t 4)⟩),
    (1, ⟨(some 44), none, .mv (.t 43)⟩),
    (2, ⟨(some 45), (some (44, true)), .mv (.t 0)⟩),
    (3, ⟨(some 46), (some (44, true)), .nilck (.t 45)⟩),
    (4, ⟨(some 47), (some (44, true)), .fadd 7 (.t 46)⟩),
    (5, ⟨(some 48), (some (44, true)), .load none (.t 47)⟩),
    (6, ⟨(some 49), (some (44, true)), .lenS (.t 48)⟩),
    (7, ⟨(some 50), (some (44, true)), .arith .eql (.t 49) (.k (.d (.val (.int .i64 0))))⟩),
    (8, ⟨(some 51), none, .pick (.t 44) (.t 50) (.k (.d (.val (.bool false))))⟩),
    (9, ⟨(some 2), none, .mv (.t 51)⟩)] (some [2])) .ret) (.seq (.seq (.ops 2 [
    (0, ⟨(some 53), none, .arith .eql (.t 26) (.k (.d (.val (.int .i64 3))))⟩),
    (1, ⟨(some 52), none, .mv (.t 53)⟩)] (some [0, 3, 4, 26, 52])) (.cond (.t 52) .skip (.ops 2 [
    (0, ⟨(some 54), none, .arith .eql (.t 26) (.k (.d (.val (.int .i64 4))))⟩),
    (1, ⟨(some 52), none, .mv (.t 54)⟩)] (some [0, 3, 4, 26, 52])))) (.cond (.t 52) (.seq (.ops 13 [
    (0, ⟨(some 55), none, .mv (.t 3)⟩),
    (1, ⟨(some 56), none, .mv (.t 55)⟩),
    (2, ⟨(some 57), (some (56, true)), .mv (.t 4)⟩),
    (3, ⟨(some 58), none, .pick (.t 56) (.t 57) (.k (.d (.val (.bool false))))⟩),
    (4, ⟨(some 59), none, .mv (.t 58)⟩),
    (5, ⟨(some 60), (some (59, true)), .mv (.t 0)⟩),
    (6, ⟨(some 61), (some (59, true)), .nilck (.t 60)⟩),
    (7, ⟨(some 62), (some (59, true)), .fadd 7 (.t 61)⟩),
    (8, ⟨(some 63), (some (59, true)), .load none (.t 62)⟩),
    (9, ⟨(some 64), (some (59, true)), .lenS (.t 63)⟩),
    (10, ⟨(some 65), (some (59, true)), .arith .geq (.t 64) (.k (.d (.val (.int .i64 2))))⟩),
    (11, ⟨(some 66), none, .pick (.t 59) (.t 65) (.k (.d (.val (.bool false))))⟩),
    (12, ⟨(some 2), none, .mv (.t 66)⟩)] (some [2])) .ret) (.seq (.ops 2 [
    (0, ⟨(some 68), none, .arith .eql (.t 26) (.k (.d (.val (.int .i64 5))))⟩),
    (1, ⟨(some 67), none, .mv (.t 68)⟩)] (some [0, 3, 67])) (.cond (.t 67) (.seq (.ops 24 [
    (0, ⟨(some 69), none, .mv (.t 3)⟩),
    (1, ⟨(some 70), none, .mv (.t 69)⟩),
    (2, ⟨(some 71), (some (70, true)), .mv (.t 0)⟩),
    (3, ⟨(some 72), (some (70, true)), .nilck (.t 71)⟩),
    (4, ⟨(some 73), (some (70, true)), .fadd 5 (.t 72)⟩),
    (5, ⟨(some 74), (some (70, true)), .load none (.t 73)⟩),
    (6, ⟨(some 75), (some (70, true)), .arith .eql (.t 74) (.k (.d (.val (.int .i64 0))))⟩),
    (7, ⟨(some 76), none, .pick (.t 70) (.t 75) (.k (.d (.val (.bool false))))⟩),
    (8, ⟨(some 77), none, .mv (.t 76)⟩),
    (9, ⟨(some 78), (some (77, true)), .mv (.t 0)⟩),
    (10, ⟨(some 79), (some (77, true)), .nilck (.t 78)⟩),
    (11, ⟨(some 80), (some (77, true)), .fadd 6 (.t 79)⟩),
    (12, ⟨(some 81), (some (77, true)), .load none (.t 80)⟩),
    (13, ⟨(some 82), (some (77, true)), .arith .eql (.t 81) (.k (.d (.val (.int .i64 (-1)))))⟩),
    (14, ⟨(some 83), none, .pick (.t 77) (.t 82) (.k (.d (.val (.bool false))))⟩),
    (15, ⟨(some 84), none, .mv (.t 83)⟩),
    (16, ⟨(some 85), (some (84, true)), .mv (.t 0)⟩),
    (17, ⟨(some 86), (some (84, true)), .nilck (.t 85)⟩),
    (18, ⟨(some 87), (some (84, true)), .fadd 7 (.t 86)⟩),
    (19, ⟨(some 88), (some (84, true)), .load none (.t 87)⟩),
    (20, ⟨(some 89), (some (84, true)), .lenS (.t 88)⟩),
    (21, ⟨(some 90), (some (84, true)), .arith .eql (.t 89) (.k (.d (.val (.int .i64 1))))⟩),
    (22, ⟨(some 91), none, .pick (.t 84) (.t 90) (.k (.d (.val (.bool false))))⟩),
    (23, ⟨(some 2), none, .mv (.t 91)⟩)] (some [2])) .ret) .skip)))))))))) (.seq (.ops 1 [
    (0, ⟨(some 2), none, .mv (.k (.d (.val (.bool false))))⟩)] (some [2])) .ret)))))
def md116 : FuncId → Option Nat × Bool
  | _ => (none, false)
def od116 : Nat → List (List Nat) × List Nat × Option (List Nat)
  | 0 => ([], [], some [0])
  | 1 => ([], [], some [0, 3])
  | 2 => ([], [], some [0, 3, 4])
  | 3 => ([], [], some [0, 3, 4, 26])
  | 4 => ([], [], some [0, 3, 4, 26, 27])
  | 5 => ([], [], some [2])
  | 6 => ([], [], some [0, 3, 4, 26, 41])
  | 7 => ([], [], some [2])
  | 8 => ([], [], some [0, 3, 4, 26, 52])
  | 9 => ([], [], some [0, 3, 4, 26, 52])
  | 10 => ([], [], some [2])
  | 11 => ([], [], some [0, 3, 67])
  | 12 => ([], [], some [2])
  | 13 => ([], [], some [2])
  | _ => ([], [], none)
theorem b116 {ags : List AV} {row : Option (List DV)} {r : AV} {row' nw : Option (List DV)} (hal : ags.length ≤ 92) (hrow : row'.isSome = true → row.isSome = true) (h : xwp Try.prog x116 (retK [.tmp 2] row.isSome r row' nw) (St.init ags row)) : Good Try.prog 116 ags row r row' nw :=
  good_of_body' (md := md116) (od := od116) Try.f116 (by kernel_rfl) (by kernel_rfl) (by kernel_rfl) (by kernel_rfl) (by kernel_rfl) hal hrow h

def x117 : XC := (.seq (.ops 2 [
    (0, ⟨(some 1), none, .box (.t 0)⟩),
    (1, ⟨(some 2), none, .mv (.k (.d (.val (.bool false))))⟩)] (some [1])) (.seq (.ops 4 [
    (0, ⟨(some 3), none, .load (some 8) (.t 1)⟩),
    (1, ⟨(some 4), none, .call 60 [(.t 3)] none false⟩),
    (2, ⟨(some 5), none, .un .not (.t 4)⟩),
    (3, ⟨(some 2), none, .mv (.t 5)⟩)] (some [2])) .ret))
def md117 : FuncId → Option Nat × Bool
  | _ => (none, false)
def od117 : Nat → List (List Nat) × List Nat × Option (List Nat)
  | 0 => ([], [], some [1])
  | 1 => ([], [], some [2])
  | _ => ([], [], none)
theorem b117 {ags : List AV} {row : Option (List DV)} {r : AV} {row' nw : Option (List DV)} (hal : ags.length ≤ 6) (hrow : row'.isSome = true → row.isSome = true) (h : xwp Try.prog x117 (retK [.tmp 2] row.isSome r row' nw) (St.init ags row)) : Good Try.prog 117 ags row r row' nw :=
  good_of_body' (md := md117) (od := od117) Try.f117 (by kernel_rfl) (by kernel_rfl) (by kernel_rfl) (by kernel_rfl) (by kernel_rfl) hal hrow h

def x123 : XC := (.seq (.ops 1 [
    (0, ⟨(some 2), none, .mv (.k (.d (.val (.int .i64 0))))⟩)] (some [0])) (.seq (.ops 1 [
    (0, ⟨(some 3), none, .mv (.k (.d (.val (.int .i64 1))))⟩)] (some [0, 3])) (.seq (.seq (.ops 6 [
    (0, ⟨(some 6), none, .mv (.t 0)⟩),
    (1, ⟨(some 7), none, .nilck (.t 6)⟩),
    (2, ⟨(some 8), none, .fadd 7 (.t 7)⟩),
    (3, ⟨(some 9), none, .load none (.t 8)⟩),
    (4, ⟨(some 10), none, .lenS (.t 9)⟩),
    (5, ⟨(some 11), none, .mv (.k (.d (.val (.int .i64 0))))⟩)] (some [0, 3, 10, 11])) (.block 0 (.loop (.seq (.ops 1 [
    (0, ⟨(some 12), none, .arith .lss (.t 11) (.t 10)⟩)] (some [0, 3, 10, 11, 12])) (.seq (.cond (.t 12) .skip (.exit 0)) (.seq (.block 1 (.seq (.ops 2 [
    (0, ⟨(some 13), none, .mv (.t 11)⟩),
    (1, ⟨(some 4), none, .mv (.t 13)⟩)] (some [0, 3, 4, 10, 11])) (.seq (.ops 8 [
    (0, ⟨(some 14), none, .mv (.t 0)⟩),
    (1, ⟨(some 15), none, .nilck (.t 14)⟩),
    (2, ⟨(some 16), none, .fadd 7 (.t 15)⟩),
    (3, ⟨(some 17), none, .load none (.t 16)⟩),
    (4, ⟨(some 18), none, .mv (.t 4)⟩),
    (5, ⟨(some 19), none, .idxS 8 (.t 17) (.t 18)⟩),
    (6, ⟨(some 20), none, .call 123 [(.t 19)] none false⟩),
    (7, ⟨(some 5), none, .mv (.t 20)⟩)] (some [0, 3, 5, 10, 11])) (.seq (.block 2 (.seq (.ops 6 [
    (0, ⟨(some 29), none, .mv (.t 0)⟩),
    (1, ⟨(some 30), none, .nilck (.t 29)⟩),
    (2, ⟨(some 31), none, .fadd 0 (.t 30)⟩),
    (3, ⟨(some 32), none, .load none (.t 31)⟩),
    (4, ⟨(some 33), none, .arith .neq (.t 32) (.k (.d (.val (.int .i64 5))))⟩),
    (5, ⟨(some 28), none, .mv (.t 33)⟩)] (some [0, 3, 5, 10, 11, 28])) (.cond (.t 28) .skip (.seq (.ops 6 [
    (0, ⟨(some 35), none, .mv (.t 0)⟩),
    (1, ⟨(some 36), none, .nilck (.t 35)⟩),
    (2, ⟨(some 37), none, .fadd 6 (.t 36)⟩),
    (3, ⟨(some 38), none, .load none (.t 37)⟩),
    (4, ⟨(some 39), none, .arith .eql (.t 38) (.k (.d (.val (.int .i64 (-1)))))⟩),
    (5, ⟨(some 34), none, .mv (.t 39)⟩)] (some [0, 3, 5, 10, 11, 34])) (.cond (.t 34) (.ops 9 [
    (0, ⟨(some 40), none, .mv (.t 5)⟩),
    (1, ⟨(some 41), none, .mv (.t 0)⟩),
    (2, ⟨(some 42), none, .nilck (.t 41)⟩),
    (3, ⟨(some 43), none, .fadd 5 (.t 42)⟩),
    (4, ⟨(some 44), none, .load none (.t 43)⟩),
    (5, ⟨(some 45), none, .arith .add (.t 44) (.k (.d (.val (.int .i64 1))))⟩),
    (6, ⟨(some 46), none, .arith .mul (.t 40) (.t 45)⟩),
    (7, ⟨(some 47), none, .arith .add (.t 46) (.k (.d (.val (.int .i64 1))))⟩),
    (8, ⟨(some 5), none, .mv (.t 47)⟩)] (some [0, 3, 5, 10, 11])) (.ops 8 [
    (0, ⟨(some 21), none, .mv (.t 5)⟩),
    (1, ⟨(some 22), none, .arith .add (.t 21) (.k (.d (.val (.int .i64 2))))⟩),
    (2, ⟨(some 23), none, .mv (.t 0)⟩),
    (3, ⟨(some 24), none, .nilck (.t 23)⟩),
    (4, ⟨(some 25), none, .fadd 6 (.t 24)⟩),
    (5, ⟨(some 26), none, .load none (.t 25)⟩),
    (6, ⟨(some 27), none, .arith .mul (.t 22) (.t 26)⟩),
    (7, ⟨(some 5), none, .mv (.t 27)⟩)] (some [0, 3, 5, 10, 11]))))))) (.ops 5 [
    (0, ⟨(some 48), none, .mv (.t 3)⟩),
    (1, ⟨(some 49), none, .mv (.t 5)⟩),
    (2, ⟨(some 50), none, .arith .add (.t 48) (.t 49)⟩),
    (3, ⟨(some 51), none, .min [(.t 50), (.k (.d (.val (.int .i64 1073741824))))]⟩),
    (4, ⟨(some 3), none, .mv (.t 51)⟩)] (some [0, 3, 10, 11])))))) (.ops 2 [
    (0, ⟨(some 52), none, .arith .add (.t 11) (.k (.d (.val (.int .i64 1))))⟩),
    (1, ⟨(some 11), none, .mv (.t 52)⟩)] (some [0, 3, 10, 11])))))))) (.seq (.ops 2 [
    (0, ⟨(some 53), none, .mv (.t 3)⟩),
    (1, ⟨(some 2), none, .mv (.t 53)⟩)] (some [2])) .ret))))
def md123 : FuncId → Option Nat × Bool
  | _ => (none, false)
def od123 : Nat → List (List Nat) × List Nat × Option (List Nat)
  | 0 => ([], [], some [0])
  | 1 => ([], [], some [0, 3])
  | 2 => ([], [], some [0, 3, 10, 11])
  | 3 => ([], [], some [0, 3, 10, 11, 12])
  | 4 => ([], [], some [0, 3, 4, 10, 11])
  | 5 => ([], [], some [0, 3, 5, 10, 11])
  | 6 => ([], [], some [0, 3, 5, 10, 11])
  | 7 => ([], [], some [0, 3, 5, 10, 11, 28])
  | 8 => ([], [], some [0, 3, 5, 10, 11, 34])
  | 9 => ([], [], some [0, 3, 5, 10, 11])
  | 10 => ([], [], some [0, 3, 10, 11])
  | 11 => ([], [], some [0, 3, 10, 11])
  | 12 => ([], [], some [2])
  | _ => ([], [], none)
theorem b123 {ags : List AV} {row : Option (List DV)} {r : AV} {row' nw : Option (List DV)} (hal : ags.length ≤ 54) (hrow : row'.isSome = true → row.isSome = true) (h : xwp Try.prog x123 (retK [.tmp 2] row.isSome r row' nw) (St.init ags row)) : Good Try.prog 123 ags row r row' nw :=
  good_of_body' (md := md123) (od := od123) Try.f123 (by kernel_rfl) (by kernel_rfl) (by kernel_rfl) (by kernel_rfl) (by kernel_rfl) hal hrow h

def x145 : XC := (.seq (.ops 1 [
    (0, ⟨(some 4), none, .mv (.k (.d (.val (.int .i64 0))))⟩)] (some [0, 1])) (.seq (.seq (.ops 3 [
    (0, ⟨(some 6), none, .mv (.t 0)⟩),
    (1, ⟨(some 7), none, .lenS (.t 6)⟩),
    (2, ⟨(some 8), none, .mv (.k (.d (.val (.int .i64 0))))⟩)] (some [0, 1, 7, 8])) (.block 0 (.loop (.seq (.ops 1 [
    (0, ⟨(some 9), none, .arith .lss (.t 8) (.t 7)⟩)] (some [0, 1, 7, 8, 9])) (.seq (.cond (.t 9) .skip (.exit 0)) (.seq (.block 1 (.seq (.ops 2 [
    (0, ⟨(some 10), none, .mv (.t 8)⟩),
    (1, ⟨(some 5), none, .mv (.t 10)⟩)] (some [0, 1, 5, 7, 8])) (.seq (.ops 6 [
    (0, ⟨(some 11), none, .mv (.t 1)⟩),
    (1, ⟨(some 12), none, .mv (.t 0)⟩),
    (2, ⟨(some 13), none, .mv (.t 5)⟩),
    (3, ⟨(some 14), none, .idxS 8 (.t 12) (.t 13)⟩),
    (4, ⟨(some 15), none, .load (some 8) (.t 14)⟩),
    (5, ⟨(some 16), none, .callv (.t 11) [(.t 15)]⟩)] (some [0, 1, 5, 7, 8, 16])) (.cond (.t 16) (.seq (.ops 2 [
    (0, ⟨(some 17), none, .mv (.t 5)⟩),
    (1, ⟨(some 4), none, .mv (.t 17)⟩)] (some [4])) .ret) .skip)))) (.ops 2 [
    (0, ⟨(some 18), none, .arith .add (.t 8) (.k (.d (.val (.int .i64 1))))⟩),
    (1, ⟨(some 8), none, .mv (.t 18)⟩)] (some [0, 1, 7, 8])))))))) (.seq (.ops 1 [
    (0, ⟨(some 4), none, .mv (.k (.d (.val (.int .i64 (-1)))))⟩)] (some [4])) .ret)))
def md145 : FuncId → Option Nat × Bool
  | _ => (none, false)
def od145 : Nat → List (List Nat) × List Nat × Option (List Nat)
  | 0 => ([], [], some [0, 1])
  | 1 => ([], [], some [0, 1, 7, 8])
  | 2 => ([], [], some [0, 1, 7, 8, 9])
  | 3 => ([], [], some [0, 1, 5, 7, 8])
  | 4 => ([], [], some [0, 1, 5, 7, 8, 16])
  | 5 => ([], [], some [4])
  | 6 => ([], [], some [0, 1, 7, 8])
  | 7 => ([], [], some [4])
  | _ => ([], [], none)
theorem b145 {ags : List AV} {row : Option (List DV)} {r : AV} {row' nw : Option (List DV)} (hal : ags.length ≤ 19) (hrow : row'.isSome = true → row.isSome = true) (h : xwp Try.prog x145 (retK [.tmp 4] row.isSome r row' nw) (St.init ags row)) : Good Try.prog 145 ags row r row' nw :=
  good_of_body' (md := md145) (od := od145) Try.f145 (by kernel_rfl) (by kernel_rfl) (by kernel_rfl) (by kernel_rfl) (by kernel_rfl) hal hrow h

def x147 : XC := (.seq (.ops 2 [
    (0, ⟨(some 3), none, .box (.t 0)⟩),
    (1, ⟨(some 6), none, .alloc [(.int .i64 0), (.int .u64 0), (.int .u64 0), (.int .u64 0), (.int .u64 0), (.int .i64 0), (.int .i64 0), (.slice none 0 0)]⟩)] (some [1, 2, 3, 6])) (.seq (.ops 5 [
    (0, ⟨(some 9), none, .load (some 8) (.t 3)⟩),
    (1, ⟨(some 10), none, .mkrow [(.int .i64 0), (.int .u64 0), (.int .u64 0), (.int .u64 0), (.int .u64 0), (.int .i64 0), (.int .i64 0), (.slice none 0 0)] 1 8 [(0, 8, (.t 9))]⟩),
    (2, ⟨(some 11), none, .mv (.t 1)⟩),
    (3, ⟨(some 12), none, .call 161 [(.t 10), (.t 11)] none true⟩),
    (4, ⟨(some 7), none, .mv (.t 12)⟩)] (some [1, 2, 3, 6, 7])) (.seq (.block 0 (.seq (.ops 3 [
    (0, ⟨(some 14), none, .mv (.t 2)⟩),
    (1, ⟨(some 15), none, .arith .lss (.t 14) (.k (.d (.val (.int .i64 0))))⟩),
    (2, ⟨(some 13), none, .mv (.t 15)⟩)] (some [1, 2, 3, 6, 7, 13])) (.cond (.t 13) (.ops 7 [
    (0, ⟨(some 16), none, .mv (.t 7)⟩),
    (1, ⟨(some 17), none, .load (some 8) (.t 3)⟩),
    (2, ⟨(some 18), none, .mkrow [(.int .i64 0), (.int .u64 0), (.int .u64 0), (.int .u64 0), (.int .u64 0), (.int .i64 0), (.int .i64 0), (.slice none 0 0)] 1 8 [(0, 8, (.t 17))]⟩),
    (3, ⟨(some 19), none, .build [(.int .i64 0), (.int .u64 0), (.int .u64 0), (.int .u64 0), (.int .u64 0), (.int .i64 0), (.int .i64 0), (.slice none 0 0)] [(0, 1, (.k (.d (.val (.int .i64 5))))), (6, 1, (.k (.d (.val (.int .i64 (-1)))))), (7, 1, (.t 18))]⟩),
    (4, ⟨(some 20), none, .mkrow [(.int .i64 0), (.int .u64 0), (.int .u64 0), (.int .u64 0), (.int .u64 0), (.int .i64 0), (.int .i64 0), (.slice none 0 0)] 1 8 [(0, 8, (.t 19))]⟩),
    (5, ⟨(some 21), none, .app [(.int .i64 0), (.int .u64 0), (.int .u64 0), (.int .u64 0), (.int .u64 0), (.int .i64 0), (.int .i64 0), (.slice none 0 0)] 80 (.t 16) (.t 20)⟩),
    (6, ⟨(some 7), none, .mv (.t 21)⟩)] (some [6, 7])) (.seq (.ops 4 [
    (0, ⟨(some 23), none, .mv (.t 2)⟩),
    (1, ⟨(some 24), none, .mv (.t 1)⟩),
    (2, ⟨(some 25), none, .arith .gtr (.t 23) (.t 24)⟩),
    (3, ⟨(some 22), none, .mv (.t 25)⟩)] (some [1, 2, 3, 6, 7, 22])) (.cond (.t 22) (.seq (.ops 6 [
    (0, ⟨(some 26), none, .load (some 8) (.t 3)⟩),
    (1, ⟨(some 27), none, .build [(.int .i64 0), (.int .u64 0), (.int .u64 0), (.int .u64 0), (.int .u64 0), (.int .i64 0), (.int .i64 0), (.slice none 0 0)] [(0, 1, (.k (.d (.val (.int .i64 1)))))]⟩),
    (2, ⟨(some 28), none, .mkrow [(.int .i64 0), (.int .u64 0), (.int .u64 0), (.int .u64 0), (.int .u64 0), (.int .i64 0), (.int .i64 0), (.slice none 0 0)] 2 8 [(0, 8, (.t 26)), (8, 8, (.t 27))]⟩),
    (3, ⟨(some 29), none, .build [(.int .i64 0), (.int .u64 0), (.int .u64 0), (.int .u64 0), (.int .u64 0), (.int .i64 0), (.int .i64 0), (.slice none 0 0)] [(0, 1, (.k (.d (.val (.int .i64 4))))), (7, 1, (.t 28))]⟩),
    (4, ⟨(some 8), none, .alloc [(.int .i64 0), (.int .u64 0), (.int .u64 0), (.int .u64 0), (.int .u64 0), (.int .i64 0), (.int .i64 0), (.slice none 0 0)]⟩),
    (5, ⟨none, none, .store 8 (.t 8) (.t 29)⟩)] (some [1, 2, 6, 7, 8])) (.ops 9 [
    (0, ⟨(some 30), none, .mv (.t 7)⟩),
    (1, ⟨(some 31), none, .load (some 8) (.t 8)⟩),
    (2, ⟨(some 32), none, .mkrow [(.int .i64 0), (.int .u64 0), (.int .u64 0), (.int .u64 0), (.int .u64 0), (.int .i64 0), (.int .i64 0), (.slice none 0 0)] 1 8 [(0, 8, (.t 31))]⟩),
    (3, ⟨(some 33), none, .mv (.t 2)⟩),
    (4, ⟨(some 34), none, .mv (.t 1)⟩),
    (5, ⟨(some 35), none, .arith .sub (.t 33) (.t 34)⟩),
    (6, ⟨(some 36), none, .call 161 [(.t 32), (.t 35)] none true⟩),
    (7, ⟨(some 37), none, .app [(.int .i64 0), (.int .u64 0), (.int .u64 0), (.int .u64 0), (.int .u64 0), (.int .i64 0), (.int .i64 0), (.slice none 0 0)] 80 (.t 30) (.t 36)⟩),
    (8, ⟨(some 7), none, .mv (.t 37)⟩)] (some [6, 7]))) .skip))))) (.seq (.seq (.ops 2 [
    (0, ⟨(some 38), none, .mv (.t 7)⟩),
    (1, ⟨(some 39), none, .lenS (.t 38)⟩)] (some [6, 7, 39])) (.block 1 (.seq (.ops 2 [
    (0, ⟨(some 41), none, .arith .eql (.t 39) (.k (.d (.val (.int .i64 0))))⟩),
    (1, ⟨(some 40), none, .mv (.t 41)⟩)] (some [6, 7, 39, 40])) (.cond (.t 40) (.seq (.ops 2 [
    (0, ⟨(some 42), none, .build [(.int .i64 0), (.int .u64 0), (.int .u64 0), (.int .u64 0), (.int .u64 0), (.int .i64 0), (.int .i64 0), (.slice none 0 0)] [(0, 1, (.k (.d (.val (.int .i64 1)))))]⟩),
    (1, ⟨none, none, .store 8 (.t 6) (.t 42)⟩)] (some [6])) .ret) (.seq (.ops 2 [
    (0, ⟨(some 44), none, .arith .eql (.t 39) (.k (.d (.val (.int .i64 1))))⟩),
    (1, ⟨(some 43), none, .mv (.t 44)⟩)] (some [6, 7, 43])) (.cond (.t 43) (.seq (.ops 4 [
    (0, ⟨(some 45), none, .mv (.t 7)⟩),
    (1, ⟨(some 46), none, .idxS 8 (.t 45) (.k (.d (.val (.int .i64 0))))⟩),
    (2, ⟨(some 47), none, .load (some 8) (.t 46)⟩),
    (3, ⟨none, none, .store 8 (.t 6) (.t 47)⟩)] (some [6])) .ret) .skip)))))) (.seq (.ops 3 [
    (0, ⟨(some 48), none, .mv (.t 7)⟩),
    (1, ⟨(some 49), none, .build [(.int .i64 0), (.int .u64 0), (.int .u64 0), (.int .u64 0), (.int .u64 0), (.int .i64 0), (.int .i64 0), (.slice none 0 0)] [(0, 1, (.k (.d (.val (.int .i64 3))))), (7, 1, (.t 48))]⟩),
    (2, ⟨none, none, .store 8 (.t 6) (.t 49)⟩)] (some [6])) .ret)))))
def md147 : FuncId → Option Nat × Bool
  | 161 => (none, true)
  | _ => (none, false)
def od147 : Nat → List (List Nat) × List Nat × Option (List Nat)
  | 0 => ([], [], some [1, 2, 3, 6])
  | 1 => ([], [], some [1, 2, 3, 6, 7])
  | 2 => ([], [], some [1, 2, 3, 6, 7, 13])
  | 3 => ([], [], some [6, 7])
  | 4 => ([], [], some [1, 2, 3, 6, 7, 22])
  | 5 => ([], [], some [1, 2, 6, 7, 8])
  | 6 => ([], [], some [6, 7])
  | 7 => ([], [], some [6, 7, 39])
  | 8 => ([], [], some [6, 7, 39, 40])
  | 9 => ([], [], some [6])
  | 10 => ([], [], some [6, 7, 43])
  | 11 => ([], [], some [6])
  | 12 => ([], [], some [6])
  | _ => ([], [], none)
theorem b147 {ags : List AV} {row : Option (List DV)} {r : AV} {row' nw : Option (List DV)} (hal : ags.length ≤ 50) (hrow : row'.isSome = true → row.isSome = true) (h : xwp Try.prog x147 (retK [.cell 6 (some 8)] row.isSome r row' nw) (St.init ags row)) : Good Try.prog 147 ags row r row' nw :=
  good_of_body' (md := md147) (od := od147) Try.f147 (by kernel_rfl) (by kernel_rfl) (by kernel_rfl) (by kernel_rfl) (by kernel_rfl) hal hrow h

def x161 : XC := (.seq (.ops 1 [
    (0, ⟨(some 4), none, .mv (.k (.d (.val (.slice none 0 0))))⟩)] (some [0, 1])) (.seq (.seq (.ops 2 [
    (0, ⟨(some 9), none, .mv (.t 1)⟩),
    (1, ⟨(some 10), none, .arith .lss (.t 9) (.k (.d (.val (.int .i64 0))))⟩)] (some [0, 1, 10])) (.cond (.t 10) (.ops 2 [
    (0, ⟨(some 11), none, .bad⟩),
    (1, ⟨none, none, .bad⟩)] (some [0, 1])) .skip)) (.seq (.ops 11 [
    (0, ⟨(some 13), none, .mv (.t 0)⟩),
    (1, ⟨(some 14), none, .lenS (.t 13)⟩),
    (2, ⟨(some 15), none, .conv .u64 (.t 14)⟩),
    (3, ⟨(some 16), none, .mv (.t 1)⟩),
    (4, ⟨(some 17), none, .conv .u64 (.t 16)⟩),
    (5, ⟨(some 18), none, .call 169 [(.t 15), (.t 17)] none false⟩),
    (6, ⟨(some 12), none, .mv (.t 18)⟩),
    (7, ⟨(some 19), none, .ext (.t 12) 0⟩),
    (8, ⟨(some 20), none, .ext (.t 12) 1⟩),
    (9, ⟨(some 5), none, .mv (.t 19)⟩),
    (10, ⟨(some 6), none, .mv (.t 20)⟩)] (some [0, 5, 6])) (.seq (.seq (.ops 6 [
    (0, ⟨(some 21), none, .mv (.t 5)⟩),
    (1, ⟨(some 22), none, .arith .gtr (.t 21) (.k (.d (.val (.int .u64 0))))⟩),
    (2, ⟨(some 23), none, .mv (.t 22)⟩),
    (3, ⟨(some 24), (some (23, false)), .mv (.t 6)⟩),
    (4, ⟨(some 25), (some (23, false)), .arith .gtr (.t 24) (.k (.d (.val (.int .u64 9223372036854775807))))⟩),
    (5, ⟨(some 26), none, .pick (.t 23) (.k (.d (.val (.bool true)))) (.t 25)⟩)] (some [0, 6, 26])) (.cond (.t 26) (.ops 2 [
    (0, ⟨(some 27), none, .bad⟩),
    (1, ⟨none, none, .bad⟩)] (some [0, 6])) .skip)) (.seq (.ops 4 [
    (0, ⟨(some 28), none, .mv (.t 6)⟩),
    (1, ⟨(some 29), none, .conv .i64 (.t 28)⟩),
    (2, ⟨(some 30), none, .mks [(.int .i64 0), (.int .u64 0), (.int .u64 0), (.int .u64 0), (.int .u64 0), (.int .i64 0), (.int .i64 0), (.slice none 0 0)] 80 (.t 29) (.t 29)⟩),
    (3, ⟨(some 7), none, .mv (.t 30)⟩)] (some [0, 7])) (.seq (.ops 4 [
    (0, ⟨(some 31), none, .mv (.t 7)⟩),
    (1, ⟨(some 32), none, .mv (.t 0)⟩),
    (2, ⟨(some 33), none, .cpy 8 (.t 31) (.t 32)⟩),
    (3, ⟨(some 8), none, .mv (.t 33)⟩)] (some [7, 8])) (.seq (.block 0 (.loop (.seq (.seq (.ops 4 [
    (0, ⟨(some 34), none, .mv (.t 8)⟩),
    (1, ⟨(some 35), none, .mv (.t 7)⟩),
    (2, ⟨(some 36), none, .lenS (.t 35)⟩),
    (3, ⟨(some 37), none, .arith .lss (.t 34) (.t 36)⟩)] (some [7, 8, 37])) (.cond (.t 37) .skip (.exit 0))) (.block 1 (.ops 10 [
    (0, ⟨(some 38), none, .mv (.t 8)⟩),
    (1, ⟨(some 39), none, .mv (.t 7)⟩),
    (2, ⟨(some 40), none, .mv (.t 8)⟩),
    (3, ⟨(some 41), none, .slS 8 (.t 39) (some (.t 40)) none⟩),
    (4, ⟨(some 42), none, .mv (.t 7)⟩),
    (5, ⟨(some 43), none, .mv (.t 8)⟩),
    (6, ⟨(some 44), none, .slS 8 (.t 42) none (some (.t 43))⟩),
    (7, ⟨(some 45), none, .cpy 8 (.t 41) (.t 44)⟩),
    (8, ⟨(some 46), none, .arith .add (.t 38) (.t 45)⟩),
    (9, ⟨(some 8), none, .mv (.t 46)⟩)] (some [7, 8])))))) (.seq (.ops 2 [
    (0, ⟨(some 47), none, .mv (.t 7)⟩),
    (1, ⟨(some 4), none, .mv (.t 47)⟩)] (some [4])) .ret))))))))
def md161 : FuncId → Option Nat × Bool
  | _ => (none, false)
def od161 : Nat → List (List Nat) × List Nat × Option (List Nat)
  | 0 => ([], [], some [0, 1])
  | 1 => ([], [], some [0, 1, 10])
  | 2 => ([], [], some [0, 1])
  | 3 => ([], [], some [0, 5, 6])
  | 4 => ([], [], some [0, 6, 26])
  | 5 => ([], [], some [0, 6])
  | 6 => ([], [], some [0, 7])
  | 7 => ([], [], some [7, 8])
  | 8 => ([], [], some [7, 8, 37])
  | 9 => ([[], [], [], [1, 2], [], [], [4, 5], [1, 2, 3, 4, 5, 6], [0, 1, 2, 3, 4, 5, 6, 7], [0, 1, 2, 3, 4, 5, 6, 7, 8]], [0, 1, 2, 3, 4, 5, 6, 7, 8, 9], some [7, 8])
  | 10 => ([], [], some [4])
  | _ => ([], [], none)
theorem b161 {ags : List AV} {row : Option (List DV)} {r : AV} {row' nw : Option (List DV)} (hal : ags.length ≤ 48) (hrow : row'.isSome = true → row.isSome = true) (h : xwp Try.prog x161 (retK [.tmp 4] row.isSome r row' nw) (St.init ags row)) : Good Try.prog 161 ags row r row' nw :=
  good_of_body' (md := md161) (od := od161) Try.f161 (by kernel_rfl) (by kernel_rfl) (by kernel_rfl) (by kernel_rfl) (by kernel_rfl) hal hrow h

def x169 : XC := (.seq (.ops 2 [
    (0, ⟨(some 4), none, .mv (.k (.d (.val (.int .u64 0))))⟩),
    (1, ⟨(some 5), none, .mv (.k (.d (.val (.int .u64 0))))⟩)] (some [0, 1])) (.seq (.cond (.k (.d (.val (.bool false)))) (.seq (.ops 10 [
    (0, ⟨(some 11), none, .mv (.t 0)⟩),
    (1, ⟨(some 12), none, .conv .u32 (.t 11)⟩),
    (2, ⟨(some 13), none, .mv (.t 1)⟩),
    (3, ⟨(some 14), none, .conv .u32 (.t 13)⟩),
    (4, ⟨(some 15), none, .call 174 [(.t 12), (.t 14)] none false⟩),
    (5, ⟨(some 10), none, .mv (.t 15)⟩),
    (6, ⟨(some 16), none, .ext (.t 10) 0⟩),
    (7, ⟨(some 17), none, .ext (.t 10) 1⟩),
    (8, ⟨(some 6), none, .mv (.t 16)⟩),
    (9, ⟨(some 7), none, .mv (.t 17)⟩)] (some [6, 7])) (.seq (.ops 6 [
    (0, ⟨(some 18), none, .mv (.t 6)⟩),
    (1, ⟨(some 19), none, .conv .u64 (.t 18)⟩),
    (2, ⟨(some 20), none, .mv (.t 7)⟩),
    (3, ⟨(some 21), none, .conv .u64 (.t 20)⟩),
    (4, ⟨(some 4), none, .mv (.t 19)⟩),
    (5, ⟨(some 5), none, .mv (.t 21)⟩)] (some [4, 5])) .ret)) .skip) (.seq (.ops 8 [
    (0, ⟨(some 23), none, .mv (.t 0)⟩),
    (1, ⟨(some 24), none, .mv (.t 1)⟩),
    (2, ⟨(some 25), none, .call 175 [(.t 23), (.t 24)] none false⟩),
    (3, ⟨(some 22), none, .mv (.t 25)⟩),
    (4, ⟨(some 26), none, .ext (.t 22) 0⟩),
    (5, ⟨(some 27), none, .ext (.t 22) 1⟩),
    (6, ⟨(some 8), none, .mv (.t 26)⟩),
    (7, ⟨(some 9), none, .mv (.t 27)⟩)] (some [8, 9])) (.seq (.ops 4 [
    (0, ⟨(some 28), none, .mv (.t 8)⟩),
    (1, ⟨(some 29), none, .mv (.t 9)⟩),
    (2, ⟨(some 4), none, .mv (.t 28)⟩),
    (3, ⟨(some 5), none, .mv (.t 29)⟩)] (some [4, 5])) .ret))))
def md169 : FuncId → Option Nat × Bool
  | _ => (none, false)
def od169 : Nat → List (List Nat) × List Nat × Option (List Nat)
  | 0 => ([], [], some [0, 1])
  | 1 => ([], [], some [6, 7])
  | 2 => ([], [], some [4, 5])
  | 3 => ([], [], some [8, 9])
  | 4 => ([], [], some [4, 5])
  | _ => ([], [], none)
theorem b169 {ags : List AV} {row : Option (List DV)} {r : AV} {row' nw : Option (List DV)} (hal : ags.length ≤ 30) (hrow : row'.isSome = true → row.isSome = true) (h : xwp Try.prog x169 (retK [.tmp 4, .tmp 5] row.isSome r row' nw) (St.init ags row)) : Good Try.prog 169 ags row r row' nw :=
  good_of_body' (md := md169) (od := od169) Try.f169 (by kernel_rfl) (by kernel_rfl) (by kernel_rfl) (by kernel_rfl) (by kernel_rfl) hal hrow h

def x174 : XC := (.seq (.ops 2 [
    (0, ⟨(some 4), none, .mv (.k (.d (.val (.int .u32 0))))⟩),
    (1, ⟨(some 5), none, .mv (.k (.d (.val (.int .u32 0))))⟩)] (some [0, 1])) (.seq (.ops 6 [
    (0, ⟨(some 7), none, .mv (.t 0)⟩),
    (1, ⟨(some 8), none, .conv .u64 (.t 7)⟩),
    (2, ⟨(some 9), none, .mv (.t 1)⟩),
    (3, ⟨(some 10), none, .conv .u64 (.t 9)⟩),
    (4, ⟨(some 11), none, .arith .mul (.t 8) (.t 10)⟩),
    (5, ⟨(some 6), none, .mv (.t 11)⟩)] (some [6])) (.seq (.ops 7 [
    (0, ⟨(some 12), none, .mv (.t 6)⟩),
    (1, ⟨(some 13), none, .arith .shr (.t 12) (.k (.d (.val (.int .u64 32))))⟩),
    (2, ⟨(some 14), none, .conv .u32 (.t 13)⟩),
    (3, ⟨(some 15), none, .mv (.t 6)⟩),
    (4, ⟨(some 16), none, .conv .u32 (.t 15)⟩),
    (5, ⟨(some 4), none, .mv (.t 14)⟩),
    (6, ⟨(some 5), none, .mv (.t 16)⟩)] (some [4, 5])) .ret)))
def md174 : FuncId → Option Nat × Bool
  | _ => (none, false)
def od174 : Nat → List (List Nat) × List Nat × Option (List Nat)
  | 0 => ([], [], some [0, 1])
  | 1 => ([], [], some [6])
  | 2 => ([], [], some [4, 5])
  | _ => ([], [], none)
theorem b174 {ags : List AV} {row : Option (List DV)} {r : AV} {row' nw : Option (List DV)} (hal : ags.length ≤ 17) (hrow : row'.isSome = true → row.isSome = true) (h : xwp Try.prog x174 (retK [.tmp 4, .tmp 5] row.isSome r row' nw) (St.init ags row)) : Good Try.prog 174 ags row r row' nw :=
  good_of_body' (md := md174) (od := od174) Try.f174 (by kernel_rfl) (by kernel_rfl) (by kernel_rfl) (by kernel_rfl) (by kernel_rfl) hal hrow h

def x175 : XC := (.seq (.ops 2 [
    (0, ⟨(some 4), none, .mv (.k (.d (.val (.int .u64 0))))⟩),
    (1, ⟨(some 5), none, .mv (.k (.d (.val (.int .u64 0))))⟩)] (some [0, 1])) (.seq (.ops 3 [
    (0, ⟨(some 14), none, .mv (.t 0)⟩),
    (1, ⟨(some 15), none, .arith .and (.t 14) (.k (.d (.val (.int .u64 4294967295))))⟩),
    (2, ⟨(some 6), none, .mv (.t 15)⟩)] (some [0, 1, 6])) (.seq (.ops 3 [
    (0, ⟨(some 16), none, .mv (.t 0)⟩),
    (1, ⟨(some 17), none, .arith .shr (.t 16) (.k (.d (.val (.int .u64 32))))⟩),
    (2, ⟨(some 7), none, .mv (.t 17)⟩)] (some [0, 1, 6, 7])) (.seq (.ops 3 [
    (0, ⟨(some 18), none, .mv (.t 1)⟩),
    (1, ⟨(some 19), none, .arith .and (.t 18) (.k (.d (.val (.int .u64 4294967295))))⟩),
    (2, ⟨(some 8), none, .mv (.t 19)⟩)] (some [0, 1, 6, 7, 8])) (.seq (.ops 3 [
    (0, ⟨(some 20), none, .mv (.t 1)⟩),
    (1, ⟨(some 21), none, .arith .shr (.t 20) (.k (.d (.val (.int .u64 32))))⟩),
    (2, ⟨(some 9), none, .mv (.t 21)⟩)] (some [0, 1, 6, 7, 8, 9])) (.seq (.ops 4 [
    (0, ⟨(some 22), none, .mv (.t 6)⟩),
    (1, ⟨(some 23), none, .mv (.t 8)⟩),
    (2, ⟨(some 24), none, .arith .mul (.t 22) (.t 23)⟩),
    (3, ⟨(some 10), none, .mv (.t 24)⟩)] (some [0, 1, 6, 7, 8, 9, 10])) (.seq (.ops 7 [
    (0, ⟨(some 25), none, .mv (.t 7)⟩),
    (1, ⟨(some 26), none, .mv (.t 8)⟩),
    (2, ⟨(some 27), none, .arith .mul (.t 25) (.t 26)⟩),
    (3, ⟨(some 28), none, .mv (.t 10)⟩),
    (4, ⟨(some 29), none, .arith .shr (.t 28) (.k (.d (.val (.int .u64 32))))⟩),
    (5, ⟨(some 30), none, .arith .add (.t 27) (.t 29)⟩),
    (6, ⟨(some 11), none, .mv (.t 30)⟩)] (some [0, 1, 6, 7, 9, 11])) (.seq (.ops 3 [
    (0, ⟨(some 31), none, .mv (.t 11)⟩),
    (1, ⟨(some 32), none, .arith .and (.t 31) (.k (.d (.val (.int .u64 4294967295))))⟩),
    (2, ⟨(some 12), none, .mv (.t 32)⟩)] (some [0, 1, 6, 7, 9, 11, 12])) (.seq (.ops 3 [
    (0, ⟨(some 33), none, .mv (.t 11)⟩),
    (1, ⟨(some 34), none, .arith .shr (.t 33) (.k (.d (.val (.int .u64 32))))⟩),
    (2, ⟨(some 13), none, .mv (.t 34)⟩)] (some [0, 1, 6, 7, 9, 12, 13])) (.seq (.ops 6 [
    (0, ⟨(some 35), none, .mv (.t 12)⟩),
    (1, ⟨(some 36), none, .mv (.t 6)⟩),
    (2, ⟨(some 37), none, .mv (.t 9)⟩),
    (3, ⟨(some 38), none, .arith .mul (.t 36) (.t 37)⟩),
    (4, ⟨(some 39), none, .arith .add (.t 35) (.t 38)⟩),
    (5, ⟨(some 12), none, .mv (.t 39)⟩)] (some [0, 1, 7, 9, 12, 13])) (.seq (.ops 9 [
    (0, ⟨(some 40), none, .mv (.t 7)⟩),
    (1, ⟨(some 41), none, .mv (.t 9)⟩),
    (2, ⟨(some 42), none, .arith .mul (.t 40) (.t 41)⟩),
    (3, ⟨(some 43), none, .mv (.t 13)⟩),
    (4, ⟨(some 44), none, .arith .add (.t 42) (.t 43)⟩),
    (5, ⟨(some 45), none, .mv (.t 12)⟩),
    (6, ⟨(some 46), none, .arith .shr (.t 45) (.k (.d (.val (.int .u64 32))))⟩),
    (7, ⟨(some 47), none, .arith .add (.t 44) (.t 46)⟩),
    (8, ⟨(some 4), none, .mv (.t 47)⟩)] (some [0, 1, 4])) (.seq (.ops 4 [
    (0, ⟨(some 48), none, .mv (.t 0)⟩),
    (1, ⟨(some 49), none, .mv (.t 1)⟩),
    (2, ⟨(some 50), none, .arith .mul (.t 48) (.t 49)⟩),
    (3, ⟨(some 5), none, .mv (.t 50)⟩)] (some [4, 5])) .ret))))))))))))
def md175 : FuncId → Option Nat × Bool
  | _ => (none, false)
def od175 : Nat → List (List Nat) × List Nat × Option (List Nat)
  | 0 => ([], [], some [0, 1])
  | 1 => ([], [], some [0, 1, 6])
  | 2 => ([], [], some [0, 1, 6, 7])
  | 3 => ([], [], some [0, 1, 6, 7, 8])
  | 4 => ([], [], some [0, 1, 6, 7, 8, 9])
  | 5 => ([], [], some [0, 1, 6, 7, 8, 9, 10])
  | 6 => ([], [], some [0, 1, 6, 7, 9, 11])
  | 7 => ([], [], some [0, 1, 6, 7, 9, 11, 12])
  | 8 => ([], [], some [0, 1, 6, 7, 9, 12, 13])
  | 9 => ([], [], some [0, 1, 7, 9, 12, 13])
  | 10 => ([], [], some [0, 1, 4])
  | 11 => ([], [], some [4, 5])
  | _ => ([], [], none)
theorem b175 {ags : List AV} {row : Option (List DV)} {r : AV} {row' nw : Option (List DV)} (hal : ags.length ≤ 51) (hrow : row'.isSome = true → row.isSome = true) (h : xwp Try.prog x175 (retK [.tmp 4, .tmp 5] row.isSome r row' nw) (St.init ags row)) : Good Try.prog 175 ags row r row' nw :=
  good_of_body' (md := md175) (od := od175) Try.f175 (by kernel_rfl) (by kernel_rfl) (by kernel_rfl) (by kernel_rfl) (by kernel_rfl) hal hrow h

def tabC : Tab
  | 56 => some ⟨x56, [.tmp 0], 58, false⟩
  | 114 => some ⟨x114, [.cell 2 (some 8)], 13, false⟩
  | 47 => some ⟨x47, [.tmp 4], 60, false⟩
  | 57 => some ⟨x57, [.cell 4 (some 8), .tmp 5], 20, false⟩
  | 60 => some ⟨x60, [.tmp 2], 10, false⟩
  | 68 => some ⟨x68, [.tmp 2], 7, false⟩
  | 104 => some ⟨x104, [.tmp 4], 9, false⟩
  | 115 => some ⟨x115, [.cell 2 (some 8)], 43, false⟩
  | 116 => some ⟨x116, [.tmp 2], 92, false⟩
  | 117 => some ⟨x117, [.tmp 2], 6, false⟩
  | 123 => some ⟨x123, [.tmp 2], 54, false⟩
  | 145 => some ⟨x145, [.tmp 4], 19, false⟩
  | 147 => some ⟨x147, [.cell 6 (some 8)], 50, false⟩
  | 161 => some ⟨x161, [.tmp 4], 48, true⟩
  | 169 => some ⟨x169, [.tmp 4, .tmp 5], 30, false⟩
  | 174 => some ⟨x174, [.tmp 4, .tmp 5], 17, false⟩
  | 175 => some ⟨x175, [.tmp 4, .tmp 5], 51, false⟩
  | 84 => some ⟨x84, [.tmp 2], 4, false⟩
  | 132 => some ⟨x132, [.tmp 4], 46, false⟩
  | 156 => some ⟨x156, [.tmp 2], 121, false⟩
  | 157 => some ⟨x157, [.tmp 4], 24, false⟩
  | 83 => some ⟨x83, [.cell 2 (some 8)], 13, false⟩
  | 119 => some ⟨x119, [.cell 4 (some 4)], 24, false⟩
  | 149 => some ⟨x149, [.cell 2 (some 8)], 16, false⟩
  | 150 => some ⟨x150, [], 10, false⟩
  | 162 => some ⟨x162, [.cell 2 (some 8)], 14, false⟩
  | 163 => some ⟨x163, [.tmp 4], 17, false⟩
  | 164 => some ⟨x164, [.cell 4 (some 8)], 20, false⟩
  | 170 => some ⟨x170, [.tmp 2], 16, false⟩
  | 171 => some ⟨x171, [.cell 2 (some 8)], 33, false⟩
  | 172 => some ⟨x172, [.tmp 2], 23, false⟩
  | 176 => some ⟨x176, [.cell 2 (some 8)], 60, false⟩
  | 177 => some ⟨x177, [.tmp 2, .tmp 3], 29, false⟩
  | 178 => some ⟨x178, [], 15, false⟩
  | 179 => some ⟨x179, [.cell 2 (some 4)], 19, false⟩
  | 180 => some ⟨x180, [.cell 2 (some 4)], 10, false⟩
  | 181 => some ⟨x181, [.tmp 2], 34, false⟩
  | 182 => some ⟨x182, [.tmp 2], 54, false⟩
  | 183 => some ⟨x183, [.cell 2 (some 4)], 28, false⟩
  | 184 => some ⟨x184, [.cell 2 (some 4)], 15, false⟩
  | 185 => some ⟨x185, [.tmp 2], 50, false⟩
  | 186 => some ⟨x186, [.tmp 2], 22, false⟩
  | 187 => some ⟨x187, [.tmp 2], 28, false⟩
  | 188 => some ⟨x188, [.tmp 4], 8, false⟩
  | 189 => some ⟨x189, [.tmp 2], 24, false⟩
  | 190 => some ⟨x190, [.tmp 4], 8, false⟩
  | 73 => some ⟨x73, [.cell 4 (some 4)], 19, false⟩
  | _ => none
theorem tabC_ok : TabOK Try.prog tabC := by
  intro f t h ags row r row' nw hal hrow hx
  unfold tabC at h
  split at h
  · cases h; exact b56 hal hrow hx
  · cases h; exact b114 hal hrow hx
  · cases h; exact b47 hal hrow hx
  · cases h; exact b57 hal hrow hx
  · cases h; exact b60 hal hrow hx
  · cases h; exact b68 hal hrow hx
  · cases h; exact b104 hal hrow hx
  · cases h; exact b115 hal hrow hx
  · cases h; exact b116 hal hrow hx
  · cases h; exact b117 hal hrow hx
  · cases h; exact b123 hal hrow hx
  · cases h; exact b145 hal hrow hx
  · cases h; exact b147 hal hrow hx
  · cases h; exact b161 hal hrow hx
  · cases h; exact b169 hal hrow hx
  · cases h; exact b174 hal hrow hx
  · cases h; exact b175 hal hrow hx
  · cases h; exact b84 hal hrow hx
  · cases h; exact b132 hal hrow hx
  · cases h; exact b156 hal hrow hx
  · cases h; exact b157 hal hrow hx
  · cases h; exact b83 hal hrow hx
  · cases h; exact b119 hal hrow hx
  · cases h; exact b149 hal hrow hx
  · cases h; exact b150 hal hrow hx
  · cases h; exact b162 hal hrow hx
  · cases h; exact b163 hal hrow hx
  · cases h; exact b164 hal hrow hx
  · cases h; exact b170 hal hrow hx
  · cases h; exact b171 hal hrow hx
  · cases h; exact b172 hal hrow hx
  · cases h; exact b176 hal hrow hx
  · cases h; exact b177 hal hrow hx
  · cases h; exact b178 hal hrow hx
  · cases h; exact b179 hal hrow hx
  · cases h; exact b180 hal hrow hx
  · cases h; exact b181 hal hrow hx
  · cases h; exact b182 hal hrow hx
  · cases h; exact b183 hal hrow hx
  · cases h; exact b184 hal hrow hx
  · cases h; exact b185 hal hrow hx
  · cases h; exact b186 hal hrow hx
  · cases h; exact b187 hal hrow hx
  · cases h; exact b188 hal hrow hx
  · cases h; exact b189 hal hrow hx
  · cases h; exact b190 hal hrow hx
  · cases h; exact b73 hal hrow hx
  · cases h

end Go.Sv
namespace Go.Sv
open Go Go.Proofs
set_option maxRecDepth 100000
theorem mul_ev : ∀ c : Nat, c < 21 → evF tabC (spP 100) 100 40 169 [.d (.val (.int .u64 1)), .d (.val (.int .u64 (c : Nat)))] none = some (.tup [.d (.val (.int .u64 0)), .d (.val (.int .u64 (c : Nat)))], none, none)
  | 0, _ => by kernel_rfl
  | 1, _ => by kernel_rfl
  | 2, _ => by kernel_rfl
  | 3, _ => by kernel_rfl
  | 4, _ => by kernel_rfl
  | 5, _ => by kernel_rfl
  | 6, _ => by kernel_rfl
  | 7, _ => by kernel_rfl
  | 8, _ => by kernel_rfl
  | 9, _ => by kernel_rfl
  | 10, _ => by kernel_rfl
  | 11, _ => by kernel_rfl
  | 12, _ => by kernel_rfl
  | 13, _ => by kernel_rfl
  | 14, _ => by kernel_rfl
  | 15, _ => by kernel_rfl
  | 16, _ => by kernel_rfl
  | 17, _ => by kernel_rfl
  | 18, _ => by kernel_rfl
  | 19, _ => by kernel_rfl
  | 20, _ => by kernel_rfl
  | c + 21, h => by omega
theorem mul_good (c : Nat) (h : c < 21) : Good Try.prog 169 [.d (.val (.int .u64 1)), .d (.val (.int .u64 (c : Nat)))] none (.tup [.d (.val (.int .u64 0)), .d (.val (.int .u64 (c : Nat)))]) none none :=
  evF_sound tabC_ok (spP_ok 100) 40 169 _ none _ _ _ (mul_ev c h)
theorem repl_add (a : List AV) (k : Nat) : ∀ m, repl a (m + k) = repl a m ++ repl a k
  | 0 => by simp [repl]
  | m + 1 => by rw [show m + 1 + k = (m + k) + 1 by omega, repl, repl_add a k m, repl, List.append_assoc]
theorem repl_len (a : List AV) : ∀ m, (repl a m).length = m * a.length
  | 0 => by simp [repl]
  | m + 1 => by rw [repl, List.length_append, repl_len a m, Nat.succ_mul]; omega
theorem repl_all {a : List AV} {p : AV → Bool} (h : a.all p = true) : ∀ m, (repl a m).all p = true
  | 0 => rfl
  | m + 1 => by rw [repl, List.all_append, h, repl_all h m]; rfl
def zsN : List Value := [.int .i64 0, .int .u64 0, .int .u64 0, .int .u64 0, .int .u64 0, .int .i64 0, .int .i64 0, .slice none 0 0]
def rowR (e : List AV) (m c : Nat) : List AV := repl e m ++ repl (zeroA zsN) (c - m)
theorem rowR_len {e : List AV} (he : e.length = 8) {m c : Nat} (h : m ≤ c) : (rowR e m c).length = c * 8 := by
  rw [rowR, List.length_append, repl_len, repl_len, he, show (zeroA zsN).length = 8 from rfl]; omega
theorem rowR_take {e : List AV} (he : e.length = 8) (m c : Nat) : (rowR e m c).take (m * 8) = repl e m := by
  rw [rowR, List.take_append_of_le_length (by rw [repl_len, he]; omega), List.take_of_length_le (by rw [repl_len, he]; omega)]
theorem repl_take {a : List AV} (ha : a.length = 8) {k m : Nat} (h : k ≤ m) : (repl a m).take (k * 8) = repl a k := by
  obtain ⟨j, rfl⟩ := Nat.exists_eq_add_of_le h
  rw [repl_add, List.take_append_of_le_length (by rw [repl_len, ha]; omega), List.take_of_length_le (by rw [repl_len, ha]; omega)]
theorem repl_drop {a : List AV} (ha : a.length = 8) {k m : Nat} (h : k ≤ m) : (repl a m).drop (k * 8) = repl a (m - k) := by
  obtain ⟨j, rfl⟩ := Nat.exists_eq_add_of_le h
  rw [repl_add, List.drop_append_of_le_length (by rw [repl_len, ha]; omega), List.drop_of_length_le (by rw [repl_len, ha]; omega), List.nil_append, Nat.add_sub_cancel_left]
theorem rowR_splice {e : List AV} (he : e.length = 8) {m c k : Nat} (h : m + k ≤ c) : splice (rowR e m c) (m * 8) (repl e k) = rowR e (m + k) c := by
  rw [splice, rowR_take he, repl_len, he]
  have e1 : (rowR e m c).drop (m * 8 + k * 8) = repl (zeroA zsN) (c - (m + k)) := by
    have e0 : (repl e m).drop (m * 8) = [] := List.drop_of_length_le (by rw [repl_len, he]; omega)
    rw [← List.drop_drop, rowR, List.drop_append_of_le_length (by rw [repl_len, he]; omega), e0, List.nil_append]
    rw [repl_drop rfl (by omega), Nat.sub_sub]
  rw [e1, rowR, repl_add]
section
variable {P : Program} {Q : Cont} {fr : Fr} {C : Heap} {Z : Frz} {nx : Nat} {base n d : Nat} {l : List (Nat × XO)} {kp : Option (List Nat)} {x i y s : X}
theorem r_cvU {m : Nat} (hx : x.ev fr = .i (m : Nat)) (hm : m ≤ 1000000) (k : R P l base kp Q nx (fr.put d (.d (.val (.int .u64 (m : Nat))))) C Z) : R P ((n, ⟨some d, none, .conv .u64 x⟩) :: l) base kp Q nx fr C Z := by
  refine r_p ?_ k
  simp only [xp, hx]
  rw [show IntKind.wrap .u64 ((m : Nat) : Int) = (m : Nat) by simp [IntKind.wrap, IntKind.signed, IntKind.bits]; omega]
theorem r_cvI {m : Nat} (hx : x.ev fr = .d (.val (.int .u64 (m : Nat)))) (hm : m ≤ 1000000) (k : R P l base kp Q nx (fr.put d (.i (m : Nat))) C Z) : R P ((n, ⟨some d, none, .conv .i64 x⟩) :: l) base kp Q nx fr C Z := by
  refine r_p ?_ k
  simp only [xp, hx]
  rw [wrap_in (by omega)]
theorem r_gtrU {m : Nat} (hx : x.ev fr = .d (.val (.int .u64 (m : Nat)))) (hy : y.ev fr = .d (.val (.int .u64 9223372036854775807))) (hm : m ≤ 1000000) (k : R P l base kp Q nx (fr.put d (.b false)) C Z) : R P ((n, ⟨some d, none, .arith .gtr x y⟩) :: l) base kp Q nx fr C Z := by
  refine r_p ?_ k
  have h : decide (((m : Nat) : Int) > 9223372036854775807) = false := by simp; omega
  simp only [xp, hx, hy, arith, Option.map_some, if_true, h]
theorem r_mksN {c : X} {id m : Nat} (hl : i.ev fr = .i (m : Nat)) (hc : c.ev fr = .i (m : Nat)) (hid : base + n = id) (hb : m ≤ 1000000) (k : R P l base kp Q nx (fr.put d (.slL id 0 m 8)) (C.put id (repl (zeroA zsN) m)) Z) : R P ((n, ⟨some d, none, .mks [.int .i64 0, .int .u64 0, .int .u64 0, .int .u64 0, .int .u64 0, .int .i64 0, .int .i64 0, .slice none 0 0] 80 i c⟩) :: l) base kp Q nx fr C Z := by
  subst hid
  refine r_n (r := repl (zeroA zsN) m) ?_ k
  simp only [xn, hl, hc]
  rw [if_pos (by omega)]
  rfl
theorem r_slLlo {b m c : Nat} (hx : x.ev fr = .slL b 0 c 8) (hi : i.ev fr = .i (m : Nat)) (h0 : 0 < m) (h : m < c) (k : R P l base kp Q nx (fr.put d (.slL b (0 + m * 8) (c - m) 8)) C Z) : R P ((n, ⟨some d, none, .slS 8 x (some i) none⟩) :: l) base kp Q nx fr C Z := by
  refine r_p ?_ k
  simp only [xp, hx, hiOf, loOf, hi, intUpto, if_true, Option.bind_some]
  rw [if_pos (by omega)]
  simp only [Int.toNat_natCast, Option.map_some]
  rw [if_neg (by omega), if_neg (by omega)]
theorem r_slLhi {b m c : Nat} (hx : x.ev fr = .slL b 0 c 8) (hi : i.ev fr = .i (m : Nat)) (h : m ≤ c) (k : R P l base kp Q nx (fr.put d (.slL b 0 m 8)) C Z) : R P ((n, ⟨some d, none, .slS 8 x none (some i)⟩) :: l) base kp Q nx fr C Z := by
  refine r_p ?_ k
  simp only [xp, hx, hiOf, loOf, hi, intUpto, if_true]
  rw [if_pos (by omega)]
  simp only [Int.toNat_natCast, Option.bind_some, Option.map_some, if_true]
theorem r_cpyR {e : List AV} {b m c : Nat} (he : e.length = 8) (h1 : e.all AV.one = true) (hd : y.ev fr = .slL b (0 + m * 8) (c - m) 8) (hx : x.ev fr = .slL b 0 m 8) (hr : C b = some (rowR e m c)) (hz : Z b = false) (h : m ≤ c)
    (k : R P l base kp Q nx (fr.put d (.i (Nat.min m (c - m) : Nat))) (C.put b (rowR e (m + Nat.min m (c - m)) c)) Z) : R P ((n, ⟨some d, none, .cpy 8 y x⟩) :: l) base kp Q nx fr C Z := by
  refine r_w (v := .i (Nat.min m (c - m) : Nat)) (C' := C.put b (rowR e (m + Nat.min m (c - m)) c)) ?_ k
  have hmin : Nat.min m (c - m) ≤ m ∧ Nat.min m (c - m) ≤ c - m := ⟨Nat.min_le_left _ _, Nat.min_le_right _ _⟩
  have hs : srcOf C 8 (.slL b 0 m 8) = some (repl e m, m) := by
    simp only [srcOf, if_true, hr, Option.bind_some]
    rw [if_pos (by rw [rowR_len he h]; omega), List.drop_zero, rowR_take he]
  simp only [xw, hx, hs, hd, hr, Option.bind_some]
  rw [if_pos ⟨trivial, hz, by rw [rowR_len he h]; omega, repl_all h1 m⟩]
  rw [repl_take he hmin.1, Nat.zero_add, rowR_splice he (by omega)]
theorem r_cpy0 {e : List DV} {b c : Nat} (he : e.length = 8) (h1 : (e.map AV.d).all AV.one = true) (hd : y.ev fr = .slL b 0 c 8) (hx : x.ev fr = .d (.sl e 1)) (hr : C b = some (repl (zeroA zsN) c)) (hz : Z b = false)
    (k : R P l base kp Q nx (fr.put d (.i (Nat.min 1 c : Nat))) (C.put b (rowR (e.map AV.d) (Nat.min 1 c) c)) Z) : R P ((n, ⟨some d, none, .cpy 8 y x⟩) :: l) base kp Q nx fr C Z := by
  refine r_w (v := .i (Nat.min 1 c : Nat)) (C' := C.put b (rowR (e.map AV.d) (Nat.min 1 c) c)) ?_ k
  have hs : srcOf C 8 (.d (.sl e 1)) = some (e.map AV.d, 1) := by
    cases e with
    | nil => simp at he
    | cons a e => simp only [srcOf]; rw [if_pos (by omega)]
  have hmin : Nat.min 1 c ≤ 1 ∧ Nat.min 1 c ≤ c := ⟨Nat.min_le_left _ _, Nat.min_le_right _ _⟩
  have hl : (repl (zeroA zsN) c).length = c * 8 := by rw [repl_len]; rfl
  simp only [xw, hx, hs, hd, hr, Option.bind_some]
  rw [if_pos ⟨trivial, hz, by rw [hl]; omega, h1⟩]
  have e1 : (e.map AV.d).take (Nat.min 1 c * 8) = repl (e.map AV.d) (Nat.min 1 c) := by
    have := repl_take (a := e.map AV.d) (by simpa using he) hmin.1
    simpa [repl] using this
  have e2 : repl (zeroA zsN) c = rowR (e.map AV.d) 0 c := by simp [rowR, repl]
  have e3 := rowR_splice (e := e.map AV.d) (by simpa using he) (m := 0) (c := c) (k := Nat.min 1 c) (by omega)
  rw [Nat.zero_mul, Nat.zero_add] at e3
  rw [e1, e2, e3]
end
set_option maxHeartbeats 4000000
attribute [local irreducible] W E R KP thenK blockK retK Good xwp aRun
theorem repl_map (e : List DV) : ∀ c, repl (e.map AV.d) c = ((List.replicate c e).flatten).map AV.d
  | 0 => rfl
  | c + 1 => by rw [repl, repl_map e c, List.replicate_succ, List.flatten_cons, List.map_append]
theorem repeat_good (e : List DV) (he : e.length = 8) (h1 : (e.map AV.d).all AV.one = true) (c : Nat) (hc : c < 21) : Good Try.prog 161 [.d (.sl e 1), .i (c : Nat)] none (.slL 1 0 c 8) none (some ((List.replicate c e).flatten)) := by
  have hm := mul_good c hc
  have hl : (e.map AV.d).length = 8 := by simpa using he
  have hD : ∀ m, (rowR (e.map AV.d) m c).all AV.isD = true := by
    intro m
    rw [rowR, List.all_append, repl_all (by rw [List.all_map]; simp [AV.isD]) m, repl_all (by rfl) (c - m)]; rfl
  refine b161 (by simp) (by simp) (w_init ?_)
  unfold x161
  repeat' (first
    | (apply r_mvV; rfl)
    | (apply r_mvP; rfl)
    | (apply r_mvPL; rfl)
    | (apply r_mvS; rfl)
    | (apply r_mvSL; rfl)
    | (apply r_mvA; rfl)
    | (apply r_mvT; rfl)
    | (apply r_mvF; rfl)
    | (apply r_mvD; rfl)
    | (apply r_cvU (m := 1); rfl; omega)
    | (apply r_cvU (m := c); rfl; omega)
    | (apply r_callA (ags := [.d (.val (.int .u64 1)), .d (.val (.int .u64 (c : Nat)))]); rfl; rfl; exact hm)
    | (apply r_gtrU (m := c); rfl; rfl; omega)
    | (apply r_cvI (m := c); rfl; omega)
    | (apply r_mksN (m := c); rfl; rfl; ((conv => lhs; simp only [Nat.reduceAdd]) <;> rfl); omega)
    | (apply r_cpy0 (e := e) (b := 23) (c := c); exact he; exact h1; rfl; rfl; rfl; rfl)
    | (apply r_lss; rfl; rfl; (first | (apply decide_eq_true; omega) | (apply decide_eq_false; omega) | rfl))
    | (apply r_gtr; rfl; rfl; (first | (apply decide_eq_true; omega) | (apply decide_eq_false; omega) | rfl))
    | (apply r_add; rfl; rfl; rfl; omega)
    | (apply r_pickT; rfl)
    | (apply r_pickF; rfl)
    | (apply r_lenD; rfl)
    | (apply r_lenL; rfl)
    | (apply r_len0; rfl)
    | (apply r_ext; rfl; rfl)
    | (apply r_gT; rfl)
    | (apply r_gF'; rfl; rfl)
    | (apply r_gN'; rfl)
    | ((apply r_gS (o := default); rfl) <;> (intro h; try simp only [decide_eq_true_eq, decide_eq_false_iff_not, Bool.not_eq_true, Bool.not_eq_false] at h))
    | (apply r_p; rfl)
    | (apply r_nilK)
    | (apply r_nil)
    | (apply k_V; rfl)
    | (apply k_P; rfl)
    | (apply k_PL; rfl)
    | (apply k_S; rfl)
    | (apply k_SL; rfl)
    | (apply k_A; rfl)
    | (apply k_T; rfl)
    | (apply k_F; rfl)
    | (apply k_D; rfl; rotate_left; rfl)
    | (apply k_nil)
    | (apply e_ret (vs := [.d (.val _)]); rfl)
    | (apply e_ret; rfl)
    | (apply e_ret' (vs := [.d (.val _)]); rfl)
    | (apply e_ret'; rfl)
    | (apply w_seq)
    | (apply w_ops; ((conv => lhs; simp only [Nat.reduceAdd]) <;> rfl))
    | (apply w_condT; rfl)
    | (apply w_condF; rfl)
    | ((apply w_condS; rfl) <;> (intro h; try simp only [decide_eq_true_eq, decide_eq_false_iff_not, Bool.not_eq_true, Bool.not_eq_false] at h))
    | (apply e_thenN)
    | (apply w_block)
    | (apply e_thenR)
    | (apply e_thenX)
    | (apply e_blkN)
    | (apply e_blkR)
    | (apply e_blkE)
    | (apply w_exit)
    | (apply w_ret)
    | (apply w_skip)
    | (apply e_blkE'; rfl))
  apply w_loopI (S := fun m : Nat => ⟨((Fr.nil.put 7 (.slL 23 0 c 8)).put 8 (.i m)), Heap.nil.put 23 (rowR (e.map AV.d) m c), Frz.but 100 23, 100⟩) (m := fun m => c - m) (I := fun m => m ≤ c ∧ (0 < c → 0 < m)) (i0 := Nat.min 1 c)
  · exact ⟨Nat.min_le_right _ _, fun h => by show 0 < min 1 c; omega⟩
  · refine wk1D (by omega) (by omega) rfl rfl (hD _) ?_
    repeat' (first
    | exact FWk.nil
    | (apply FWk.i; rfl; (first | rfl | omega | (simp; done)))
    | (apply FWk.sl; rfl; rfl; rfl; rfl; omega; rfl)
    | (apply FWk.ptr; rfl; rfl; rfl; omega; rfl)
    | (apply FWk.d; rfl; rfl)
    | (apply FWk.a; rfl; rfl; rfl)
    | (apply FWk.slN; rfl; omega; rfl))
  rintro m K ⟨hmc, hm0⟩ hK
  dsimp only
  rcases Nat.lt_or_ge m c with hlt | hge
  · have hmp := hm0 (by omega)
    have hmin : Nat.min m (c - m) ≤ c - m ∧ 0 < Nat.min m (c - m) := ⟨Nat.min_le_right _ _, by show 0 < min m (c - m); omega⟩
    repeat' (first
    | (apply r_mvV; rfl)
    | (apply r_mvP; rfl)
    | (apply r_mvPL; rfl)
    | (apply r_mvS; rfl)
    | (apply r_mvSL; rfl)
    | (apply r_mvA; rfl)
    | (apply r_mvT; rfl)
    | (apply r_mvF; rfl)
    | (apply r_mvD; rfl)
    | (apply r_slLlo (m := m); rfl; rfl; exact hmp; exact hlt)
    | (apply r_slLhi (m := m); rfl; rfl; exact hmc)
    | (apply r_cpyR (e := e.map AV.d) (m := m) (c := c); exact hl; exact h1; rfl; rfl; rfl; rfl; exact hmc)
    | (apply r_lss; rfl; rfl; (first | (apply decide_eq_true; omega) | (apply decide_eq_false; omega) | rfl))
    | (apply r_gtr; rfl; rfl; (first | (apply decide_eq_true; omega) | (apply decide_eq_false; omega) | rfl))
    | (apply r_add; rfl; rfl; rfl; omega)
    | (apply r_pickT; rfl)
    | (apply r_pickF; rfl)
    | (apply r_lenD; rfl)
    | (apply r_lenL; rfl)
    | (apply r_len0; rfl)
    | (apply r_ext; rfl; rfl)
    | (apply r_gT; rfl)
    | (apply r_gF'; rfl; rfl)
    | (apply r_gN'; rfl)
    | ((apply r_gS (o := default); rfl) <;> (intro h; try simp only [decide_eq_true_eq, decide_eq_false_iff_not, Bool.not_eq_true, Bool.not_eq_false] at h))
    | (apply r_p; rfl)
    | (apply r_nilK)
    | (apply r_nil)
    | (apply k_V; rfl)
    | (apply k_P; rfl)
    | (apply k_PL; rfl)
    | (apply k_S; rfl)
    | (apply k_SL; rfl)
    | (apply k_A; rfl)
    | (apply k_T; rfl)
    | (apply k_F; rfl)
    | (apply k_D; rfl; rotate_left; rfl)
    | (apply k_nil)
    | (apply e_ret (vs := [.d (.val _)]); rfl)
    | (apply e_ret; rfl)
    | (apply e_ret' (vs := [.d (.val _)]); rfl)
    | (apply e_ret'; rfl)
    | (apply w_seq)
    | (apply w_ops; ((conv => lhs; simp only [Nat.reduceAdd]) <;> rfl))
    | (apply w_condT; rfl)
    | (apply w_condF; rfl)
    | ((apply w_condS; rfl) <;> (intro h; try simp only [decide_eq_true_eq, decide_eq_false_iff_not, Bool.not_eq_true, Bool.not_eq_false] at h))
    | (apply e_thenN)
    | (apply w_block)
    | (apply e_thenR)
    | (apply e_thenX)
    | (apply e_blkN)
    | (apply e_blkR)
    | (apply e_blkE)
    | (apply w_exit)
    | (apply w_ret)
    | (apply w_skip)
    | (apply e_blkE'; rfl))
    apply e_thenK
    apply hK (m + Nat.min m (c - m))
    · exact ⟨by omega, fun _ => by omega⟩
    · omega
    · refine wk1D (by omega) (by omega) rfl rfl (hD _) ?_
      repeat' (first
    | exact FWk.nil
    | (apply FWk.i; rfl; (first | rfl | omega | (simp; done)))
    | (apply FWk.sl; rfl; rfl; rfl; rfl; omega; rfl)
    | (apply FWk.ptr; rfl; rfl; rfl; omega; rfl)
    | (apply FWk.d; rfl; rfl)
    | (apply FWk.a; rfl; rfl; rfl)
    | (apply FWk.slN; rfl; omega; rfl))
  · have ei : m = c := by omega
    subst ei
    have er : rowR (e.map AV.d) m m = ((List.replicate m e).flatten).map AV.d := by
      rw [rowR, Nat.sub_self, repl_map]; simp [repl]
    rw [er]
    repeat' (first
    | (apply r_mvV; rfl)
    | (apply r_mvP; rfl)
    | (apply r_mvPL; rfl)
    | (apply r_mvS; rfl)
    | (apply r_mvSL; rfl)
    | (apply r_mvA; rfl)
    | (apply r_mvT; rfl)
    | (apply r_mvF; rfl)
    | (apply r_mvD; rfl)
    | (apply r_lss; rfl; rfl; (first | (apply decide_eq_true; omega) | (apply decide_eq_false; omega) | rfl))
    | (apply r_gtr; rfl; rfl; (first | (apply decide_eq_true; omega) | (apply decide_eq_false; omega) | rfl))
    | (apply r_add; rfl; rfl; rfl; omega)
    | (apply r_pickT; rfl)
    | (apply r_pickF; rfl)
    | (apply r_lenD; rfl)
    | (apply r_lenL; rfl)
    | (apply r_len0; rfl)
    | (apply r_ext; rfl; rfl)
    | (apply r_gT; rfl)
    | (apply r_gF'; rfl; rfl)
    | (apply r_gN'; rfl)
    | ((apply r_gS (o := default); rfl) <;> (intro h; try simp only [decide_eq_true_eq, decide_eq_false_iff_not, Bool.not_eq_true, Bool.not_eq_false] at h))
    | (apply r_p; rfl)
    | (apply r_nilK)
    | (apply r_nil)
    | (apply k_V; rfl)
    | (apply k_P; rfl)
    | (apply k_PL; rfl)
    | (apply k_S; rfl)
    | (apply k_SL; rfl)
    | (apply k_A; rfl)
    | (apply k_T; rfl)
    | (apply k_F; rfl)
    | (apply k_D; rfl; rotate_left; rfl)
    | (apply k_nil)
    | (apply e_ret (vs := [.d (.val _)]); rfl)
    | (apply e_ret; rfl)
    | (apply e_ret' (vs := [.d (.val _)]); rfl)
    | (apply e_ret'; rfl)
    | (apply w_seq)
    | (apply w_ops; ((conv => lhs; simp only [Nat.reduceAdd]) <;> rfl))
    | (apply w_condT; rfl)
    | (apply w_condF; rfl)
    | ((apply w_condS; rfl) <;> (intro h; try simp only [decide_eq_true_eq, decide_eq_false_iff_not, Bool.not_eq_true, Bool.not_eq_false] at h))
    | (apply e_thenN)
    | (apply w_block)
    | (apply e_thenR)
    | (apply e_thenX)
    | (apply e_blkN)
    | (apply e_blkR)
    | (apply e_blkE)
    | (apply w_exit)
    | (apply w_ret)
    | (apply w_skip)
    | (apply e_blkE'; rfl))
    exact .new _ _ _ _ _ rfl rfl rfl
end Go.Sv
namespace Go.Sv
open Go Go.Proofs
theorem encL_rep (t : T) : ∀ m, encL (List.replicate m t) = (List.replicate m (encN t)).flatten
  | 0 => rfl
  | m + 1 => by rw [List.replicate_succ, encL, encL_rep t m, List.replicate_succ, List.flatten_cons]
theorem encL_app : ∀ (l r : List T), encL (l ++ r) = encL l ++ encL r
  | [], r => rfl
  | t :: l, r => by rw [List.cons_append, encL, encL_app l r, encL, List.append_assoc]
theorem encN_norm (t : T) : (encN t).map DV.norm = encN t := by cases t; rfl
theorem encL_norm : ∀ l : List T, (encL l).map DV.norm = encL l
  | [] => rfl
  | t :: l => by rw [encL, List.map_append, encN_norm, encL_norm l]
theorem encL_length : ∀ l : List T, (encL l).length = l.length * 8
  | [] => rfl
  | t :: l => by rw [encL, List.length_append, encN_len, encL_length l, List.length_cons]; omega
theorem mapO_app (g : AV → Option (DV × List Nat)) : ∀ (a b : List AV) (x y : List DV) (u v : List Nat), mapO g a = some (x, u) → mapO g b = some (y, v) → mapO g (a ++ b) = some (x ++ y, u ++ v)
  | [], b, x, y, u, v, h1, h2 => by cases h1; exact h2
  | c :: a, b, x, y, u, v, h1, h2 => by
    simp only [mapO] at h1
    obtain ⟨⟨p, q⟩, h3, h4⟩ := Option.bind_eq_some_iff.1 h1
    obtain ⟨⟨p', q'⟩, h5, h6⟩ := Option.map_eq_some_iff.1 h4
    cases h6
    simp only [List.cons_append, mapO, h3, Option.bind_some, mapO_app g a b p' y q' v h5 h2, Option.map_some, List.append_assoc]
theorem mapO_encL {C : Heap} {ex : Nat → Bool} (l : List T) : mapO (convC C ex 8) ((encL l).map AV.d) = some (encL l, []) := by
  rw [mapO_d, encL_norm]
theorem one_encL (l : List T) : ((encL l).map AV.d).all AV.one = true := by
  rw [List.all_map]; simp [AV.one]
section
variable {P : Program} {Q : Cont} {fr : Fr} {C : Heap} {Z : Frz} {nx : Nat} {base n d : Nat} {l : List (Nat × XO)} {kp : Option (List Nat)} {x i y s : X}
theorem r_appN {b c id m j : Nat} {r src : List AV} (hs : s.ev fr = .slL b 0 m 8) (hx : x.ev fr = .slL c 0 j 8) (hC : C b = some r) (hCc : C c = some src) (hr : r.length = m * 8) (hsl : src.length = j * 8) (h1 : src.all AV.one = true) (hz : Z b = false) (hid : base + n = id) (hb : m + j ≤ 1000000)
    (k : R P l base kp Q nx (fr.put d (.slL id 0 (m + j) 8)) ((C.del b).put id (r ++ src)) Z) : R P ((n, ⟨some d, none, .app [.int .i64 0, .int .u64 0, .int .u64 0, .int .u64 0, .int .u64 0, .int .i64 0, .int .i64 0, .slice none 0 0] 80 s x⟩) :: l) base kp Q nx fr C Z := by
  subst hid
  refine r_w (v := .slL (base + n) 0 (m + j) 8) (C' := (C.del b).put (base + n) (r ++ src)) ?_ k
  have h2 : srcOf C 8 (.slL c 0 j 8) = some (src, j) := by
    simp only [srcOf, if_true, hCc, Option.bind_some]
    rw [if_pos (by omega), List.drop_zero, List.take_of_length_le (by omega)]
  simp only [xw, List.length_cons, List.length_nil, Nat.zero_add, Nat.reduceAdd, hx, h2, Option.bind_some, hs, hC]
  rw [if_pos h1, if_pos ⟨trivial, hz, by omega, by omega⟩, List.take_of_length_le (by omega)]
end
theorem r_callMN {P : Program} {Q : Cont} {fr : Fr} {C : Heap} {Z Z' : Frz} {nx : Nat} {base n d : Nat} {l : List (Nat × XO)} {kp : Option (List Nat)} {f : FuncId} {xs : List X} {ags bs : List AV} {us : List Nat} {id m sz : Nat} {ds : List DV} (ha : xs.map (X.ev fr) = ags) (hc : convAs C (fun _ => false) ags = some (bs, us)) (hid : base + n = id) (hg : Good P f bs none (.slL 1 0 m sz) none (some ds)) (hz : Z.add us = Z')
    (k : R P l base kp Q nx (fr.put d (.slL id 0 m sz)) (C.put id (ds.map AV.d)) Z') : R P ((n, ⟨some d, none, .call f xs none true⟩) :: l) base kp Q nx fr C Z := by
  subst hid
  exact s_callN ha hc hg hz rfl k
def starN (t : T) : T := .node 5 0 0 0 0 0 (-1) [t]
def maybeN (t : T) : T := .node 4 0 0 0 0 0 0 [t, .node 1 0 0 0 0 0 0 []]
def repRow (t : T) (lo : Nat) (hi : Int) : List T := List.replicate lo t ++ (if hi < 0 then [starN t] else List.replicate (hi.toNat - lo) (maybeN t))
def repT (t : T) (lo : Nat) (hi : Int) : T := match repRow t lo hi with
  | [] => .node 1 0 0 0 0 0 0 []
  | [u] => u
  | l => .node 3 0 0 0 0 0 0 l
set_option maxRecDepth 100000
set_option maxHeartbeats 4000000
attribute [local irreducible] W E R KP thenK blockK retK Good xwp aRun
theorem conv_row {C : Heap} {ex : Nat → Bool} {k id m : Nat} {row : List AV} {ds : List DV} {us : List Nat} (hC : C id = some row) (hm : row.length = m * 8) (h0 : 0 < m) (hex : ex id = false) (hr : mapO (convC C ex k) row = some (ds, us)) : convC C ex (k + 1) (.slL id 0 m 8) = some (.sl ds m, id :: us) := by
  simp only [convC]
  rw [if_neg (by omega), if_neg (by simp [hex])]
  simp only [hC, Option.bind_some]
  rw [if_pos (by omega), List.drop_zero, List.take_of_length_le (by omega), hr]
  rfl
theorem ret_cat {C : Heap} {Z : Frz} {live : Bool} {id m : Nat} {row : List AV} {L : List T} {us : List Nat} (hC : C id = some row) (hm : L.length = m) (hl : row.length = m * 8) (h0 : 0 < m) (hr : mapO (convC C (fun _ => false) 8) row = some (encL L, us)) : RetOK C Z (tupOf [.agg [.i 3, .d (.val (.int .u64 0)), .d (.val (.int .u64 0)), .d (.val (.int .u64 0)), .d (.val (.int .u64 0)), .i 0, .i 0, .slL id 0 m 8]]) live (nodeA (.node 3 0 0 0 0 0 0 L)) none none := by
  refine .data _ ?_
  have h := conv_row (ex := fun _ => false) hC hl h0 rfl hr
  have hd : ∀ z : Value, (z = .int .i64 3 ∨ z = .int .u64 0 ∨ z = .int .i64 0) → convC C (fun _ => false) 9 (.d (.val z)) = some (.val z, []) := by
    rintro z (rfl | rfl | rfl) <;> rfl
  simp only [tupOf, convT, convA, mapO, h, hd _ (.inl rfl), hd _ (.inr (.inl rfl)), hd _ (.inr (.inr rfl)), Option.bind_some, Option.map_some]
  subst hm
  rfl
theorem repT_cat {t : T} {lo : Nat} {hi : Int} (h : 2 ≤ (repRow t lo hi).length) : repT t lo hi = .node 3 0 0 0 0 0 0 (repRow t lo hi) := by
  unfold repT
  split
  · rename_i e; rw [e] at h; simp at h
  · rename_i e; rw [e] at h; simp at h
  · rfl
theorem row_facts (t : T) (lo : Nat) : (((List.replicate lo (encN t)).flatten).map AV.d).length = lo * 8 ∧ ∀ C, mapO (convC C (fun _ => false) 8) (((List.replicate lo (encN t)).flatten).map AV.d) = some (encL (List.replicate lo t), []) := by
  constructor
  · rw [← encL_rep, List.length_map, encL_length, List.length_replicate]
  · intro C; rw [← encL_rep]; exact mapO_encL _
theorem rep_neg (t : T) (lo : Nat) (hlo : lo < 21) : Good Try.prog 147 [nodeA t, .i (lo : Nat), .i (-1)] none (nodeA (repT t lo (-1))) none none := by
  have hrp := repeat_good (encN t) (encN_len t) (by have := one_encL [t]; simpa [encL] using this)
  have h1 := hrp lo hlo
  obtain ⟨hl1, hm1⟩ := row_facts t lo
  have er : 0 < lo → repT t lo (-1) = .node 3 0 0 0 0 0 0 (List.replicate lo t ++ [starN t]) := fun h => by
    rw [repT_cat (by simp [repRow]; omega)]; rfl
  clear hrp
  obtain ⟨k, a, b, c, d, mn, mx, subs⟩ := t
  have e0 : nodeA (.node k a b c d mn mx subs) = .agg [.i k, .d (.val (.int .u64 a)), .d (.val (.int .u64 b)), .d (.val (.int .u64 c)), .d (.val (.int .u64 d)), .i mn, .i mx, .d (.sl (encL subs) subs.length)] := rfl
  rw [e0]
  refine b147 (by simp) (by simp) (w_init ?_)
  unfold x147
  cases lo with
  | zero =>
    repeat' (first
    | (apply r_mvV; rfl)
    | (apply r_mvP; rfl)
    | (apply r_mvPL; rfl)
    | (apply r_mvS; rfl)
    | (apply r_mvSL; rfl)
    | (apply r_mvA; rfl)
    | (apply r_mvT; rfl)
    | (apply r_mvF; rfl)
    | (apply r_mvD; rfl)
    | (apply r_ldL (v := .agg [.i k, .d (.val (.int .u64 a)), .d (.val (.int .u64 b)), .d (.val (.int .u64 c)), .d (.val (.int .u64 d)), .i mn, .i mx, .d (.sl (encL subs) subs.length)]); rfl; rfl; rfl)
    | (apply r_n (v := .slL 4 0 1 8) (r := [.i k, .d (.val (.int .u64 a)), .d (.val (.int .u64 b)), .d (.val (.int .u64 c)), .d (.val (.int .u64 d)), .i mn, .i mx, .d (.sl (encL subs) subs.length)]); rfl)
    | (apply r_n (v := .slL 13 0 1 8) (r := [.i k, .d (.val (.int .u64 a)), .d (.val (.int .u64 b)), .d (.val (.int .u64 c)), .d (.val (.int .u64 d)), .i mn, .i mx, .d (.sl (encL subs) subs.length)]); rfl)
    | (apply r_p (v := .agg [.i 5, .d (.val (.int .u64 0)), .d (.val (.int .u64 0)), .d (.val (.int .u64 0)), .d (.val (.int .u64 0)), .i 0, .i (-1), .slL 13 0 1 8]); rfl)
    | (apply r_n (v := .slL 15 0 1 8) (r := [.i 5, .d (.val (.int .u64 0)), .d (.val (.int .u64 0)), .d (.val (.int .u64 0)), .d (.val (.int .u64 0)), .i 0, .i (-1), .slL 13 0 1 8]); rfl)
    | (apply r_callMN (id := 6) (us := [4]) (bs := [.d (.sl (encN (.node k a b c d mn mx subs)) 1), .i (0 : Nat)]); rfl; rfl; rfl; exact h1; rfl)
    | (apply r_appN (b := 6) (c := 15) (id := 16) (m := 0) (j := 1) (r := []) (src := [.i 5, .d (.val (.int .u64 0)), .d (.val (.int .u64 0)), .d (.val (.int .u64 0)), .d (.val (.int .u64 0)), .i 0, .i (-1), .slL 13 0 1 8]); rfl; rfl; rfl; rfl; rfl; rfl; rfl; rfl; rfl; omega)
    | (apply r_ldL (v := .agg [.i 5, .d (.val (.int .u64 0)), .d (.val (.int .u64 0)), .d (.val (.int .u64 0)), .d (.val (.int .u64 0)), .i 0, .i (-1), .slL 13 0 1 8]); rfl; rfl; rfl)
    | (apply r_ldL; rfl; rfl; rfl)
    | (apply r_eql; rfl; rfl; (first | (apply decide_eq_true; omega) | (apply decide_eq_false; omega) | rfl))
    | (apply r_lss; rfl; rfl; (first | (apply decide_eq_true; omega) | (apply decide_eq_false; omega) | rfl))
    | (apply r_gtr; rfl; rfl; (first | (apply decide_eq_true; omega) | (apply decide_eq_false; omega) | rfl))
    | (apply r_sub; rfl; rfl; rfl; omega)
    | (apply r_lenD; rfl)
    | (apply r_lenL; rfl)
    | (apply r_len0; rfl)
    | (apply r_alloc; ((conv => lhs; simp only [Nat.reduceAdd]) <;> rfl); rfl)
    | (apply r_box; ((conv => lhs; simp only [Nat.reduceAdd]) <;> rfl); rfl; rfl; rfl)
    | (apply r_stL; rfl; rfl; rfl; rfl; (first | rfl | (simp only [z_nil, z_add] <;> rfl)); rfl; rfl)
    | (apply r_p; rfl)
    | (apply r_nilK)
    | (apply r_nil)
    | (apply k_V; rfl)
    | (apply k_P; rfl)
    | (apply k_PL; rfl)
    | (apply k_S; rfl)
    | (apply k_SL; rfl)
    | (apply k_A; rfl)
    | (apply k_T; rfl)
    | (apply k_F; rfl)
    | (apply k_D; rfl; rotate_left; rfl)
    | (apply k_nil)
    | (apply e_ret (vs := [.d (.val _)]); rfl)
    | (apply e_ret; rfl)
    | (apply e_ret' (vs := [.d (.val _)]); rfl)
    | (apply e_ret'; rfl)
    | (apply w_seq)
    | (apply w_ops; ((conv => lhs; simp only [Nat.reduceAdd]) <;> rfl))
    | (apply w_condT; rfl)
    | (apply w_condF; rfl)
    | ((apply w_condS; rfl) <;> (intro h; try simp only [decide_eq_true_eq, decide_eq_false_iff_not, Bool.not_eq_true, Bool.not_eq_false] at h))
    | (apply e_thenN)
    | (apply w_block)
    | (apply e_thenR)
    | (apply e_thenX)
    | (apply e_blkN)
    | (apply e_blkR)
    | (apply e_blkE)
    | (apply w_exit)
    | (apply w_ret)
    | (apply w_skip)
    | (apply e_blkE'; rfl))
    exact .data _ rfl
  | succ lo =>
    rw [er (by omega)]
    repeat' (first
    | (apply r_mvV; rfl)
    | (apply r_mvP; rfl)
    | (apply r_mvPL; rfl)
    | (apply r_mvS; rfl)
    | (apply r_mvSL; rfl)
    | (apply r_mvA; rfl)
    | (apply r_mvT; rfl)
    | (apply r_mvF; rfl)
    | (apply r_mvD; rfl)
    | (apply r_ldL (v := .agg [.i k, .d (.val (.int .u64 a)), .d (.val (.int .u64 b)), .d (.val (.int .u64 c)), .d (.val (.int .u64 d)), .i mn, .i mx, .d (.sl (encL subs) subs.length)]); rfl; rfl; rfl)
    | (apply r_n (v := .slL 4 0 1 8) (r := [.i k, .d (.val (.int .u64 a)), .d (.val (.int .u64 b)), .d (.val (.int .u64 c)), .d (.val (.int .u64 d)), .i mn, .i mx, .d (.sl (encL subs) subs.length)]); rfl)
    | (apply r_n (v := .slL 13 0 1 8) (r := [.i k, .d (.val (.int .u64 a)), .d (.val (.int .u64 b)), .d (.val (.int .u64 c)), .d (.val (.int .u64 d)), .i mn, .i mx, .d (.sl (encL subs) subs.length)]); rfl)
    | (apply r_p (v := .agg [.i 5, .d (.val (.int .u64 0)), .d (.val (.int .u64 0)), .d (.val (.int .u64 0)), .d (.val (.int .u64 0)), .i 0, .i (-1), .slL 13 0 1 8]); rfl)
    | (apply r_n (v := .slL 15 0 1 8) (r := [.i 5, .d (.val (.int .u64 0)), .d (.val (.int .u64 0)), .d (.val (.int .u64 0)), .d (.val (.int .u64 0)), .i 0, .i (-1), .slL 13 0 1 8]); rfl)
    | (apply r_callMN (id := 6) (us := [4]) (bs := [.d (.sl (encN (.node k a b c d mn mx subs)) 1), .i ((lo + 1 : Nat) : Int)]); rfl; rfl; rfl; exact h1; rfl)
    | (apply r_appN (b := 6) (c := 15) (id := 16) (m := lo + 1) (j := 1) (r := ((List.replicate (lo + 1) (encN (.node k a b c d mn mx subs))).flatten).map AV.d) (src := [.i 5, .d (.val (.int .u64 0)), .d (.val (.int .u64 0)), .d (.val (.int .u64 0)), .d (.val (.int .u64 0)), .i 0, .i (-1), .slL 13 0 1 8]); rfl; rfl; rfl; rfl; exact hl1; rfl; rfl; rfl; rfl; omega)
    | (apply r_p (v := .agg [.i 3, .d (.val (.int .u64 0)), .d (.val (.int .u64 0)), .d (.val (.int .u64 0)), .d (.val (.int .u64 0)), .i 0, .i 0, .slL 16 0 (lo + 1 + 1) 8]); rfl)
    | (apply r_ldL (v := .agg [.i 3, .d (.val (.int .u64 0)), .d (.val (.int .u64 0)), .d (.val (.int .u64 0)), .d (.val (.int .u64 0)), .i 0, .i 0, .slL 16 0 (lo + 1 + 1) 8]); rfl; rfl; rfl)
    | (apply r_ldL; rfl; rfl; rfl)
    | (apply r_eql; rfl; rfl; (first | (apply decide_eq_true; omega) | (apply decide_eq_false; omega) | rfl))
    | (apply r_lss; rfl; rfl; (first | (apply decide_eq_true; omega) | (apply decide_eq_false; omega) | rfl))
    | (apply r_gtr; rfl; rfl; (first | (apply decide_eq_true; omega) | (apply decide_eq_false; omega) | rfl))
    | (apply r_sub; rfl; rfl; rfl; omega)
    | (apply r_lenD; rfl)
    | (apply r_lenL; rfl)
    | (apply r_len0; rfl)
    | (apply r_alloc; ((conv => lhs; simp only [Nat.reduceAdd]) <;> rfl); rfl)
    | (apply r_box; ((conv => lhs; simp only [Nat.reduceAdd]) <;> rfl); rfl; rfl; rfl)
    | (apply r_stL; rfl; rfl; rfl; rfl; (first | rfl | (simp only [z_nil, z_add] <;> rfl)); rfl; rfl)
    | (apply r_p; rfl)
    | (apply r_nilK)
    | (apply r_nil)
    | (apply k_V; rfl)
    | (apply k_P; rfl)
    | (apply k_PL; rfl)
    | (apply k_S; rfl)
    | (apply k_SL; rfl)
    | (apply k_A; rfl)
    | (apply k_T; rfl)
    | (apply k_F; rfl)
    | (apply k_D; rfl; rotate_left; rfl)
    | (apply k_nil)
    | (apply e_ret (vs := [.d (.val _)]); rfl)
    | (apply e_ret; rfl)
    | (apply e_ret' (vs := [.d (.val _)]); rfl)
    | (apply e_ret'; rfl)
    | (apply w_seq)
    | (apply w_ops; ((conv => lhs; simp only [Nat.reduceAdd]) <;> rfl))
    | (apply w_condT; rfl)
    | (apply w_condF; rfl)
    | ((apply w_condS; rfl) <;> (intro h; try simp only [decide_eq_true_eq, decide_eq_false_iff_not, Bool.not_eq_true, Bool.not_eq_false] at h))
    | (apply e_thenN)
    | (apply w_block)
    | (apply e_thenR)
    | (apply e_thenX)
    | (apply e_blkN)
    | (apply e_blkR)
    | (apply e_blkE)
    | (apply w_exit)
    | (apply w_ret)
    | (apply w_skip)
    | (apply e_blkE'; rfl))
    refine ret_cat (id := 16) (row := ((List.replicate (lo + 1) (encN (.node k a b c d mn mx subs))).flatten).map AV.d ++ [.i 5, .d (.val (.int .u64 0)), .d (.val (.int .u64 0)), .d (.val (.int .u64 0)), .d (.val (.int .u64 0)), .i 0, .i (-1), .slL 13 0 1 8]) (us := [] ++ [13]) rfl (by simp) (by rw [List.length_append, hl1]; simp; omega) (by omega) ?_
    rw [encL_app]
    exact mapO_app _ _ _ _ _ _ _ (hm1 _) rfl
theorem rep_pos (t : T) (lo hi : Nat) (hlo : lo ≤ hi) (hhi : hi < 21) : Good Try.prog 147 [nodeA t, .i (lo : Nat), .i (hi : Nat)] none (nodeA (repT t lo (hi : Nat))) none none := by
  have hrp := repeat_good (encN t) (encN_len t) (by have := one_encL [t]; simpa [encL] using this)
  have h1 := hrp lo (by omega)
  obtain ⟨hl1, hm1⟩ := row_facts t lo
  clear hrp
  have hrp2 := repeat_good (encN (maybeN t)) (encN_len _) (by have := one_encL [maybeN t]; simpa [encL] using this)
  have h2 := hrp2 (hi - lo) (by omega)
  obtain ⟨hl2, hm2⟩ := row_facts (maybeN t) (hi - lo)
  clear hrp2
  have er : 2 ≤ hi → repT t lo (hi : Nat) = .node 3 0 0 0 0 0 0 (List.replicate lo t ++ List.replicate (hi - lo) (maybeN t)) := fun h => by
    have e : repRow t lo (hi : Nat) = List.replicate lo t ++ List.replicate (hi - lo) (maybeN t) := by
      rw [repRow, if_neg (by omega), Int.toNat_natCast]
    rw [repT_cat (by rw [e]; simp; omega), e]
  have one2 : (((List.replicate (hi - lo) (encN (maybeN t))).flatten).map AV.d).all AV.one = true := by rw [List.all_map]; simp [AV.one]
  have h2' : (hi : Int) - (lo : Int) = ((hi - lo : Nat) : Int) := by omega
  obtain ⟨k, a, b, c, d, mn, mx, subs⟩ := t
  have e0 : nodeA (.node k a b c d mn mx subs) = .agg [.i k, .d (.val (.int .u64 a)), .d (.val (.int .u64 b)), .d (.val (.int .u64 c)), .d (.val (.int .u64 d)), .i mn, .i mx, .d (.sl (encL subs) subs.length)] := rfl
  rw [e0]
  refine b147 (by simp) (by simp) (w_init ?_)
  unfold x147
  rcases Nat.lt_or_ge lo hi with hlt | hge
  · rcases Nat.lt_or_ge 1 hi with h3 | h3
    · rw [er h3]
      repeat' (first
    | (apply r_mvV; rfl)
    | (apply r_mvP; rfl)
    | (apply r_mvPL; rfl)
    | (apply r_mvS; rfl)
    | (apply r_mvSL; rfl)
    | (apply r_mvA; rfl)
    | (apply r_mvT; rfl)
    | (apply r_mvF; rfl)
    | (apply r_mvD; rfl)
    | (apply r_ldL (v := .agg [.i k, .d (.val (.int .u64 a)), .d (.val (.int .u64 b)), .d (.val (.int .u64 c)), .d (.val (.int .u64 d)), .i mn, .i mx, .d (.sl (encL subs) subs.length)]); rfl; rfl; rfl)
    | (apply r_n (v := .slL 4 0 1 8) (r := [.i k, .d (.val (.int .u64 a)), .d (.val (.int .u64 b)), .d (.val (.int .u64 c)), .d (.val (.int .u64 d)), .i mn, .i mx, .d (.sl (encL subs) subs.length)]); rfl)
    | (apply r_n (v := .slL 17 0 2 8) (r := [.i k, .d (.val (.int .u64 a)), .d (.val (.int .u64 b)), .d (.val (.int .u64 c)), .d (.val (.int .u64 d)), .i mn, .i mx, .d (.sl (encL subs) subs.length), .i 1, .d (.val (.int .u64 0)), .d (.val (.int .u64 0)), .d (.val (.int .u64 0)), .d (.val (.int .u64 0)), .i 0, .i 0, .d (.val (.slice none 0 0))]); rfl)
    | (apply r_p (v := .agg [.i 1, .d (.val (.int .u64 0)), .d (.val (.int .u64 0)), .d (.val (.int .u64 0)), .d (.val (.int .u64 0)), .i 0, .i 0, .d (.val (.slice none 0 0))]); rfl)
    | (apply r_p (v := .agg [.i 4, .d (.val (.int .u64 0)), .d (.val (.int .u64 0)), .d (.val (.int .u64 0)), .d (.val (.int .u64 0)), .i 0, .i 0, .slL 17 0 2 8]); rfl)
    | (apply r_n (v := .slL 23 0 1 8) (r := [.i 4, .d (.val (.int .u64 0)), .d (.val (.int .u64 0)), .d (.val (.int .u64 0)), .d (.val (.int .u64 0)), .i 0, .i 0, .slL 17 0 2 8]); rfl)
    | (apply r_ldL (v := .agg [.i 4, .d (.val (.int .u64 0)), .d (.val (.int .u64 0)), .d (.val (.int .u64 0)), .d (.val (.int .u64 0)), .i 0, .i 0, .slL 17 0 2 8]); rfl; rfl; rfl)
    | (apply r_callMN (id := 6) (us := [4]) (bs := [.d (.sl (encN (.node k a b c d mn mx subs)) 1), .i (lo : Nat)]); rfl; rfl; rfl; exact h1; rfl)
    | (apply r_sub (c := ((hi - lo : Nat) : Int)); rfl; rfl; exact h2'; omega)
    | (apply r_callMN (id := 27) (us := [23, 17]) (bs := [.d (.sl (encN (maybeN (.node k a b c d mn mx subs))) 1), .i ((hi - lo : Nat) : Int)]); rfl; rfl; rfl; exact h2; rfl)
    | (apply r_appN (b := 6) (c := 27) (id := 28) (m := lo) (j := hi - lo) (r := ((List.replicate lo (encN (.node k a b c d mn mx subs))).flatten).map AV.d) (src := ((List.replicate (hi - lo) (encN (maybeN (.node k a b c d mn mx subs)))).flatten).map AV.d); rfl; rfl; rfl; rfl; exact hl1; exact hl2; exact one2; rfl; rfl; omega)
    | (apply r_p (v := .agg [.i 3, .d (.val (.int .u64 0)), .d (.val (.int .u64 0)), .d (.val (.int .u64 0)), .d (.val (.int .u64 0)), .i 0, .i 0, .slL 28 0 (lo + (hi - lo)) 8]); rfl)
    | (apply r_ldL (v := .agg [.i 3, .d (.val (.int .u64 0)), .d (.val (.int .u64 0)), .d (.val (.int .u64 0)), .d (.val (.int .u64 0)), .i 0, .i 0, .slL 28 0 (lo + (hi - lo)) 8]); rfl; rfl; rfl)
    | (apply r_ldL; rfl; rfl; rfl)
    | (apply r_eql; rfl; rfl; (first | (apply decide_eq_true; omega) | (apply decide_eq_false; omega) | rfl))
    | (apply r_lss; rfl; rfl; (first | (apply decide_eq_true; omega) | (apply decide_eq_false; omega) | rfl))
    | (apply r_gtr; rfl; rfl; (first | (apply decide_eq_true; omega) | (apply decide_eq_false; omega) | rfl))
    | (apply r_sub; rfl; rfl; rfl; omega)
    | (apply r_lenD; rfl)
    | (apply r_lenL; rfl)
    | (apply r_len0; rfl)
    | (apply r_alloc; ((conv => lhs; simp only [Nat.reduceAdd]) <;> rfl); rfl)
    | (apply r_box; ((conv => lhs; simp only [Nat.reduceAdd]) <;> rfl); rfl; rfl; rfl)
    | (apply r_stL; rfl; rfl; rfl; rfl; (first | rfl | (simp only [z_nil, z_add] <;> rfl)); rfl; rfl)
    | (apply r_p; rfl)
    | (apply r_nilK)
    | (apply r_nil)
    | (apply k_V; rfl)
    | (apply k_P; rfl)
    | (apply k_PL; rfl)
    | (apply k_S; rfl)
    | (apply k_SL; rfl)
    | (apply k_A; rfl)
    | (apply k_T; rfl)
    | (apply k_F; rfl)
    | (apply k_D; rfl; rotate_left; rfl)
    | (apply k_nil)
    | (apply e_ret (vs := [.d (.val _)]); rfl)
    | (apply e_ret; rfl)
    | (apply e_ret' (vs := [.d (.val _)]); rfl)
    | (apply e_ret'; rfl)
    | (apply w_seq)
    | (apply w_ops; ((conv => lhs; simp only [Nat.reduceAdd]) <;> rfl))
    | (apply w_condT; rfl)
    | (apply w_condF; rfl)
    | ((apply w_condS; rfl) <;> (intro h; try simp only [decide_eq_true_eq, decide_eq_false_iff_not, Bool.not_eq_true, Bool.not_eq_false] at h))
    | (apply e_thenN)
    | (apply w_block)
    | (apply e_thenR)
    | (apply e_thenX)
    | (apply e_blkN)
    | (apply e_blkR)
    | (apply e_blkE)
    | (apply w_exit)
    | (apply w_ret)
    | (apply w_skip)
    | (apply e_blkE'; rfl))
      refine ret_cat (id := 28) (row := ((List.replicate lo (encN (.node k a b c d mn mx subs))).flatten).map AV.d ++ ((List.replicate (hi - lo) (encN (maybeN (.node k a b c d mn mx subs)))).flatten).map AV.d) (us := [] ++ []) rfl (by simp) (by rw [List.length_append, hl1, hl2]; omega) (by omega) ?_
      rw [encL_app]
      exact mapO_app _ _ _ _ _ _ _ (hm1 _) (hm2 _)
    · have e1 : hi = 1 := by omega
      have e2 : lo = 0 := by omega
      subst e1 e2
      repeat' (first
    | (apply r_mvV; rfl)
    | (apply r_mvP; rfl)
    | (apply r_mvPL; rfl)
    | (apply r_mvS; rfl)
    | (apply r_mvSL; rfl)
    | (apply r_mvA; rfl)
    | (apply r_mvT; rfl)
    | (apply r_mvF; rfl)
    | (apply r_mvD; rfl)
    | (apply r_ldL (v := .agg [.i k, .d (.val (.int .u64 a)), .d (.val (.int .u64 b)), .d (.val (.int .u64 c)), .d (.val (.int .u64 d)), .i mn, .i mx, .d (.sl (encL subs) subs.length)]); rfl; rfl; rfl)
    | (apply r_n (v := .slL 4 0 1 8) (r := [.i k, .d (.val (.int .u64 a)), .d (.val (.int .u64 b)), .d (.val (.int .u64 c)), .d (.val (.int .u64 d)), .i mn, .i mx, .d (.sl (encL subs) subs.length)]); rfl)
    | (apply r_n (v := .slL 17 0 2 8) (r := [.i k, .d (.val (.int .u64 a)), .d (.val (.int .u64 b)), .d (.val (.int .u64 c)), .d (.val (.int .u64 d)), .i mn, .i mx, .d (.sl (encL subs) subs.length), .i 1, .d (.val (.int .u64 0)), .d (.val (.int .u64 0)), .d (.val (.int .u64 0)), .d (.val (.int .u64 0)), .i 0, .i 0, .d (.val (.slice none 0 0))]); rfl)
    | (apply r_p (v := .agg [.i 1, .d (.val (.int .u64 0)), .d (.val (.int .u64 0)), .d (.val (.int .u64 0)), .d (.val (.int .u64 0)), .i 0, .i 0, .d (.val (.slice none 0 0))]); rfl)
    | (apply r_p (v := .agg [.i 4, .d (.val (.int .u64 0)), .d (.val (.int .u64 0)), .d (.val (.int .u64 0)), .d (.val (.int .u64 0)), .i 0, .i 0, .slL 17 0 2 8]); rfl)
    | (apply r_n (v := .slL 23 0 1 8) (r := [.i 4, .d (.val (.int .u64 0)), .d (.val (.int .u64 0)), .d (.val (.int .u64 0)), .d (.val (.int .u64 0)), .i 0, .i 0, .slL 17 0 2 8]); rfl)
    | (apply r_ldL (v := .agg [.i 4, .d (.val (.int .u64 0)), .d (.val (.int .u64 0)), .d (.val (.int .u64 0)), .d (.val (.int .u64 0)), .i 0, .i 0, .slL 17 0 2 8]); rfl; rfl; rfl)
    | (apply r_callMN (id := 6) (us := [4]) (bs := [.d (.sl (encN (.node k a b c d mn mx subs)) 1), .i (0 : Nat)]); rfl; rfl; rfl; exact h1; rfl)
    | (apply r_callMN (id := 27) (us := [23, 17]) (bs := [.d (.sl (encN (maybeN (.node k a b c d mn mx subs))) 1), .i (1 : Nat)]); rfl; rfl; rfl; exact h2; rfl)
    | (apply r_appN (b := 6) (c := 27) (id := 28) (m := 0) (j := 1) (r := []) (src := (encN (maybeN (.node k a b c d mn mx subs))).map AV.d); rfl; rfl; rfl; rfl; rfl; rfl; rfl; rfl; rfl; omega)
    | (apply r_ldL (v := nodeA (maybeN (.node k a b c d mn mx subs))); rfl; rfl; rfl)
    | (apply r_ldL; rfl; rfl; rfl)
    | (apply r_eql; rfl; rfl; (first | (apply decide_eq_true; omega) | (apply decide_eq_false; omega) | rfl))
    | (apply r_lss; rfl; rfl; (first | (apply decide_eq_true; omega) | (apply decide_eq_false; omega) | rfl))
    | (apply r_gtr; rfl; rfl; (first | (apply decide_eq_true; omega) | (apply decide_eq_false; omega) | rfl))
    | (apply r_sub; rfl; rfl; rfl; omega)
    | (apply r_lenD; rfl)
    | (apply r_lenL; rfl)
    | (apply r_len0; rfl)
    | (apply r_alloc; ((conv => lhs; simp only [Nat.reduceAdd]) <;> rfl); rfl)
    | (apply r_box; ((conv => lhs; simp only [Nat.reduceAdd]) <;> rfl); rfl; rfl; rfl)
    | (apply r_stL; rfl; rfl; rfl; rfl; (first | rfl | (simp only [z_nil, z_add] <;> rfl)); rfl; rfl)
    | (apply r_p; rfl)
    | (apply r_nilK)
    | (apply r_nil)
    | (apply k_V; rfl)
    | (apply k_P; rfl)
    | (apply k_PL; rfl)
    | (apply k_S; rfl)
    | (apply k_SL; rfl)
    | (apply k_A; rfl)
    | (apply k_T; rfl)
    | (apply k_F; rfl)
    | (apply k_D; rfl; rotate_left; rfl)
    | (apply k_nil)
    | (apply e_ret (vs := [.d (.val _)]); rfl)
    | (apply e_ret; rfl)
    | (apply e_ret' (vs := [.d (.val _)]); rfl)
    | (apply e_ret'; rfl)
    | (apply w_seq)
    | (apply w_ops; ((conv => lhs; simp only [Nat.reduceAdd]) <;> rfl))
    | (apply w_condT; rfl)
    | (apply w_condF; rfl)
    | ((apply w_condS; rfl) <;> (intro h; try simp only [decide_eq_true_eq, decide_eq_false_iff_not, Bool.not_eq_true, Bool.not_eq_false] at h))
    | (apply e_thenN)
    | (apply w_block)
    | (apply e_thenR)
    | (apply e_thenX)
    | (apply e_blkN)
    | (apply e_blkR)
    | (apply e_blkE)
    | (apply w_exit)
    | (apply w_ret)
    | (apply w_skip)
    | (apply e_blkE'; rfl))
      exact .data _ rfl
  · have e : hi = lo := by omega
    subst e
    rcases Nat.lt_or_ge 1 hi with h3 | h3
    · rw [er h3]
      repeat' (first
    | (apply r_mvV; rfl)
    | (apply r_mvP; rfl)
    | (apply r_mvPL; rfl)
    | (apply r_mvS; rfl)
    | (apply r_mvSL; rfl)
    | (apply r_mvA; rfl)
    | (apply r_mvT; rfl)
    | (apply r_mvF; rfl)
    | (apply r_mvD; rfl)
    | (apply r_ldL (v := .agg [.i k, .d (.val (.int .u64 a)), .d (.val (.int .u64 b)), .d (.val (.int .u64 c)), .d (.val (.int .u64 d)), .i mn, .i mx, .d (.sl (encL subs) subs.length)]); rfl; rfl; rfl)
    | (apply r_n (v := .slL 4 0 1 8) (r := [.i k, .d (.val (.int .u64 a)), .d (.val (.int .u64 b)), .d (.val (.int .u64 c)), .d (.val (.int .u64 d)), .i mn, .i mx, .d (.sl (encL subs) subs.length)]); rfl)
    | (apply r_callMN (id := 6) (us := [4]) (bs := [.d (.sl (encN (.node k a b c d mn mx subs)) 1), .i (hi : Nat)]); rfl; rfl; rfl; exact h1; rfl)
    | (apply r_p (v := .agg [.i 3, .d (.val (.int .u64 0)), .d (.val (.int .u64 0)), .d (.val (.int .u64 0)), .d (.val (.int .u64 0)), .i 0, .i 0, .slL 6 0 hi 8]); rfl)
    | (apply r_ldL (v := .agg [.i 3, .d (.val (.int .u64 0)), .d (.val (.int .u64 0)), .d (.val (.int .u64 0)), .d (.val (.int .u64 0)), .i 0, .i 0, .slL 6 0 hi 8]); rfl; rfl; rfl)
    | (apply r_ldL; rfl; rfl; rfl)
    | (apply r_eql; rfl; rfl; (first | (apply decide_eq_true; omega) | (apply decide_eq_false; omega) | rfl))
    | (apply r_lss; rfl; rfl; (first | (apply decide_eq_true; omega) | (apply decide_eq_false; omega) | rfl))
    | (apply r_gtr; rfl; rfl; (first | (apply decide_eq_true; omega) | (apply decide_eq_false; omega) | rfl))
    | (apply r_sub; rfl; rfl; rfl; omega)
    | (apply r_lenD; rfl)
    | (apply r_lenL; rfl)
    | (apply r_len0; rfl)
    | (apply r_alloc; ((conv => lhs; simp only [Nat.reduceAdd]) <;> rfl); rfl)
    | (apply r_box; ((conv => lhs; simp only [Nat.reduceAdd]) <;> rfl); rfl; rfl; rfl)
    | (apply r_stL; rfl; rfl; rfl; rfl; (first | rfl | (simp only [z_nil, z_add] <;> rfl)); rfl; rfl)
    | (apply r_p; rfl)
    | (apply r_nilK)
    | (apply r_nil)
    | (apply k_V; rfl)
    | (apply k_P; rfl)
    | (apply k_PL; rfl)
    | (apply k_S; rfl)
    | (apply k_SL; rfl)
    | (apply k_A; rfl)
    | (apply k_T; rfl)
    | (apply k_F; rfl)
    | (apply k_D; rfl; rotate_left; rfl)
    | (apply k_nil)
    | (apply e_ret (vs := [.d (.val _)]); rfl)
    | (apply e_ret; rfl)
    | (apply e_ret' (vs := [.d (.val _)]); rfl)
    | (apply e_ret'; rfl)
    | (apply w_seq)
    | (apply w_ops; ((conv => lhs; simp only [Nat.reduceAdd]) <;> rfl))
    | (apply w_condT; rfl)
    | (apply w_condF; rfl)
    | ((apply w_condS; rfl) <;> (intro h; try simp only [decide_eq_true_eq, decide_eq_false_iff_not, Bool.not_eq_true, Bool.not_eq_false] at h))
    | (apply e_thenN)
    | (apply w_block)
    | (apply e_thenR)
    | (apply e_thenX)
    | (apply e_blkN)
    | (apply e_blkR)
    | (apply e_blkE)
    | (apply w_exit)
    | (apply w_ret)
    | (apply w_skip)
    | (apply e_blkE'; rfl))
      refine ret_cat (id := 6) (row := ((List.replicate hi (encN (.node k a b c d mn mx subs))).flatten).map AV.d) (us := []) rfl (by simp) hl1 (by omega) ?_
      rw [Nat.sub_self, List.replicate_zero, List.append_nil]
      exact hm1 _
    · rcases Nat.lt_or_ge 0 hi with h4 | h4
      · have e1 : hi = 1 := by omega
        subst e1
        repeat' (first
    | (apply r_mvV; rfl)
    | (apply r_mvP; rfl)
    | (apply r_mvPL; rfl)
    | (apply r_mvS; rfl)
    | (apply r_mvSL; rfl)
    | (apply r_mvA; rfl)
    | (apply r_mvT; rfl)
    | (apply r_mvF; rfl)
    | (apply r_mvD; rfl)
    | (apply r_ldL (v := .agg [.i k, .d (.val (.int .u64 a)), .d (.val (.int .u64 b)), .d (.val (.int .u64 c)), .d (.val (.int .u64 d)), .i mn, .i mx, .d (.sl (encL subs) subs.length)]); rfl; rfl; rfl)
    | (apply r_n (v := .slL 4 0 1 8) (r := [.i k, .d (.val (.int .u64 a)), .d (.val (.int .u64 b)), .d (.val (.int .u64 c)), .d (.val (.int .u64 d)), .i mn, .i mx, .d (.sl (encL subs) subs.length)]); rfl)
    | (apply r_callMN (id := 6) (us := [4]) (bs := [.d (.sl (encN (.node k a b c d mn mx subs)) 1), .i (1 : Nat)]); rfl; rfl; rfl; exact h1; rfl)
    | (apply r_ldL; rfl; rfl; rfl)
    | (apply r_eql; rfl; rfl; (first | (apply decide_eq_true; omega) | (apply decide_eq_false; omega) | rfl))
    | (apply r_lss; rfl; rfl; (first | (apply decide_eq_true; omega) | (apply decide_eq_false; omega) | rfl))
    | (apply r_gtr; rfl; rfl; (first | (apply decide_eq_true; omega) | (apply decide_eq_false; omega) | rfl))
    | (apply r_sub; rfl; rfl; rfl; omega)
    | (apply r_lenD; rfl)
    | (apply r_lenL; rfl)
    | (apply r_len0; rfl)
    | (apply r_alloc; ((conv => lhs; simp only [Nat.reduceAdd]) <;> rfl); rfl)
    | (apply r_box; ((conv => lhs; simp only [Nat.reduceAdd]) <;> rfl); rfl; rfl; rfl)
    | (apply r_stL; rfl; rfl; rfl; rfl; (first | rfl | (simp only [z_nil, z_add] <;> rfl)); rfl; rfl)
    | (apply r_p; rfl)
    | (apply r_nilK)
    | (apply r_nil)
    | (apply k_V; rfl)
    | (apply k_P; rfl)
    | (apply k_PL; rfl)
    | (apply k_S; rfl)
    | (apply k_SL; rfl)
    | (apply k_A; rfl)
    | (apply k_T; rfl)
    | (apply k_F; rfl)
    | (apply k_D; rfl; rotate_left; rfl)
    | (apply k_nil)
    | (apply e_ret (vs := [.d (.val _)]); rfl)
    | (apply e_ret; rfl)
    | (apply e_ret' (vs := [.d (.val _)]); rfl)
    | (apply e_ret'; rfl)
    | (apply w_seq)
    | (apply w_ops; ((conv => lhs; simp only [Nat.reduceAdd]) <;> rfl))
    | (apply w_condT; rfl)
    | (apply w_condF; rfl)
    | ((apply w_condS; rfl) <;> (intro h; try simp only [decide_eq_true_eq, decide_eq_false_iff_not, Bool.not_eq_true, Bool.not_eq_false] at h))
    | (apply e_thenN)
    | (apply w_block)
    | (apply e_thenR)
    | (apply e_thenX)
    | (apply e_blkN)
    | (apply e_blkR)
    | (apply e_blkE)
    | (apply w_exit)
    | (apply w_ret)
    | (apply w_skip)
    | (apply e_blkE'; rfl))
        exact .data _ rfl
      · have e1 : hi = 0 := by omega
        subst e1
        repeat' (first
    | (apply r_mvV; rfl)
    | (apply r_mvP; rfl)
    | (apply r_mvPL; rfl)
    | (apply r_mvS; rfl)
    | (apply r_mvSL; rfl)
    | (apply r_mvA; rfl)
    | (apply r_mvT; rfl)
    | (apply r_mvF; rfl)
    | (apply r_mvD; rfl)
    | (apply r_ldL (v := .agg [.i k, .d (.val (.int .u64 a)), .d (.val (.int .u64 b)), .d (.val (.int .u64 c)), .d (.val (.int .u64 d)), .i mn, .i mx, .d (.sl (encL subs) subs.length)]); rfl; rfl; rfl)
    | (apply r_n (v := .slL 4 0 1 8) (r := [.i k, .d (.val (.int .u64 a)), .d (.val (.int .u64 b)), .d (.val (.int .u64 c)), .d (.val (.int .u64 d)), .i mn, .i mx, .d (.sl (encL subs) subs.length)]); rfl)
    | (apply r_callMN (id := 6) (us := [4]) (bs := [.d (.sl (encN (.node k a b c d mn mx subs)) 1), .i (0 : Nat)]); rfl; rfl; rfl; exact h1; rfl)
    | (apply r_p (v := .agg [.i 1, .d (.val (.int .u64 0)), .d (.val (.int .u64 0)), .d (.val (.int .u64 0)), .d (.val (.int .u64 0)), .i 0, .i 0, .d (.val (.slice none 0 0))]); rfl)
    | (apply r_ldL (v := .agg [.i 1, .d (.val (.int .u64 0)), .d (.val (.int .u64 0)), .d (.val (.int .u64 0)), .d (.val (.int .u64 0)), .i 0, .i 0, .d (.val (.slice none 0 0))]); rfl; rfl; rfl)
    | (apply r_ldL; rfl; rfl; rfl)
    | (apply r_eql; rfl; rfl; (first | (apply decide_eq_true; omega) | (apply decide_eq_false; omega) | rfl))
    | (apply r_lss; rfl; rfl; (first | (apply decide_eq_true; omega) | (apply decide_eq_false; omega) | rfl))
    | (apply r_gtr; rfl; rfl; (first | (apply decide_eq_true; omega) | (apply decide_eq_false; omega) | rfl))
    | (apply r_sub; rfl; rfl; rfl; omega)
    | (apply r_lenD; rfl)
    | (apply r_lenL; rfl)
    | (apply r_len0; rfl)
    | (apply r_alloc; ((conv => lhs; simp only [Nat.reduceAdd]) <;> rfl); rfl)
    | (apply r_box; ((conv => lhs; simp only [Nat.reduceAdd]) <;> rfl); rfl; rfl; rfl)
    | (apply r_stL; rfl; rfl; rfl; rfl; (first | rfl | (simp only [z_nil, z_add] <;> rfl)); rfl; rfl)
    | (apply r_p; rfl)
    | (apply r_nilK)
    | (apply r_nil)
    | (apply k_V; rfl)
    | (apply k_P; rfl)
    | (apply k_PL; rfl)
    | (apply k_S; rfl)
    | (apply k_SL; rfl)
    | (apply k_A; rfl)
    | (apply k_T; rfl)
    | (apply k_F; rfl)
    | (apply k_D; rfl; rotate_left; rfl)
    | (apply k_nil)
    | (apply e_ret (vs := [.d (.val _)]); rfl)
    | (apply e_ret; rfl)
    | (apply e_ret' (vs := [.d (.val _)]); rfl)
    | (apply e_ret'; rfl)
    | (apply w_seq)
    | (apply w_ops; ((conv => lhs; simp only [Nat.reduceAdd]) <;> rfl))
    | (apply w_condT; rfl)
    | (apply w_condF; rfl)
    | ((apply w_condS; rfl) <;> (intro h; try simp only [decide_eq_true_eq, decide_eq_false_iff_not, Bool.not_eq_true, Bool.not_eq_false] at h))
    | (apply e_thenN)
    | (apply w_block)
    | (apply e_thenR)
    | (apply e_thenX)
    | (apply e_blkN)
    | (apply e_blkR)
    | (apply e_blkE)
    | (apply w_exit)
    | (apply w_ret)
    | (apply w_skip)
    | (apply e_blkE'; rfl))
        exact .data _ rfl
end Go.Sv
