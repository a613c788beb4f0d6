/- A part of the proof of the law MeasureTells: that it answers true for every input, and that the input reads behind the call as before (no condition). -/
import Derived.Test.YtcnlgmajkclgjaaMeasureTellsG4
import Derived.Test.YtcnlgmajkclgjaaRows
import Derived.ProofKit
import Derived.OpenShut
set_option linter.all false
set_option linter.unusedSectionVars false
set_option linter.unusedVariables false
set_option linter.unusedSimpArgs false
namespace Go.Sv
open Go Go.Proofs
set_option maxRecDepth 100000
def x83 : XC := (.seq (.ops 1 [
    (0, ⟨(some 2), none, .alloc [(.int .i64 0), (.int .u64 0), (.int .u64 0), (.int .u64 0), (.int .u64 0), (.int .i64 0), (.int .i64 0), (.slice none 0 0)]⟩)] (some [0, 2])) (.seq (.ops 10 [
    (0, ⟨(some 7), none, .mv (.t 0)⟩),
    (1, ⟨(some 8), none, .call 118 [(.t 7)] none false⟩),
    (2, ⟨(some 6), none, .mv (.t 8)⟩),
    (3, ⟨(some 9), none, .ext (.t 6) 0⟩),
    (4, ⟨(some 10), none, .ext (.t 6) 1⟩),
    (5, ⟨(some 11), none, .ext (.t 6) 2⟩),
    (6, ⟨(some 3), none, .alloc [(.int .i64 0), (.int .u64 0), (.int .u64 0), (.int .u64 0), (.int .u64 0), (.int .i64 0), (.int .i64 0), (.slice none 0 0)]⟩),
    (7, ⟨none, none, .store 8 (.t 3) (.t 9)⟩),
    (8, ⟨(some 4), none, .mv (.t 10)⟩),
    (9, ⟨(some 5), none, .mv (.t 11)⟩)] (some [2, 3])) (.seq (.ops 2 [
    (0, ⟨(some 12), none, .load (some 8) (.t 3)⟩),
    (1, ⟨none, none, .store 8 (.t 2) (.t 12)⟩)] (some [2])) .ret)))
def md83 : FuncId → Option Nat × Bool
  | _ => (none, false)
def od83 : Nat → List (List Nat) × List Nat × Option (List Nat)
  | 0 => ([], [], some [0, 2])
  | 1 => ([], [], some [2, 3])
  | 2 => ([], [], some [2])
  | _ => ([], [], none)
theorem b83 {ags : List AV} {row : Option (List DV)} {r : AV} {row' nw : Option (List DV)} (hal : ags.length ≤ 13) (hrow : row'.isSome = true → row.isSome = true) (h : xwp Try.prog x83 (retK [.cell 2 (some 8)] row.isSome r row' nw) (St.init ags row)) : Good Try.prog 83 ags row r row' nw :=
  good_of_body' (md := md83) (od := od83) Try.f83 (by kernel_rfl) (by kernel_rfl) (by kernel_rfl) (by kernel_rfl) (by kernel_rfl) hal hrow h

def x119 : XC := (.seq (.ops 1 [
    (0, ⟨(some 4), none, .alloc [(.int .u64 0), (.int .u64 0), (.int .u64 0), (.int .u64 0)]⟩)] (some [0, 1, 4])) (.seq (.seq (.ops 3 [
    (0, ⟨(some 6), none, .mv (.t 0)⟩),
    (1, ⟨(some 7), none, .conv .i64 (.t 6)⟩),
    (2, ⟨(some 5), none, .mv (.t 7)⟩)] (some [1, 4, 5])) (.block 0 (.loop (.seq (.seq (.ops 4 [
    (0, ⟨(some 8), none, .mv (.t 5)⟩),
    (1, ⟨(some 9), none, .mv (.t 1)⟩),
    (2, ⟨(some 10), none, .conv .i64 (.t 9)⟩),
    (3, ⟨(some 11), none, .arith .leq (.t 8) (.t 10)⟩)] (some [1, 4, 5, 11])) (.cond (.t 11) .skip (.exit 0))) (.seq (.block 1 (.ops 10 [
    (0, ⟨(some 14), none, .mv (.t 5)⟩),
    (1, ⟨(some 15), none, .arith .quo (.t 14) (.k (.d (.val (.int .i64 64))))⟩),
    (2, ⟨(some 16), none, .idxP 4 1 (.t 4) (.t 15)⟩),
    (3, ⟨(some 17), none, .load none (.t 16)⟩),
    (4, ⟨(some 18), none, .mv (.t 5)⟩),
    (5, ⟨(some 19), none, .arith .rem (.t 18) (.k (.d (.val (.int .i64 64))))⟩),
    (6, ⟨(some 20), none, .arith .shl (.k (.d (.val (.int .u64 1)))) (.t 19)⟩),
    (7, ⟨(some 21), none, .arith .or (.t 17) (.t 20)⟩),
    (8, ⟨(some 22), none, .idxP 4 1 (.t 4) (.t 15)⟩),
    (9, ⟨none, none, .store 1 (.t 22) (.t 21)⟩)] (some [1, 4, 5]))) (.ops 3 [
    (0, ⟨(some 12), none, .mv (.t 5)⟩),
    (1, ⟨(some 13), none, .arith .add (.t 12) (.k (.d (.val (.int .i64 1))))⟩),
    (2, ⟨(some 5), none, .mv (.t 13)⟩)] (some [1, 4, 5]))))))) (.seq (.ops 2 [
    (0, ⟨(some 23), none, .load (some 4) (.t 4)⟩),
    (1, ⟨none, none, .store 4 (.t 4) (.t 23)⟩)] (some [4])) .ret)))
def md119 : FuncId → Option Nat × Bool
  | _ => (none, false)
def od119 : Nat → List (List Nat) × List Nat × Option (List Nat)
  | 0 => ([], [], some [0, 1, 4])
  | 1 => ([], [], some [1, 4, 5])
  | 2 => ([], [], some [1, 4, 5, 11])
  | 3 => ([], [], some [1, 4, 5])
  | 4 => ([[], [0], [0, 1], [0, 1, 2], [], [4], [4, 5], [0, 1, 2, 3, 4, 5, 6], [0, 1, 2, 3, 4, 5, 6, 7], [0, 1, 2, 3, 4, 5, 6, 7, 8]], [0, 1, 2, 3, 4, 5, 6, 7, 8, 9], some [1, 4, 5])
  | 5 => ([], [], some [4])
  | _ => ([], [], none)
theorem b119 {ags : List AV} {row : Option (List DV)} {r : AV} {row' nw : Option (List DV)} (hal : ags.length ≤ 24) (hrow : row'.isSome = true → row.isSome = true) (h : xwp Try.prog x119 (retK [.cell 4 (some 4)] row.isSome r row' nw) (St.init ags row)) : Good Try.prog 119 ags row r row' nw :=
  good_of_body' (md := md119) (od := od119) Try.f119 (by kernel_rfl) (by kernel_rfl) (by kernel_rfl) (by kernel_rfl) (by kernel_rfl) hal hrow h

def x149 : XC := (.seq (.ops 1 [
    (0, ⟨(some 2), none, .alloc [(.int .i64 0), (.int .u64 0), (.int .u64 0), (.int .u64 0), (.int .u64 0), (.int .i64 0), (.int .i64 0), (.slice none 0 0)]⟩)] (some [0, 2])) (.seq (.ops 4 [
    (0, ⟨(some 4), none, .mv (.t 0)⟩),
    (1, ⟨(some 5), none, .call 162 [(.t 4)] (some 0) false⟩),
    (2, ⟨(some 6), none, .mkrow [(.int .i64 0), (.int .u64 0), (.int .u64 0), (.int .u64 0), (.int .u64 0), (.int .i64 0), (.int .i64 0), (.slice none 0 0)] 1 8 [(0, 8, (.t 5))]⟩),
    (3, ⟨(some 3), none, .mv (.t 6)⟩)] (some [0, 2, 3])) (.seq (.block 0 (.loop (.seq (.seq (.ops 2 [
    (0, ⟨(some 7), none, .mv (.t 0)⟩),
    (1, ⟨(some 8), none, .call 163 [(.t 7), (.k (.d (.val (.int .u8 124))))] (some 0) false⟩)] (some [0, 2, 3, 8])) (.cond (.t 8) .skip (.exit 0))) (.block 1 (.ops 6 [
    (0, ⟨(some 9), none, .mv (.t 3)⟩),
    (1, ⟨(some 10), none, .mv (.t 0)⟩),
    (2, ⟨(some 11), none, .call 162 [(.t 10)] (some 0) false⟩),
    (3, ⟨(some 12), none, .mkrow [(.int .i64 0), (.int .u64 0), (.int .u64 0), (.int .u64 0), (.int .u64 0), (.int .i64 0), (.int .i64 0), (.slice none 0 0)] 1 8 [(0, 8, (.t 11))]⟩),
    (4, ⟨(some 13), none, .app [(.int .i64 0), (.int .u64 0), (.int .u64 0), (.int .u64 0), (.int .u64 0), (.int .i64 0), (.int .i64 0), (.slice none 0 0)] 80 (.t 9) (.t 12)⟩),
    (5, ⟨(some 3), none, .mv (.t 13)⟩)] (some [0, 2, 3])))))) (.seq (.ops 3 [
    (0, ⟨(some 14), none, .mv (.t 3)⟩),
    (1, ⟨(some 15), none, .call 164 [(.k (.d (.val (.int .i64 4)))), (.t 14)] none false⟩),
    (2, ⟨none, none, .store 8 (.t 2) (.t 15)⟩)] (some [2])) .ret))))
def md149 : FuncId → Option Nat × Bool
  | 162 => (some 0, false)
  | 163 => (some 0, false)
  | _ => (none, false)
def od149 : Nat → List (List Nat) × List Nat × Option (List Nat)
  | 0 => ([], [], some [0, 2])
  | 1 => ([], [], some [0, 2, 3])
  | 2 => ([], [], some [0, 2, 3, 8])
  | 3 => ([], [], some [0, 2, 3])
  | 4 => ([], [], some [2])
  | _ => ([], [], none)
theorem b149 {ags : List AV} {row : Option (List DV)} {r : AV} {row' nw : Option (List DV)} (hal : ags.length ≤ 16) (hrow : row'.isSome = true → row.isSome = true) (h : xwp Try.prog x149 (retK [.cell 2 (some 8)] row.isSome r row' nw) (St.init ags row)) : Good Try.prog 149 ags row r row' nw :=
  good_of_body' (md := md149) (od := od149) Try.f149 (by kernel_rfl) (by kernel_rfl) (by kernel_rfl) (by kernel_rfl) (by kernel_rfl) hal hrow h

def x150 : XC := (.seq (.ops 2 [
    (0, ⟨(some 6), none, .mv (.t 1)⟩),
    (1, ⟨(some 7), none, .un .not (.t 6)⟩)] (some [2, 7])) (.cond (.t 7) (.ops 3 [
    (0, ⟨(some 8), none, .mv (.t 2)⟩),
    (1, ⟨(some 9), none, .bad⟩),
    (2, ⟨none, none, .bad⟩)] (some [])) .skip))
def md150 : FuncId → Option Nat × Bool
  | _ => (none, false)
def od150 : Nat → List (List Nat) × List Nat × Option (List Nat)
  | 0 => ([], [], some [2, 7])
  | 1 => ([], [], some [])
  | _ => ([], [], none)
theorem b150 {ags : List AV} {row : Option (List DV)} {r : AV} {row' nw : Option (List DV)} (hal : ags.length ≤ 10) (hrow : row'.isSome = true → row.isSome = true) (h : xwp Try.prog x150 (retK [] row.isSome r row' nw) (St.init ags row)) : Good Try.prog 150 ags row r row' nw :=
  good_of_body' (md := md150) (od := od150) Try.f150 (by kernel_rfl) (by kernel_rfl) (by kernel_rfl) (by kernel_rfl) (by kernel_rfl) hal hrow h

def x162 : XC := (.seq (.ops 1 [
    (0, ⟨(some 2), none, .alloc [(.int .i64 0), (.int .u64 0), (.int .u64 0), (.int .u64 0), (.int .u64 0), (.int .i64 0), (.int .i64 0), (.slice none 0 0)]⟩)] (some [0, 2])) (.seq (.ops 1 [
    (0, ⟨(some 3), none, .mv (.k (.d (.val (.slice none 0 0))))⟩)] (some [0, 2, 3])) (.seq (.block 0 (.loop (.seq (.seq (.ops 3 [
    (0, ⟨(some 4), none, .mv (.t 0)⟩),
    (1, ⟨(some 5), none, .call 170 [(.t 4)] none false⟩),
    (2, ⟨(some 6), none, .un .not (.t 5)⟩)] (some [0, 2, 3, 6])) (.cond (.t 6) .skip (.exit 0))) (.block 1 (.ops 6 [
    (0, ⟨(some 7), none, .mv (.t 3)⟩),
    (1, ⟨(some 8), none, .mv (.t 0)⟩),
    (2, ⟨(some 9), none, .call 171 [(.t 8)] (some 0) false⟩),
    (3, ⟨(some 10), none, .mkrow [(.int .i64 0), (.int .u64 0), (.int .u64 0), (.int .u64 0), (.int .u64 0), (.int .i64 0), (.int .i64 0), (.slice none 0 0)] 1 8 [(0, 8, (.t 9))]⟩),
    (4, ⟨(some 11), none, .app [(.int .i64 0), (.int .u64 0), (.int .u64 0), (.int .u64 0), (.int .u64 0), (.int .i64 0), (.int .i64 0), (.slice none 0 0)] 80 (.t 7) (.t 10)⟩),
    (5, ⟨(some 3), none, .mv (.t 11)⟩)] (some [0, 2, 3])))))) (.seq (.ops 3 [
    (0, ⟨(some 12), none, .mv (.t 3)⟩),
    (1, ⟨(some 13), none, .call 164 [(.k (.d (.val (.int .i64 3)))), (.t 12)] none false⟩),
    (2, ⟨none, none, .store 8 (.t 2) (.t 13)⟩)] (some [2])) .ret))))
def md162 : FuncId → Option Nat × Bool
  | 171 => (some 0, false)
  | _ => (none, false)
def od162 : Nat → List (List Nat) × List Nat × Option (List Nat)
  | 0 => ([], [], some [0, 2])
  | 1 => ([], [], some [0, 2, 3])
  | 2 => ([], [], some [0, 2, 3, 6])
  | 3 => ([], [], some [0, 2, 3])
  | 4 => ([], [], some [2])
  | _ => ([], [], none)
theorem b162 {ags : List AV} {row : Option (List DV)} {r : AV} {row' nw : Option (List DV)} (hal : ags.length ≤ 14) (hrow : row'.isSome = true → row.isSome = true) (h : xwp Try.prog x162 (retK [.cell 2 (some 8)] row.isSome r row' nw) (St.init ags row)) : Good Try.prog 162 ags row r row' nw :=
  good_of_body' (md := md162) (od := od162) Try.f162 (by kernel_rfl) (by kernel_rfl) (by kernel_rfl) (by kernel_rfl) (by kernel_rfl) hal hrow h

def x163 : XC := (.seq (.ops 1 [
    (0, ⟨(some 4), none, .mv (.k (.d (.val (.bool false))))⟩)] (some [0, 1])) (.seq (.seq (.ops 5 [
    (0, ⟨(some 5), none, .mv (.t 0)⟩),
    (1, ⟨(some 6), none, .call 172 [(.t 5)] none false⟩),
    (2, ⟨(some 7), none, .mv (.t 1)⟩),
    (3, ⟨(some 8), none, .conv .i64 (.t 7)⟩),
    (4, ⟨(some 9), none, .arith .neq (.t 6) (.t 8)⟩)] (some [0, 9])) (.cond (.t 9) (.seq (.ops 1 [
    (0, ⟨(some 4), none, .mv (.k (.d (.val (.bool false))))⟩)] (some [4])) .ret) .skip)) (.seq (.ops 8 [
    (0, ⟨(some 10), none, .mv (.t 0)⟩),
    (1, ⟨(some 11), none, .nilck (.t 10)⟩),
    (2, ⟨(some 12), none, .fadd 1 (.t 11)⟩),
    (3, ⟨(some 13), none, .load none (.t 12)⟩),
    (4, ⟨(some 14), none, .arith .add (.t 13) (.k (.d (.val (.int .i64 1))))⟩),
    (5, ⟨(some 15), none, .nilck (.t 10)⟩),
    (6, ⟨(some 16), none, .fadd 1 (.t 15)⟩),
    (7, ⟨none, none, .store 1 (.t 16) (.t 14)⟩)] (some [])) (.seq (.ops 1 [
    (0, ⟨(some 4), none, .mv (.k (.d (.val (.bool true))))⟩)] (some [4])) .ret))))
def md163 : FuncId → Option Nat × Bool
  | _ => (none, false)
def od163 : Nat → List (List Nat) × List Nat × Option (List Nat)
  | 0 => ([], [], some [0, 1])
  | 1 => ([], [], some [0, 9])
  | 2 => ([], [], some [4])
  | 3 => ([], [], some [])
  | 4 => ([], [], some [4])
  | _ => ([], [], none)
theorem b163 {ags : List AV} {row : Option (List DV)} {r : AV} {row' nw : Option (List DV)} (hal : ags.length ≤ 17) (hrow : row'.isSome = true → row.isSome = true) (h : xwp Try.prog x163 (retK [.tmp 4] row.isSome r row' nw) (St.init ags row)) : Good Try.prog 163 ags row r row' nw :=
  good_of_body' (md := md163) (od := od163) Try.f163 (by kernel_rfl) (by kernel_rfl) (by kernel_rfl) (by kernel_rfl) (by kernel_rfl) hal hrow h

def x164 : XC := (.seq (.ops 1 [
    (0, ⟨(some 4), none, .alloc [(.int .i64 0), (.int .u64 0), (.int .u64 0), (.int .u64 0), (.int .u64 0), (.int .i64 0), (.int .i64 0), (.slice none 0 0)]⟩)] (some [0, 1, 4])) (.seq (.block 0 (.seq (.ops 4 [
    (0, ⟨(some 6), none, .mv (.t 1)⟩),
    (1, ⟨(some 7), none, .lenS (.t 6)⟩),
    (2, ⟨(some 8), none, .arith .eql (.t 7) (.k (.d (.val (.int .i64 0))))⟩),
    (3, ⟨(some 5), none, .mv (.t 8)⟩)] (some [0, 1, 4, 5])) (.cond (.t 5) (.seq (.ops 2 [
    (0, ⟨(some 9), none, .build [(.int .i64 0), (.int .u64 0), (.int .u64 0), (.int .u64 0), (.int .u64 0), (.int .i64 0), (.int .i64 0), (.slice none 0 0)] [(0, 1, (.k (.d (.val (.int .i64 1)))))]⟩),
    (1, ⟨none, none, .store 8 (.t 4) (.t 9)⟩)] (some [4])) .ret) (.seq (.ops 4 [
    (0, ⟨(some 11), none, .mv (.t 1)⟩),
    (1, ⟨(some 12), none, .lenS (.t 11)⟩),
    (2, ⟨(some 13), none, .arith .eql (.t 12) (.k (.d (.val (.int .i64 1))))⟩),
    (3, ⟨(some 10), none, .mv (.t 13)⟩)] (some [0, 1, 4, 10])) (.cond (.t 10) (.seq (.ops 4 [
    (0, ⟨(some 14), none, .mv (.t 1)⟩),
    (1, ⟨(some 15), none, .idxS 8 (.t 14) (.k (.d (.val (.int .i64 0))))⟩),
    (2, ⟨(some 16), none, .load (some 8) (.t 15)⟩),
    (3, ⟨none, none, .store 8 (.t 4) (.t 16)⟩)] (some [4])) .ret) .skip))))) (.seq (.ops 4 [
    (0, ⟨(some 17), none, .mv (.t 0)⟩),
    (1, ⟨(some 18), none, .mv (.t 1)⟩),
    (2, ⟨(some 19), none, .build [(.int .i64 0), (.int .u64 0), (.int .u64 0), (.int .u64 0), (.int .u64 0), (.int .i64 0), (.int .i64 0), (.slice none 0 0)] [(0, 1, (.t 17)), (7, 1, (.t 18))]⟩),
    (3, ⟨none, none, .store 8 (.t 4) (.t 19)⟩)] (some [4])) .ret)))
def md164 : FuncId → Option Nat × Bool
  | _ => (none, false)
def od164 : Nat → List (List Nat) × List Nat × Option (List Nat)
  | 0 => ([], [], some [0, 1, 4])
  | 1 => ([], [], some [0, 1, 4, 5])
  | 2 => ([], [], some [4])
  | 3 => ([], [], some [0, 1, 4, 10])
  | 4 => ([], [], some [4])
  | 5 => ([], [], some [4])
  | _ => ([], [], none)
theorem b164 {ags : List AV} {row : Option (List DV)} {r : AV} {row' nw : Option (List DV)} (hal : ags.length ≤ 20) (hrow : row'.isSome = true → row.isSome = true) (h : xwp Try.prog x164 (retK [.cell 4 (some 8)] row.isSome r row' nw) (St.init ags row)) : Good Try.prog 164 ags row r row' nw :=
  good_of_body' (md := md164) (od := od164) Try.f164 (by kernel_rfl) (by kernel_rfl) (by kernel_rfl) (by kernel_rfl) (by kernel_rfl) hal hrow h

def x170 : XC := (.seq (.ops 1 [
    (0, ⟨(some 2), none, .mv (.k (.d (.val (.bool false))))⟩)] (some [0])) (.seq (.ops 3 [
    (0, ⟨(some 4), none, .mv (.t 0)⟩),
    (1, ⟨(some 5), none, .call 172 [(.t 4)] none false⟩),
    (2, ⟨(some 3), none, .mv (.t 5)⟩)] (some [3])) (.seq (.ops 11 [
    (0, ⟨(some 6), none, .mv (.t 3)⟩),
    (1, ⟨(some 7), none, .arith .lss (.t 6) (.k (.d (.val (.int .i64 0))))⟩),
    (2, ⟨(some 8), none, .mv (.t 7)⟩),
    (3, ⟨(some 9), (some (8, false)), .mv (.t 3)⟩),
    (4, ⟨(some 10), (some (8, false)), .arith .eql (.t 9) (.k (.d (.val (.int .i64 124))))⟩),
    (5, ⟨(some 11), none, .pick (.t 8) (.k (.d (.val (.bool true)))) (.t 10)⟩),
    (6, ⟨(some 12), none, .mv (.t 11)⟩),
    (7, ⟨(some 13), (some (12, false)), .mv (.t 3)⟩),
    (8, ⟨(some 14), (some (12, false)), .arith .eql (.t 13) (.k (.d (.val (.int .i64 41))))⟩),
    (9, ⟨(some 15), none, .pick (.t 12) (.k (.d (.val (.bool true)))) (.t 14)⟩),
    (10, ⟨(some 2), none, .mv (.t 15)⟩)] (some [2])) .ret)))
def md170 : FuncId → Option Nat × Bool
  | _ => (none, false)
def od170 : Nat → List (List Nat) × List Nat × Option (List Nat)
  | 0 => ([], [], some [0])
  | 1 => ([], [], some [3])
  | 2 => ([], [], some [2])
  | _ => ([], [], none)
theorem b170 {ags : List AV} {row : Option (List DV)} {r : AV} {row' nw : Option (List DV)} (hal : ags.length ≤ 16) (hrow : row'.isSome = true → row.isSome = true) (h : xwp Try.prog x170 (retK [.tmp 2] row.isSome r row' nw) (St.init ags row)) : Good Try.prog 170 ags row r row' nw :=
  good_of_body' (md := md170) (od := od170) Try.f170 (by kernel_rfl) (by kernel_rfl) (by kernel_rfl) (by kernel_rfl) (by kernel_rfl) hal hrow h

def x171 : XC := (.seq (.ops 1 [
    (0, ⟨(some 2), none, .alloc [(.int .i64 0), (.int .u64 0), (.int .u64 0), (.int .u64 0), (.int .u64 0), (.int .i64 0), (.int .i64 0), (.slice none 0 0)]⟩)] (some [0, 2])) (.seq (.ops 4 [
    (0, ⟨(some 5), none, .mv (.t 0)⟩),
    (1, ⟨(some 6), none, .call 176 [(.t 5)] (some 0) false⟩),
    (2, ⟨(some 3), none, .alloc [(.int .i64 0), (.int .u64 0), (.int .u64 0), (.int .u64 0), (.int .u64 0), (.int .i64 0), (.int .i64 0), (.slice none 0 0)]⟩),
    (3, ⟨none, none, .store 8 (.t 3) (.t 6)⟩)] (some [0, 2, 3])) (.seq (.ops 5 [
    (0, ⟨(some 7), none, .load (some 8) (.t 3)⟩),
    (1, ⟨(some 8), none, .mkrow [(.int .i64 0), (.int .u64 0), (.int .u64 0), (.int .u64 0), (.int .u64 0), (.int .i64 0), (.int .i64 0), (.slice none 0 0)] 1 8 [(0, 8, (.t 7))]⟩),
    (2, ⟨(some 9), none, .build [(.int .i64 0), (.int .u64 0), (.int .u64 0), (.int .u64 0), (.int .u64 0), (.int .i64 0), (.int .i64 0), (.slice none 0 0)] [(0, 1, (.k (.d (.val (.int .i64 5))))), (6, 1, (.k (.d (.val (.int .i64 (-1)))))), (7, 1, (.t 8))]⟩),
    (3, ⟨(some 4), none, .alloc [(.int .i64 0), (.int .u64 0), (.int .u64 0), (.int .u64 0), (.int .u64 0), (.int .i64 0), (.int .i64 0), (.slice none 0 0)]⟩),
    (4, ⟨none, none, .store 8 (.t 4) (.t 9)⟩)] (some [0, 2, 3, 4])) (.seq (.block 0 (.seq (.ops 3 [
    (0, ⟨(some 12), none, .mv (.t 0)⟩),
    (1, ⟨(some 13), none, .call 163 [(.t 12), (.k (.d (.val (.int .u8 42))))] (some 0) false⟩),
    (2, ⟨(some 11), none, .mv (.t 13)⟩)] (some [0, 2, 3, 4, 11])) (.cond (.t 11) .skip (.seq (.ops 3 [
    (0, ⟨(some 15), none, .mv (.t 0)⟩),
    (1, ⟨(some 16), none, .call 163 [(.t 15), (.k (.d (.val (.int .u8 43))))] (some 0) false⟩),
    (2, ⟨(some 14), none, .mv (.t 16)⟩)] (some [0, 2, 3, 4, 14])) (.cond (.t 14) (.ops 2 [
    (0, ⟨(some 17), none, .fadd 5 (.t 4)⟩),
    (1, ⟨none, none, .store 1 (.t 17) (.k (.d (.val (.int .i64 1))))⟩)] (some [2, 4])) (.seq (.ops 3 [
    (0, ⟨(some 19), none, .mv (.t 0)⟩),
    (1, ⟨(some 20), none, .call 163 [(.t 19), (.k (.d (.val (.int .u8 63))))] (some 0) false⟩),
    (2, ⟨(some 18), none, .mv (.t 20)⟩)] (some [0, 2, 3, 4, 18])) (.cond (.t 18) (.ops 2 [
    (0, ⟨(some 21), none, .fadd 6 (.t 4)⟩),
    (1, ⟨none, none, .store 1 (.t 21) (.k (.d (.val (.int .i64 1))))⟩)] (some [2, 4])) (.seq (.ops 3 [
    (0, ⟨(some 23), none, .mv (.t 0)⟩),
    (1, ⟨(some 24), none, .call 163 [(.t 23), (.k (.d (.val (.int .u8 123))))] (some 0) false⟩),
    (2, ⟨(some 22), none, .mv (.t 24)⟩)] (some [0, 2, 3, 4, 22])) (.cond (.t 22) (.ops 9 [
    (0, ⟨(some 26), none, .mv (.t 0)⟩),
    (1, ⟨(some 27), none, .call 177 [(.t 26)] (some 0) false⟩),
    (2, ⟨(some 25), none, .mv (.t 27)⟩),
    (3, ⟨(some 28), none, .ext (.t 25) 0⟩),
    (4, ⟨(some 29), none, .ext (.t 25) 1⟩),
    (5, ⟨(some 30), none, .fadd 5 (.t 4)⟩),
    (6, ⟨none, none, .store 1 (.t 30) (.t 28)⟩),
    (7, ⟨(some 31), none, .fadd 6 (.t 4)⟩),
    (8, ⟨none, none, .store 1 (.t 31) (.t 29)⟩)] (some [2, 4])) (.seq (.ops 2 [
    (0, ⟨(some 10), none, .load (some 8) (.t 3)⟩),
    (1, ⟨none, none, .store 8 (.t 2) (.t 10)⟩)] (some [2])) .ret)))))))))) (.seq (.ops 2 [
    (0, ⟨(some 32), none, .load (some 8) (.t 4)⟩),
    (1, ⟨none, none, .store 8 (.t 2) (.t 32)⟩)] (some [2])) .ret)))))
def md171 : FuncId → Option Nat × Bool
  | 163 => (some 0, false)
  | 176 => (some 0, false)
  | 177 => (some 0, false)
  | _ => (none, false)
def od171 : Nat → List (List Nat) × List Nat × Option (List Nat)
  | 0 => ([], [], some [0, 2])
  | 1 => ([], [], some [0, 2, 3])
  | 2 => ([], [], some [0, 2, 3, 4])
  | 3 => ([], [], some [2])
  | 4 => ([], [], some [0, 2, 3, 4, 11])
  | 5 => ([], [], some [0, 2, 3, 4, 14])
  | 6 => ([], [], some [2, 4])
  | 7 => ([], [], some [0, 2, 3, 4, 18])
  | 8 => ([], [], some [2, 4])
  | 9 => ([], [], some [0, 2, 3, 4, 22])
  | 10 => ([], [], some [2, 4])
  | 11 => ([], [], some [2])
  | _ => ([], [], none)
theorem b171 {ags : List AV} {row : Option (List DV)} {r : AV} {row' nw : Option (List DV)} (hal : ags.length ≤ 33) (hrow : row'.isSome = true → row.isSome = true) (h : xwp Try.prog x171 (retK [.cell 2 (some 8)] row.isSome r row' nw) (St.init ags row)) : Good Try.prog 171 ags row r row' nw :=
  good_of_body' (md := md171) (od := od171) Try.f171 (by kernel_rfl) (by kernel_rfl) (by kernel_rfl) (by kernel_rfl) (by kernel_rfl) hal hrow h

def x172 : XC := (.seq (.ops 1 [
    (0, ⟨(some 2), none, .mv (.k (.d (.val (.int .i64 0))))⟩)] (some [0])) (.seq (.seq (.ops 10 [
    (0, ⟨(some 3), none, .mv (.t 0)⟩),
    (1, ⟨(some 4), none, .nilck (.t 3)⟩),
    (2, ⟨(some 5), none, .fadd 1 (.t 4)⟩),
    (3, ⟨(some 6), none, .load none (.t 5)⟩),
    (4, ⟨(some 7), none, .mv (.t 0)⟩),
    (5, ⟨(some 8), none, .nilck (.t 7)⟩),
    (6, ⟨(some 9), none, .fadd 0 (.t 8)⟩),
    (7, ⟨(some 10), none, .load none (.t 9)⟩),
    (8, ⟨(some 11), none, .lenT (.t 10)⟩),
    (9, ⟨(some 12), none, .arith .geq (.t 6) (.t 11)⟩)] (some [0, 12])) (.cond (.t 12) (.seq (.ops 1 [
    (0, ⟨(some 2), none, .mv (.k (.d (.val (.int .i64 (-1)))))⟩)] (some [2])) .ret) .skip)) (.seq (.ops 11 [
    (0, ⟨(some 13), none, .mv (.t 0)⟩),
    (1, ⟨(some 14), none, .nilck (.t 13)⟩),
    (2, ⟨(some 15), none, .fadd 0 (.t 14)⟩),
    (3, ⟨(some 16), none, .load none (.t 15)⟩),
    (4, ⟨(some 17), none, .mv (.t 0)⟩),
    (5, ⟨(some 18), none, .nilck (.t 17)⟩),
    (6, ⟨(some 19), none, .fadd 1 (.t 18)⟩),
    (7, ⟨(some 20), none, .load none (.t 19)⟩),
    (8, ⟨(some 21), none, .idxT (.t 16) (.t 20)⟩),
    (9, ⟨(some 22), none, .conv .i64 (.t 21)⟩),
    (10, ⟨(some 2), none, .mv (.t 22)⟩)] (some [2])) .ret)))
def md172 : FuncId → Option Nat × Bool
  | _ => (none, false)
def od172 : Nat → List (List Nat) × List Nat × Option (List Nat)
  | 0 => ([], [], some [0])
  | 1 => ([[], [0], [0, 1], [0, 1, 2], [], [4], [4, 5], [4, 5, 6], [4, 5, 6, 7], [0, 1, 2, 3, 4, 5, 6, 7, 8]], [0, 1, 2, 3, 4, 5, 6, 7, 8, 9], some [0, 12])
  | 2 => ([], [], some [2])
  | 3 => ([[], [0], [0, 1], [0, 1, 2], [], [4], [4, 5], [4, 5, 6], [0, 1, 2, 3, 4, 5, 6, 7], [0, 1, 2, 3, 4, 5, 6, 7, 8], [0, 1, 2, 3, 4, 5, 6, 7, 8, 9]], [0, 1, 2, 3, 4, 5, 6, 7, 8, 9, 10], some [2])
  | _ => ([], [], none)
theorem b172 {ags : List AV} {row : Option (List DV)} {r : AV} {row' nw : Option (List DV)} (hal : ags.length ≤ 23) (hrow : row'.isSome = true → row.isSome = true) (h : xwp Try.prog x172 (retK [.tmp 2] row.isSome r row' nw) (St.init ags row)) : Good Try.prog 172 ags row r row' nw :=
  good_of_body' (md := md172) (od := od172) Try.f172 (by kernel_rfl) (by kernel_rfl) (by kernel_rfl) (by kernel_rfl) (by kernel_rfl) hal hrow h

def x176 : XC := (.seq (.ops 1 [
    (0, ⟨(some 2), none, .alloc [(.int .i64 0), (.int .u64 0), (.int .u64 0), (.int .u64 0), (.int .u64 0), (.int .i64 0), (.int .i64 0), (.slice none 0 0)]⟩)] (some [0, 2])) (.seq (.block 0 (.seq (.ops 4 [
    (0, ⟨(some 5), none, .mv (.t 0)⟩),
    (1, ⟨(some 6), none, .call 172 [(.t 5)] none false⟩),
    (2, ⟨(some 7), none, .arith .eql (.t 6) (.k (.d (.val (.int .i64 40))))⟩),
    (3, ⟨(some 4), none, .mv (.t 7)⟩)] (some [0, 2, 4])) (.cond (.t 4) (.seq (.ops 11 [
    (0, ⟨(some 8), none, .mv (.t 0)⟩),
    (1, ⟨(some 9), none, .mv (.t 0)⟩),
    (2, ⟨(some 10), none, .nilck (.t 9)⟩),
    (3, ⟨(some 11), none, .fadd 2 (.t 10)⟩),
    (4, ⟨(some 12), none, .load none (.t 11)⟩),
    (5, ⟨(some 13), none, .arith .lss (.t 12) (.k (.d (.val (.int .i64 12))))⟩),
    (6, ⟨(some 14), none, .mv (.t 0)⟩),
    (7, ⟨(some 15), none, .nilck (.t 14)⟩),
    (8, ⟨(some 16), none, .fadd 1 (.t 15)⟩),
    (9, ⟨(some 17), none, .load none (.t 16)⟩),
    (10, ⟨(some 18), none, .call 150 [(.t 8), (.t 13), (.t 17)] none false⟩)] (some [0, 2])) (.seq (.ops 8 [
    (0, ⟨(some 19), none, .mv (.t 0)⟩),
    (1, ⟨(some 20), none, .nilck (.t 19)⟩),
    (2, ⟨(some 21), none, .fadd 1 (.t 20)⟩),
    (3, ⟨(some 22), none, .load none (.t 21)⟩),
    (4, ⟨(some 23), none, .arith .add (.t 22) (.k (.d (.val (.int .i64 1))))⟩),
    (5, ⟨(some 24), none, .nilck (.t 19)⟩),
    (6, ⟨(some 25), none, .fadd 1 (.t 24)⟩),
    (7, ⟨none, none, .store 1 (.t 25) (.t 23)⟩)] (some [0, 2])) (.seq (.ops 8 [
    (0, ⟨(some 26), none, .mv (.t 0)⟩),
    (1, ⟨(some 27), none, .nilck (.t 26)⟩),
    (2, ⟨(some 28), none, .fadd 2 (.t 27)⟩),
    (3, ⟨(some 29), none, .load none (.t 28)⟩),
    (4, ⟨(some 30), none, .arith .add (.t 29) (.k (.d (.val (.int .i64 1))))⟩),
    (5, ⟨(some 31), none, .nilck (.t 26)⟩),
    (6, ⟨(some 32), none, .fadd 2 (.t 31)⟩),
    (7, ⟨none, none, .store 1 (.t 32) (.t 30)⟩)] (some [0, 2])) (.seq (.ops 4 [
    (0, ⟨(some 33), none, .mv (.t 0)⟩),
    (1, ⟨(some 34), none, .call 149 [(.t 33)] (some 0) false⟩),
    (2, ⟨(some 3), none, .alloc [(.int .i64 0), (.int .u64 0), (.int .u64 0), (.int .u64 0), (.int .u64 0), (.int .i64 0), (.int .i64 0), (.slice none 0 0)]⟩),
    (3, ⟨none, none, .store 8 (.t 3) (.t 34)⟩)] (some [0, 2, 3])) (.seq (.ops 8 [
    (0, ⟨(some 35), none, .mv (.t 0)⟩),
    (1, ⟨(some 36), none, .nilck (.t 35)⟩),
    (2, ⟨(some 37), none, .fadd 2 (.t 36)⟩),
    (3, ⟨(some 38), none, .load none (.t 37)⟩),
    (4, ⟨(some 39), none, .arith .sub (.t 38) (.k (.d (.val (.int .i64 1))))⟩),
    (5, ⟨(some 40), none, .nilck (.t 35)⟩),
    (6, ⟨(some 41), none, .fadd 2 (.t 40)⟩),
    (7, ⟨none, none, .store 1 (.t 41) (.t 39)⟩)] (some [0, 2, 3])) (.seq (.ops 2 [
    (0, ⟨(some 42), none, .mv (.t 0)⟩),
    (1, ⟨(some 43), none, .call 178 [(.t 42), (.k (.d (.val (.int .u8 41))))] (some 0) false⟩)] (some [2, 3])) (.seq (.ops 2 [
    (0, ⟨(some 44), none, .load (some 8) (.t 3)⟩),
    (1, ⟨none, none, .store 8 (.t 2) (.t 44)⟩)] (some [2])) .ret))))))) (.seq (.ops 3 [
    (0, ⟨(some 46), none, .mv (.t 0)⟩),
    (1, ⟨(some 47), none, .call 163 [(.t 46), (.k (.d (.val (.int .u8 46))))] (some 0) false⟩),
    (2, ⟨(some 45), none, .mv (.t 47)⟩)] (some [0, 2, 45])) (.cond (.t 45) (.seq (.ops 3 [
    (0, ⟨(some 48), none, .call 119 [(.k (.d (.val (.int .u8 0)))), (.k (.d (.val (.int .u8 255))))] none false⟩),
    (1, ⟨(some 49), none, .build [(.int .i64 0), (.int .u64 0), (.int .u64 0), (.int .u64 0), (.int .u64 0), (.int .i64 0), (.int .i64 0), (.slice none 0 0)] [(0, 1, (.k (.d (.val (.int .i64 2))))), (1, 4, (.t 48))]⟩),
    (2, ⟨none, none, .store 8 (.t 2) (.t 49)⟩)] (some [2])) .ret) (.seq (.ops 3 [
    (0, ⟨(some 51), none, .mv (.t 0)⟩),
    (1, ⟨(some 52), none, .call 163 [(.t 51), (.k (.d (.val (.int .u8 91))))] (some 0) false⟩),
    (2, ⟨(some 50), none, .mv (.t 52)⟩)] (some [0, 2, 50])) (.cond (.t 50) (.seq (.ops 4 [
    (0, ⟨(some 53), none, .mv (.t 0)⟩),
    (1, ⟨(some 54), none, .call 179 [(.t 53)] (some 0) false⟩),
    (2, ⟨(some 55), none, .build [(.int .i64 0), (.int .u64 0), (.int .u64 0), (.int .u64 0), (.int .u64 0), (.int .i64 0), (.int .i64 0), (.slice none 0 0)] [(0, 1, (.k (.d (.val (.int .i64 2))))), (1, 4, (.t 54))]⟩),
    (3, ⟨none, none, .store 8 (.t 2) (.t 55)⟩)] (some [2])) .ret) .skip))))))) (.seq (.ops 5 [
    (0, ⟨(some 56), none, .mv (.t 0)⟩),
    (1, ⟨(some 57), none, .call 181 [(.t 56)] (some 0) false⟩),
    (2, ⟨(some 58), none, .call 180 [(.t 57)] none false⟩),
    (3, ⟨(some 59), none, .build [(.int .i64 0), (.int .u64 0), (.int .u64 0), (.int .u64 0), (.int .u64 0), (.int .i64 0), (.int .i64 0), (.slice none 0 0)] [(0, 1, (.k (.d (.val (.int .i64 2))))), (1, 4, (.t 58))]⟩),
    (4, ⟨none, none, .store 8 (.t 2) (.t 59)⟩)] (some [2])) .ret)))
def md176 : FuncId → Option Nat × Bool
  | 149 => (some 0, false)
  | 163 => (some 0, false)
  | 178 => (some 0, false)
  | 179 => (some 0, false)
  | 181 => (some 0, false)
  | _ => (none, false)
def od176 : Nat → List (List Nat) × List Nat × Option (List Nat)
  | 0 => ([], [], some [0, 2])
  | 1 => ([], [], some [0, 2, 4])
  | 2 => ([[], [], [1], [1, 2], [1, 2, 3], [1, 2, 3, 4], [], [6], [6, 7], [6, 7, 8], [0, 1, 2, 3, 4, 5, 6, 7, 8, 9]], [0, 1, 2, 3, 4, 5, 6, 7, 8, 9, 10], some [0, 2])
  | 3 => ([], [], some [0, 2])
  | 4 => ([], [], some [0, 2])
  | 5 => ([], [], some [0, 2, 3])
  | 6 => ([], [], some [0, 2, 3])
  | 7 => ([], [], some [2, 3])
  | 8 => ([], [], some [2])
  | 9 => ([], [], some [0, 2, 45])
  | 10 => ([], [], some [2])
  | 11 => ([], [], some [0, 2, 50])
  | 12 => ([], [], some [2])
  | 13 => ([], [], some [2])
  | _ => ([], [], none)
theorem b176 {ags : List AV} {row : Option (List DV)} {r : AV} {row' nw : Option (List DV)} (hal : ags.length ≤ 60) (hrow : row'.isSome = true → row.isSome = true) (h : xwp Try.prog x176 (retK [.cell 2 (some 8)] row.isSome r row' nw) (St.init ags row)) : Good Try.prog 176 ags row r row' nw :=
  good_of_body' (md := md176) (od := od176) Try.f176 (by kernel_rfl) (by kernel_rfl) (by kernel_rfl) (by kernel_rfl) (by kernel_rfl) hal hrow h

def x177 : XC := (.seq (.ops 2 [
    (0, ⟨(some 2), none, .mv (.k (.d (.val (.int .i64 0))))⟩),
    (1, ⟨(some 3), none, .mv (.k (.d (.val (.int .i64 0))))⟩)] (some [0])) (.seq (.ops 3 [
    (0, ⟨(some 5), none, .mv (.t 0)⟩),
    (1, ⟨(some 6), none, .call 182 [(.t 5)] (some 0) false⟩),
    (2, ⟨(some 2), none, .mv (.t 6)⟩)] (some [0, 2])) (.seq (.ops 2 [
    (0, ⟨(some 7), none, .mv (.t 2)⟩),
    (1, ⟨(some 3), none, .mv (.t 7)⟩)] (some [0, 2, 3])) (.seq (.seq (.ops 2 [
    (0, ⟨(some 8), none, .mv (.t 0)⟩),
    (1, ⟨(some 9), none, .call 163 [(.t 8), (.k (.d (.val (.int .u8 44))))] (some 0) false⟩)] (some [0, 2, 3, 9])) (.cond (.t 9) (.seq (.ops 1 [
    (0, ⟨(some 3), none, .mv (.k (.d (.val (.int .i64 (-1)))))⟩)] (some [0, 2, 3])) (.seq (.ops 3 [
    (0, ⟨(some 10), none, .mv (.t 0)⟩),
    (1, ⟨(some 11), none, .call 172 [(.t 10)] none false⟩),
    (2, ⟨(some 12), none, .arith .neq (.t 11) (.k (.d (.val (.int .i64 125))))⟩)] (some [0, 2, 3, 12])) (.cond (.t 12) (.seq (.ops 5 [
    (0, ⟨(some 13), none, .mv (.t 0)⟩),
    (1, ⟨(some 14), none, .nilck (.t 13)⟩),
    (2, ⟨(some 15), none, .fadd 1 (.t 14)⟩),
    (3, ⟨(some 16), none, .load none (.t 15)⟩),
    (4, ⟨(some 4), none, .mv (.t 16)⟩)] (some [0, 2, 4])) (.seq (.ops 3 [
    (0, ⟨(some 17), none, .mv (.t 0)⟩),
    (1, ⟨(some 18), none, .call 182 [(.t 17)] (some 0) false⟩),
    (2, ⟨(some 3), none, .mv (.t 18)⟩)] (some [0, 2, 3, 4])) (.ops 6 [
    (0, ⟨(some 19), none, .mv (.t 0)⟩),
    (1, ⟨(some 20), none, .mv (.t 3)⟩),
    (2, ⟨(some 21), none, .mv (.t 2)⟩),
    (3, ⟨(some 22), none, .arith .geq (.t 20) (.t 21)⟩),
    (4, ⟨(some 23), none, .mv (.t 4)⟩),
    (5, ⟨(some 24), none, .call 150 [(.t 19), (.t 22), (.t 23)] none false⟩)] (some [0, 2, 3])))) .skip))) .skip)) (.seq (.ops 2 [
    (0, ⟨(some 25), none, .mv (.t 0)⟩),
    (1, ⟨(some 26), none, .call 178 [(.t 25), (.k (.d (.val (.int .u8 125))))] (some 0) false⟩)] (some [2, 3])) (.seq (.ops 4 [
    (0, ⟨(some 27), none, .mv (.t 2)⟩),
    (1, ⟨(some 28), none, .mv (.t 3)⟩),
    (2, ⟨(some 2), none, .mv (.t 27)⟩),
    (3, ⟨(some 3), none, .mv (.t 28)⟩)] (some [2, 3])) .ret))))))
def md177 : FuncId → Option Nat × Bool
  | 163 => (some 0, false)
  | 178 => (some 0, false)
  | 182 => (some 0, false)
  | _ => (none, false)
def od177 : Nat → List (List Nat) × List Nat × Option (List Nat)
  | 0 => ([], [], some [0])
  | 1 => ([], [], some [0, 2])
  | 2 => ([], [], some [0, 2, 3])
  | 3 => ([], [], some [0, 2, 3, 9])
  | 4 => ([], [], some [0, 2, 3])
  | 5 => ([], [], some [0, 2, 3, 12])
  | 6 => ([], [], some [0, 2, 4])
  | 7 => ([], [], some [0, 2, 3, 4])
  | 8 => ([], [], some [0, 2, 3])
  | 9 => ([], [], some [2, 3])
  | 10 => ([], [], some [2, 3])
  | _ => ([], [], none)
theorem b177 {ags : List AV} {row : Option (List DV)} {r : AV} {row' nw : Option (List DV)} (hal : ags.length ≤ 29) (hrow : row'.isSome = true → row.isSome = true) (h : xwp Try.prog x177 (retK [.tmp 2, .tmp 3] row.isSome r row' nw) (St.init ags row)) : Good Try.prog 177 ags row r row' nw :=
  good_of_body' (md := md177) (od := od177) Try.f177 (by kernel_rfl) (by kernel_rfl) (by kernel_rfl) (by kernel_rfl) (by kernel_rfl) hal hrow h

def x178 : XC := (.seq (.ops 4 [
    (0, ⟨(some 5), none, .mv (.t 0)⟩),
    (1, ⟨(some 6), none, .mv (.t 1)⟩),
    (2, ⟨(some 7), none, .call 163 [(.t 5), (.t 6)] (some 0) false⟩),
    (3, ⟨(some 4), none, .mv (.t 7)⟩)] (some [0, 4])) (.ops 7 [
    (0, ⟨(some 8), none, .mv (.t 0)⟩),
    (1, ⟨(some 9), none, .mv (.t 4)⟩),
    (2, ⟨(some 10), none, .mv (.t 0)⟩),
    (3, ⟨(some 11), none, .nilck (.t 10)⟩),
    (4, ⟨(some 12), none, .fadd 1 (.t 11)⟩),
    (5, ⟨(some 13), none, .load none (.t 12)⟩),
    (6, ⟨(some 14), none, .call 150 [(.t 8), (.t 9), (.t 13)] none false⟩)] (some [])))
def md178 : FuncId → Option Nat × Bool
  | 163 => (some 0, false)
  | _ => (none, false)
def od178 : Nat → List (List Nat) × List Nat × Option (List Nat)
  | 0 => ([], [], some [0, 4])
  | 1 => ([], [], some [])
  | _ => ([], [], none)
theorem b178 {ags : List AV} {row : Option (List DV)} {r : AV} {row' nw : Option (List DV)} (hal : ags.length ≤ 15) (hrow : row'.isSome = true → row.isSome = true) (h : xwp Try.prog x178 (retK [] row.isSome r row' nw) (St.init ags row)) : Good Try.prog 178 ags row r row' nw :=
  good_of_body' (md := md178) (od := od178) Try.f178 (by kernel_rfl) (by kernel_rfl) (by kernel_rfl) (by kernel_rfl) (by kernel_rfl) hal hrow h

def x179 : XC := (.seq (.ops 1 [
    (0, ⟨(some 2), none, .alloc [(.int .u64 0), (.int .u64 0), (.int .u64 0), (.int .u64 0)]⟩)] (some [0, 2])) (.seq (.ops 3 [
    (0, ⟨(some 4), none, .mv (.t 0)⟩),
    (1, ⟨(some 5), none, .call 163 [(.t 4), (.k (.d (.val (.int .u8 94))))] (some 0) false⟩),
    (2, ⟨(some 3), none, .mv (.t 5)⟩)] (some [0, 2, 3])) (.seq (.block 0 (.loop (.seq (.seq (.ops 3 [
    (0, ⟨(some 6), none, .mv (.t 0)⟩),
    (1, ⟨(some 7), none, .call 172 [(.t 6)] none false⟩),
    (2, ⟨(some 8), none, .arith .neq (.t 7) (.k (.d (.val (.int .i64 93))))⟩)] (some [0, 2, 3, 8])) (.cond (.t 8) .skip (.exit 0))) (.block 1 (.ops 5 [
    (0, ⟨(some 9), none, .load (some 4) (.t 2)⟩),
    (1, ⟨(some 10), none, .mv (.t 0)⟩),
    (2, ⟨(some 11), none, .callA 183 [(.t 10)] 0 [2]⟩),
    (3, ⟨(some 12), none, .call 73 [(.t 9), (.t 11)] none false⟩),
    (4, ⟨none, none, .store 4 (.t 2) (.t 12)⟩)] (some [0, 2, 3])))))) (.seq (.ops 2 [
    (0, ⟨(some 13), none, .mv (.t 0)⟩),
    (1, ⟨(some 14), none, .call 178 [(.t 13), (.k (.d (.val (.int .u8 93))))] (some 0) false⟩)] (some [2, 3])) (.seq (.seq (.ops 1 [
    (0, ⟨(some 15), none, .mv (.t 3)⟩)] (some [2, 15])) (.cond (.t 15) (.ops 3 [
    (0, ⟨(some 16), none, .load (some 4) (.t 2)⟩),
    (1, ⟨(some 17), none, .call 184 [(.t 16)] none false⟩),
    (2, ⟨none, none, .store 4 (.t 2) (.t 17)⟩)] (some [2])) .skip)) (.seq (.ops 2 [
    (0, ⟨(some 18), none, .load (some 4) (.t 2)⟩),
    (1, ⟨none, none, .store 4 (.t 2) (.t 18)⟩)] (some [2])) .ret))))))
def md179 : FuncId → Option Nat × Bool
  | 163 => (some 0, false)
  | 178 => (some 0, false)
  | 183 => (some 0, false)
  | _ => (none, false)
def od179 : Nat → List (List Nat) × List Nat × Option (List Nat)
  | 0 => ([], [], some [0, 2])
  | 1 => ([], [], some [0, 2, 3])
  | 2 => ([], [], some [0, 2, 3, 8])
  | 3 => ([[], [], [1], [0, 1, 2], [0, 1, 2, 3]], [0, 1, 2, 3, 4], some [0, 2, 3])
  | 4 => ([], [], some [2, 3])
  | 5 => ([], [], some [2, 15])
  | 6 => ([], [], some [2])
  | 7 => ([], [], some [2])
  | _ => ([], [], none)
theorem b179 {ags : List AV} {row : Option (List DV)} {r : AV} {row' nw : Option (List DV)} (hal : ags.length ≤ 19) (hrow : row'.isSome = true → row.isSome = true) (h : xwp Try.prog x179 (retK [.cell 2 (some 4)] row.isSome r row' nw) (St.init ags row)) : Good Try.prog 179 ags row r row' nw :=
  good_of_body' (md := md179) (od := od179) Try.f179 (by kernel_rfl) (by kernel_rfl) (by kernel_rfl) (by kernel_rfl) (by kernel_rfl) hal hrow h

def x180 : XC := (.seq (.ops 1 [
    (0, ⟨(some 2), none, .alloc [(.int .u64 0), (.int .u64 0), (.int .u64 0), (.int .u64 0)]⟩)] (some [0, 2])) (.seq (.ops 7 [
    (0, ⟨(some 3), none, .mv (.t 0)⟩),
    (1, ⟨(some 4), none, .arith .quo (.t 3) (.k (.d (.val (.int .u8 64))))⟩),
    (2, ⟨(some 5), none, .mv (.t 0)⟩),
    (3, ⟨(some 6), none, .arith .rem (.t 5) (.k (.d (.val (.int .u8 64))))⟩),
    (4, ⟨(some 7), none, .arith .shl (.k (.d (.val (.int .u64 1)))) (.t 6)⟩),
    (5, ⟨(some 8), none, .idxP 4 1 (.t 2) (.t 4)⟩),
    (6, ⟨none, none, .store 1 (.t 8) (.t 7)⟩)] (some [2])) (.seq (.ops 2 [
    (0, ⟨(some 9), none, .load (some 4) (.t 2)⟩),
    (1, ⟨none, none, .store 4 (.t 2) (.t 9)⟩)] (some [2])) .ret)))
def md180 : FuncId → Option Nat × Bool
  | _ => (none, false)
def od180 : Nat → List (List Nat) × List Nat × Option (List Nat)
  | 0 => ([], [], some [0, 2])
  | 1 => ([], [], some [2])
  | 2 => ([], [], some [2])
  | _ => ([], [], none)
theorem b180 {ags : List AV} {row : Option (List DV)} {r : AV} {row' nw : Option (List DV)} (hal : ags.length ≤ 10) (hrow : row'.isSome = true → row.isSome = true) (h : xwp Try.prog x180 (retK [.cell 2 (some 4)] row.isSome r row' nw) (St.init ags row)) : Good Try.prog 180 ags row r row' nw :=
  good_of_body' (md := md180) (od := od180) Try.f180 (by kernel_rfl) (by kernel_rfl) (by kernel_rfl) (by kernel_rfl) (by kernel_rfl) hal hrow h

def x181 : XC := (.seq (.ops 1 [
    (0, ⟨(some 2), none, .mv (.k (.d (.val (.int .u8 0))))⟩)] (some [0])) (.seq (.ops 3 [
    (0, ⟨(some 4), none, .mv (.t 0)⟩),
    (1, ⟨(some 5), none, .call 172 [(.t 4)] none false⟩),
    (2, ⟨(some 3), none, .mv (.t 5)⟩)] (some [0, 3])) (.seq (.seq (.ops 2 [
    (0, ⟨(some 6), none, .mv (.t 0)⟩),
    (1, ⟨(some 7), none, .call 163 [(.t 6), (.k (.d (.val (.int .u8 92))))] (some 0) false⟩)] (some [0, 3, 7])) (.cond (.t 7) (.seq (.ops 3 [
    (0, ⟨(some 8), none, .mv (.t 0)⟩),
    (1, ⟨(some 9), none, .call 185 [(.t 8)] (some 0) false⟩),
    (2, ⟨(some 2), none, .mv (.t 9)⟩)] (some [2])) .ret) .skip)) (.seq (.ops 15 [
    (0, ⟨(some 10), none, .mv (.t 0)⟩),
    (1, ⟨(some 11), none, .mv (.t 3)⟩),
    (2, ⟨(some 12), none, .arith .geq (.t 11) (.k (.d (.val (.int .i64 0))))⟩),
    (3, ⟨(some 13), none, .mv (.t 12)⟩),
    (4, ⟨(some 14), (some (13, true)), .mv (.t 3)⟩),
    (5, ⟨(some 15), (some (13, true)), .conv .u8 (.t 14)⟩),
    (6, ⟨(some 16), (some (13, true)), .call 186 [(.t 15)] none false⟩),
    (7, ⟨(some 17), (some (13, true)), .lenT (.t 16)⟩),
    (8, ⟨(some 18), (some (13, true)), .arith .eql (.t 17) (.k (.d (.val (.int .i64 1))))⟩),
    (9, ⟨(some 19), none, .pick (.t 13) (.t 18) (.k (.d (.val (.bool false))))⟩),
    (10, ⟨(some 20), none, .mv (.t 0)⟩),
    (11, ⟨(some 21), none, .nilck (.t 20)⟩),
    (12, ⟨(some 22), none, .fadd 1 (.t 21)⟩),
    (13, ⟨(some 23), none, .load none (.t 22)⟩),
    (14, ⟨(some 24), none, .call 150 [(.t 10), (.t 19), (.t 23)] none false⟩)] (some [0, 3])) (.seq (.ops 8 [
    (0, ⟨(some 25), none, .mv (.t 0)⟩),
    (1, ⟨(some 26), none, .nilck (.t 25)⟩),
    (2, ⟨(some 27), none, .fadd 1 (.t 26)⟩),
    (3, ⟨(some 28), none, .load none (.t 27)⟩),
    (4, ⟨(some 29), none, .arith .add (.t 28) (.k (.d (.val (.int .i64 1))))⟩),
    (5, ⟨(some 30), none, .nilck (.t 25)⟩),
    (6, ⟨(some 31), none, .fadd 1 (.t 30)⟩),
    (7, ⟨none, none, .store 1 (.t 31) (.t 29)⟩)] (some [3])) (.seq (.ops 3 [
    (0, ⟨(some 32), none, .mv (.t 3)⟩),
    (1, ⟨(some 33), none, .conv .u8 (.t 32)⟩),
    (2, ⟨(some 2), none, .mv (.t 33)⟩)] (some [2])) .ret))))))
def md181 : FuncId → Option Nat × Bool
  | 163 => (some 0, false)
  | 185 => (some 0, false)
  | _ => (none, false)
def od181 : Nat → List (List Nat) × List Nat × Option (List Nat)
  | 0 => ([], [], some [0])
  | 1 => ([], [], some [0, 3])
  | 2 => ([], [], some [0, 3, 7])
  | 3 => ([], [], some [2])
  | 4 => ([[], [], [1], [1, 2], [1, 2, 3], [1, 2, 3, 4], [1, 2, 3, 4, 5], [1, 2, 3, 4, 5, 6], [1, 2, 3, 4, 5, 6, 7], [1, 2, 3, 4, 5, 6, 7, 8], [], [10], [10, 11], [10, 11, 12], [0, 1, 2, 3, 4, 5, 6, 7, 8, 9, 10, 11, 12, 13]], [0, 1, 2, 3, 4, 5, 6, 7, 8, 9, 10, 11, 12, 13, 14], some [0, 3])
  | 5 => ([], [], some [3])
  | 6 => ([], [], some [2])
  | _ => ([], [], none)
theorem b181 {ags : List AV} {row : Option (List DV)} {r : AV} {row' nw : Option (List DV)} (hal : ags.length ≤ 34) (hrow : row'.isSome = true → row.isSome = true) (h : xwp Try.prog x181 (retK [.tmp 2] row.isSome r row' nw) (St.init ags row)) : Good Try.prog 181 ags row r row' nw :=
  good_of_body' (md := md181) (od := od181) Try.f181 (by kernel_rfl) (by kernel_rfl) (by kernel_rfl) (by kernel_rfl) (by kernel_rfl) hal hrow h

def x182 : XC := (.seq (.ops 1 [
    (0, ⟨(some 2), none, .mv (.k (.d (.val (.int .i64 0))))⟩)] (some [0, 2])) (.seq (.ops 5 [
    (0, ⟨(some 5), none, .mv (.t 0)⟩),
    (1, ⟨(some 6), none, .nilck (.t 5)⟩),
    (2, ⟨(some 7), none, .fadd 1 (.t 6)⟩),
    (3, ⟨(some 8), none, .load none (.t 7)⟩),
    (4, ⟨(some 3), none, .mv (.t 8)⟩)] (some [0, 2, 3])) (.seq (.seq (.ops 3 [
    (0, ⟨(some 9), none, .mv (.t 0)⟩),
    (1, ⟨(some 10), none, .call 172 [(.t 9)] none false⟩),
    (2, ⟨(some 4), none, .mv (.t 10)⟩)] (some [0, 2, 3, 4])) (.block 0 (.loop (.seq (.seq (.ops 15 [
    (0, ⟨(some 11), none, .mv (.t 4)⟩),
    (1, ⟨(some 12), none, .arith .geq (.t 11) (.k (.d (.val (.int .i64 48))))⟩),
    (2, ⟨(some 13), none, .mv (.t 12)⟩),
    (3, ⟨(some 14), (some (13, true)), .mv (.t 4)⟩),
    (4, ⟨(some 15), (some (13, true)), .arith .leq (.t 14) (.k (.d (.val (.int .i64 57))))⟩),
    (5, ⟨(some 16), none, .pick (.t 13) (.t 15) (.k (.d (.val (.bool false))))⟩),
    (6, ⟨(some 17), none, .mv (.t 16)⟩),
    (7, ⟨(some 18), (some (17, true)), .mv (.t 0)⟩),
    (8, ⟨(some 19), (some (17, true)), .nilck (.t 18)⟩),
    (9, ⟨(some 20), (some (17, true)), .fadd 1 (.t 19)⟩),
    (10, ⟨(some 21), (some (17, true)), .load none (.t 20)⟩),
    (11, ⟨(some 22), (some (17, true)), .mv (.t 3)⟩),
    (12, ⟨(some 23), (some (17, true)), .arith .sub (.t 21) (.t 22)⟩),
    (13, ⟨(some 24), (some (17, true)), .arith .lss (.t 23) (.k (.d (.val (.int .i64 2))))⟩),
    (14, ⟨(some 25), none, .pick (.t 17) (.t 24) (.k (.d (.val (.bool false))))⟩)] (some [0, 2, 3, 4, 25])) (.cond (.t 25) .skip (.exit 0))) (.seq (.block 1 (.seq (.ops 6 [
    (0, ⟨(some 28), none, .mv (.t 2)⟩),
    (1, ⟨(some 29), none, .arith .mul (.k (.d (.val (.int .i64 10)))) (.t 28)⟩),
    (2, ⟨(some 30), none, .mv (.t 4)⟩),
    (3, ⟨(some 31), none, .arith .add (.t 29) (.t 30)⟩),
    (4, ⟨(some 32), none, .arith .sub (.t 31) (.k (.d (.val (.int .i64 48))))⟩),
    (5, ⟨(some 2), none, .mv (.t 32)⟩)] (some [0, 2, 3])) (.ops 8 [
    (0, ⟨(some 33), none, .mv (.t 0)⟩),
    (1, ⟨(some 34), none, .nilck (.t 33)⟩),
    (2, ⟨(some 35), none, .fadd 1 (.t 34)⟩),
    (3, ⟨(some 36), none, .load none (.t 35)⟩),
    (4, ⟨(some 37), none, .arith .add (.t 36) (.k (.d (.val (.int .i64 1))))⟩),
    (5, ⟨(some 38), none, .nilck (.t 33)⟩),
    (6, ⟨(some 39), none, .fadd 1 (.t 38)⟩),
    (7, ⟨none, none, .store 1 (.t 39) (.t 37)⟩)] (some [0, 2, 3])))) (.ops 3 [
    (0, ⟨(some 26), none, .mv (.t 0)⟩),
    (1, ⟨(some 27), none, .call 172 [(.t 26)] none false⟩),
    (2, ⟨(some 4), none, .mv (.t 27)⟩)] (some [0, 2, 3, 4]))))))) (.seq (.ops 13 [
    (0, ⟨(some 40), none, .mv (.t 0)⟩),
    (1, ⟨(some 41), none, .mv (.t 0)⟩),
    (2, ⟨(some 42), none, .nilck (.t 41)⟩),
    (3, ⟨(some 43), none, .fadd 1 (.t 42)⟩),
    (4, ⟨(some 44), none, .load none (.t 43)⟩),
    (5, ⟨(some 45), none, .mv (.t 3)⟩),
    (6, ⟨(some 46), none, .arith .gtr (.t 44) (.t 45)⟩),
    (7, ⟨(some 47), none, .mv (.t 46)⟩),
    (8, ⟨(some 48), (some (47, true)), .mv (.t 2)⟩),
    (9, ⟨(some 49), (some (47, true)), .arith .leq (.t 48) (.k (.d (.val (.int .i64 20))))⟩),
    (10, ⟨(some 50), none, .pick (.t 47) (.t 49) (.k (.d (.val (.bool false))))⟩),
    (11, ⟨(some 51), none, .mv (.t 3)⟩),
    (12, ⟨(some 52), none, .call 150 [(.t 40), (.t 50), (.t 51)] none false⟩)] (some [2])) (.seq (.ops 2 [
    (0, ⟨(some 53), none, .mv (.t 2)⟩),
    (1, ⟨(some 2), none, .mv (.t 53)⟩)] (some [2])) .ret)))))
def md182 : FuncId → Option Nat × Bool
  | _ => (none, false)
def od182 : Nat → List (List Nat) × List Nat × Option (List Nat)
  | 0 => ([], [], some [0, 2])
  | 1 => ([], [], some [0, 2, 3])
  | 2 => ([], [], some [0, 2, 3, 4])
  | 3 => ([], [], some [0, 2, 3, 4, 25])
  | 4 => ([], [], some [0, 2, 3, 4])
  | 5 => ([], [], some [0, 2, 3])
  | 6 => ([], [], some [0, 2, 3])
  | 7 => ([], [], some [2])
  | 8 => ([], [], some [2])
  | _ => ([], [], none)
theorem b182 {ags : List AV} {row : Option (List DV)} {r : AV} {row' nw : Option (List DV)} (hal : ags.length ≤ 54) (hrow : row'.isSome = true → row.isSome = true) (h : xwp Try.prog x182 (retK [.tmp 2] row.isSome r row' nw) (St.init ags row)) : Good Try.prog 182 ags row r row' nw :=
  good_of_body' (md := md182) (od := od182) Try.f182 (by kernel_rfl) (by kernel_rfl) (by kernel_rfl) (by kernel_rfl) (by kernel_rfl) hal hrow h

def x183 : XC := (.seq (.ops 1 [
    (0, ⟨(some 2), none, .alloc [(.int .u64 0), (.int .u64 0), (.int .u64 0), (.int .u64 0)]⟩)] (some [0, 2])) (.seq (.ops 3 [
    (0, ⟨(some 6), none, .mv (.t 0)⟩),
    (1, ⟨(some 7), none, .call 181 [(.t 6)] (some 0) false⟩),
    (2, ⟨(some 3), none, .mv (.t 7)⟩)] (some [0, 2, 3])) (.seq (.seq (.ops 3 [
    (0, ⟨(some 8), none, .mv (.t 0)⟩),
    (1, ⟨(some 9), none, .call 163 [(.t 8), (.k (.d (.val (.int .u8 45))))] (some 0) false⟩),
    (2, ⟨(some 10), none, .un .not (.t 9)⟩)] (some [0, 2, 3, 10])) (.cond (.t 10) (.seq (.ops 3 [
    (0, ⟨(some 11), none, .mv (.t 3)⟩),
    (1, ⟨(some 12), none, .call 180 [(.t 11)] none false⟩),
    (2, ⟨none, none, .store 4 (.t 2) (.t 12)⟩)] (some [2])) .ret) .skip)) (.seq (.ops 5 [
    (0, ⟨(some 13), none, .mv (.t 0)⟩),
    (1, ⟨(some 14), none, .nilck (.t 13)⟩),
    (2, ⟨(some 15), none, .fadd 1 (.t 14)⟩),
    (3, ⟨(some 16), none, .load none (.t 15)⟩),
    (4, ⟨(some 4), none, .mv (.t 16)⟩)] (some [0, 2, 3, 4])) (.seq (.ops 3 [
    (0, ⟨(some 17), none, .mv (.t 0)⟩),
    (1, ⟨(some 18), none, .call 181 [(.t 17)] (some 0) false⟩),
    (2, ⟨(some 5), none, .mv (.t 18)⟩)] (some [0, 2, 3, 4, 5])) (.seq (.ops 6 [
    (0, ⟨(some 19), none, .mv (.t 0)⟩),
    (1, ⟨(some 20), none, .mv (.t 5)⟩),
    (2, ⟨(some 21), none, .mv (.t 3)⟩),
    (3, ⟨(some 22), none, .arith .geq (.t 20) (.t 21)⟩),
    (4, ⟨(some 23), none, .mv (.t 4)⟩),
    (5, ⟨(some 24), none, .call 150 [(.t 19), (.t 22), (.t 23)] none false⟩)] (some [2, 3, 5])) (.seq (.ops 4 [
    (0, ⟨(some 25), none, .mv (.t 3)⟩),
    (1, ⟨(some 26), none, .mv (.t 5)⟩),
    (2, ⟨(some 27), none, .call 119 [(.t 25), (.t 26)] none false⟩),
    (3, ⟨none, none, .store 4 (.t 2) (.t 27)⟩)] (some [2])) .ret)))))))
def md183 : FuncId → Option Nat × Bool
  | 163 => (some 0, false)
  | 181 => (some 0, false)
  | _ => (none, false)
def od183 : Nat → List (List Nat) × List Nat × Option (List Nat)
  | 0 => ([], [], some [0, 2])
  | 1 => ([], [], some [0, 2, 3])
  | 2 => ([], [], some [0, 2, 3, 10])
  | 3 => ([], [], some [2])
  | 4 => ([], [], some [0, 2, 3, 4])
  | 5 => ([], [], some [0, 2, 3, 4, 5])
  | 6 => ([], [], some [2, 3, 5])
  | 7 => ([], [], some [2])
  | _ => ([], [], none)
theorem b183 {ags : List AV} {row : Option (List DV)} {r : AV} {row' nw : Option (List DV)} (hal : ags.length ≤ 28) (hrow : row'.isSome = true → row.isSome = true) (h : xwp Try.prog x183 (retK [.cell 2 (some 4)] row.isSome r row' nw) (St.init ags row)) : Good Try.prog 183 ags row r row' nw :=
  good_of_body' (md := md183) (od := od183) Try.f183 (by kernel_rfl) (by kernel_rfl) (by kernel_rfl) (by kernel_rfl) (by kernel_rfl) hal hrow h

def x184 : XC := (.seq (.ops 2 [
    (0, ⟨(some 1), none, .box (.t 0)⟩),
    (1, ⟨(some 2), none, .alloc [(.int .u64 0), (.int .u64 0), (.int .u64 0), (.int .u64 0)]⟩)] (some [1, 2])) (.seq (.seq (.ops 1 [
    (0, ⟨(some 4), none, .mv (.k (.d (.val (.int .i64 0))))⟩)] (some [1, 2, 4])) (.block 0 (.loop (.seq (.ops 1 [
    (0, ⟨(some 5), none, .arith .lss (.t 4) (.k (.d (.val (.int .i64 4))))⟩)] (some [1, 2, 4, 5])) (.seq (.cond (.t 5) .skip (.exit 0)) (.seq (.block 1 (.seq (.ops 2 [
    (0, ⟨(some 6), none, .mv (.t 4)⟩),
    (1, ⟨(some 3), none, .mv (.t 6)⟩)] (some [1, 2, 3, 4])) (.ops 7 [
    (0, ⟨(some 7), none, .mv (.t 3)⟩),
    (1, ⟨(some 8), none, .mv (.t 3)⟩),
    (2, ⟨(some 9), none, .idxP 4 1 (.t 1) (.t 8)⟩),
    (3, ⟨(some 10), none, .load none (.t 9)⟩),
    (4, ⟨(some 11), none, .un .xor (.t 10)⟩),
    (5, ⟨(some 12), none, .idxP 4 1 (.t 1) (.t 7)⟩),
    (6, ⟨none, none, .store 1 (.t 12) (.t 11)⟩)] (some [1, 2, 4])))) (.ops 2 [
    (0, ⟨(some 13), none, .arith .add (.t 4) (.k (.d (.val (.int .i64 1))))⟩),
    (1, ⟨(some 4), none, .mv (.t 13)⟩)] (some [1, 2, 4])))))))) (.seq (.ops 2 [
    (0, ⟨(some 14), none, .load (some 4) (.t 1)⟩),
    (1, ⟨none, none, .store 4 (.t 2) (.t 14)⟩)] (some [2])) .ret)))
def md184 : FuncId → Option Nat × Bool
  | _ => (none, false)
def od184 : Nat → List (List Nat) × List Nat × Option (List Nat)
  | 0 => ([], [], some [1, 2])
  | 1 => ([], [], some [1, 2, 4])
  | 2 => ([], [], some [1, 2, 4, 5])
  | 3 => ([], [], some [1, 2, 3, 4])
  | 4 => ([], [], some [1, 2, 4])
  | 5 => ([], [], some [1, 2, 4])
  | 6 => ([], [], some [2])
  | _ => ([], [], none)
theorem b184 {ags : List AV} {row : Option (List DV)} {r : AV} {row' nw : Option (List DV)} (hal : ags.length ≤ 15) (hrow : row'.isSome = true → row.isSome = true) (h : xwp Try.prog x184 (retK [.cell 2 (some 4)] row.isSome r row' nw) (St.init ags row)) : Good Try.prog 184 ags row r row' nw :=
  good_of_body' (md := md184) (od := od184) Try.f184 (by kernel_rfl) (by kernel_rfl) (by kernel_rfl) (by kernel_rfl) (by kernel_rfl) hal hrow h

def x185 : XC := (.seq (.ops 1 [
    (0, ⟨(some 2), none, .mv (.k (.d (.val (.int .u8 0))))⟩)] (some [0])) (.seq (.ops 3 [
    (0, ⟨(some 5), none, .mv (.t 0)⟩),
    (1, ⟨(some 6), none, .call 172 [(.t 5)] none false⟩),
    (2, ⟨(some 3), none, .mv (.t 6)⟩)] (some [0, 3])) (.seq (.ops 8 [
    (0, ⟨(some 7), none, .mv (.t 0)⟩),
    (1, ⟨(some 8), none, .mv (.t 3)⟩),
    (2, ⟨(some 9), none, .arith .geq (.t 8) (.k (.d (.val (.int .i64 0))))⟩),
    (3, ⟨(some 10), none, .mv (.t 0)⟩),
    (4, ⟨(some 11), none, .nilck (.t 10)⟩),
    (5, ⟨(some 12), none, .fadd 1 (.t 11)⟩),
    (6, ⟨(some 13), none, .load none (.t 12)⟩),
    (7, ⟨(some 14), none, .call 150 [(.t 7), (.t 9), (.t 13)] none false⟩)] (some [0, 3])) (.seq (.ops 8 [
    (0, ⟨(some 15), none, .mv (.t 0)⟩),
    (1, ⟨(some 16), none, .nilck (.t 15)⟩),
    (2, ⟨(some 17), none, .fadd 1 (.t 16)⟩),
    (3, ⟨(some 18), none, .load none (.t 17)⟩),
    (4, ⟨(some 19), none, .arith .add (.t 18) (.k (.d (.val (.int .i64 1))))⟩),
    (5, ⟨(some 20), none, .nilck (.t 15)⟩),
    (6, ⟨(some 21), none, .fadd 1 (.t 20)⟩),
    (7, ⟨none, none, .store 1 (.t 21) (.t 19)⟩)] (some [0, 3])) (.seq (.seq (.ops 1 [
    (0, ⟨(some 22), none, .mv (.t 3)⟩)] (some [0, 3, 22])) (.block 0 (.seq (.ops 2 [
    (0, ⟨(some 24), none, .arith .eql (.t 22) (.k (.d (.val (.int .i64 120))))⟩),
    (1, ⟨(some 23), none, .mv (.t 24)⟩)] (some [0, 3, 22, 23])) (.cond (.t 23) (.seq (.ops 4 [
    (0, ⟨(some 25), none, .mv (.t 0)⟩),
    (1, ⟨(some 26), none, .call 187 [(.t 25)] (some 0) false⟩),
    (2, ⟨(some 27), none, .arith .shl (.t 26) (.k (.d (.val (.int .u64 4))))⟩),
    (3, ⟨(some 4), none, .mv (.t 27)⟩)] (some [0, 4])) (.seq (.ops 6 [
    (0, ⟨(some 28), none, .mv (.t 4)⟩),
    (1, ⟨(some 29), none, .mv (.t 0)⟩),
    (2, ⟨(some 30), none, .call 187 [(.t 29)] (some 0) false⟩),
    (3, ⟨(some 31), none, .arith .or (.t 28) (.t 30)⟩),
    (4, ⟨(some 32), none, .conv .u8 (.t 31)⟩),
    (5, ⟨(some 2), none, .mv (.t 32)⟩)] (some [2])) .ret)) (.seq (.ops 2 [
    (0, ⟨(some 34), none, .arith .eql (.t 22) (.k (.d (.val (.int .i64 110))))⟩),
    (1, ⟨(some 33), none, .mv (.t 34)⟩)] (some [0, 3, 22, 33])) (.cond (.t 33) (.seq (.ops 1 [
    (0, ⟨(some 2), none, .mv (.k (.d (.val (.int .u8 10))))⟩)] (some [2])) .ret) (.seq (.ops 2 [
    (0, ⟨(some 36), none, .arith .eql (.t 22) (.k (.d (.val (.int .i64 116))))⟩),
    (1, ⟨(some 35), none, .mv (.t 36)⟩)] (some [0, 3, 35])) (.cond (.t 35) (.seq (.ops 1 [
    (0, ⟨(some 2), none, .mv (.k (.d (.val (.int .u8 9))))⟩)] (some [2])) .ret) .skip)))))))) (.seq (.ops 11 [
    (0, ⟨(some 37), none, .mv (.t 0)⟩),
    (1, ⟨(some 38), none, .mv (.t 3)⟩),
    (2, ⟨(some 39), none, .conv .u8 (.t 38)⟩),
    (3, ⟨(some 40), none, .call 188 [(.k (.d (.val (.string ⟨#[124, 42, 43, 63, 40, 41, 91, 93, 123, 125, 46, 92, 94, 36, 45]⟩)))), (.t 39)] none false⟩),
    (4, ⟨(some 41), none, .arith .geq (.t 40) (.k (.d (.val (.int .i64 0))))⟩),
    (5, ⟨(some 42), none, .mv (.t 0)⟩),
    (6, ⟨(some 43), none, .nilck (.t 42)⟩),
    (7, ⟨(some 44), none, .fadd 1 (.t 43)⟩),
    (8, ⟨(some 45), none, .load none (.t 44)⟩),
    (9, ⟨(some 46), none, .arith .sub (.t 45) (.k (.d (.val (.int .i64 1))))⟩),
    (10, ⟨(some 47), none, .call 150 [(.t 37), (.t 41), (.t 46)] none false⟩)] (some [3])) (.seq (.ops 3 [
    (0, ⟨(some 48), none, .mv (.t 3)⟩),
    (1, ⟨(some 49), none, .conv .u8 (.t 48)⟩),
    (2, ⟨(some 2), none, .mv (.t 49)⟩)] (some [2])) .ret)))))))
def md185 : FuncId → Option Nat × Bool
  | 187 => (some 0, false)
  | _ => (none, false)
def od185 : Nat → List (List Nat) × List Nat × Option (List Nat)
  | 0 => ([], [], some [0])
  | 1 => ([], [], some [0, 3])
  | 2 => ([], [], some [0, 3])
  | 3 => ([], [], some [0, 3])
  | 4 => ([], [], some [0, 3, 22])
  | 5 => ([], [], some [0, 3, 22, 23])
  | 6 => ([], [], some [0, 4])
  | 7 => ([], [], some [2])
  | 8 => ([], [], some [0, 3, 22, 33])
  | 9 => ([], [], some [2])
  | 10 => ([], [], some [0, 3, 35])
  | 11 => ([], [], some [2])
  | 12 => ([[], [], [1], [1, 2], [1, 2, 3], [], [5], [5, 6], [5, 6, 7], [5, 6, 7, 8], [0, 1, 2, 3, 4, 5, 6, 7, 8, 9]], [0, 1, 2, 3, 4, 5, 6, 7, 8, 9, 10], some [3])
  | 13 => ([], [], some [2])
  | _ => ([], [], none)
theorem b185 {ags : List AV} {row : Option (List DV)} {r : AV} {row' nw : Option (List DV)} (hal : ags.length ≤ 50) (hrow : row'.isSome = true → row.isSome = true) (h : xwp Try.prog x185 (retK [.tmp 2] row.isSome r row' nw) (St.init ags row)) : Good Try.prog 185 ags row r row' nw :=
  good_of_body' (md := md185) (od := od185) Try.f185 (by kernel_rfl) (by kernel_rfl) (by kernel_rfl) (by kernel_rfl) (by kernel_rfl) hal hrow h

def x186 : XC := (.seq (.ops 1 [
    (0, ⟨(some 2), none, .mv (.k (.d (.val (.string ⟨#[]⟩))))⟩)] (some [0])) (.seq (.seq (.ops 2 [
    (0, ⟨(some 3), none, .mv (.t 0)⟩),
    (1, ⟨(some 4), none, .call 189 [(.t 3)] none false⟩)] (some [0, 4])) (.cond (.t 4) (.seq (.ops 4 [
    (0, ⟨(some 5), none, .mv (.t 0)⟩),
    (1, ⟨(some 6), none, .mkrow [(.int .u8 0)] 1 1 [(0, 1, (.t 5))]⟩),
    (2, ⟨(some 7), none, .strB (.t 6)⟩),
    (3, ⟨(some 2), none, .mv (.t 7)⟩)] (some [2])) .ret) .skip)) (.seq (.ops 15 [
    (0, ⟨(some 8), none, .mv (.t 0)⟩),
    (1, ⟨(some 9), none, .arith .shr (.t 8) (.k (.d (.val (.int .u64 4))))⟩),
    (2, ⟨(some 10), none, .mv (.t 0)⟩),
    (3, ⟨(some 11), none, .arith .shr (.t 10) (.k (.d (.val (.int .u64 4))))⟩),
    (4, ⟨(some 12), none, .arith .add (.t 11) (.k (.d (.val (.int .u8 1))))⟩),
    (5, ⟨(some 13), none, .slT (.k (.d (.val (.string ⟨#[48, 49, 50, 51, 52, 53, 54, 55, 56, 57, 97, 98, 99, 100, 101, 102]⟩)))) (some (.t 9)) (some (.t 12))⟩),
    (6, ⟨(some 14), none, .arith .add (.k (.d (.val (.string ⟨#[92, 120]⟩)))) (.t 13)⟩),
    (7, ⟨(some 15), none, .mv (.t 0)⟩),
    (8, ⟨(some 16), none, .arith .and (.t 15) (.k (.d (.val (.int .u8 15))))⟩),
    (9, ⟨(some 17), none, .mv (.t 0)⟩),
    (10, ⟨(some 18), none, .arith .and (.t 17) (.k (.d (.val (.int .u8 15))))⟩),
    (11, ⟨(some 19), none, .arith .add (.t 18) (.k (.d (.val (.int .u8 1))))⟩),
    (12, ⟨(some 20), none, .slT (.k (.d (.val (.string ⟨#[48, 49, 50, 51, 52, 53, 54, 55, 56, 57, 97, 98, 99, 100, 101, 102]⟩)))) (some (.t 16)) (some (.t 19))⟩),
    (13, ⟨(some 21), none, .arith .add (.t 14) (.t 20)⟩),
    (14, ⟨(some 2), none, .mv (.t 21)⟩)] (some [2])) .ret)))
def md186 : FuncId → Option Nat × Bool
  | _ => (none, false)
def od186 : Nat → List (List Nat) × List Nat × Option (List Nat)
  | 0 => ([], [], some [0])
  | 1 => ([], [], some [0, 4])
  | 2 => ([], [], some [2])
  | 3 => ([[], [0], [], [2], [2, 3], [0, 1, 2, 3, 4], [0, 1, 2, 3, 4, 5], [], [7], [], [9], [9, 10], [7, 8, 9, 10, 11], [0, 1, 2, 3, 4, 5, 6, 7, 8, 9, 10, 11, 12], [0, 1, 2, 3, 4, 5, 6, 7, 8, 9, 10, 11, 12, 13]], [0, 1, 2, 3, 4, 5, 6, 7, 8, 9, 10, 11, 12, 13, 14], some [2])
  | _ => ([], [], none)
theorem b186 {ags : List AV} {row : Option (List DV)} {r : AV} {row' nw : Option (List DV)} (hal : ags.length ≤ 22) (hrow : row'.isSome = true → row.isSome = true) (h : xwp Try.prog x186 (retK [.tmp 2] row.isSome r row' nw) (St.init ags row)) : Good Try.prog 186 ags row r row' nw :=
  good_of_body' (md := md186) (od := od186) Try.f186 (by kernel_rfl) (by kernel_rfl) (by kernel_rfl) (by kernel_rfl) (by kernel_rfl) hal hrow h

def x187 : XC := (.seq (.ops 1 [
    (0, ⟨(some 2), none, .mv (.k (.d (.val (.int .i64 0))))⟩)] (some [0])) (.seq (.ops 3 [
    (0, ⟨(some 5), none, .mv (.t 0)⟩),
    (1, ⟨(some 6), none, .call 172 [(.t 5)] none false⟩),
    (2, ⟨(some 3), none, .mv (.t 6)⟩)] (some [0, 3])) (.seq (.ops 1 [
    (0, ⟨(some 4), none, .mv (.k (.d (.val (.int .i64 (-1)))))⟩)] (some [0, 3, 4])) (.seq (.seq (.ops 2 [
    (0, ⟨(some 7), none, .mv (.t 3)⟩),
    (1, ⟨(some 8), none, .arith .geq (.t 7) (.k (.d (.val (.int .i64 0))))⟩)] (some [0, 3, 4, 8])) (.cond (.t 8) (.ops 4 [
    (0, ⟨(some 9), none, .mv (.t 3)⟩),
    (1, ⟨(some 10), none, .conv .u8 (.t 9)⟩),
    (2, ⟨(some 11), none, .call 188 [(.k (.d (.val (.string ⟨#[48, 49, 50, 51, 52, 53, 54, 55, 56, 57, 97, 98, 99, 100, 101, 102]⟩)))), (.t 10)] none false⟩),
    (3, ⟨(some 4), none, .mv (.t 11)⟩)] (some [0, 4])) .skip)) (.seq (.ops 8 [
    (0, ⟨(some 12), none, .mv (.t 0)⟩),
    (1, ⟨(some 13), none, .mv (.t 4)⟩),
    (2, ⟨(some 14), none, .arith .geq (.t 13) (.k (.d (.val (.int .i64 0))))⟩),
    (3, ⟨(some 15), none, .mv (.t 0)⟩),
    (4, ⟨(some 16), none, .nilck (.t 15)⟩),
    (5, ⟨(some 17), none, .fadd 1 (.t 16)⟩),
    (6, ⟨(some 18), none, .load none (.t 17)⟩),
    (7, ⟨(some 19), none, .call 150 [(.t 12), (.t 14), (.t 18)] none false⟩)] (some [0, 4])) (.seq (.ops 8 [
    (0, ⟨(some 20), none, .mv (.t 0)⟩),
    (1, ⟨(some 21), none, .nilck (.t 20)⟩),
    (2, ⟨(some 22), none, .fadd 1 (.t 21)⟩),
    (3, ⟨(some 23), none, .load none (.t 22)⟩),
    (4, ⟨(some 24), none, .arith .add (.t 23) (.k (.d (.val (.int .i64 1))))⟩),
    (5, ⟨(some 25), none, .nilck (.t 20)⟩),
    (6, ⟨(some 26), none, .fadd 1 (.t 25)⟩),
    (7, ⟨none, none, .store 1 (.t 26) (.t 24)⟩)] (some [4])) (.seq (.ops 2 [
    (0, ⟨(some 27), none, .mv (.t 4)⟩),
    (1, ⟨(some 2), none, .mv (.t 27)⟩)] (some [2])) .ret)))))))
def md187 : FuncId → Option Nat × Bool
  | _ => (none, false)
def od187 : Nat → List (List Nat) × List Nat × Option (List Nat)
  | 0 => ([], [], some [0])
  | 1 => ([], [], some [0, 3])
  | 2 => ([], [], some [0, 3, 4])
  | 3 => ([], [], some [0, 3, 4, 8])
  | 4 => ([], [], some [0, 4])
  | 5 => ([], [], some [0, 4])
  | 6 => ([], [], some [4])
  | 7 => ([], [], some [2])
  | _ => ([], [], none)
theorem b187 {ags : List AV} {row : Option (List DV)} {r : AV} {row' nw : Option (List DV)} (hal : ags.length ≤ 28) (hrow : row'.isSome = true → row.isSome = true) (h : xwp Try.prog x187 (retK [.tmp 2] row.isSome r row' nw) (St.init ags row)) : Good Try.prog 187 ags row r row' nw :=
  good_of_body' (md := md187) (od := od187) Try.f187 (by kernel_rfl) (by kernel_rfl) (by kernel_rfl) (by kernel_rfl) (by kernel_rfl) hal hrow h

def x188 : XC := (.seq (.ops 1 [
    (0, ⟨(some 4), none, .mv (.k (.d (.val (.int .i64 0))))⟩)] (some [0, 1])) (.seq (.ops 4 [
    (0, ⟨(some 5), none, .mv (.t 0)⟩),
    (1, ⟨(some 6), none, .mv (.t 1)⟩),
    (2, ⟨(some 7), none, .call 190 [(.t 5), (.t 6)] none false⟩),
    (3, ⟨(some 4), none, .mv (.t 7)⟩)] (some [4])) .ret))
def md188 : FuncId → Option Nat × Bool
  | _ => (none, false)
def od188 : Nat → List (List Nat) × List Nat × Option (List Nat)
  | 0 => ([], [], some [0, 1])
  | 1 => ([], [], some [4])
  | _ => ([], [], none)
theorem b188 {ags : List AV} {row : Option (List DV)} {r : AV} {row' nw : Option (List DV)} (hal : ags.length ≤ 8) (hrow : row'.isSome = true → row.isSome = true) (h : xwp Try.prog x188 (retK [.tmp 4] row.isSome r row' nw) (St.init ags row)) : Good Try.prog 188 ags row r row' nw :=
  good_of_body' (md := md188) (od := od188) Try.f188 (by kernel_rfl) (by kernel_rfl) (by kernel_rfl) (by kernel_rfl) (by kernel_rfl) hal hrow h

def x189 : XC := (.seq (.ops 1 [
    (0, ⟨(some 2), none, .mv (.k (.d (.val (.bool false))))⟩)] (some [0])) (.seq (.ops 22 [
    (0, ⟨(some 3), none, .mv (.t 0)⟩),
    (1, ⟨(some 4), none, .arith .or (.t 3) (.k (.d (.val (.int .u8 32))))⟩),
    (2, ⟨(some 5), none, .arith .geq (.t 4) (.k (.d (.val (.int .u8 97))))⟩),
    (3, ⟨(some 6), none, .mv (.t 5)⟩),
    (4, ⟨(some 7), (some (6, true)), .mv (.t 0)⟩),
    (5, ⟨(some 8), (some (6, true)), .arith .or (.t 7) (.k (.d (.val (.int .u8 32))))⟩),
    (6, ⟨(some 9), (some (6, true)), .arith .leq (.t 8) (.k (.d (.val (.int .u8 122))))⟩),
    (7, ⟨(some 10), none, .pick (.t 6) (.t 9) (.k (.d (.val (.bool false))))⟩),
    (8, ⟨(some 11), none, .mv (.t 10)⟩),
    (9, ⟨(some 12), (some (11, false)), .mv (.t 0)⟩),
    (10, ⟨(some 13), (some (11, false)), .arith .geq (.t 12) (.k (.d (.val (.int .u8 48))))⟩),
    (11, ⟨(some 14), (some (11, false)), .mv (.t 13)⟩),
    (12, ⟨(some 15), (some (14, true)), .mv (.t 0)⟩),
    (13, ⟨(some 16), (some (14, true)), .arith .leq (.t 15) (.k (.d (.val (.int .u8 57))))⟩),
    (14, ⟨(some 17), (some (11, false)), .pick (.t 14) (.t 16) (.k (.d (.val (.bool false))))⟩),
    (15, ⟨(some 18), none, .pick (.t 11) (.k (.d (.val (.bool true)))) (.t 17)⟩),
    (16, ⟨(some 19), none, .mv (.t 18)⟩),
    (17, ⟨(some 20), (some (19, false)), .mv (.t 0)⟩),
    (18, ⟨(some 21), (some (19, false)), .call 188 [(.k (.d (.val (.string ⟨#[32, 33, 34, 35, 37, 38, 39, 44, 47, 58, 59, 60, 61, 62, 64, 95, 96, 126]⟩)))), (.t 20)] none false⟩),
    (19, ⟨(some 22), (some (19, false)), .arith .geq (.t 21) (.k (.d (.val (.int .i64 0))))⟩),
    (20, ⟨(some 23), none, .pick (.t 19) (.k (.d (.val (.bool true)))) (.t 22)⟩),
    (21, ⟨(some 2), none, .mv (.t 23)⟩)] (some [2])) .ret))
def md189 : FuncId → Option Nat × Bool
  | _ => (none, false)
def od189 : Nat → List (List Nat) × List Nat × Option (List Nat)
  | 0 => ([], [], some [0])
  | 1 => ([], [], some [2])
  | _ => ([], [], none)
theorem b189 {ags : List AV} {row : Option (List DV)} {r : AV} {row' nw : Option (List DV)} (hal : ags.length ≤ 24) (hrow : row'.isSome = true → row.isSome = true) (h : xwp Try.prog x189 (retK [.tmp 2] row.isSome r row' nw) (St.init ags row)) : Good Try.prog 189 ags row r row' nw :=
  good_of_body' (md := md189) (od := od189) Try.f189 (by kernel_rfl) (by kernel_rfl) (by kernel_rfl) (by kernel_rfl) (by kernel_rfl) hal hrow h

def x190 : XC := (.seq (.ops 1 [
    (0, ⟨(some 4), none, .mv (.k (.d (.val (.int .i64 0))))⟩)] (some [0, 1])) (.seq (.ops 4 [
    (0, ⟨(some 5), none, .mv (.t 0)⟩),
    (1, ⟨(some 6), none, .mv (.t 1)⟩),
    (2, ⟨(some 7), none, .call 191 [(.t 5), (.t 6)] none false⟩),
    (3, ⟨(some 4), none, .mv (.t 7)⟩)] (some [4])) .ret))
def md190 : FuncId → Option Nat × Bool
  | _ => (none, false)
def od190 : Nat → List (List Nat) × List Nat × Option (List Nat)
  | 0 => ([], [], some [0, 1])
  | 1 => ([], [], some [4])
  | _ => ([], [], none)
theorem b190 {ags : List AV} {row : Option (List DV)} {r : AV} {row' nw : Option (List DV)} (hal : ags.length ≤ 8) (hrow : row'.isSome = true → row.isSome = true) (h : xwp Try.prog x190 (retK [.tmp 4] row.isSome r row' nw) (St.init ags row)) : Good Try.prog 190 ags row r row' nw :=
  good_of_body' (md := md190) (od := od190) Try.f190 (by kernel_rfl) (by kernel_rfl) (by kernel_rfl) (by kernel_rfl) (by kernel_rfl) hal hrow h

def x73 : XC := (.seq (.ops 3 [
    (0, ⟨(some 2), none, .box (.t 0)⟩),
    (1, ⟨(some 3), none, .box (.t 1)⟩),
    (2, ⟨(some 4), none, .alloc [(.int .u64 0), (.int .u64 0), (.int .u64 0), (.int .u64 0)]⟩)] (some [2, 3, 4])) (.seq (.seq (.ops 1 [
    (0, ⟨(some 6), none, .mv (.k (.d (.val (.int .i64 0))))⟩)] (some [2, 3, 4, 6])) (.block 0 (.loop (.seq (.ops 1 [
    (0, ⟨(some 7), none, .arith .lss (.t 6) (.k (.d (.val (.int .i64 4))))⟩)] (some [2, 3, 4, 6, 7])) (.seq (.cond (.t 7) .skip (.exit 0)) (.seq (.block 1 (.seq (.ops 2 [
    (0, ⟨(some 8), none, .mv (.t 6)⟩),
    (1, ⟨(some 5), none, .mv (.t 8)⟩)] (some [2, 3, 4, 5, 6])) (.ops 9 [
    (0, ⟨(some 9), none, .mv (.t 5)⟩),
    (1, ⟨(some 10), none, .idxP 4 1 (.t 2) (.t 9)⟩),
    (2, ⟨(some 11), none, .load none (.t 10)⟩),
    (3, ⟨(some 12), none, .mv (.t 5)⟩),
    (4, ⟨(some 13), none, .idxP 4 1 (.t 3) (.t 12)⟩),
    (5, ⟨(some 14), none, .load none (.t 13)⟩),
    (6, ⟨(some 15), none, .arith .or (.t 11) (.t 14)⟩),
    (7, ⟨(some 16), none, .idxP 4 1 (.t 2) (.t 9)⟩),
    (8, ⟨none, none, .store 1 (.t 16) (.t 15)⟩)] (some [2, 3, 4, 6])))) (.ops 2 [
    (0, ⟨(some 17), none, .arith .add (.t 6) (.k (.d (.val (.int .i64 1))))⟩),
    (1, ⟨(some 6), none, .mv (.t 17)⟩)] (some [2, 3, 4, 6])))))))) (.seq (.ops 2 [
    (0, ⟨(some 18), none, .load (some 4) (.t 2)⟩),
    (1, ⟨none, none, .store 4 (.t 4) (.t 18)⟩)] (some [4])) .ret)))
def md73 : FuncId → Option Nat × Bool
  | _ => (none, false)
def od73 : Nat → List (List Nat) × List Nat × Option (List Nat)
  | 0 => ([], [], some [2, 3, 4])
  | 1 => ([], [], some [2, 3, 4, 6])
  | 2 => ([], [], some [2, 3, 4, 6, 7])
  | 3 => ([], [], some [2, 3, 4, 5, 6])
  | 4 => ([[], [0], [0, 1], [], [3], [3, 4], [0, 1, 2, 3, 4, 5], [0, 1, 2, 3, 4, 5, 6], [0, 1, 2, 3, 4, 5, 6, 7]], [0, 1, 2, 3, 4, 5, 6, 7, 8], some [2, 3, 4, 6])
  | 5 => ([], [], some [2, 3, 4, 6])
  | 6 => ([], [], some [4])
  | _ => ([], [], none)
theorem b73 {ags : List AV} {row : Option (List DV)} {r : AV} {row' nw : Option (List DV)} (hal : ags.length ≤ 19) (hrow : row'.isSome = true → row.isSome = true) (h : xwp Try.prog x73 (retK [.cell 4 (some 4)] row.isSome r row' nw) (St.init ags row)) : Good Try.prog 73 ags row r row' nw :=
  good_of_body' (md := md73) (od := od73) Try.f73 (by kernel_rfl) (by kernel_rfl) (by kernel_rfl) (by kernel_rfl) (by kernel_rfl) hal hrow h

def spP (n : Nat) : CallF → CallF := fun cf f ags row =>
  if f = 118 ∧ row.isNone = true ∧ ags.length ≤ 26 then
    match evC cf n xa118 (LS.init ags none) with
    | some (.normal, s1) => match frOf s1.fr 6 with
      | .dead => match evC cf n xb118 s1 with
        | some (.normal, s) => (resVals (frOf s.fr) (heapOf s.C) rs118).bind fun vs => evRet (heapOf s.C) (zOf s.Z) (tupOf vs) false false
        | some (.ret, s) => (resVals (frOf s.fr) (heapOf s.C) rs118).bind fun vs => evRet (heapOf s.C) (zOf s.Z) (tupOf vs) false false
        | _ => none
      | _ => none
    | _ => none
  else none
theorem evRet_data {C : Heap} {Z : Frz} {v : AV} {r : AV} {row' nr : Option (List DV)} (h : evRet C Z v false false = some (r, row', nr)) : row' = none ∧ nr = none := by
  simp only [evRet, Bool.false_eq_true, if_false] at h
  obtain ⟨r', _, h3⟩ := Option.map_eq_some_iff.1 h
  cases h3; exact ⟨rfl, rfl⟩
theorem spP_ok (n : Nat) (cf : CallF) (hcf : ∀ f ags row r row' nw, cf f ags row = some (r, row', nw) → Good Try.prog f ags row r row' nw) (f : FuncId) (ags : List AV) (row : Option (List DV)) (r : AV) (row' nw : Option (List DV)) (h : spP n cf f ags row = some (r, row', nw)) : Good Try.prog f ags row r row' nw := by
  unfold spP at h
  split at h
  case isFalse => cases h
  rename_i hc
  obtain ⟨rfl, hr, hal⟩ := hc
  have hr' : row = none := by cases row <;> simp_all
  subst hr'
  split at h
  case h_2 => cases h
  rename_i s1 h1
  split at h
  case h_2 => cases h
  rename_i h6
  have fin : ∀ e s, evC cf n xb118 s1 = some (e, s) → (e = .normal ∨ e = .ret) → ((resVals (frOf s.fr) (heapOf s.C) rs118).bind fun vs => evRet (heapOf s.C) (zOf s.Z) (tupOf vs) false false) = some (r, row', nw) → Good Try.prog 118 ags none r row' nw := by
    intro e s h2 he h3
    obtain ⟨vs, h4, h5⟩ := Option.bind_eq_some_iff.1 h3
    obtain ⟨rfl, rfl⟩ := evRet_data h5
    refine parse_of hal ?_
    rw [← LS.init_eq]
    refine evC_sound hcf n _ _ _ _ h1 _ ⟨rfl, h6, ?_⟩
    refine evC_sound hcf n _ _ _ _ h2 _ ?_
    rcases he with rfl | rfl
    · exact ⟨vs, h4, evRet_sound h5⟩
    · exact ⟨vs, h4, evRet_sound h5⟩
  split at h
  · rename_i s h2; exact fin _ _ h2 (.inl rfl) h
  · rename_i s h2; exact fin _ _ h2 (.inr rfl) h
  · cases h
end Go.Sv
namespace Go.Sv
open Go Go.Proofs
set_option maxRecDepth 100000
def x68 : XC := (.seq (.ops 2 [
    (0, ⟨(some 1), none, .box (.t 0)⟩),
    (1, ⟨(some 2), none, .mv (.k (.d (.val (.int .i64 0))))⟩)] (some [1])) (.seq (.seq (.ops 3 [
    (0, ⟨(some 3), none, .load (some 8) (.t 1)⟩),
    (1, ⟨(some 4), none, .call 84 [(.t 3)] none false⟩),
    (2, ⟨(some 5), none, .un .not (.t 4)⟩)] (some [1, 5])) (.cond (.t 5) (.seq (.ops 1 [
    (0, ⟨(some 2), none, .mv (.k (.d (.val (.int .i64 0))))⟩)] (some [2])) .ret) .skip)) (.seq (.ops 2 [
    (0, ⟨(some 6), none, .call 123 [(.t 1)] none false⟩),
    (1, ⟨(some 2), none, .mv (.t 6)⟩)] (some [2])) .ret)))
def md68 : FuncId → Option Nat × Bool
  | _ => (none, false)
def od68 : Nat → List (List Nat) × List Nat × Option (List Nat)
  | 0 => ([], [], some [1])
  | 1 => ([], [], some [1, 5])
  | 2 => ([], [], some [2])
  | 3 => ([], [], some [2])
  | _ => ([], [], none)
theorem b68 {ags : List AV} {row : Option (List DV)} {r : AV} {row' nw : Option (List DV)} (hal : ags.length ≤ 7) (hrow : row'.isSome = true → row.isSome = true) (h : xwp Try.prog x68 (retK [.tmp 2] row.isSome r row' nw) (St.init ags row)) : Good Try.prog 68 ags row r row' nw :=
  good_of_body' (md := md68) (od := od68) Try.f68 (by kernel_rfl) (by kernel_rfl) (by kernel_rfl) (by kernel_rfl) (by kernel_rfl) hal hrow h

def x123 : XC := (.seq (.ops 1 [
    (0, ⟨(some 2), none, .mv (.k (.d (.val (.int .i64 0))))⟩)] (some [0])) (.seq (.ops 1 [
    (0, ⟨(some 3), none, .mv (.k (.d (.val (.int .i64 1))))⟩)] (some [0, 3])) (.seq (.seq (.ops 6 [
    (0, ⟨(some 6), none, .mv (.t 0)⟩),
    (1, ⟨(some 7), none, .nilck (.t 6)⟩),
    (2, ⟨(some 8), none, .fadd 7 (.t 7)⟩),
    (3, ⟨(some 9), none, .load none (.t 8)⟩),
    (4, ⟨(some 10), none, .lenS (.t 9)⟩),
    (5, ⟨(some 11), none, .mv (.k (.d (.val (.int .i64 0))))⟩)] (some [0, 3, 10, 11])) (.block 0 (.loop (.seq (.ops 1 [
    (0, ⟨(some 12), none, .arith .lss (.t 11) (.t 10)⟩)] (some [0, 3, 10, 11, 12])) (.seq (.cond (.t 12) .skip (.exit 0)) (.seq (.block 1 (.seq (.ops 2 [
    (0, ⟨(some 13), none, .mv (.t 11)⟩),
    (1, ⟨(some 4), none, .mv (.t 13)⟩)] (some [0, 3, 4, 10, 11])) (.seq (.ops 8 [
    (0, ⟨(some 14), none, .mv (.t 0)⟩),
    (1, ⟨(some 15), none, .nilck (.t 14)⟩),
    (2, ⟨(some 16), none, .fadd 7 (.t 15)⟩),
    (3, ⟨(some 17), none, .load none (.t 16)⟩),
    (4, ⟨(some 18), none, .mv (.t 4)⟩),
    (5, ⟨(some 19), none, .idxS 8 (.t 17) (.t 18)⟩),
    (6, ⟨(some 20), none, .call 123 [(.t 19)] none false⟩),
    (7, ⟨(some 5), none, .mv (.t 20)⟩)] (some [0, 3, 5, 10, 11])) (.seq (.block 2 (.seq (.ops 6 [
    (0, ⟨(some 29), none, .mv (.t 0)⟩),
    (1, ⟨(some 30), none, .nilck (.t 29)⟩),
    (2, ⟨(some 31), none, .fadd 0 (.t 30)⟩),
    (3, ⟨(some 32), none, .load none (.t 31)⟩),
    (4, ⟨(some 33), none, .arith .neq (.t 32) (.k (.d (.val (.int .i64 5))))⟩),
    (5, ⟨(some 28), none, .mv (.t 33)⟩)] (some [0, 3, 5, 10, 11, 28])) (.cond (.t 28) .skip (.seq (.ops 6 [
    (0, ⟨(some 35), none, .mv (.t 0)⟩),
    (1, ⟨(some 36), none, .nilck (.t 35)⟩),
    (2, ⟨(some 37), none, .fadd 6 (.t 36)⟩),
    (3, ⟨(some 38), none, .load none (.t 37)⟩),
    (4, ⟨(some 39), none, .arith .eql (.t 38) (.k (.d (.val (.int .i64 (-1)))))⟩),
    (5, ⟨(some 34), none, .mv (.t 39)⟩)] (some [0, 3, 5, 10, 11, 34])) (.cond (.t 34) (.ops 9 [
    (0, ⟨(some 40), none, .mv (.t 5)⟩),
    (1, ⟨(some 41), none, .mv (.t 0)⟩),
    (2, ⟨(some 42), none, .nilck (.t 41)⟩),
    (3, ⟨(some 43), none, .fadd 5 (.t 42)⟩),
    (4, ⟨(some 44), none, .load none (.t 43)⟩),
    (5, ⟨(some 45), none, .arith .add (.t 44) (.k (.d (.val (.int .i64 1))))⟩),
    (6, ⟨(some 46), none, .arith .mul (.t 40) (.t 45)⟩),
    (7, ⟨(some 47), none, .arith .add (.t 46) (.k (.d (.val (.int .i64 1))))⟩),
    (8, ⟨(some 5), none, .mv (.t 47)⟩)] (some [0, 3, 5, 10, 11])) (.ops 8 [
    (0, ⟨(some 21), none, .mv (.t 5)⟩),
    (1, ⟨(some 22), none, .arith .add (.t 21) (.k (.d (.val (.int .i64 2))))⟩),
    (2, ⟨(some 23), none, .mv (.t 0)⟩),
    (3, ⟨(some 24), none, .nilck (.t 23)⟩),
    (4, ⟨(some 25), none, .fadd 6 (.t 24)⟩),
    (5, ⟨(some 26), none, .load none (.t 25)⟩),
    (6, ⟨(some 27), none, .arith .mul (.t 22) (.t 26)⟩),
    (7, ⟨(some 5), none, .mv (.t 27)⟩)] (some [0, 3, 5, 10, 11]))))))) (.ops 5 [
    (0, ⟨(some 48), none, .mv (.t 3)⟩),
    (1, ⟨(some 49), none, .mv (.t 5)⟩),
    (2, ⟨(some 50), none, .arith .add (.t 48) (.t 49)⟩),
    (3, ⟨(some 51), none, .min [(.t 50), (.k (.d (.val (.int .i64 1073741824))))]⟩),
    (4, ⟨(some 3), none, .mv (.t 51)⟩)] (some [0, 3, 10, 11])))))) (.ops 2 [
    (0, ⟨(some 52), none, .arith .add (.t 11) (.k (.d (.val (.int .i64 1))))⟩),
    (1, ⟨(some 11), none, .mv (.t 52)⟩)] (some [0, 3, 10, 11])))))))) (.seq (.ops 2 [
    (0, ⟨(some 53), none, .mv (.t 3)⟩),
    (1, ⟨(some 2), none, .mv (.t 53)⟩)] (some [2])) .ret))))
def md123 : FuncId → Option Nat × Bool
  | _ => (none, false)
def od123 : Nat → List (List Nat) × List Nat × Option (List Nat)
  | 0 => ([], [], some [0])
  | 1 => ([], [], some [0, 3])
  | 2 => ([], [], some [0, 3, 10, 11])
  | 3 => ([], [], some [0, 3, 10, 11, 12])
  | 4 => ([], [], some [0, 3, 4, 10, 11])
  | 5 => ([], [], some [0, 3, 5, 10, 11])
  | 6 => ([], [], some [0, 3, 5, 10, 11])
  | 7 => ([], [], some [0, 3, 5, 10, 11, 28])
  | 8 => ([], [], some [0, 3, 5, 10, 11, 34])
  | 9 => ([], [], some [0, 3, 5, 10, 11])
  | 10 => ([], [], some [0, 3, 10, 11])
  | 11 => ([], [], some [0, 3, 10, 11])
  | 12 => ([], [], some [2])
  | _ => ([], [], none)
theorem b123 {ags : List AV} {row : Option (List DV)} {r : AV} {row' nw : Option (List DV)} (hal : ags.length ≤ 54) (hrow : row'.isSome = true → row.isSome = true) (h : xwp Try.prog x123 (retK [.tmp 2] row.isSome r row' nw) (St.init ags row)) : Good Try.prog 123 ags row r row' nw :=
  good_of_body' (md := md123) (od := od123) Try.f123 (by kernel_rfl) (by kernel_rfl) (by kernel_rfl) (by kernel_rfl) (by kernel_rfl) hal hrow h

end Go.Sv
namespace Go.Sv
open Go Go.Proofs
set_option maxRecDepth 100000
section
variable {P : Program} {Q : Cont} {fr : Fr} {C : Heap} {Z : Frz} {nx : Nat} {base n d : Nat} {l : List (Nat × XO)} {kp : Option (List Nat)} {x i y s : X}
end
set_option maxHeartbeats 4000000
attribute [local irreducible] W E R KP thenK blockK retK Good xwp aRun
end Go.Sv
namespace Go.Sv
open Go Go.Proofs
section
variable {P : Program} {Q : Cont} {fr : Fr} {C : Heap} {Z : Frz} {nx : Nat} {base n d : Nat} {l : List (Nat × XO)} {kp : Option (List Nat)} {x i y s : X}
end
set_option maxRecDepth 100000
set_option maxHeartbeats 4000000
attribute [local irreducible] W E R KP thenK blockK retK Good xwp aRun
end Go.Sv
namespace Go.Sv
open Go Go.Proofs
set_option maxRecDepth 100000
set_option maxHeartbeats 4000000
attribute [local irreducible] W E R KP thenK blockK retK Good xwp aRun
theorem mwide_good : ∀ (n : Nat) (t : T) (cs : List DV) (off : Nat), NodeAt cs off t → t.cnt ≤ n → n ≤ 1000000 → okT t → Good Try.prog 123 [.d (.ptr cs off)] none (.i (wideT t)) none none := by
  intro n
  induction n with
  | zero => intro t cs off _ ht; have := cnt_pos t; omega
  | succ n ih =>
  intro t cs off hs ht hc hok
  obtain ⟨k, a, b, c, d, mn, mx, subs⟩ := t
  have hR := okT_R hok
  have hoks : okL subs := by simp only [okT] at hok; exact hok.2
  have ih' : ∀ i (h : i < subs.length), Good Try.prog 123 [.d (.ptr (encL subs) (i * 8))] none (.i (wideT subs[i])) none none := by
    intro i h
    refine ih _ _ _ (NodeAt.sub h) ?_ (by omega) (okL_get subs i h hoks)
    have := cntL_get subs i h
    simp only [T.cnt] at ht
    omega
  have hlen : subs.length ≤ 1000000 := by
    have := cntL_len subs
    simp only [T.cnt] at ht
    omega
  refine b123 (by simp) (by simp) (w_init ?_)
  unfold x123
  repeat' (first
    | (apply r_mvV; rfl)
    | (apply r_mvP; rfl)
    | (apply r_mvPL; rfl)
    | (apply r_mvS; rfl)
    | (apply r_mvSL; rfl)
    | (apply r_mvA; rfl)
    | (apply r_mvT; rfl)
    | (apply r_mvF; rfl)
    | (apply r_mvD; rfl)
    | (apply r_nckD; rfl)
    | (apply r_faddD; rfl)
    | (apply r_nckL; rfl)
    | (apply r_faddL; rfl)
    | (apply r_l; apply ld_kind; assumption; rfl)
    | (apply r_l; apply ld_mn; assumption; rfl)
    | (apply r_l; apply ld_mx; assumption; rfl)
    | (apply r_l; apply ld_subs; assumption; rfl)
    | (apply r_l; apply ld_set; assumption; rfl)
    | (apply r_l; apply ld_node; assumption; rfl)
    | (apply r_l; apply ld_kind'; assumption; rfl)
    | (apply r_l; apply ld_mn'; assumption; rfl)
    | (apply r_l; apply ld_mx'; assumption; rfl)
    | (apply r_l; apply ld_subs'; assumption; rfl)
    | (apply r_l; apply ld_node'; assumption; rfl)
    | (apply r_ldL; rfl; rfl; rfl)
    | (apply r_eql; rfl; rfl; (first | (apply decide_eq_true; omega) | (apply decide_eq_false; omega) | rfl))
    | (apply r_neq; rfl; rfl; (first | (apply decide_eq_true; omega) | (apply decide_eq_false; omega) | rfl))
    | (apply r_lss; rfl; rfl; (first | (apply decide_eq_true; omega) | (apply decide_eq_false; omega) | rfl))
    | (apply r_add; rfl; rfl; rfl; omega)
    | (apply r_min2; rfl; rfl; rfl)
    | (apply r_lenD; rfl)
    | (apply r_lenL; rfl)
    | (apply r_len0; rfl)
    | (apply r_p; rfl)
    | (apply r_nilK)
    | (apply r_nil)
    | (apply k_V; rfl)
    | (apply k_P; rfl)
    | (apply k_PL; rfl)
    | (apply k_S; rfl)
    | (apply k_SL; rfl)
    | (apply k_A; rfl)
    | (apply k_T; rfl)
    | (apply k_F; rfl)
    | (apply k_D; rfl; rotate_left; rfl)
    | (apply k_nil)
    | (apply e_ret (vs := [.d (.val _)]); rfl)
    | (apply e_ret; rfl)
    | (apply e_ret' (vs := [.d (.val _)]); rfl)
    | (apply e_ret'; rfl)
    | (apply w_seq)
    | (apply w_ops; ((conv => lhs; simp only [Nat.reduceAdd]) <;> rfl))
    | (apply w_condT; rfl)
    | (apply w_condF; rfl)
    | ((apply w_condS; rfl) <;> (intro h; try simp only [decide_eq_true_eq, decide_eq_false_iff_not, Bool.not_eq_true, Bool.not_eq_false] at h))
    | (apply e_thenN)
    | (apply w_block)
    | (apply e_thenR)
    | (apply e_thenX)
    | (apply e_blkN)
    | (apply e_blkR)
    | (apply e_blkE)
    | (apply w_exit)
    | (apply w_ret)
    | (apply w_skip)
    | (apply e_blkE'; rfl))
  apply w_loopI (ι := Nat × Int) (S := fun p => ⟨(((Fr.nil.put 0 (.d (.ptr cs off))).put 3 (.i p.2)).put 10 (.i subs.length)).put 11 (.i p.1), Heap.nil, Frz.lo 100, 100⟩) (m := fun p => subs.length - p.1)
    (I := fun p => p.1 ≤ subs.length ∧ (1 ≤ p.2 ∧ p.2 ≤ 1073741824) ∧ wideT (.node k a b c d mn mx subs) = wideL k mn mx (subs.drop p.1) p.2) (i0 := (0, 1))
  · refine ⟨Nat.zero_le _, by simp, ?_⟩
    simp [wideT]
  · refine wk0 (by omega) ?_
    repeat' (first
    | exact FWk.nil
    | (apply FWk.i; rfl; (first | rfl | omega | (simp; done)))
    | (apply FWk.sl; rfl; rfl; rfl; rfl; omega; rfl)
    | (apply FWk.ptr; rfl; rfl; rfl; omega; rfl)
    | (apply FWk.d; rfl; rfl)
    | (apply FWk.a; rfl; rfl; rfl)
    | (apply FWk.slN; rfl; omega; rfl))
  rintro ⟨i, w⟩ K hi hK
  dsimp only at hi hK ⊢
  rcases Nat.lt_or_ge i subs.length with hlt | hge
  · have hd := wideL_drop k mn mx subs w i hlt
    have hb := wideT_in subs[i] (okL_get subs i hlt hoks)
    have hq := wideQ_in hR (q := wideT subs[i]) (by omega)
    have fin : ∀ fr C Z nx, Wk ⟨fr, C, Z, nx⟩ ⟨(((Fr.nil.put 0 (.d (.ptr cs off))).put 3 (.i (min (w + wideQ k mn mx (wideT subs[i])) 1073741824))).put 10 (.i subs.length)).put 11 (.i ((i + 1 : Nat) : Int)), Heap.nil, Frz.lo 100, 100⟩ → K ⟨fr, C, Z, nx⟩ := by
      intro fr C Z nx hw
      refine hK (i + 1, _) fr C Z nx ⟨by omega, by dsimp only; omega, ?_⟩ (by dsimp only; omega) hw
      rw [hi.2.2, hd]
    by_cases h5 : k = 5
    · have hr5 := hR h5
      by_cases hm : mx = -1
      · have hmul := mul_in (show 0 ≤ wideT subs[i] ∧ wideT subs[i] ≤ 1073741824 by omega) (show 0 ≤ mn + 1 ∧ mn + 1 ≤ 21 by omega)
        have eq : wideQ k mn mx (wideT subs[i]) = wideT subs[i] * (mn + 1) + 1 := by rw [wideQ, if_pos h5, if_pos hm]
        rw [eq] at fin hq
        repeat' (first
    | (apply r_mvV; rfl)
    | (apply r_mvP; rfl)
    | (apply r_mvPL; rfl)
    | (apply r_mvS; rfl)
    | (apply r_mvSL; rfl)
    | (apply r_mvA; rfl)
    | (apply r_mvT; rfl)
    | (apply r_mvF; rfl)
    | (apply r_mvD; rfl)
    | (apply r_nckD; rfl)
    | (apply r_faddD; rfl)
    | (apply r_nckL; rfl)
    | (apply r_faddL; rfl)
    | (apply r_l; apply ld_kind; assumption; rfl)
    | (apply r_l; apply ld_mn; assumption; rfl)
    | (apply r_l; apply ld_mx; assumption; rfl)
    | (apply r_l; apply ld_subs; assumption; rfl)
    | (apply r_l; apply ld_set; assumption; rfl)
    | (apply r_l; apply ld_node; assumption; rfl)
    | (apply r_l; apply ld_kind'; assumption; rfl)
    | (apply r_l; apply ld_mn'; assumption; rfl)
    | (apply r_l; apply ld_mx'; assumption; rfl)
    | (apply r_l; apply ld_subs'; assumption; rfl)
    | (apply r_l; apply ld_node'; assumption; rfl)
    | (apply r_p; apply ix_sub; rfl; rfl; omega)
    | (apply r_callA; rfl; rfl; apply ih' i hlt)
    | (apply r_mul; rfl; rfl; rfl; omega)
    | (apply r_ldL; rfl; rfl; rfl)
    | (apply r_eql; rfl; rfl; (first | (apply decide_eq_true; omega) | (apply decide_eq_false; omega) | rfl))
    | (apply r_neq; rfl; rfl; (first | (apply decide_eq_true; omega) | (apply decide_eq_false; omega) | rfl))
    | (apply r_lss; rfl; rfl; (first | (apply decide_eq_true; omega) | (apply decide_eq_false; omega) | rfl))
    | (apply r_add; rfl; rfl; rfl; omega)
    | (apply r_min2; rfl; rfl; rfl)
    | (apply r_lenD; rfl)
    | (apply r_lenL; rfl)
    | (apply r_len0; rfl)
    | (apply r_p; rfl)
    | (apply r_nilK)
    | (apply r_nil)
    | (apply k_V; rfl)
    | (apply k_P; rfl)
    | (apply k_PL; rfl)
    | (apply k_S; rfl)
    | (apply k_SL; rfl)
    | (apply k_A; rfl)
    | (apply k_T; rfl)
    | (apply k_F; rfl)
    | (apply k_D; rfl; rotate_left; rfl)
    | (apply k_nil)
    | (apply e_ret (vs := [.d (.val _)]); rfl)
    | (apply e_ret; rfl)
    | (apply e_ret' (vs := [.d (.val _)]); rfl)
    | (apply e_ret'; rfl)
    | (apply w_seq)
    | (apply w_ops; ((conv => lhs; simp only [Nat.reduceAdd]) <;> rfl))
    | (apply w_condT; rfl)
    | (apply w_condF; rfl)
    | ((apply w_condS; rfl) <;> (intro h; try simp only [decide_eq_true_eq, decide_eq_false_iff_not, Bool.not_eq_true, Bool.not_eq_false] at h))
    | (apply e_thenN)
    | (apply w_block)
    | (apply e_thenR)
    | (apply e_thenX)
    | (apply e_blkN)
    | (apply e_blkR)
    | (apply e_blkE)
    | (apply w_exit)
    | (apply w_ret)
    | (apply w_skip)
    | (apply e_blkE'; rfl))
        all_goals
          apply e_thenK; apply fin
          refine wk0 (by omega) ?_
          repeat' (first
    | exact FWk.nil
    | (apply FWk.i; rfl; (first | rfl | omega | (simp; done)))
    | (apply FWk.sl; rfl; rfl; rfl; rfl; omega; rfl)
    | (apply FWk.ptr; rfl; rfl; rfl; omega; rfl)
    | (apply FWk.d; rfl; rfl)
    | (apply FWk.a; rfl; rfl; rfl)
    | (apply FWk.slN; rfl; omega; rfl))
      · have hmul := mul_in (show 0 ≤ wideT subs[i] + 2 ∧ wideT subs[i] + 2 ≤ 1073741826 by omega) (show 0 ≤ mx ∧ mx ≤ 20 by omega)
        have eq : wideQ k mn mx (wideT subs[i]) = (wideT subs[i] + 2) * mx := by rw [wideQ, if_pos h5, if_neg hm]
        rw [eq] at fin hq
        repeat' (first
    | (apply r_mvV; rfl)
    | (apply r_mvP; rfl)
    | (apply r_mvPL; rfl)
    | (apply r_mvS; rfl)
    | (apply r_mvSL; rfl)
    | (apply r_mvA; rfl)
    | (apply r_mvT; rfl)
    | (apply r_mvF; rfl)
    | (apply r_mvD; rfl)
    | (apply r_nckD; rfl)
    | (apply r_faddD; rfl)
    | (apply r_nckL; rfl)
    | (apply r_faddL; rfl)
    | (apply r_l; apply ld_kind; assumption; rfl)
    | (apply r_l; apply ld_mn; assumption; rfl)
    | (apply r_l; apply ld_mx; assumption; rfl)
    | (apply r_l; apply ld_subs; assumption; rfl)
    | (apply r_l; apply ld_set; assumption; rfl)
    | (apply r_l; apply ld_node; assumption; rfl)
    | (apply r_l; apply ld_kind'; assumption; rfl)
    | (apply r_l; apply ld_mn'; assumption; rfl)
    | (apply r_l; apply ld_mx'; assumption; rfl)
    | (apply r_l; apply ld_subs'; assumption; rfl)
    | (apply r_l; apply ld_node'; assumption; rfl)
    | (apply r_p; apply ix_sub; rfl; rfl; omega)
    | (apply r_callA; rfl; rfl; apply ih' i hlt)
    | (apply r_mul; rfl; rfl; rfl; omega)
    | (apply r_ldL; rfl; rfl; rfl)
    | (apply r_eql; rfl; rfl; (first | (apply decide_eq_true; omega) | (apply decide_eq_false; omega) | rfl))
    | (apply r_neq; rfl; rfl; (first | (apply decide_eq_true; omega) | (apply decide_eq_false; omega) | rfl))
    | (apply r_lss; rfl; rfl; (first | (apply decide_eq_true; omega) | (apply decide_eq_false; omega) | rfl))
    | (apply r_add; rfl; rfl; rfl; omega)
    | (apply r_min2; rfl; rfl; rfl)
    | (apply r_lenD; rfl)
    | (apply r_lenL; rfl)
    | (apply r_len0; rfl)
    | (apply r_p; rfl)
    | (apply r_nilK)
    | (apply r_nil)
    | (apply k_V; rfl)
    | (apply k_P; rfl)
    | (apply k_PL; rfl)
    | (apply k_S; rfl)
    | (apply k_SL; rfl)
    | (apply k_A; rfl)
    | (apply k_T; rfl)
    | (apply k_F; rfl)
    | (apply k_D; rfl; rotate_left; rfl)
    | (apply k_nil)
    | (apply e_ret (vs := [.d (.val _)]); rfl)
    | (apply e_ret; rfl)
    | (apply e_ret' (vs := [.d (.val _)]); rfl)
    | (apply e_ret'; rfl)
    | (apply w_seq)
    | (apply w_ops; ((conv => lhs; simp only [Nat.reduceAdd]) <;> rfl))
    | (apply w_condT; rfl)
    | (apply w_condF; rfl)
    | ((apply w_condS; rfl) <;> (intro h; try simp only [decide_eq_true_eq, decide_eq_false_iff_not, Bool.not_eq_true, Bool.not_eq_false] at h))
    | (apply e_thenN)
    | (apply w_block)
    | (apply e_thenR)
    | (apply e_thenX)
    | (apply e_blkN)
    | (apply e_blkR)
    | (apply e_blkE)
    | (apply w_exit)
    | (apply w_ret)
    | (apply w_skip)
    | (apply e_blkE'; rfl))
        all_goals
          apply e_thenK; apply fin
          refine wk0 (by omega) ?_
          repeat' (first
    | exact FWk.nil
    | (apply FWk.i; rfl; (first | rfl | omega | (simp; done)))
    | (apply FWk.sl; rfl; rfl; rfl; rfl; omega; rfl)
    | (apply FWk.ptr; rfl; rfl; rfl; omega; rfl)
    | (apply FWk.d; rfl; rfl)
    | (apply FWk.a; rfl; rfl; rfl)
    | (apply FWk.slN; rfl; omega; rfl))
    · have eq : wideQ k mn mx (wideT subs[i]) = wideT subs[i] := by rw [wideQ, if_neg h5]
      rw [eq] at fin hq
      repeat' (first
    | (apply r_mvV; rfl)
    | (apply r_mvP; rfl)
    | (apply r_mvPL; rfl)
    | (apply r_mvS; rfl)
    | (apply r_mvSL; rfl)
    | (apply r_mvA; rfl)
    | (apply r_mvT; rfl)
    | (apply r_mvF; rfl)
    | (apply r_mvD; rfl)
    | (apply r_nckD; rfl)
    | (apply r_faddD; rfl)
    | (apply r_nckL; rfl)
    | (apply r_faddL; rfl)
    | (apply r_l; apply ld_kind; assumption; rfl)
    | (apply r_l; apply ld_mn; assumption; rfl)
    | (apply r_l; apply ld_mx; assumption; rfl)
    | (apply r_l; apply ld_subs; assumption; rfl)
    | (apply r_l; apply ld_set; assumption; rfl)
    | (apply r_l; apply ld_node; assumption; rfl)
    | (apply r_l; apply ld_kind'; assumption; rfl)
    | (apply r_l; apply ld_mn'; assumption; rfl)
    | (apply r_l; apply ld_mx'; assumption; rfl)
    | (apply r_l; apply ld_subs'; assumption; rfl)
    | (apply r_l; apply ld_node'; assumption; rfl)
    | (apply r_p; apply ix_sub; rfl; rfl; omega)
    | (apply r_callA; rfl; rfl; apply ih' i hlt)
    | (apply r_mul; rfl; rfl; rfl; omega)
    | (apply r_ldL; rfl; rfl; rfl)
    | (apply r_eql; rfl; rfl; (first | (apply decide_eq_true; omega) | (apply decide_eq_false; omega) | rfl))
    | (apply r_neq; rfl; rfl; (first | (apply decide_eq_true; omega) | (apply decide_eq_false; omega) | rfl))
    | (apply r_lss; rfl; rfl; (first | (apply decide_eq_true; omega) | (apply decide_eq_false; omega) | rfl))
    | (apply r_add; rfl; rfl; rfl; omega)
    | (apply r_min2; rfl; rfl; rfl)
    | (apply r_lenD; rfl)
    | (apply r_lenL; rfl)
    | (apply r_len0; rfl)
    | (apply r_p; rfl)
    | (apply r_nilK)
    | (apply r_nil)
    | (apply k_V; rfl)
    | (apply k_P; rfl)
    | (apply k_PL; rfl)
    | (apply k_S; rfl)
    | (apply k_SL; rfl)
    | (apply k_A; rfl)
    | (apply k_T; rfl)
    | (apply k_F; rfl)
    | (apply k_D; rfl; rotate_left; rfl)
    | (apply k_nil)
    | (apply e_ret (vs := [.d (.val _)]); rfl)
    | (apply e_ret; rfl)
    | (apply e_ret' (vs := [.d (.val _)]); rfl)
    | (apply e_ret'; rfl)
    | (apply w_seq)
    | (apply w_ops; ((conv => lhs; simp only [Nat.reduceAdd]) <;> rfl))
    | (apply w_condT; rfl)
    | (apply w_condF; rfl)
    | ((apply w_condS; rfl) <;> (intro h; try simp only [decide_eq_true_eq, decide_eq_false_iff_not, Bool.not_eq_true, Bool.not_eq_false] at h))
    | (apply e_thenN)
    | (apply w_block)
    | (apply e_thenR)
    | (apply e_thenX)
    | (apply e_blkN)
    | (apply e_blkR)
    | (apply e_blkE)
    | (apply w_exit)
    | (apply w_ret)
    | (apply w_skip)
    | (apply e_blkE'; rfl))
      all_goals
        apply e_thenK; apply fin
        refine wk0 (by omega) ?_
        repeat' (first
    | exact FWk.nil
    | (apply FWk.i; rfl; (first | rfl | omega | (simp; done)))
    | (apply FWk.sl; rfl; rfl; rfl; rfl; omega; rfl)
    | (apply FWk.ptr; rfl; rfl; rfl; omega; rfl)
    | (apply FWk.d; rfl; rfl)
    | (apply FWk.a; rfl; rfl; rfl)
    | (apply FWk.slN; rfl; omega; rfl))
  · have e : wideT (.node k a b c d mn mx subs) = w := by
      rw [hi.2.2, List.drop_of_length_le (by omega), wideL]
    repeat' (first
    | (apply r_mvV; rfl)
    | (apply r_mvP; rfl)
    | (apply r_mvPL; rfl)
    | (apply r_mvS; rfl)
    | (apply r_mvSL; rfl)
    | (apply r_mvA; rfl)
    | (apply r_mvT; rfl)
    | (apply r_mvF; rfl)
    | (apply r_mvD; rfl)
    | (apply r_nckD; rfl)
    | (apply r_faddD; rfl)
    | (apply r_nckL; rfl)
    | (apply r_faddL; rfl)
    | (apply r_l; apply ld_kind; assumption; rfl)
    | (apply r_l; apply ld_mn; assumption; rfl)
    | (apply r_l; apply ld_mx; assumption; rfl)
    | (apply r_l; apply ld_subs; assumption; rfl)
    | (apply r_l; apply ld_set; assumption; rfl)
    | (apply r_l; apply ld_node; assumption; rfl)
    | (apply r_l; apply ld_kind'; assumption; rfl)
    | (apply r_l; apply ld_mn'; assumption; rfl)
    | (apply r_l; apply ld_mx'; assumption; rfl)
    | (apply r_l; apply ld_subs'; assumption; rfl)
    | (apply r_l; apply ld_node'; assumption; rfl)
    | (apply r_ldL; rfl; rfl; rfl)
    | (apply r_eql; rfl; rfl; (first | (apply decide_eq_true; omega) | (apply decide_eq_false; omega) | rfl))
    | (apply r_neq; rfl; rfl; (first | (apply decide_eq_true; omega) | (apply decide_eq_false; omega) | rfl))
    | (apply r_lss; rfl; rfl; (first | (apply decide_eq_true; omega) | (apply decide_eq_false; omega) | rfl))
    | (apply r_add; rfl; rfl; rfl; omega)
    | (apply r_min2; rfl; rfl; rfl)
    | (apply r_lenD; rfl)
    | (apply r_lenL; rfl)
    | (apply r_len0; rfl)
    | (apply r_p; rfl)
    | (apply r_nilK)
    | (apply r_nil)
    | (apply k_V; rfl)
    | (apply k_P; rfl)
    | (apply k_PL; rfl)
    | (apply k_S; rfl)
    | (apply k_SL; rfl)
    | (apply k_A; rfl)
    | (apply k_T; rfl)
    | (apply k_F; rfl)
    | (apply k_D; rfl; rotate_left; rfl)
    | (apply k_nil)
    | (apply e_ret (vs := [.d (.val _)]); rfl)
    | (apply e_ret; rfl)
    | (apply e_ret' (vs := [.d (.val _)]); rfl)
    | (apply e_ret'; rfl)
    | (apply w_seq)
    | (apply w_ops; ((conv => lhs; simp only [Nat.reduceAdd]) <;> rfl))
    | (apply w_condT; rfl)
    | (apply w_condF; rfl)
    | ((apply w_condS; rfl) <;> (intro h; try simp only [decide_eq_true_eq, decide_eq_false_iff_not, Bool.not_eq_true, Bool.not_eq_false] at h))
    | (apply e_thenN)
    | (apply w_block)
    | (apply e_thenR)
    | (apply e_thenX)
    | (apply e_blkN)
    | (apply e_blkR)
    | (apply e_blkE)
    | (apply w_exit)
    | (apply w_ret)
    | (apply w_skip)
    | (apply e_blkE'; rfl))
    exact retI e.symm
theorem mWide_good (t : T) (hc : t.cnt ≤ 1000000) (hok : fitsT t 12 = true → okT t) : Good Try.prog 68 [nodeA t] none (.i (if fitsT t 12 = true then wideT t else 0)) none none := by
  have hright := right_good t hc
  have hw := fun (h : fitsT t 12 = true) => mwide_good 1000000 t (encN t) 0 (NodeAt.self _) hc (Nat.le_refl _) (hok h)
  obtain ⟨k, a, b, c, d, mn, mx, subs⟩ := t
  have e0 : nodeA (.node k a b c d mn mx subs) = .agg [.i k, .d (.val (.int .u64 a)), .d (.val (.int .u64 b)), .d (.val (.int .u64 c)), .d (.val (.int .u64 d)), .i mn, .i mx, .d (.sl (encL subs) subs.length)] := rfl
  rw [e0] at hright ⊢
  refine b68 (by simp) (by simp) (w_init ?_)
  unfold x68
  rcases Bool.eq_false_or_eq_true (fitsT (.node k a b c d mn mx subs) 12) with hR | hR
  case inr =>
    rw [hR] at hright
    repeat' (first
    | (apply r_mvV; rfl)
    | (apply r_mvP; rfl)
    | (apply r_mvPL; rfl)
    | (apply r_mvS; rfl)
    | (apply r_mvSL; rfl)
    | (apply r_mvA; rfl)
    | (apply r_mvT; rfl)
    | (apply r_mvF; rfl)
    | (apply r_mvD; rfl)
    | (apply r_l; apply ld_kind; assumption; rfl)
    | (apply r_l; apply ld_mn; assumption; rfl)
    | (apply r_l; apply ld_mx; assumption; rfl)
    | (apply r_l; apply ld_subs; assumption; rfl)
    | (apply r_l; apply ld_set; assumption; rfl)
    | (apply r_l; apply ld_node; assumption; rfl)
    | (apply r_l; apply ld_kind'; assumption; rfl)
    | (apply r_l; apply ld_mn'; assumption; rfl)
    | (apply r_l; apply ld_mx'; assumption; rfl)
    | (apply r_l; apply ld_subs'; assumption; rfl)
    | (apply r_l; apply ld_node'; assumption; rfl)
    | (apply r_callA; rfl; rfl; exact hright)
    | (apply r_ldL; rfl; rfl; rfl)
    | (apply r_not; rfl; rfl)
    | (apply r_box; ((conv => lhs; simp only [Nat.reduceAdd]) <;> rfl); rfl; rfl; rfl)
    | (apply r_nilK)
    | (apply r_nil)
    | (apply k_V; rfl)
    | (apply k_P; rfl)
    | (apply k_PL; rfl)
    | (apply k_S; rfl)
    | (apply k_SL; rfl)
    | (apply k_A; rfl)
    | (apply k_T; rfl)
    | (apply k_F; rfl)
    | (apply k_D; rfl; rotate_left; rfl)
    | (apply k_nil)
    | (apply e_ret (vs := [.d (.val _)]); rfl)
    | (apply e_ret; rfl)
    | (apply e_ret' (vs := [.d (.val _)]); rfl)
    | (apply e_ret'; rfl)
    | (apply w_seq)
    | (apply w_ops; ((conv => lhs; simp only [Nat.reduceAdd]) <;> rfl))
    | (apply w_condT; rfl)
    | (apply w_condF; rfl)
    | ((apply w_condS; rfl) <;> (intro h; try simp only [decide_eq_true_eq, decide_eq_false_iff_not, Bool.not_eq_true, Bool.not_eq_false] at h))
    | (apply e_thenN)
    | (apply w_block)
    | (apply e_thenR)
    | (apply e_thenX)
    | (apply e_blkN)
    | (apply e_blkR)
    | (apply e_blkE)
    | (apply w_exit)
    | (apply w_ret)
    | (apply w_skip)
    | (apply e_blkE'; rfl))
    exact retI (by simp [hR])
  rw [hR] at hright
  have hw := hw hR
  repeat' (first
    | (apply r_mvV; rfl)
    | (apply r_mvP; rfl)
    | (apply r_mvPL; rfl)
    | (apply r_mvS; rfl)
    | (apply r_mvSL; rfl)
    | (apply r_mvA; rfl)
    | (apply r_mvT; rfl)
    | (apply r_mvF; rfl)
    | (apply r_mvD; rfl)
    | (apply r_l; apply ld_kind; assumption; rfl)
    | (apply r_l; apply ld_mn; assumption; rfl)
    | (apply r_l; apply ld_mx; assumption; rfl)
    | (apply r_l; apply ld_subs; assumption; rfl)
    | (apply r_l; apply ld_set; assumption; rfl)
    | (apply r_l; apply ld_node; assumption; rfl)
    | (apply r_l; apply ld_kind'; assumption; rfl)
    | (apply r_l; apply ld_mn'; assumption; rfl)
    | (apply r_l; apply ld_mx'; assumption; rfl)
    | (apply r_l; apply ld_subs'; assumption; rfl)
    | (apply r_l; apply ld_node'; assumption; rfl)
    | (apply r_callA; rfl; rfl; exact hright)
    | (apply r_call (bs := [.d (.ptr (encN (.node k a b c d mn mx subs)) 0)]) (us := [1]); rfl; rfl; exact hw; rfl)
    | (apply r_ldL; rfl; rfl; rfl)
    | (apply r_not; rfl; rfl)
    | (apply r_box; ((conv => lhs; simp only [Nat.reduceAdd]) <;> rfl); rfl; rfl; rfl)
    | (apply r_nilK)
    | (apply r_nil)
    | (apply k_V; rfl)
    | (apply k_P; rfl)
    | (apply k_PL; rfl)
    | (apply k_S; rfl)
    | (apply k_SL; rfl)
    | (apply k_A; rfl)
    | (apply k_T; rfl)
    | (apply k_F; rfl)
    | (apply k_D; rfl; rotate_left; rfl)
    | (apply k_nil)
    | (apply e_ret (vs := [.d (.val _)]); rfl)
    | (apply e_ret; rfl)
    | (apply e_ret' (vs := [.d (.val _)]); rfl)
    | (apply e_ret'; rfl)
    | (apply w_seq)
    | (apply w_ops; ((conv => lhs; simp only [Nat.reduceAdd]) <;> rfl))
    | (apply w_condT; rfl)
    | (apply w_condF; rfl)
    | ((apply w_condS; rfl) <;> (intro h; try simp only [decide_eq_true_eq, decide_eq_false_iff_not, Bool.not_eq_true, Bool.not_eq_false] at h))
    | (apply e_thenN)
    | (apply w_block)
    | (apply e_thenR)
    | (apply e_thenX)
    | (apply e_blkN)
    | (apply e_blkR)
    | (apply e_blkE)
    | (apply w_exit)
    | (apply w_ret)
    | (apply w_skip)
    | (apply e_blkE'; rfl))
  exact retI (by simp [hR])
end Go.Sv
namespace Go.Sv
open Go Go.Proofs
set_option maxRecDepth 100000
set_option maxHeartbeats 4000000
attribute [local irreducible] W E R KP thenK blockK retK Good xwp aRun
end Go.Sv
namespace Go.Sv
open Go Go.Proofs
section
variable {P : Program} {Q : Cont} {fr : Fr} {C : Heap} {Z : Frz} {nx : Nat} {base n d0 : Nat} {l : List (Nat × XO)} {kp : Option (List Nat)} {x y : X}
end
set_option maxRecDepth 100000
set_option maxHeartbeats 4000000
attribute [local irreducible] W E R KP thenK blockK retK Good xwp aRun
end Go.Sv
namespace Go.Sv
open Go Go.Proofs
set_option maxRecDepth 100000
set_option maxHeartbeats 4000000
attribute [local irreducible] W E R KP thenK blockK retK Good xwp aRun
end Go.Sv
namespace Go.Sv
open Go Go.Proofs
set_option maxRecDepth 100000
end Go.Sv
namespace Go.Sv
open Go Go.Proofs
set_option maxRecDepth 100000
set_option maxHeartbeats 4000000
attribute [local irreducible] W E R KP thenK blockK retK Good xwp aRun
end Go.Sv
namespace Go.Sv
open Go Go.Proofs
section
variable {P : Program} {Q : Cont} {fr : Fr} {C : Heap} {Z : Frz} {nx : Nat} {base n d : Nat} {l : List (Nat × XO)} {kp : Option (List Nat)} {x i y s : X} {j c : Nat}
theorem r_ixPL {m b off : Nat} {kd : IntKind} (hx : x.ev fr = .ptrL b off) (hi : i.ev fr = .d (.val (.int kd (j : Nat)))) (hj : j < m) (k : R P l base kp Q nx (fr.put d (.ptrL b (off + j))) C Z) : R P ((n, ⟨some d, none, .idxP m 1 x i⟩) :: l) base kp Q nx fr C Z := by
  refine r_p ?_ k
  simp [xp, hx, hi, intIn, hj]
end
set_option maxRecDepth 100000
set_option maxHeartbeats 4000000
attribute [local irreducible] W E R KP thenK blockK retK Good xwp aRun
def setA (a b c d : Int) : AV := .agg [.d (.val (.int .u64 a)), .d (.val (.int .u64 b)), .d (.val (.int .u64 c)), .d (.val (.int .u64 d))]
end Go.Sv
namespace Go.Sv
open Go Go.Proofs
end Go.Sv
namespace Go.Sv
open Go

def word (s : ByteArray) (i j : Nat) : List Nat := (List.range' i (j - i)).map (byteN s)
theorem word_len (s : ByteArray) (i j : Nat) : (word s i j).length = j - i := by simp [word]
theorem word_app (s : ByteArray) {i j k : Nat} (h : i ≤ j) (h2 : j ≤ k) : word s i j ++ word s j k = word s i k := by
  unfold word
  rw [← List.map_append]
  congr 1
  have e : j = i + (j - i) := by omega
  conv => lhs; rhs; arg 1; rw [e]
  rw [List.range'_append_1]
  congr 1; omega
theorem word_split (s : ByteArray) {i k : Nat} (h : i ≤ k) {u v : List Nat} (e : word s i k = u ++ v) : i + u.length ≤ k ∧ u = word s i (i + u.length) ∧ v = word s (i + u.length) k := by
  have hl := congrArg List.length e
  rw [word_len, List.length_append] at hl
  have h1 : i + u.length ≤ k := by omega
  rw [← word_app s (Nat.le_add_right i u.length) h1] at e
  have := List.append_inj e (by rw [word_len]; omega)
  exact ⟨h1, this.1.symm, this.2.symm⟩

def powL (P : List Nat → Prop) : Nat → List Nat → Prop
  | 0, w => w = []
  | n + 1, w => ∃ u v, w = u ++ v ∧ P u ∧ powL P n v

mutual
def L : T → List Nat → Prop
  | .node k a b c d mn mx subs, w =>
    if k = 1 then w = []
    else if k = 2 then ∃ x, w = [x] ∧ inG a b c d x = true
    else if k = 3 then catL subs w
    else if k = 4 then altL subs w
    else if k = 5 then ∃ r : Nat, mn ≤ r ∧ (mx < 0 ∨ (r : Int) ≤ mx) ∧ powL (fstL subs) r w
    else False
def catL : List T → List Nat → Prop
  | [], w => w = []
  | t :: l, w => ∃ u v, w = u ++ v ∧ L t u ∧ catL l v
def altL : List T → List Nat → Prop
  | [], _ => False
  | t :: l, w => L t w ∨ altL l w
def fstL : List T → List Nat → Prop
  | [], w => w = []
  | t :: _, w => L t w
end

def At (p : List Bool) (j : Nat) : Prop := p.getD j false = true
theorem At.lt {p : List Bool} {j : Nat} (h : At p j) : j < p.length := by
  unfold At at h
  rcases Nat.lt_or_ge j p.length with h' | h'
  · exact h'
  · rw [List.getD_eq_getElem?_getD, List.getElem?_eq_none h'] at h; simp at h
theorem at_set {p : List Bool} {i : Nat} {v : Bool} (j : Nat) (hi : i < p.length) : At (p.set i v) j ↔ (j = i ∧ v = true) ∨ (j ≠ i ∧ At p j) := by
  unfold At
  rw [List.getD_eq_getElem?_getD, List.getD_eq_getElem?_getD, List.getElem?_set]
  by_cases h : i = j
  · subst h; simp [hi]
  · simp [h, Ne.symm h]
def Goes (s : ByteArray) (f : List Bool → List Bool) (P : List Nat → Prop) : Prop :=
  ∀ p, p.length = s.size + 1 → (f p).length = s.size + 1 ∧ ∀ j, At (f p) j ↔ ∃ i, i ≤ j ∧ At p i ∧ j ≤ s.size ∧ P (word s i j)

def Sub (p q : List Bool) : Prop := ∀ j, At p j → At q j
theorem Goes.mono {s : ByteArray} {f : List Bool → List Bool} {P : List Nat → Prop} (hf : Goes s f P) {p q : List Bool} (hp : p.length = s.size + 1) (hq : q.length = s.size + 1) (h : Sub p q) : Sub (f p) (f q) := by
  intro j hj
  obtain ⟨i, h1, h2, h3, h4⟩ := ((hf p hp).2 j).1 hj
  exact ((hf q hq).2 j).2 ⟨i, h1, h i h2, h3, h4⟩
theorem Goes.step {s : ByteArray} {f : List Bool → List Bool} {P : List Nat → Prop} (hf : Goes s f P) {p q r : List Bool} (hp : p.length = s.size + 1) (hq : q.length = s.size + 1) (hr : r.length = s.size + 1) (h : ∀ j, At r j → At p j ∨ At q j) : ∀ j, At (f r) j → At (f p) j ∨ At (f q) j := by
  intro j hj
  obtain ⟨i, h1, h2, h3, h4⟩ := ((hf r hr).2 j).1 hj
  rcases h i h2 with h | h
  · exact .inl (((hf p hp).2 j).2 ⟨i, h1, h, h3, h4⟩)
  · exact .inr (((hf q hq).2 j).2 ⟨i, h1, h, h3, h4⟩)
theorem Goes.seq {s : ByteArray} {f g : List Bool → List Bool} {P Q : List Nat → Prop} (hf : Goes s f P) (hg : Goes s g Q) : Goes s (fun p => g (f p)) (fun w => ∃ u v, w = u ++ v ∧ P u ∧ Q v) := by
  intro p hp
  obtain ⟨h1, h2⟩ := hf p hp
  obtain ⟨h3, h4⟩ := hg (f p) h1
  refine ⟨h3, fun j => ?_⟩
  rw [h4 j]
  constructor
  · rintro ⟨i, g1, g2, g3, g4⟩
    obtain ⟨i0, k1, k2, k3, k4⟩ := (h2 i).1 g2
    exact ⟨i0, by omega, k2, g3, _, _, (word_app s k1 g1).symm, k4, g4⟩
  · rintro ⟨i, g1, g2, g3, u, v, e, g4, g5⟩
    obtain ⟨k1, k2, k3⟩ := word_split s g1 e
    exact ⟨i + u.length, k1, (h2 _).2 ⟨i, by omega, g2, by omega, k2 ▸ g4⟩, g3, k3 ▸ g5⟩
theorem Goes.congr {s : ByteArray} {f : List Bool → List Bool} {P Q : List Nat → Prop} (hf : Goes s f P) (h : ∀ w, P w ↔ Q w) : Goes s f Q := by
  intro p hp
  refine ⟨(hf p hp).1, fun j => ?_⟩
  rw [(hf p hp).2 j]
  simp only [h]
end Go.Sv
namespace Go.Sv
open Go Go.Proofs
set_option maxRecDepth 100000
set_option maxHeartbeats 4000000
attribute [local irreducible] W E R KP thenK blockK retK Good xwp aRun
end Go.Sv
namespace Go.Sv
open Go Go.Proofs
section
variable {P : Program} {Q : Cont} {fr : Fr} {C : Heap} {Z Z' : Frz} {nx : Nat} {base n d : Nat} {l : List (Nat × XO)} {kp : Option (List Nat)} {x i y s : X}
end
set_option maxRecDepth 100000
set_option maxHeartbeats 4000000
attribute [local irreducible] W E R KP thenK blockK retK Good xwp aRun
end Go.Sv
namespace Go.Sv
open Go Go.Proofs
set_option linter.unusedVariables false
set_option maxRecDepth 100000

theorem cells_27 : Try.prog.cellsOf 27 = 8 := by kernel_rfl
theorem cells_3 : Try.prog.cellsOf 3 = 1 := by kernel_rfl
theorem cells_24 : Try.prog.cellsOf 24 = 4 := by kernel_rfl
theorem cells_22 : Try.prog.cellsOf 22 = 1 := by kernel_rfl
theorem cells_25 : Try.prog.cellsOf 25 = 1 := by kernel_rfl
def inW (k : Int) : Prop := -9223372036854775808 ≤ k ∧ k < 9223372036854775808
mutual
def inT : T → Prop
  | .node k a b c d mn mx subs => inW k ∧ okW a ∧ okW b ∧ okW c ∧ okW d ∧ inW mn ∧ inW mx ∧ inL subs
def inL : List T → Prop
  | [] => True
  | t :: l => inT t ∧ inL l
end
theorem inL_of : ∀ {l : List T}, (∀ t ∈ l, inT t) → inL l
  | [], _ => trivial
  | t :: l, h => ⟨h t (by simp), inL_of fun u hu => h u (by simp [hu])⟩

section
variable {H : Type} {enc : TypeId × Value → H} {W : World} {sp : Nat → Bool}
theorem wf_i64 {n : Int} (h : (Lit.int .i64 n).wf = true) : inW n := by
  simp [Lit.wf, IntKind.min, IntKind.max, IntKind.signed, IntKind.bits] at h
  unfold inW; omega
theorem wf_u64 {n : Int} (h : (Lit.int .u64 n).wf = true) : okW n := by
  simp [Lit.wf, IntKind.min, IntKind.max, IntKind.signed, IntKind.bits] at h
  unfold okW; omega
def NoA : Nat → Prop := fun _ => False
def RDs (W : World) (vs : List Value) (ds : List DV) : Prop := vs.length = ds.length ∧ ∀ (j : Nat) (v : Value) (d : DV), vs[j]? = some v → ds[j]? = some d → RD W NoA v d
theorem RDs.nil : RDs W [] [] := ⟨rfl, fun j v d h => by simp at h⟩
theorem RDs.cons {v : Value} {d : DV} {vs : List Value} {ds : List DV} (h : RD W NoA v d) (hs : RDs W vs ds) : RDs W (v :: vs) (d :: ds) := by
  refine ⟨by simp [hs.1], fun j v' d' h1 h2 => ?_⟩
  cases j with
  | zero => simp at h1 h2; subst h1; subst h2; exact h
  | succ j => exact hs.2 j v' d' (by simpa using h1) (by simpa using h2)

theorem cells_at {a : Addr} {n : Nat} {cs : List Value} (h : W.cells? 0 a n = some cs) : cs.length = n ∧ ∀ j, j < n → cs[j]? = W.cell? (a.add j) := by
  unfold World.cells? at h
  rw [if_pos (Nat.zero_le _)] at h
  refine ⟨by simpa using mapM_some_length h, fun j hj => ?_⟩
  exact (mapM_some_get h j j (by simp [hj])).symm
theorem cell_spot {a : Addr} {v : Value} (h : W.cell? a = some v) : a = ⟨a.block, a.off, none⟩ := by
  obtain ⟨b, o, s⟩ := a
  unfold World.cell? at h
  split at h
  · split at h
    · cases h
    · rename_i hs
      cases s with
      | none => rfl
      | some _ => simp at hs
  · cases h

theorem addr_add2 (b o m k : Nat) : (((⟨b, o, none⟩ : Addr).add m).add k) = ⟨b, o + (m + k), none⟩ := by
  unfold Addr.add
  split <;> split <;> simp_all <;> omega
theorem elems_open {sz : Nat} (hsz : 0 < sz) {a : Addr} {α : Type} {P : α → Prop} {en : α → List DV} (hen : ∀ x, (en x).length = sz) : ∀ (len : Nat), (∀ i, i < len → ∃ cs x, W.cells? 0 (a.add (i * sz)) sz = some cs ∧ P x ∧ RDs W cs (en x)) →
    ∃ l : List α, l.length = len ∧ (∀ x ∈ l, P x) ∧ ∀ j, j < len * sz → ∃ v d, W.cell? ⟨a.block, a.off + j, none⟩ = some v ∧ (l.flatMap en)[j]? = some d ∧ RD W NoA v d
  | 0, _ => ⟨[], rfl, by simp, fun j hj => by omega⟩
  | len + 1, h => by
    obtain ⟨l, h1, h2, h3⟩ := elems_open hsz hen len fun i hi => h i (by omega)
    obtain ⟨cs, x, h4, h5, h6⟩ := h len (by omega)
    obtain ⟨h7, h8⟩ := cells_at h4
    have hspot : a = ⟨a.block, a.off, none⟩ := by
      obtain ⟨cs0, x0, g4, _, _⟩ := h 0 (by omega)
      obtain ⟨g7, g8⟩ := cells_at g4
      have g9 := g8 0 hsz
      rw [List.getElem?_eq_getElem (by omega)] at g9
      have := cell_spot g9.symm
      simpa [Addr.add] using this
    have hfl : ∀ m : List α, (m.flatMap en).length = m.length * sz := by
      intro m
      induction m with
      | nil => simp
      | cons y m ih => simp [ih, hen, Nat.succ_mul]; omega
    refine ⟨l ++ [x], by simp [h1], fun y hy => ?_, fun j hj => ?_⟩
    · rcases List.mem_append.1 hy with hy | hy
      · exact h2 y hy
      · simp at hy; subst hy; exact h5
    · rcases Nat.lt_or_ge j (len * sz) with hlt | hge
      · obtain ⟨v, d, g1, g2, g3⟩ := h3 j hlt
        refine ⟨v, d, g1, ?_, g3⟩
        rw [List.flatMap_append, List.getElem?_append_left (by rw [hfl, h1]; exact hlt)]
        exact g2
      · have hj2 : j - len * sz < sz := by rw [Nat.succ_mul] at hj; omega
        have g1 := h8 (j - len * sz) hj2
        rw [List.getElem?_eq_getElem (by omega)] at g1
        have hl6 := h6.1
        have hx : (en x)[j - len * sz]? = some (en x)[j - len * sz] := List.getElem?_eq_getElem (by rw [hen]; exact hj2)
        refine ⟨cs[j - len * sz], (en x)[j - len * sz], ?_, ?_, h6.2 _ _ _ (List.getElem?_eq_getElem (by omega)) hx⟩
        · rw [g1]
          congr 1
          have e : len * sz + (j - len * sz) = j := by omega
          have h9 := addr_add2 a.block a.off (len * sz) (j - len * sz)
          rw [← hspot, e] at h9
          exact h9.symm
        · rw [List.flatMap_append, List.getElem?_append_right (by rw [hfl, h1]; exact hge), hfl, h1]
          simpa using hx
theorem encL_flat : ∀ l : List T, encL l = l.flatMap encN
  | [] => rfl
  | t :: l => by simp [encL, encL_flat l]

theorem len8 {cs : List Value} (h : cs.length = 8) : ∃ a b c d e f g i, cs = [a, b, c, d, e, f, g, i] := by
  match cs, h with
  | [a, b, c, d, e, f, g, i], _ => exact ⟨a, b, c, d, e, f, g, i, rfl⟩

theorem node_open : ∀ (fuel : Nat) (cs : List Value) (x : DataW H × List MemPlace), DataW.trod enc Try.prog W 0 sp true fuel 27 cs = some x → ∃ t : T, inT t ∧ RDs W cs (encN t) := by
  intro fuel
  induction fuel using Nat.strongRecOn with
  | ind fuel ih =>
  intro cs x h
  obtain ⟨xs, n, rfl, _, hl, hxl, hf⟩ := DataW.trod_struct Try.underlying27 h
  rw [cells_27] at hl
  obtain ⟨c0, c1, c2, c3, c4, c5, c6, c7, rfl⟩ := len8 hl
  have hx : ∀ i, i < 5 → ∃ y, xs[i]? = some y := fun i hi => ⟨_, List.getElem?_eq_getElem (by rw [hxl]; exact hi)⟩
  obtain ⟨y0, e0⟩ := hx 0 (by omega)
  obtain ⟨y1, e1⟩ := hx 1 (by omega)
  obtain ⟨y2, e2⟩ := hx 2 (by omega)
  obtain ⟨y3, e3⟩ := hx 3 (by omega)
  obtain ⟨y4, e4⟩ := hx 4 (by omega)
  have f0 := hf 0 _ rfl
  have f1 := hf 1 _ rfl
  have f2 := hf 2 _ rfl
  have f3 := hf 3 _ rfl
  have f4 := hf 4 _ rfl
  simp only [cells_3, cells_24, cells_25, List.drop_succ_cons, List.drop_zero, List.take_succ_cons, List.take_zero, e0, e1, e2, e3, e4] at f0 f1 f2 f3 f4
  obtain ⟨k, g0, _, w0⟩ := DataW.trod_int Try.underlying3 f0
  obtain ⟨mn, g2, _, w2⟩ := DataW.trod_int Try.underlying3 f2
  obtain ⟨mx, g3, _, w3⟩ := DataW.trod_int Try.underlying3 f3
  obtain ⟨ws, m, rfl, _, hl1, hwl, hw⟩ := DataW.trod_array Try.underlying24 f1
  have hy : ∀ i, i < 4 → ∃ y, ws[i]? = some y := fun i hi => ⟨_, List.getElem?_eq_getElem (by rw [hwl]; exact hi)⟩
  obtain ⟨z0, k0⟩ := hy 0 (by omega)
  obtain ⟨z1, k1⟩ := hy 1 (by omega)
  obtain ⟨z2, k2⟩ := hy 2 (by omega)
  obtain ⟨z3, k3⟩ := hy 3 (by omega)
  have q0 := hw 0 (by omega)
  have q1 := hw 1 (by omega)
  have q2 := hw 2 (by omega)
  have q3 := hw 3 (by omega)
  simp only [cells_22, Nat.zero_mul, Nat.one_mul, Nat.mul_one, List.drop_succ_cons, List.drop_zero, List.take_succ_cons, List.take_zero, k0, k1, k2, k3] at q0 q1 q2 q3
  obtain ⟨a, a0, _, v0⟩ := DataW.trod_int Try.underlying22 q0
  obtain ⟨b, a1, _, v1⟩ := DataW.trod_int Try.underlying22 q1
  obtain ⟨c, a2, _, v2⟩ := DataW.trod_int Try.underlying22 q2
  obtain ⟨d, a3, _, v3⟩ := DataW.trod_int Try.underlying22 q3
  have one : ∀ {u v : Value}, [u] = [v] → u = v := fun h => by cases h; rfl
  have s0 := one g0; have s2 := one g2; have s3 := one g3
  have t0 := one a0; have t1 := one a1; have t2 := one a2; have t3 := one a3
  subst s0 s2 s3 t0 t1 t2 t3
  have fin : ∀ subs : List T, inL subs → RD W NoA c7 (.sl (encL subs) subs.length) → ∃ t : T, inT t ∧ RDs W [.int .i64 k, .int .u64 a, .int .u64 b, .int .u64 c, .int .u64 d, .int .i64 mn, .int .i64 mx, c7] (encN t) := by
    intro subs hs hr
    refine ⟨.node k a b c d mn mx subs, ⟨wf_i64 w0, wf_u64 v0, wf_u64 v1, wf_u64 v2, wf_u64 v3, wf_i64 w2, wf_i64 w3, hs⟩, ?_⟩
    exact .cons (.val _ rfl) (.cons (.val _ rfl) (.cons (.val _ rfl) (.cons (.val _ rfl) (.cons (.val _ rfl) (.cons (.val _ rfl) (.cons (.val _ rfl) (.cons hr .nil)))))))
  rcases DataW.trod_slice Try.underlying25 f4 with ⟨g4, _⟩ | ⟨ad, len, cap, elems, rest, n', hn', g4, _, _, hlc, _, hel, hr, _⟩
  · have := one g4; subst this
    exact fin [] trivial (.sl0 none 0)
  · have := one g4; subst this
    have hall : ∀ i, i < len → ∃ cs t, W.cells? 0 (ad.add (i * 8)) 8 = some cs ∧ inT t ∧ RDs W cs (encN t) := by
      intro i hi
      have h1 := hr i hi
      rw [cells_27, List.getElem?_eq_getElem (by omega)] at h1
      obtain ⟨cs, h2, h3⟩ := Option.bind_eq_some_iff.1 h1
      obtain ⟨t, h4, h5⟩ := ih n' (by omega) cs _ h3
      exact ⟨cs, t, h2, h4, h5⟩
    obtain ⟨l, h1, h2, h3⟩ := elems_open (sz := 8) (by omega) encN_len len hall
    refine fin l (inL_of h2) ?_
    rw [h1]
    by_cases h0 : len = 0
    · subst h0
      rw [List.length_eq_zero_iff.1 h1]
      exact .sl0 _ _
    · have hsp : ad = ⟨ad.block, ad.off, none⟩ := by
        obtain ⟨cs, t, g1, _, g2⟩ := hall 0 (by omega)
        obtain ⟨g7, g8⟩ := cells_at g1
        have g9 := g8 0 (by omega)
        rw [List.getElem?_eq_getElem (by omega)] at g9
        have := cell_spot g9.symm
        simpa [Addr.add] using this
      rw [hsp]
      have hlen : (encL l).length = len * 8 := by rw [encL_len, h1]
      refine .sl ad.block ad.off len cap (encL l) (fun j => (W.cell? ⟨ad.block, ad.off + j, none⟩).getD undef) (fun h => h) (by omega) hlc (fun j hj => ?_) (fun j hj => ?_)
      · obtain ⟨v, _, g1, _⟩ := h3 j (by omega)
        rw [g1]; rfl
      · obtain ⟨v, dd, g1, g2, g3⟩ := h3 j (by omega)
        rw [g1]
        rw [← encL_flat, List.getElem?_eq_getElem hj] at g2
        cases g2
        exact g3
end
end Go.Sv
namespace Go.Sv
open Go
set_option linter.unusedVariables false

mutual
theorem fits_open : ∀ (t : T) (left : Int), fitsT t left = true ↔ (0 ≤ openT t ∧ openT t ≤ left)
  | .node k a b c d mn mx subs, left => by
    have ih := fitsL_open k subs left 0 (Int.le_refl _)
    simp only [fitsT, openT]
    by_cases hp : plainT (.node k a b c d mn mx subs) = true
    · rw [if_pos hp]
      simp only [Bool.and_eq_true, decide_eq_true_eq, hp, and_true]
      exact ih
    · rw [if_neg hp]
      simp only [Bool.and_eq_true, decide_eq_true_eq]
      constructor
      · rintro ⟨⟨_, h⟩, _⟩; exact absurd h hp
      · rintro ⟨h, _⟩; omega
theorem fitsL_open (k : Int) : ∀ (l : List T) (left m : Int), 0 ≤ m → ((m ≤ left ∧ fitsL k l left = true) ↔ (0 ≤ openL k l m ∧ openL k l m ≤ left))
  | [], left, m, hm => by
    have e : (fitsL k [] left = true) = True := by simp [fitsL]
    simp only [openL, e, and_true]; omega
  | t :: l, left, m, hm => by
    have h1 := fits_open t (if roundG k t.kind = true then left - 1 else left)
    simp only [fitsL, openL, Bool.and_eq_true]
    rw [h1]
    by_cases hn : openT t < 0
    · rw [if_pos hn]; omega
    · rw [if_neg hn]
      have h2 := fitsL_open k l left (max m (if roundG k t.kind = true then openT t + 1 else openT t)) (by split <;> omega)
      rw [← h2]
      by_cases hf : fitsL k l left = true
      · simp only [hf, and_true]; split <;> omega
      · simp only [hf, and_false]; simp
end
theorem right_fits (t : T) : rightT t = fitsT t 12 := by
  rw [Bool.eq_iff_iff, fits_open]
  simp [rightT]
mutual
theorem ok_of_open : ∀ (t : T), inT t → 0 ≤ openT t → okT t
  | .node k a b c d mn mx subs, h, ho => by
    simp only [inT] at h
    obtain ⟨_, ha, hb, hc, hd, _, _, hs⟩ := h
    simp only [openT] at ho
    split at ho
    · rename_i hp
      refine ⟨⟨ha, hb, hc, hd, hp⟩, okL_of_open k subs hs 0 ho⟩
    · omega
theorem okL_of_open (k : Int) : ∀ (l : List T), inL l → ∀ m : Int, 0 ≤ openL k l m → okL l
  | [], _, _, _ => trivial
  | t :: l, h, m, ho => by
    simp only [inL] at h
    simp only [openL] at ho
    split at ho
    · omega
    · exact ⟨ok_of_open t h.1 (by omega), okL_of_open k l h.2 _ ho⟩
end
theorem ok_of_right {t : T} (h : inT t) (hr : rightT t = true) : okT t := ok_of_open t h (by simp [rightT] at hr; omega)
end Go.Sv
namespace Go.Sv
open Go Go.Proofs
set_option maxRecDepth 100000
end Go.Sv
namespace Go.Sv
open Go Go.Proofs
def x3 : XC := (.seq (.ops 2 [
    (0, ⟨(some 3), none, .box (.t 0)⟩),
    (1, ⟨(some 6), none, .mv (.k (.d (.val (.bool false))))⟩)] (some [1, 2, 3])) (.seq (.seq (.ops 8 [
    (0, ⟨(some 9), none, .call 29 [] none false⟩),
    (1, ⟨(some 10), none, .un .not (.t 9)⟩),
    (2, ⟨(some 11), none, .mv (.t 10)⟩),
    (3, ⟨(some 12), (some (11, false)), .load (some 8) (.t 3)⟩),
    (4, ⟨(some 13), (some (11, false)), .mv (.t 1)⟩),
    (5, ⟨(some 14), (some (11, false)), .call 30 [(.t 12), (.t 13)] none false⟩),
    (6, ⟨(some 15), (some (11, false)), .un .not (.t 14)⟩),
    (7, ⟨(some 16), none, .pick (.t 11) (.k (.d (.val (.bool true)))) (.t 15)⟩)] (some [1, 2, 3, 16])) (.cond (.t 16) (.seq (.ops 2 [
    (0, ⟨(some 17), none, .call 29 [] none false⟩),
    (1, ⟨(some 6), none, .mv (.t 17)⟩)] (some [6])) .ret) .skip)) (.seq (.ops 9 [
    (0, ⟨(some 19), none, .load (some 8) (.t 3)⟩),
    (1, ⟨(some 20), none, .mv (.t 1)⟩),
    (2, ⟨(some 21), none, .mv (.t 2)⟩),
    (3, ⟨(some 22), none, .call 31 [(.t 19), (.t 20), (.t 21)] none false⟩),
    (4, ⟨(some 18), none, .mv (.t 22)⟩),
    (5, ⟨(some 23), none, .ext (.t 18) 0⟩),
    (6, ⟨(some 24), none, .ext (.t 18) 1⟩),
    (7, ⟨(some 7), none, .mv (.t 23)⟩),
    (8, ⟨(some 8), none, .mv (.t 24)⟩)] (some [1, 2, 3, 7, 8])) (.seq (.block 0 (.seq (.ops 4 [
    (0, ⟨(some 26), none, .load (some 8) (.t 3)⟩),
    (1, ⟨(some 27), none, .call 32 [(.t 26)] none false⟩),
    (2, ⟨(some 28), none, .un .not (.t 27)⟩),
    (3, ⟨(some 25), none, .mv (.t 28)⟩)] (some [1, 2, 3, 7, 8, 25])) (.cond (.t 25) (.seq (.ops 14 [
    (0, ⟨(some 29), none, .mv (.t 7)⟩),
    (1, ⟨(some 30), none, .lenS (.t 29)⟩),
    (2, ⟨(some 31), none, .arith .eql (.t 30) (.k (.d (.val (.int .i64 0))))⟩),
    (3, ⟨(some 32), none, .mv (.t 31)⟩),
    (4, ⟨(some 33), (some (32, true)), .mv (.t 8)⟩),
    (5, ⟨(some 34), (some (32, true)), .arith .eql (.t 33) (.k (.d (.val (.int .i64 1))))⟩),
    (6, ⟨(some 35), none, .pick (.t 32) (.t 34) (.k (.d (.val (.bool false))))⟩),
    (7, ⟨(some 36), none, .mv (.t 35)⟩),
    (8, ⟨(some 37), (some (36, true)), .load (some 8) (.t 3)⟩),
    (9, ⟨(some 38), (some (36, true)), .mv (.t 1)⟩),
    (10, ⟨(some 39), (some (36, true)), .call 33 [(.t 37), (.t 38)] none false⟩),
    (11, ⟨(some 40), (some (36, true)), .un .not (.t 39)⟩),
    (12, ⟨(some 41), none, .pick (.t 36) (.t 40) (.k (.d (.val (.bool false))))⟩),
    (13, ⟨(some 6), none, .mv (.t 41)⟩)] (some [6])) .ret) (.seq (.ops 9 [
    (0, ⟨(some 43), none, .mv (.t 2)⟩),
    (1, ⟨(some 44), none, .arith .lss (.t 43) (.k (.d (.val (.int .i64 0))))⟩),
    (2, ⟨(some 45), none, .mv (.t 44)⟩),
    (3, ⟨(some 46), (some (45, false)), .mv (.t 2)⟩),
    (4, ⟨(some 47), (some (45, false)), .mv (.t 1)⟩),
    (5, ⟨(some 48), (some (45, false)), .lenT (.t 47)⟩),
    (6, ⟨(some 49), (some (45, false)), .arith .gtr (.t 46) (.t 48)⟩),
    (7, ⟨(some 50), none, .pick (.t 45) (.k (.d (.val (.bool true)))) (.t 49)⟩),
    (8, ⟨(some 42), none, .mv (.t 50)⟩)] (some [1, 2, 3, 7, 8, 42])) (.cond (.t 42) (.seq (.ops 15 [
    (0, ⟨(some 51), none, .mv (.t 7)⟩),
    (1, ⟨(some 52), none, .lenS (.t 51)⟩),
    (2, ⟨(some 53), none, .arith .eql (.t 52) (.k (.d (.val (.int .i64 0))))⟩),
    (3, ⟨(some 54), none, .mv (.t 53)⟩),
    (4, ⟨(some 55), (some (54, true)), .mv (.t 8)⟩),
    (5, ⟨(some 56), (some (54, true)), .arith .eql (.t 55) (.k (.d (.val (.int .i64 2))))⟩),
    (6, ⟨(some 57), none, .pick (.t 54) (.t 56) (.k (.d (.val (.bool false))))⟩),
    (7, ⟨(some 58), none, .mv (.t 57)⟩),
    (8, ⟨(some 59), (some (58, true)), .load (some 8) (.t 3)⟩),
    (9, ⟨(some 60), (some (58, true)), .mv (.t 1)⟩),
    (10, ⟨(some 61), (some (58, true)), .mv (.t 2)⟩),
    (11, ⟨(some 62), (some (58, true)), .call 34 [(.t 59), (.t 60), (.t 61)] none false⟩),
    (12, ⟨(some 63), (some (58, true)), .arith .eql (.t 62) (.k (.d (.val (.int .i64 (-1)))))⟩),
    (13, ⟨(some 64), none, .pick (.t 58) (.t 63) (.k (.d (.val (.bool false))))⟩),
    (14, ⟨(some 6), none, .mv (.t 64)⟩)] (some [6])) .ret) .skip))))) (.seq (.ops 22 [
    (0, ⟨(some 65), none, .mv (.t 8)⟩),
    (1, ⟨(some 66), none, .arith .eql (.t 65) (.k (.d (.val (.int .i64 0))))⟩),
    (2, ⟨(some 67), none, .mv (.t 66)⟩),
    (3, ⟨(some 68), (some (67, true)), .mv (.t 7)⟩),
    (4, ⟨(some 69), (some (67, true)), .load (some 8) (.t 3)⟩),
    (5, ⟨(some 70), (some (67, true)), .mv (.t 1)⟩),
    (6, ⟨(some 71), (some (67, true)), .mv (.t 2)⟩),
    (7, ⟨(some 72), (some (67, true)), .call 36 [(.t 69), (.t 70), (.t 71)] none false⟩),
    (8, ⟨(some 73), (some (67, true)), .call 35 [(.t 68), (.t 72)] none false⟩),
    (9, ⟨(some 74), none, .pick (.t 67) (.t 73) (.k (.d (.val (.bool false))))⟩),
    (10, ⟨(some 75), none, .mv (.t 74)⟩),
    (11, ⟨(some 76), (some (75, true)), .load (some 8) (.t 3)⟩),
    (12, ⟨(some 77), (some (75, true)), .mv (.t 1)⟩),
    (13, ⟨(some 78), (some (75, true)), .mv (.t 2)⟩),
    (14, ⟨(some 79), (some (75, true)), .call 34 [(.t 76), (.t 77), (.t 78)] none false⟩),
    (15, ⟨(some 80), (some (75, true)), .load (some 8) (.t 3)⟩),
    (16, ⟨(some 81), (some (75, true)), .mv (.t 1)⟩),
    (17, ⟨(some 82), (some (75, true)), .mv (.t 2)⟩),
    (18, ⟨(some 83), (some (75, true)), .call 37 [(.t 80), (.t 81), (.t 82)] none false⟩),
    (19, ⟨(some 84), (some (75, true)), .arith .eql (.t 79) (.t 83)⟩),
    (20, ⟨(some 85), none, .pick (.t 75) (.t 84) (.k (.d (.val (.bool false))))⟩),
    (21, ⟨(some 6), none, .mv (.t 85)⟩)] (some [6])) .ret)))))
def md3 : FuncId → Option Nat × Bool
  | _ => (none, false)
def od3 : Nat → List (List Nat) × List Nat × Option (List Nat)
  | 0 => ([], [], some [1, 2, 3])
  | 1 => ([], [], some [1, 2, 3, 16])
  | 2 => ([], [], some [6])
  | 3 => ([], [], some [1, 2, 3, 7, 8])
  | 4 => ([], [], some [1, 2, 3, 7, 8, 25])
  | 5 => ([], [], some [6])
  | 6 => ([], [], some [1, 2, 3, 7, 8, 42])
  | 7 => ([], [], some [6])
  | 8 => ([[], [0], [0, 1], [0, 1, 2], [0, 1, 2], [0, 1, 2], [0, 1, 2], [0, 1, 2, 4, 5, 6], [0, 1, 2, 3, 4, 5, 6, 7], [0, 1, 2, 3, 4, 5, 6, 7, 8], [0, 1, 2, 3, 4, 5, 6, 7, 8, 9], [0, 1, 2, 3, 4, 5, 6, 7, 8, 9, 10], [0, 1, 2, 3, 4, 5, 6, 7, 8, 9, 10], [0, 1, 2, 3, 4, 5, 6, 7, 8, 9, 10], [0, 1, 2, 3, 4, 5, 6, 7, 8, 9, 10, 11, 12, 13], [0, 1, 2, 3, 4, 5, 6, 7, 8, 9, 10], [0, 1, 2, 3, 4, 5, 6, 7, 8, 9, 10], [0, 1, 2, 3, 4, 5, 6, 7, 8, 9, 10], [0, 1, 2, 3, 4, 5, 6, 7, 8, 9, 10, 11, 12, 13, 14, 15, 16, 17], [0, 1, 2, 3, 4, 5, 6, 7, 8, 9, 10, 11, 12, 13, 14, 15, 16, 17, 18], [0, 1, 2, 3, 4, 5, 6, 7, 8, 9, 10, 11, 12, 13, 14, 15, 16, 17, 18, 19], [0, 1, 2, 3, 4, 5, 6, 7, 8, 9, 10, 11, 12, 13, 14, 15, 16, 17, 18, 19, 20]], [0, 1, 2, 3, 4, 5, 6, 7, 8, 9, 10, 11, 12, 13, 14, 15, 16, 17, 18, 19, 20, 21], some [6])
  | _ => ([], [], none)
theorem b3 {ags : List AV} {row : Option (List DV)} {r : AV} {row' nw : Option (List DV)} (hal : ags.length ≤ 86) (hrow : row'.isSome = true → row.isSome = true) (h : xwp Try.prog x3 (retK [.tmp 6] row.isSome r row' nw) (St.init ags row)) : Good Try.prog 3 ags row r row' nw :=
  good_of_body' (md := md3) (od := od3) Try.f3 (by kernel_rfl) (by kernel_rfl) (by kernel_rfl) (by kernel_rfl) (by kernel_rfl) hal hrow h

set_option maxRecDepth 100000
set_option maxHeartbeats 4000000
attribute [local irreducible] W E R KP thenK blockK retK Good xwp aRun
theorem few_cnt {t : T} (h : sizeT t 601 ≤ 200) : t.cnt ≤ 200 := by
  have := sizeT_cnt t 601 (by omega)
  omega
end Go.Sv
namespace Go.Sv
open Go Go.Proofs
set_option maxRecDepth 100000
set_option maxHeartbeats 4000000
attribute [local irreducible] W E R KP thenK blockK retK Good xwp aRun
def eE (t : T) (n : Int) : Int := if fitsT t 12 = true then (if min n 400 < wideT t then 11 else 0) else 1
end Go.Sv
namespace Go.Sv
open Go Go.Proofs
section
variable {P : Program} {Q : Cont} {fr : Fr} {C : Heap} {Z : Frz} {nx : Nat} {base n d0 : Nat} {l : List (Nat × XO)} {kp : Option (List Nat)} {x y : X}
end
set_option maxRecDepth 100000
set_option maxHeartbeats 4000000
attribute [local irreducible] W E R KP thenK blockK retK Good xwp aRun
end Go.Sv
namespace Go.Sv
open Go Go.Proofs
set_option maxRecDepth 100000
set_option maxHeartbeats 4000000
attribute [local irreducible] W E R KP thenK blockK retK Good xwp aRun
end Go.Sv
namespace Go.Sv
open Go
theorem plainT_5 {a b c d mn mx : Int} {subs : List T} (h : plainT (.node 5 a b c d mn mx subs) = true) : ∃ u, subs = [u] := by
  simp [plainT] at h
  obtain ⟨_, h⟩ := h
  match subs, h with
  | [u], _ => exact ⟨u, rfl⟩
theorem okT_plain {k a b c d mn mx : Int} {subs : List T} (h : okT (.node k a b c d mn mx subs)) : plainT (.node k a b c d mn mx subs) = true := by
  simp only [okT, okN] at h; exact h.1.2.2.2.2
theorem okT_subs {k a b c d mn mx : Int} {subs : List T} (h : okT (.node k a b c d mn mx subs)) : okL subs := by
  simp only [okT] at h; exact h.2
theorem okL_iff : ∀ (l : List T), okL l ↔ ∀ t ∈ l, okT t
  | [] => by simp [okL]
  | t :: l => by simp [okL, okL_iff l]
theorem cntL_app : ∀ (l r : List T), cntL (l ++ r) = cntL l + cntL r
  | [], r => by simp [cntL]
  | t :: l, r => by rw [List.cons_append, cntL, cntL_app l r, cntL]; omega
theorem cntL_take (l : List T) (i : Nat) (h : i < l.length) : cntL (l.take (i + 1)) = cntL (l.take i) + l[i].cnt := by
  rw [List.take_succ_eq_append_getElem h, cntL_app, cntL, cntL]; omega
theorem cntL_take_le (l : List T) (i : Nat) : cntL (l.take i) ≤ cntL l := by
  have := cntL_app (l.take i) (l.drop i)
  rw [List.take_append_drop] at this; omega
end Go.Sv
namespace Go.Sv
open Go Go.Proofs
set_option maxRecDepth 100000
set_option maxHeartbeats 4000000
attribute [local irreducible] W E R KP thenK blockK retK Good xwp aRun
end Go.Sv
namespace Go.Sv
open Go
set_option linter.unusedVariables false
def rhoM (n : Nat) : List (Nat × Nat) → Nat → Nat
  | [], k => rho n k
  | (b, c) :: σ, k => cond (Nat.beq k b) c (rhoM n σ k)
def vtM (vs : List Nat) (k : Nat) : Bool := vs.any (Nat.beq k)
theorem beq_false {k b : Nat} (h : k ≠ b) : Nat.beq k b = false := by
  cases e : Nat.beq k b with
  | false => rfl
  | true => exact absurd (Nat.eq_of_beq_eq_true e) h
theorem rhoM_ge {n k : Nat} : ∀ {σ : List (Nat × Nat)}, (σ.all fun p => Nat.blt p.1 n) = true → ¬ k < n → rhoM n σ k = 1000000
  | [], _, h => rho_ge h
  | (b, c) :: σ, hs, h => by
    simp only [List.all_cons, Bool.and_eq_true] at hs
    have : b < n := Eq.mp Nat.blt_eq hs.1
    rw [rhoM, beq_false (by omega)]
    exact rhoM_ge hs.2 h
theorem wkM {C : Heap} {Z : Frz} {nx nx' : Nat} {fr fr' : Fr} (σ : List (Nat × Nat)) (vs : List Nat) {rows : List (Nat × List AV)} {hot : List Nat} (h0 : (Nat.blt 0 nx' && (Nat.beq (rhoM nx' σ 0) 0 && (!(vtM vs 0) && σ.all fun p => Nat.blt p.1 nx'))) = true)
    (h : ∀ p ∈ rows, p.1 < nx' ∧ ((vtM vs p.1 = true ∧ p.2 = []) ∨ (vtM vs p.1 = false ∧ ∃ r, C (rhoM nx' σ p.1) = some r ∧ LWk (rhoM nx' σ) (vtM vs) nx' r p.2)))
    (hh : ∀ k ∈ hot, Z (rhoM nx' σ k) = false)
    (hinj : ((rows.map (·.1)).all fun a => (rows.map (·.1)).all fun b => Nat.beq a b || (!(Nat.beq (rhoM nx' σ a) (rhoM nx' σ b)) || (vtM vs a || vtM vs b))) = true)
    (hf : FWk (rhoM nx' σ) (vtM vs) nx' fr fr') (hN : Z 1000000 = false := by rfl) :
    Wk ⟨fr, C, Z, nx⟩ ⟨fr', rowsOf rows, Frz.buts nx' hot, nx'⟩ := by
  simp only [Bool.and_eq_true, Bool.not_eq_true'] at h0
  obtain ⟨a1, a2, a3, a4⟩ := h0
  have a1 : 0 < nx' := Eq.mp Nat.blt_eq a1
  refine ⟨rhoM nx' σ, vtM vs, ⟨Nat.eq_of_beq_eq_true a2, a3, a1⟩, hf, fun e s he => ?_, fun e e' r1 r2 h1 h2 v1 v2 hee => ?_, fun e hc => ?_⟩
  · obtain ⟨g1, g2⟩ := h _ (rowsOf_mem he)
    refine ⟨g1, ?_⟩
    rcases g2 with ⟨q1, q3⟩ | ⟨q1, r, q2, q3⟩
    · simp only at q3
      exact .inl ⟨q1, q3⟩
    · refine .inr ⟨q1, r, q2, q3.len, q3.get, fun hz' => ?_⟩
      by_cases hm : e ∈ hot
      · exact hh e hm
      · have : Frz.buts nx' hot e = true := buts_lt g1 hm
        simp only at hz'
        rw [this] at hz'; cases hz'
  · have k1 := List.all_eq_true.1 hinj e (List.mem_map.2 ⟨_, rowsOf_mem h1, rfl⟩)
    have k2 := List.all_eq_true.1 k1 e' (List.mem_map.2 ⟨_, rowsOf_mem h2, rfl⟩)
    simp only [Bool.or_eq_true, Bool.not_eq_true'] at k2
    rcases k2 with k2 | k2 | k2 | k2
    · exact Nat.eq_of_beq_eq_true k2
    · have : Nat.beq (rhoM nx' σ e) (rhoM nx' σ e') = true := by rw [hee]; exact Nat.beq_refl _
      rw [this] at k2; cases k2
    · rw [v1] at k2; cases k2
    · rw [v2] at k2; cases k2
  · by_cases hlt : e < nx'
    · refine buts_lt hlt fun hm => ?_
      have := hh e hm
      simp only at hc
      rw [this] at hc; cases hc
    · simp only [rhoM_ge a4 hlt, hN] at hc; cases hc

section
variable {P : Program} {Q : Cont} {fr : Fr} {C : Heap} {Z : Frz} {nx : Nat} {base n d : Nat} {l : List (Nat × XO)} {kp : Option (List Nat)} {x i y s : X}
end
end Go.Sv
namespace Go.Sv
open Go
def isNo : T → Bool
  | .node k a b c d _ _ _ => k == 2 && isZero a b c d
def orW (a b : Int) : Int := ((BitVec.ofInt 64 a ||| BitVec.ofInt 64 b).toNat : Int)
def clsN : T → T
  | .node _ a b c d _ _ _ => .node 2 a b c d 0 0 []
theorem okW_nat {w : Int} (h : okW w) : ∃ n : Nat, w = n ∧ n < 2 ^ 64 := by
  obtain ⟨n, rfl⟩ := Int.eq_ofNat_of_zero_le h.1
  exact ⟨n, rfl, by have := h.2; omega⟩
theorem orW_nat {a b : Nat} (ha : a < 2 ^ 64) (hb : b < 2 ^ 64) : orW (a : Int) (b : Int) = ((a ||| b : Nat) : Int) := by
  unfold orW
  have h1 : (BitVec.ofInt 64 (a : Int)).toNat = a := by simp [BitVec.toNat_ofInt]; omega
  have h2 : (BitVec.ofInt 64 (b : Int)).toNat = b := by simp [BitVec.toNat_ofInt]; omega
  rw [BitVec.toNat_or, h1, h2]
theorem okW_or {a b : Int} (ha : okW a) (hb : okW b) : okW (orW a b) := by
  obtain ⟨m, rfl, hm⟩ := okW_nat ha
  obtain ⟨n, rfl, hn⟩ := okW_nat hb
  rw [orW_nat hm hn]
  have := Nat.or_lt_two_pow hm hn
  unfold okW; omega
def okS : T → Prop
  | .node _ a b c d _ _ _ => okW a ∧ okW b ∧ okW c ∧ okW d
def AltI (s : List T × Option Nat) : Prop := ∀ i, s.2 = some i → ∃ a b c d, s.1[i]? = some (.node 2 a b c d 0 0 []) ∧ okW a ∧ okW b ∧ okW c ∧ okW d
theorem AltI.lt {s : List T × Option Nat} (h : AltI s) {i : Nat} (hi : s.2 = some i) : i < s.1.length := by
  obtain ⟨a, b, c, d, h, _⟩ := h i hi
  exact (List.getElem?_eq_some_iff.1 h).1
theorem okT_S {t : T} (h : okT t) : okS t := by
  obtain ⟨k, a, b, c, d, mn, mx, subs⟩ := t
  simp only [okT, okN] at h
  exact ⟨h.1.1, h.1.2.1, h.1.2.2.1, h.1.2.2.2.1⟩
end Go.Sv
namespace Go.Sv
open Go
def AltN (l : List T) (at' : Option Nat) : Prop :=
  (∀ j, (∃ u, l[j]? = some u ∧ u.kind = 2) ↔ at' = some j) ∧ (∀ u ∈ l, isNo u = false) ∧ l.Nodup ∧ (∀ u ∈ l, u.kind = 2 → clsN u = u ∧ okS u)
theorem AltN.lt {l : List T} {q : Option Nat} (h : AltN l q) {j : Nat} (hj : q = some j) : j < l.length := by
  obtain ⟨u, hu, _⟩ := (h.1 j).2 hj
  exact (List.getElem?_eq_some_iff.1 hu).1
end Go.Sv
namespace Go.Sv
open Go
def ob (k : Int) (t : T) : Int := openT t + if roundG k t.kind = true then 1 else 0
mutual
theorem open_nonneg : ∀ t : T, okT t → 0 ≤ openT t
  | .node k a b c d mn mx subs, h => by
    rw [openT, if_pos (okT_plain h)]
    exact openL_nonneg k subs (okT_subs h) 0 (Int.le_refl _)
theorem openL_nonneg (k : Int) : ∀ l : List T, okL l → ∀ m : Int, 0 ≤ m → 0 ≤ openL k l m
  | [], _, m, h => h
  | t :: l, ho, m, h => by
    simp only [okL] at ho
    have := open_nonneg t ho.1
    rw [openL, if_neg (by omega)]
    exact openL_nonneg k l ho.2 _ (by omega)
end
theorem openL_le (k : Int) : ∀ (l : List T), okL l → ∀ (m B : Int), openL k l m ≤ B ↔ m ≤ B ∧ ∀ u ∈ l, ob k u ≤ B
  | [], _, m, B => by simp [openL]
  | t :: l, ho, m, B => by
    simp only [okL] at ho
    have := open_nonneg t ho.1
    rw [openL, if_neg (by omega), openL_le k l ho.2]
    have e : (if roundG k t.kind = true then openT t + 1 else openT t) = ob k t := by
      unfold ob; split <;> omega
    rw [e]
    simp only [List.mem_cons, forall_eq_or_imp]
    constructor
    · rintro ⟨h1, h2⟩; exact ⟨by omega, by omega, h2⟩
    · rintro ⟨h1, h2, h3⟩; exact ⟨by omega, h3⟩
theorem openT_le {t : T} (h : okT t) (B : Int) : openT t ≤ B ↔ 0 ≤ B ∧ ∀ u ∈ t.subs, ob t.kind u ≤ B := by
  obtain ⟨k, a, b, c, d, mn, mx, subs⟩ := t
  rw [openT, if_pos (okT_plain h)]
  exact openL_le k subs (okT_subs h) 0 B
theorem ob_le (k : Int) (t : T) : openT t ≤ ob k t ∧ ob k t ≤ openT t + 1 := by
  unfold ob; split <;> omega
end Go.Sv
namespace Go.Sv
open Go
set_option linter.unusedVariables false
section
variable {P : Program} {Q : Cont} {fr : Fr} {C : Heap} {Z : Frz} {nx : Nat} {base n d : Nat} {l : List (Nat × XO)} {kp : Option (List Nat)} {x i y s : X} {j c : Nat}
def encW (ws : List Int) : List AV := ws.map fun w => .d (.val (.int .u64 w))
theorem encW_len (ws : List Int) : (encW ws).length = ws.length := List.length_map _
theorem encW_isD (ws : List Int) : (encW ws).all AV.isD = true := by simp [encW, AV.isD]
theorem r_ldWs {b : Nat} {ws : List Int} (hx : x.ev fr = .ptrL b (0 + j)) (hC : C b = some (encW ws)) (hj : j < ws.length) (k : R P l base kp Q nx (fr.put d (.d (.val (.int .u64 (ws.getD j 0))))) C Z) : R P ((n, ⟨some d, none, .load none x⟩) :: l) base kp Q nx fr C Z := by
  refine r_l ?_ k
  simp only [xl, hx, rowOf, hC, Option.map_some, Option.bind_some, subA, Nat.zero_add, encW, List.getElem?_map, List.getElem?_eq_getElem hj, List.getD_eq_getElem?_getD, Option.getD_some]
theorem r_stWs {a : X} {b : Nat} {w : Int} {ws : List Int} (ha : a.ev fr = .ptrL b (0 + j)) (hx : x.ev fr = .d (.val (.int .u64 w))) (hC : C b = some (encW ws)) (hz : Z b = false) (hj : j < ws.length) (k : R P l base kp Q nx fr (C.put b (encW (ws.set j w))) Z) : R P ((n, ⟨none, none, .store 1 a x⟩) :: l) base kp Q nx fr C Z := by
  refine r_stL (cs := [.d (.val (.int .u64 w))]) ha hC hx rfl hz ?_ ?_ k
  · simp [AV.one, encW_len]; omega
  · have : ws.set j w = ws.take j ++ w :: ws.drop (j + 1) := by rw [List.set_eq_take_append_cons_drop, if_pos hj]
    rw [this]
    simp [splice, encW, List.map_take, List.map_drop]
theorem r_eqX {a b c e a' b' c' e' : Int} {q r : Bool} (hx : x.ev fr = .agg [.d (.val (.int .u64 a)), .d (.val (.int .u64 b)), .d (.val (.int .u64 c)), .d (.val (.int .u64 e))]) (hy : y.ev fr = .agg [.d (.val (.int .u64 a')), .d (.val (.int .u64 b')), .d (.val (.int .u64 c')), .d (.val (.int .u64 e'))]) (h : (if q then !(a == a' && (b == b' && (c == c' && e == e'))) else (a == a' && (b == b' && (c == c' && e == e')))) = r) (k : R P l base kp Q nx (fr.put d (.b r)) C Z) : R P ((n, ⟨some d, none, .eqAgg 4 q x y⟩) :: l) base kp Q nx fr C Z := by
  subst h
  refine r_p ?_ k
  simp only [xp, hx, hy, eqCells, List.length_cons, List.length_nil, if_true, Option.map_some]
  simp
end
end Go.Sv
namespace Go.Sv
open Go Go.Proofs
set_option maxRecDepth 100000
set_option maxHeartbeats 4000000
attribute [local irreducible] W E R KP thenK blockK retK Good xwp aRun
end Go.Sv
namespace Go.Sv
open Go Go.Proofs
section
variable {P : Program} {Q : Cont} {fr : Fr} {C : Heap} {Z : Frz} {nx : Nat} {base n d : Nat} {l : List (Nat × XO)} {kp : Option (List Nat)} {x i y s : X}
end
set_option maxRecDepth 100000
set_option maxHeartbeats 4000000
attribute [local irreducible] W E R KP thenK blockK retK Good xwp aRun
end Go.Sv
namespace Go.Sv
open Go Go.Proofs
set_option maxRecDepth 100000
set_option maxHeartbeats 4000000
attribute [local irreducible] W E R KP thenK blockK retK Good xwp aRun
end Go.Sv
namespace Go.Sv
open Go
end Go.Sv
namespace Go.Sv
open Go Go.Proofs
section
variable {P : Program} {Q : Cont} {fr : Fr} {C : Heap} {Z : Frz} {nx : Nat} {base n d : Nat} {l : List (Nat × XO)} {kp : Option (List Nat)} {x i y s : X}
end
set_option maxRecDepth 100000
set_option maxHeartbeats 4000000
attribute [local irreducible] W E R KP thenK blockK retK Good xwp aRun
end Go.Sv
namespace Go.Sv
open Go Go.Proofs
set_option maxRecDepth 100000
set_option maxHeartbeats 4000000
attribute [local irreducible] W E R KP thenK blockK retK Good xwp aRun
end Go.Sv
namespace Go.Sv
open Go Go.Proofs
section
variable {P : Program} {Q : Cont} {fr : Fr} {C : Heap} {Z : Frz} {nx : Nat} {base n d0 : Nat} {l : List (Nat × XO)} {kp : Option (List Nat)} {x y : X}
end
set_option maxRecDepth 100000
set_option maxHeartbeats 4000000
attribute [local irreducible] W E R KP thenK blockK retK Good xwp aRun
end Go.Sv
namespace Go.Sv
open Go Go.Proofs
set_option maxRecDepth 100000
set_option maxHeartbeats 4000000
attribute [local irreducible] W E R KP thenK blockK retK Good xwp aRun
end Go.Sv
namespace Go.Sv
open Go Go.Proofs
section
variable {P : Program} {Q : Cont} {fr : Fr} {C : Heap} {Z : Frz} {nx : Nat} {base n d : Nat} {l : List (Nat × XO)} {kp : Option (List Nat)} {x i y s : X} {j : Nat}
end
set_option maxRecDepth 100000
set_option maxHeartbeats 4000000
attribute [local irreducible] W E R KP thenK blockK retK Good xwp aRun
end Go.Sv
namespace Go.Sv
open Go Go.Proofs
section
variable {P : Program} {Q : Cont} {fr : Fr} {C : Heap} {Z : Frz} {nx : Nat} {base n d : Nat} {l : List (Nat × XO)} {kp : Option (List Nat)} {x i y s : X} {j : Nat}
end
set_option maxRecDepth 100000
set_option maxHeartbeats 4000000
attribute [local irreducible] W E R KP thenK blockK retK Good xwp aRun
end Go.Sv
namespace Go.Sv
open Go Go.Proofs

section
variable {P : Program} {Q : Cont} {fr : Fr} {C : Heap} {Z : Frz} {nx : Nat} {base n d : Nat} {l : List (Nat × XO)} {kp : Option (List Nat)} {x i y s : X} {j : Nat}
theorem r_orW {a b : Int} (hx : x.ev fr = .d (.val (.int .u64 a))) (hy : y.ev fr = .d (.val (.int .u64 b))) (ha : okW a) (hb : okW b) (k : R P l base kp Q nx (fr.put d (.d (.val (.int .u64 (orW a b))))) C Z) : R P ((n, ⟨some d, none, .arith .or x y⟩) :: l) base kp Q nx fr C Z := by
  refine r_p ?_ k
  have e : IntKind.wrap .u64 (orW a b) = orW a b := by
    obtain ⟨h1, h2⟩ := okW_or ha hb
    generalize orW a b = w at h1 h2
    simp [IntKind.wrap, IntKind.signed, IntKind.bits]; omega
  simp only [xp, hx, hy, arith, if_true]
  exact congrArg (fun z => some (AV.d (DV.val (Value.int .u64 z)))) e
end
def zipO (a b c d a' b' c' d' : Int) (i : Nat) : List Int := [orW a a', orW b b', orW c c', orW d d'].take i ++ [a, b, c, d].drop i
set_option maxRecDepth 100000
set_option maxHeartbeats 4000000
attribute [local irreducible] W E R KP thenK blockK retK Good xwp aRun
theorem or73_good {a b c d a' b' c' d' : Int} (ha : okW a) (hb : okW b) (hc : okW c) (hd : okW d) (ha' : okW a') (hb' : okW b') (hc' : okW c') (hd' : okW d') :
    Good Try.prog 73 [setA a b c d, setA a' b' c' d'] none (setA (orW a a') (orW b b') (orW c c') (orW d d')) none none := by
  unfold setA
  refine b73 (by simp) (by simp) (w_init ?_)
  unfold x73
  repeat' (first
    | (apply r_mvV; rfl)
    | (apply r_mvP; rfl)
    | (apply r_mvPL; rfl)
    | (apply r_mvS; rfl)
    | (apply r_mvSL; rfl)
    | (apply r_mvA; rfl)
    | (apply r_mvT; rfl)
    | (apply r_mvF; rfl)
    | (apply r_mvD; rfl)
    | (apply r_ldL; rfl; rfl; rfl)
    | (apply r_lss; rfl; rfl; (first | (apply decide_eq_true; omega) | (apply decide_eq_false; omega) | rfl))
    | (apply r_add; rfl; rfl; rfl; omega)
    | (apply r_alloc; ((conv => lhs; simp only [Nat.reduceAdd]) <;> rfl); rfl)
    | (apply r_box; ((conv => lhs; simp only [Nat.reduceAdd]) <;> rfl); rfl; rfl; rfl)
    | (apply r_stL; rfl; rfl; rfl; rfl; (first | rfl | (simp only [z_nil, z_add] <;> rfl)); rfl; rfl)
    | (apply r_p; rfl)
    | (apply r_nilK)
    | (apply r_nil)
    | (apply k_V; rfl)
    | (apply k_P; rfl)
    | (apply k_PL; rfl)
    | (apply k_S; rfl)
    | (apply k_SL; rfl)
    | (apply k_A; rfl)
    | (apply k_T; rfl)
    | (apply k_F; rfl)
    | (apply k_D; rfl; rotate_left; rfl)
    | (apply k_nil)
    | (apply e_ret (vs := [.d (.val _)]); rfl)
    | (apply e_ret; rfl)
    | (apply e_ret' (vs := [.d (.val _)]); rfl)
    | (apply e_ret'; rfl)
    | (apply w_seq)
    | (apply w_ops; ((conv => lhs; simp only [Nat.reduceAdd]) <;> rfl))
    | (apply w_condT; rfl)
    | (apply w_condF; rfl)
    | ((apply w_condS; rfl) <;> (intro h; try simp only [decide_eq_true_eq, decide_eq_false_iff_not, Bool.not_eq_true, Bool.not_eq_false] at h))
    | (apply e_thenN)
    | (apply w_block)
    | (apply e_thenR)
    | (apply e_thenX)
    | (apply e_blkN)
    | (apply e_blkR)
    | (apply e_blkE)
    | (apply w_exit)
    | (apply w_ret)
    | (apply w_skip)
    | (apply e_blkE'; rfl))
  apply w_loopI (S := fun i : Nat => ⟨(((Fr.nil.put 2 (.ptrL 1 0)).put 3 (.ptrL 2 0)).put 4 (.ptrL 3 0)).put 6 (.i i), rowsOf [(1, encW (zipO a b c d a' b' c' d' i)), (2, encW [a', b', c', d']), (3, encW [0, 0, 0, 0])], Frz.buts 100 [1, 3], 100⟩) (m := fun i => 4 - i) (I := fun i => i ≤ 4) (i0 := 0)
  · exact Nat.zero_le _
  · refine wkM [] [] rfl ?_ ?_ rfl ?_
    · intro p hp
      simp only [List.mem_cons, List.not_mem_nil, or_false] at hp
      rcases hp with rfl | rfl | rfl
      · exact ⟨by omega, .inr ⟨rfl, _, rfl, .data rfl⟩⟩
      · exact ⟨by omega, .inr ⟨rfl, _, rfl, .data rfl⟩⟩
      · exact ⟨by omega, .inr ⟨rfl, _, rfl, .data rfl⟩⟩
    · intro q hq; simp only [List.mem_cons, List.not_mem_nil, or_false] at hq; rcases hq with rfl | rfl <;> rfl
    · repeat' (first
    | exact FWk.nil
    | (apply FWk.i; rfl; (first | rfl | omega | (simp; done)))
    | (apply FWk.sl; rfl; rfl; rfl; rfl; omega; rfl)
    | (apply FWk.ptr; rfl; rfl; rfl; omega; rfl)
    | (apply FWk.d; rfl; rfl)
    | (apply FWk.a; rfl; rfl; rfl)
    | (apply FWk.slN; rfl; omega; rfl))
  intro i K hi hK
  dsimp only
  rcases Nat.lt_or_ge i 4 with hlt | hge
  · have hzl : (zipO a b c d a' b' c' d' i).length = 4 := by
      match i, hlt with
      | 0, _ => rfl
      | 1, _ => rfl
      | 2, _ => rfl
      | 3, _ => rfl
    have h1 : okW ((zipO a b c d a' b' c' d' i).getD i 0) ∧ okW ([a', b', c', d'].getD i 0) := by
      match i, hlt with
      | 0, _ => exact ⟨ha, ha'⟩
      | 1, _ => exact ⟨hb, hb'⟩
      | 2, _ => exact ⟨hc, hc'⟩
      | 3, _ => exact ⟨hd, hd'⟩
    have h2 : (zipO a b c d a' b' c' d' i).set i (orW ((zipO a b c d a' b' c' d' i).getD i 0) ([a', b', c', d'].getD i 0)) = zipO a b c d a' b' c' d' (i + 1) := by
      match i, hlt with
      | 0, _ => rfl
      | 1, _ => rfl
      | 2, _ => rfl
      | 3, _ => rfl
    repeat' (first
    | (apply r_mvV; rfl)
    | (apply r_mvP; rfl)
    | (apply r_mvPL; rfl)
    | (apply r_mvS; rfl)
    | (apply r_mvSL; rfl)
    | (apply r_mvA; rfl)
    | (apply r_mvT; rfl)
    | (apply r_mvF; rfl)
    | (apply r_mvD; rfl)
    | (apply r_ixPL (j := i); rfl; rfl; omega)
    | (apply r_ldWs (b := 1) (ws := zipO a b c d a' b' c' d' i) (j := i); rfl; rfl; omega)
    | (apply r_ldWs (b := 2) (ws := [a', b', c', d']) (j := i); rfl; rfl; (simp; omega))
    | (apply r_orW; rfl; rfl; exact h1.1; exact h1.2)
    | (apply r_stWs (b := 1) (ws := zipO a b c d a' b' c' d' i) (j := i); rfl; rfl; rfl; rfl; omega)
    | (apply r_ldL; rfl; rfl; rfl)
    | (apply r_lss; rfl; rfl; (first | (apply decide_eq_true; omega) | (apply decide_eq_false; omega) | rfl))
    | (apply r_add; rfl; rfl; rfl; omega)
    | (apply r_alloc; ((conv => lhs; simp only [Nat.reduceAdd]) <;> rfl); rfl)
    | (apply r_box; ((conv => lhs; simp only [Nat.reduceAdd]) <;> rfl); rfl; rfl; rfl)
    | (apply r_stL; rfl; rfl; rfl; rfl; (first | rfl | (simp only [z_nil, z_add] <;> rfl)); rfl; rfl)
    | (apply r_p; rfl)
    | (apply r_nilK)
    | (apply r_nil)
    | (apply k_V; rfl)
    | (apply k_P; rfl)
    | (apply k_PL; rfl)
    | (apply k_S; rfl)
    | (apply k_SL; rfl)
    | (apply k_A; rfl)
    | (apply k_T; rfl)
    | (apply k_F; rfl)
    | (apply k_D; rfl; rotate_left; rfl)
    | (apply k_nil)
    | (apply e_ret (vs := [.d (.val _)]); rfl)
    | (apply e_ret; rfl)
    | (apply e_ret' (vs := [.d (.val _)]); rfl)
    | (apply e_ret'; rfl)
    | (apply w_seq)
    | (apply w_ops; ((conv => lhs; simp only [Nat.reduceAdd]) <;> rfl))
    | (apply w_condT; rfl)
    | (apply w_condF; rfl)
    | ((apply w_condS; rfl) <;> (intro h; try simp only [decide_eq_true_eq, decide_eq_false_iff_not, Bool.not_eq_true, Bool.not_eq_false] at h))
    | (apply e_thenN)
    | (apply w_block)
    | (apply e_thenR)
    | (apply e_thenX)
    | (apply e_blkN)
    | (apply e_blkR)
    | (apply e_blkE)
    | (apply w_exit)
    | (apply w_ret)
    | (apply w_skip)
    | (apply e_blkE'; rfl))
    apply e_thenK
    apply hK (i + 1)
    · omega
    · omega
    · rw [← h2]
      refine wkM [] [] rfl ?_ ?_ rfl ?_
      · intro p hp
        simp only [List.mem_cons, List.not_mem_nil, or_false] at hp
        rcases hp with rfl | rfl | rfl
        · exact ⟨by omega, .inr ⟨rfl, _, rfl, .data (encW_isD _)⟩⟩
        · exact ⟨by omega, .inr ⟨rfl, _, rfl, .data rfl⟩⟩
        · exact ⟨by omega, .inr ⟨rfl, _, rfl, .data rfl⟩⟩
      · intro q hq; simp only [List.mem_cons, List.not_mem_nil, or_false] at hq; rcases hq with rfl | rfl <;> rfl
      · repeat' (first
    | exact FWk.nil
    | (apply FWk.i; rfl; (first | rfl | omega | (simp; done)))
    | (apply FWk.sl; rfl; rfl; rfl; rfl; omega; rfl)
    | (apply FWk.ptr; rfl; rfl; rfl; omega; rfl)
    | (apply FWk.d; rfl; rfl)
    | (apply FWk.a; rfl; rfl; rfl)
    | (apply FWk.slN; rfl; omega; rfl))
  · have ei : i = 4 := by omega
    subst ei
    repeat' (first
    | (apply r_mvV; rfl)
    | (apply r_mvP; rfl)
    | (apply r_mvPL; rfl)
    | (apply r_mvS; rfl)
    | (apply r_mvSL; rfl)
    | (apply r_mvA; rfl)
    | (apply r_mvT; rfl)
    | (apply r_mvF; rfl)
    | (apply r_mvD; rfl)
    | (apply r_ldL (v := .agg [.d (.val (.int .u64 (orW a a'))), .d (.val (.int .u64 (orW b b'))), .d (.val (.int .u64 (orW c c'))), .d (.val (.int .u64 (orW d d')))]); rfl; rfl; rfl)
    | (apply r_ldL; rfl; rfl; rfl)
    | (apply r_lss; rfl; rfl; (first | (apply decide_eq_true; omega) | (apply decide_eq_false; omega) | rfl))
    | (apply r_add; rfl; rfl; rfl; omega)
    | (apply r_alloc; ((conv => lhs; simp only [Nat.reduceAdd]) <;> rfl); rfl)
    | (apply r_box; ((conv => lhs; simp only [Nat.reduceAdd]) <;> rfl); rfl; rfl; rfl)
    | (apply r_stL; rfl; rfl; rfl; rfl; (first | rfl | (simp only [z_nil, z_add] <;> rfl)); rfl; rfl)
    | (apply r_p; rfl)
    | (apply r_nilK)
    | (apply r_nil)
    | (apply k_V; rfl)
    | (apply k_P; rfl)
    | (apply k_PL; rfl)
    | (apply k_S; rfl)
    | (apply k_SL; rfl)
    | (apply k_A; rfl)
    | (apply k_T; rfl)
    | (apply k_F; rfl)
    | (apply k_D; rfl; rotate_left; rfl)
    | (apply k_nil)
    | (apply e_ret (vs := [.d (.val _)]); rfl)
    | (apply e_ret; rfl)
    | (apply e_ret' (vs := [.d (.val _)]); rfl)
    | (apply e_ret'; rfl)
    | (apply w_seq)
    | (apply w_ops; ((conv => lhs; simp only [Nat.reduceAdd]) <;> rfl))
    | (apply w_condT; rfl)
    | (apply w_condF; rfl)
    | ((apply w_condS; rfl) <;> (intro h; try simp only [decide_eq_true_eq, decide_eq_false_iff_not, Bool.not_eq_true, Bool.not_eq_false] at h))
    | (apply e_thenN)
    | (apply w_block)
    | (apply e_thenR)
    | (apply e_thenX)
    | (apply e_blkN)
    | (apply e_blkR)
    | (apply e_blkE)
    | (apply w_exit)
    | (apply w_ret)
    | (apply w_skip)
    | (apply e_blkE'; rfl))
    exact .data _ rfl
end Go.Sv
namespace Go.Sv
open Go
noncomputable def lenS (P : List Nat → Prop) (m : Nat) : List Bool := (List.range (m + 1)).map fun k => @decide (∃ w, P w ∧ w.length = k) (Classical.propDecidable _)
noncomputable def firstL (P : List Nat → Prop) : List Nat := (List.range 256).filter fun x => @decide (∃ w, P (x :: w)) (Classical.propDecidable _)
end Go.Sv
namespace Go.Sv
open Go
end Go.Sv
namespace Go.Sv
open Go
set_option linter.unusedVariables false
structure Fa where
  no : Bool
  lo : Int
  hi : Int
  a : Int
  b : Int
  c : Int
  d : Int
def faNo : Fa := ⟨true, -1, -1, 0, 0, 0, 0⟩
def faE : Fa := ⟨false, 0, 0, 0, 0, 0, 0⟩
def plusH (x y : Int) : Int := if x = -1 ∨ y = -1 then -1 else x + y
def faThen (f g : Fa) : Fa :=
  if f.no = true ∨ g.no = true then faNo
  else if f.lo = 0 then ⟨false, f.lo + g.lo, plusH f.hi g.hi, orW f.a g.a, orW f.b g.b, orW f.c g.c, orW f.d g.d⟩
  else ⟨false, f.lo + g.lo, plusH f.hi g.hi, f.a, f.b, f.c, f.d⟩
def faOr (f g : Fa) : Fa :=
  if f.no = true then g else if g.no = true then f
  else ⟨false, min f.lo g.lo, if f.hi = -1 ∨ g.hi = -1 then -1 else max f.hi g.hi, orW f.a g.a, orW f.b g.b, orW f.c g.c, orW f.d g.d⟩
def faTimes (f : Fa) (mn mx : Int) : Fa :=
  if mx = 0 ∨ (f.no = true ∧ mn = 0) then faE
  else if f.no = true then faNo
  else ⟨false, f.lo * mn, if f.hi = 0 then 0 else if f.hi = -1 ∨ mx = -1 then -1 else f.hi * mx, f.a, f.b, f.c, f.d⟩
mutual
def knT : T → Fa
  | .node k a b c d mn mx subs =>
    if k = 2 then (if isZero a b c d = true then faNo else ⟨false, 1, 1, a, b, c, d⟩)
    else if k = 3 then knC subs faE
    else if k = 4 then knO subs faNo
    else if k = 5 then knR subs mn mx
    else faE
def knC : List T → Fa → Fa
  | [], f => f
  | t :: l, f => knC l (faThen f (knT t))
def knO : List T → Fa → Fa
  | [], f => f
  | t :: l, f => knO l (faOr f (knT t))
def knR : List T → Int → Int → Fa
  | [], _, _ => faE
  | t :: _, mn, mx => faTimes (knT t) mn mx
end
theorem knC_app : ∀ (l m : List T) (f : Fa), knC (l ++ m) f = knC m (knC l f)
  | [], m, f => rfl
  | t :: l, m, f => by rw [List.cons_append, knC, knC, knC_app l m]
theorem knO_app : ∀ (l m : List T) (f : Fa), knO (l ++ m) f = knO m (knO l f)
  | [], m, f => rfl
  | t :: l, m, f => by rw [List.cons_append, knO, knO, knO_app l m]
def okF (f : Fa) (X : Int) : Prop := (okW f.a ∧ okW f.b ∧ okW f.c ∧ okW f.d) ∧ (f.no = true → f = faNo) ∧ (f.no = false → 0 ≤ f.lo ∧ -1 ≤ f.hi) ∧ 2 * f.lo ≤ X ∧ 2 * f.hi ≤ X
theorem okF_no {X : Int} (h : 0 ≤ X) : okF faNo X := ⟨by simp [faNo, okW], fun _ => rfl, fun h => by simp [faNo] at h, by simp [faNo]; omega, by simp [faNo]; omega⟩
theorem okF_E {X : Int} (h : 0 ≤ X) : okF faE X := ⟨by simp [faE, okW], fun h => by simp [faE] at h, fun _ => by simp [faE], by simp [faE]; omega, by simp [faE]; omega⟩
theorem okF_mono {f : Fa} {X Y : Int} (h : okF f X) (hxy : X ≤ Y) : okF f Y := ⟨h.1, h.2.1, h.2.2.1, by have := h.2.2.2.1; omega, by have := h.2.2.2.2; omega⟩
theorem okF_then {f g : Fa} {X Y : Int} (hf : okF f X) (hg : okF g Y) (hX : 0 ≤ X) (hY : 0 ≤ Y) : okF (faThen f g) (X + Y) := by
  obtain ⟨⟨fa, fb, fc, fd⟩, f1, f2, f3, f4⟩ := hf
  obtain ⟨⟨ga, gb, gc, gd⟩, g1, g2, g3, g4⟩ := hg
  unfold faThen
  split
  · exact okF_no (by omega)
  · rename_i h
    have hfn : f.no = false := by cases e : f.no <;> simp_all
    have hgn : g.no = false := by cases e : g.no <;> simp_all
    have h1 := f2 hfn
    have h2 := g2 hgn
    have hp : -1 ≤ plusH f.hi g.hi ∧ 2 * plusH f.hi g.hi ≤ X + Y := by unfold plusH; split <;> omega
    split
    · exact ⟨⟨okW_or fa ga, okW_or fb gb, okW_or fc gc, okW_or fd gd⟩, fun h => by simp at h, fun _ => ⟨by show 0 ≤ f.lo + g.lo; omega, hp.1⟩, by show 2 * (f.lo + g.lo) ≤ _; omega, hp.2⟩
    · exact ⟨⟨fa, fb, fc, fd⟩, fun h => by simp at h, fun _ => ⟨by show 0 ≤ f.lo + g.lo; omega, hp.1⟩, by show 2 * (f.lo + g.lo) ≤ _; omega, hp.2⟩
theorem okF_or {f g : Fa} {X Y : Int} (hf : okF f X) (hg : okF g Y) (hX : 0 ≤ X) (hY : 0 ≤ Y) : okF (faOr f g) (X + Y) := by
  obtain ⟨⟨fa, fb, fc, fd⟩, f1, f2, f3, f4⟩ := hf
  obtain ⟨⟨ga, gb, gc, gd⟩, g1, g2, g3, g4⟩ := hg
  unfold faOr
  split
  · exact ⟨⟨ga, gb, gc, gd⟩, g1, g2, by omega, by omega⟩
  · rename_i h
    split
    · exact ⟨⟨fa, fb, fc, fd⟩, f1, f2, by omega, by omega⟩
    · rename_i h3
      have hfn : f.no = false := by simpa using h
      have hgn : g.no = false := by simpa using h3
      have h1 := f2 hfn
      have h2 := g2 hgn
      have hp : -1 ≤ (if f.hi = -1 ∨ g.hi = -1 then -1 else max f.hi g.hi) ∧ 2 * (if f.hi = -1 ∨ g.hi = -1 then -1 else max f.hi g.hi) ≤ X + Y := by split <;> omega
      exact ⟨⟨okW_or fa ga, okW_or fb gb, okW_or fc gc, okW_or fd gd⟩, fun h => by simp at h, fun _ => ⟨by show 0 ≤ min f.lo g.lo; omega, hp.1⟩, by show 2 * (min f.lo g.lo) ≤ _; omega, hp.2⟩
theorem okF_times {f : Fa} {X : Int} {mn mx : Int} (hf : okF f X) (hX : 0 ≤ X) (h1 : 0 ≤ mn ∧ mn ≤ 20) (h2 : mx = -1 ∨ (mn ≤ mx ∧ mx ≤ 20)) : okF (faTimes f mn mx) (20 * X) := by
  obtain ⟨⟨fa, fb, fc, fd⟩, f1, f2, f3, f4⟩ := hf
  unfold faTimes
  split
  · exact okF_E (by omega)
  · split
    · exact okF_no (by omega)
    · rename_i h h3
      have hfn : f.no = false := by simpa using h3
      have h4 := f2 hfn
      have e1 : 0 ≤ f.lo * mn := Int.mul_nonneg h4.1 h1.1
      have e2 : f.lo * mn ≤ f.lo * 20 := Int.mul_le_mul_of_nonneg_left h1.2 h4.1
      have hp : -1 ≤ (if f.hi = 0 then 0 else if f.hi = -1 ∨ mx = -1 then -1 else f.hi * mx) ∧ 2 * (if f.hi = 0 then 0 else if f.hi = -1 ∨ mx = -1 then -1 else f.hi * mx) ≤ 20 * X := by
        split
        · omega
        · split
          · omega
          · have h5 : 0 ≤ f.hi := by omega
            have e3 : 0 ≤ f.hi * mx := Int.mul_nonneg h5 (by omega)
            have e4 : f.hi * mx ≤ f.hi * 20 := Int.mul_le_mul_of_nonneg_left (by omega) h5
            omega
      exact ⟨⟨fa, fb, fc, fd⟩, fun h => by simp at h, fun _ => ⟨e1, hp.1⟩, by show 2 * (f.lo * mn) ≤ _; omega, hp.2⟩
def pw (n : Nat) : Int := 20 ^ (n + 1)
theorem pw_pos (n : Nat) : 0 < pw n := Int.pow_pos (by omega)
theorem pw_succ (n : Nat) : pw (n + 1) = 20 * pw n := by unfold pw; rw [Int.pow_succ]; omega
theorem pw_mono {m n : Nat} (h : m ≤ n) : pw m ≤ pw n := by
  induction n with
  | zero => have : m = 0 := by omega
            subst this; exact Int.le_refl _
  | succ n ih =>
    by_cases e : m = n + 1
    · subst e; exact Int.le_refl _
    · have := ih (by omega)
      have := pw_succ n
      have := pw_pos n
      omega
def bT (t : T) : Int := (t.cnt : Nat) * pw (openT t).toNat
theorem bT_nonneg (t : T) : 0 ≤ bT t := Int.mul_nonneg (by omega) (Int.le_of_lt (pw_pos _))
theorem bT_le {t : T} {c o : Nat} (h1 : t.cnt ≤ c) (h2 : openT t ≤ o) : bT t ≤ c * pw o := by
  have h3 : pw (openT t).toNat ≤ pw o := pw_mono (by omega)
  have h4 := pw_pos (openT t).toNat
  unfold bT
  exact Int.mul_le_mul (by omega) h3 (by omega) (by omega)
theorem sub_open {t u : T} (ho : okT t) (hu : u ∈ t.subs) : openT u ≤ openT t := by
  have := ((openT_le ho (openT t)).1 (Int.le_refl _)).2 u hu
  have := (ob_le t.kind u).1
  omega
theorem sub_cnt {t u : T} (hu : u ∈ t.subs) : u.cnt + 1 ≤ t.cnt := by
  obtain ⟨k, a, b, c, d, mn, mx, subs⟩ := t
  obtain ⟨i, hi, rfl⟩ := List.mem_iff_getElem.1 hu
  have := cntL_get subs i hi
  simp only [T.cnt, T.subs] at *
  omega
theorem bT_sub {t u : T} (ho : okT t) (hu : u ∈ t.subs) : bT u ≤ bT t := by
  have h1 := sub_open ho hu
  have h2 := sub_cnt hu
  have h3 := open_nonneg t ho
  have := bT_le (t := u) (c := t.cnt) (o := (openT t).toNat) (by omega) (by omega)
  exact this
theorem knC_ok (o : Nat) : ∀ (l : List T) (f : Fa) (X : Int), 0 ≤ X → okF f X → (∀ u ∈ l, okF (knT u) ((u.cnt : Nat) * pw o)) → okF (knC l f) (X + (cntL l : Nat) * pw o)
  | [], f, X, hX, hf, _ => by simpa [knC, cntL] using hf
  | t :: l, f, X, hX, hf, h => by
    have hp := pw_pos o
    have h1 : 0 ≤ ((t.cnt : Nat) : Int) * pw o := Int.mul_nonneg (by omega) (by omega)
    have := knC_ok o l _ _ (by omega) (okF_then hf (h t (by simp)) hX h1) (fun u hu => h u (by simp [hu]))
    rw [knC]
    have e : X + ((cntL (t :: l) : Nat) : Int) * pw o = X + ((t.cnt : Nat) : Int) * pw o + ((cntL l : Nat) : Int) * pw o := by
      simp only [cntL, Int.natCast_add, Int.add_mul]; omega
    rw [e]; exact this
theorem knO_ok (o : Nat) : ∀ (l : List T) (f : Fa) (X : Int), 0 ≤ X → okF f X → (∀ u ∈ l, okF (knT u) ((u.cnt : Nat) * pw o)) → okF (knO l f) (X + (cntL l : Nat) * pw o)
  | [], f, X, hX, hf, _ => by simpa [knO, cntL] using hf
  | t :: l, f, X, hX, hf, h => by
    have hp := pw_pos o
    have h1 : 0 ≤ ((t.cnt : Nat) : Int) * pw o := Int.mul_nonneg (by omega) (by omega)
    have := knO_ok o l _ _ (by omega) (okF_or hf (h t (by simp)) hX h1) (fun u hu => h u (by simp [hu]))
    rw [knO]
    have e : X + ((cntL (t :: l) : Nat) : Int) * pw o = X + ((t.cnt : Nat) : Int) * pw o + ((cntL l : Nat) : Int) * pw o := by
      simp only [cntL, Int.natCast_add, Int.add_mul]; omega
    rw [e]; exact this
theorem times_bound_of {a b c d mn mx : Int} {u : T} (ho : okT (.node 5 a b c d mn mx [u])) (hu : okF (knT u) (bT u)) : ∃ X : Int, 0 ≤ X ∧ okF (knT u) X ∧ 20 * X ≤ bT (.node 5 a b c d mn mx [u]) := by
  have hou := open_nonneg u ((okL_iff _).1 (okT_subs ho) u (by simp))
  have hop := open_nonneg _ ho
  have hob := ((openT_le ho _).1 (Int.le_refl _)).2 u (by simp [T.subs])
  by_cases hk : u.kind = 2
  · have h2 : okF (knT u) 2 := by
      obtain ⟨k', a', b', c', d', mn', mx', subs'⟩ := u
      simp only [T.kind] at hk
      subst hk
      rw [knT, if_pos rfl] at hu ⊢
      split
      · exact okF_no (by omega)
      · rename_i hz
        rw [if_neg hz] at hu
        exact ⟨hu.1, hu.2.1, hu.2.2.1, by show 2 * (1 : Int) ≤ 2; omega, by show 2 * (1 : Int) ≤ 2; omega⟩
    refine ⟨2, by omega, h2, ?_⟩
    have h1 := pw_mono (m := 0) (n := (openT (.node 5 a b c d mn mx [u])).toNat) (by omega)
    have h3 : pw 0 = 20 := rfl
    have h4 : (2 : Int) ≤ ((T.cnt (.node 5 a b c d mn mx [u]) : Nat) : Int) := by
      have := cnt_pos u
      simp only [T.cnt, cntL]; omega
    unfold bT
    have h5 := Int.mul_le_mul_of_nonneg_right (c := pw (openT (.node 5 a b c d mn mx [u])).toNat) h4 (by omega)
    omega
  · have hr : roundG 5 u.kind = true := by simp [roundG, hk]
    have hob2 : openT u + 1 ≤ openT (.node 5 a b c d mn mx [u]) := by
      unfold ob at hob
      rw [show T.kind (.node 5 a b c d mn mx [u]) = 5 from rfl, if_pos hr] at hob
      exact hob
    refine ⟨bT u, bT_nonneg u, hu, ?_⟩
    have h1 := pw_mono (m := (openT u).toNat + 1) (n := (openT (.node 5 a b c d mn mx [u])).toNat) (by omega)
    have h2 := pw_succ (openT u).toNat
    have h3 := pw_pos (openT u).toNat
    have h4 : ((u.cnt : Nat) : Int) ≤ ((T.cnt (.node 5 a b c d mn mx [u]) : Nat) : Int) := by
      simp only [T.cnt, cntL]; omega
    unfold bT
    have h5 := Int.mul_le_mul (a := ((u.cnt : Nat) : Int)) (b := 20 * pw (openT u).toNat) (c := ((T.cnt (.node 5 a b c d mn mx [u]) : Nat) : Int)) (d := pw (openT (.node 5 a b c d mn mx [u])).toNat) h4 (by omega) (by omega) (by omega)
    have h6 : ((u.cnt : Nat) : Int) * (20 * pw (openT u).toNat) = 20 * (((u.cnt : Nat) : Int) * pw (openT u).toNat) := by rw [Int.mul_left_comm]
    omega
mutual
theorem kn_ok : ∀ t : T, okT t → okF (knT t) (bT t)
  | .node k a b c d mn mx subs, ho => by
    have hsub := knL_ok subs (okT_subs ho)
    have hS := okT_S ho
    have hb := bT_nonneg (.node k a b c d mn mx subs)
    have hop := open_nonneg _ ho
    have hsub' : ∀ u ∈ subs, okF (knT u) ((u.cnt : Nat) * pw (openT (.node k a b c d mn mx subs)).toNat) := fun u hu => by
      refine okF_mono (hsub u hu) ?_
      have h1 := sub_open (u := u) ho hu
      exact bT_le (Nat.le_refl _) (by omega)
    have hsum : (0 : Int) + (cntL subs : Nat) * pw (openT (.node k a b c d mn mx subs)).toNat ≤ bT (.node k a b c d mn mx subs) := by
      rw [Int.zero_add]
      unfold bT
      have := pw_pos (openT (.node k a b c d mn mx subs)).toNat
      exact Int.mul_le_mul_of_nonneg_right (by simp only [T.cnt]; omega) (by omega)
    rw [knT]
    split
    · split
      · exact okF_no hb
      · have h20 : 20 ≤ bT (.node k a b c d mn mx subs) := by
          have h1 := pw_mono (m := 0) (n := (openT (.node k a b c d mn mx subs)).toNat) (by omega)
          have h2 : pw 0 = 20 := rfl
          have h3 : pw (openT (.node k a b c d mn mx subs)).toNat ≤ bT (.node k a b c d mn mx subs) := by
            unfold bT
            have := pw_pos (openT (.node k a b c d mn mx subs)).toNat
            have h4 := Int.mul_le_mul_of_nonneg_right (a := 1) (b := ((T.cnt (.node k a b c d mn mx subs) : Nat) : Int)) (c := pw (openT (.node k a b c d mn mx subs)).toNat) (by simp only [T.cnt]; omega) (by omega)
            omega
          omega
        exact ⟨hS, fun h => by simp at h, fun _ => by constructor <;> simp, by show 2 * (1 : Int) ≤ _; omega, by show 2 * (1 : Int) ≤ _; omega⟩
    · split
      · exact okF_mono (knC_ok _ subs faE 0 (Int.le_refl _) (okF_E (Int.le_refl _)) hsub') hsum
      · split
        · exact okF_mono (knO_ok _ subs faNo 0 (Int.le_refl _) (okF_no (Int.le_refl _)) hsub') hsum
        · split
          · rename_i h5
            subst h5
            obtain ⟨u, rfl⟩ := plainT_5 (okT_plain ho)
            have hR := okT_R ho rfl
            have hu := hsub u (by simp)
            have hou := open_nonneg u ((okL_iff _).1 (okT_subs ho) u (by simp))
            have hob := ((openT_le ho _).1 (Int.le_refl _)).2 u (by simp [T.subs])
            rw [knR]
            obtain ⟨X, x1, x2, x3⟩ := times_bound_of ho hu
            exact okF_mono (okF_times x2 x1 hR.1 hR.2) x3
          · exact okF_E hb
theorem knL_ok : ∀ l : List T, okL l → ∀ u ∈ l, okF (knT u) (bT u)
  | [], _ => by simp
  | t :: l, h => by
    simp only [okL] at h
    intro u hu
    rcases List.mem_cons.1 hu with e | hu
    · rw [e]; exact kn_ok t h.1
    · exact knL_ok l h.2 u hu
end
theorem times_bound {a b c d mn mx : Int} {u : T} (ho : okT (.node 5 a b c d mn mx [u])) : ∃ X : Int, 0 ≤ X ∧ okF (knT u) X ∧ 20 * X ≤ bT (.node 5 a b c d mn mx [u]) := times_bound_of ho (kn_ok u ((okL_iff _).1 (okT_subs ho) u (by simp)))
theorem bT_few {t : T} (hc : t.cnt ≤ 200) (hf : fitsT t 12 = true) : bT t ≤ 16384000000000000000 := by
  rw [fits_open] at hf
  have := bT_le (t := t) (c := 200) (o := 12) hc (by omega)
  have e : ((200 : Nat) : Int) * pw 12 = 16384000000000000000 := by decide
  omega
end Go.Sv
