/- A part of the proof of the law DeriveMatches: that it answers true for every input, and that the input reads behind the call as before (no condition). -/
import Derived.Test.YtcnlgmajkclgjaaGreatDeriveMatchesG4
import Derived.Test.YtcnlgmajkclgjaaGreatRows
import Derived.ProofKit
import Derived.OpenShut
set_option linter.all false
set_option linter.unusedSectionVars false
set_option linter.unusedVariables false
set_option linter.unusedSimpArgs false
namespace Go.Sv
open Go Go.Proofs
set_option maxRecDepth 100000
def x119 : XC:=(.seq (.ops 1 [ (0,⟨some 4,none,.alloc [(.int .u64 0),(.int .u64 0),(.int .u64 0),(.int .u64 0)]⟩)] (some [0,1,4])) (.seq (.seq (.ops 3 [ (0,⟨some 6,none,.mv (.t 0)⟩),(1,⟨some 7,none,.conv .i64 (.t 6)⟩),(2,⟨some 5,none,.mv (.t 7)⟩)] (some [1,4,5])) (.block 0 (.loop (.seq (.seq (.ops 4 [ (0,⟨some 8,none,.mv (.t 5)⟩),(1,⟨some 9,none,.mv (.t 1)⟩),(2,⟨some 10,none,.conv .i64 (.t 9)⟩),(3,⟨some 11,none,.arith .leq (.t 8) (.t 10)⟩)] (some [1,4,5,11])) (.cond (.t 11) .skip (.exit 0))) (.seq (.block 1 (.ops 10 [ (0,⟨some 14,none,.mv (.t 5)⟩),(1,⟨some 15,none,.arith .quo (.t 14) (.k (.d (.val (.int .i64 64))))⟩),(2,⟨some 16,none,.idxP 4 1 (.t 4) (.t 15)⟩),(3,⟨some 17,none,.load none (.t 16)⟩),(4,⟨some 18,none,.mv (.t 5)⟩),(5,⟨some 19,none,.arith .rem (.t 18) (.k (.d (.val (.int .i64 64))))⟩),(6,⟨some 20,none,.arith .shl (.k (.d (.val (.int .u64 1)))) (.t 19)⟩),(7,⟨some 21,none,.arith .or (.t 17) (.t 20)⟩),(8,⟨some 22,none,.idxP 4 1 (.t 4) (.t 15)⟩),(9,⟨none,none,.store 1 (.t 22) (.t 21)⟩)] (some [1,4,5]))) (.ops 3 [ (0,⟨some 12,none,.mv (.t 5)⟩),(1,⟨some 13,none,.arith .add (.t 12) (.k (.d (.val (.int .i64 1))))⟩),(2,⟨some 5,none,.mv (.t 13)⟩)] (some [1,4,5]))))))) (.seq (.ops 2 [ (0,⟨some 23,none,.load (some 4) (.t 4)⟩),(1,⟨none,none,.store 4 (.t 4) (.t 23)⟩)] (some [4])) .ret)))
def md119 : FuncId→Option Nat × Bool
  | _=>(none,false)
def od119 : Nat→List (List Nat) × List Nat × Option (List Nat)
  | 0=>([],[],some [0,1,4])
  | 1=>([],[],some [1,4,5])
  | 2=>([],[],some [1,4,5,11])
  | 3=>([],[],some [1,4,5])
  | 4=>([[],[0],[0,1],[0,1,2],[],[4],[4,5],[0,1,2,3,4,5,6],[0,1,2,3,4,5,6,7],[0,1,2,3,4,5,6,7,8]],[0,1,2,3,4,5,6,7,8,9],some [1,4,5])
  | 5=>([],[],some [4])
  | _=>([],[],none)
theorem b119 {ags : List AV} {row : Option (List DV)} {r : AV} {row' nw : Option (List DV)} (hal : ags.length≤24) (hrow : row'.isSome=true→row.isSome=true) (h : xwp Tryz.prog x119 (retK [.cell 4 (some 4)] row.isSome r row' nw) (St.init ags row)) : Good Tryz.prog 93 ags row r row' nw :=
  good_of_body' (md:=md119) (od:=od119) Tryz.f93 (by kernel_rfl) (by kernel_rfl) (by kernel_rfl) (by kernel_rfl) (by kernel_rfl) hal hrow h

def x149 : XC:=(.seq (.ops 1 [ (0,⟨some 2,none,.alloc [(.int .i64 0),(.int .u64 0),(.int .u64 0),(.int .u64 0),(.int .u64 0),(.int .i64 0),(.int .i64 0),(.slice none 0 0)]⟩)] (some [0,2])) (.seq (.ops 4 [ (0,⟨some 4,none,.mv (.t 0)⟩),(1,⟨some 5,none,.call 73 [(.t 4)] (some 0) false⟩),(2,⟨some 6,none,.mkrow [(.int .i64 0),(.int .u64 0),(.int .u64 0),(.int .u64 0),(.int .u64 0),(.int .i64 0),(.int .i64 0),(.slice none 0 0)] 1 8 [(0,8,(.t 5))]⟩),(3,⟨some 3,none,.mv (.t 6)⟩)] (some [0,2,3])) (.seq (.block 0 (.loop (.seq (.seq (.ops 2 [ (0,⟨some 7,none,.mv (.t 0)⟩),(1,⟨some 8,none,.call 74 [(.t 7),(.k (.d (.val (.int .u8 124))))] (some 0) false⟩)] (some [0,2,3,8])) (.cond (.t 8) .skip (.exit 0))) (.block 1 (.ops 6 [ (0,⟨some 9,none,.mv (.t 3)⟩),(1,⟨some 10,none,.mv (.t 0)⟩),(2,⟨some 11,none,.call 73 [(.t 10)] (some 0) false⟩),(3,⟨some 12,none,.mkrow [(.int .i64 0),(.int .u64 0),(.int .u64 0),(.int .u64 0),(.int .u64 0),(.int .i64 0),(.int .i64 0),(.slice none 0 0)] 1 8 [(0,8,(.t 11))]⟩),(4,⟨some 13,none,.app [(.int .i64 0),(.int .u64 0),(.int .u64 0),(.int .u64 0),(.int .u64 0),(.int .i64 0),(.int .i64 0),(.slice none 0 0)] 80 (.t 9) (.t 12)⟩),(5,⟨some 3,none,.mv (.t 13)⟩)] (some [0,2,3])))))) (.seq (.ops 3 [ (0,⟨some 14,none,.mv (.t 3)⟩),(1,⟨some 15,none,.call 75 [(.k (.d (.val (.int .i64 4)))),(.t 14)] none false⟩),(2,⟨none,none,.store 8 (.t 2) (.t 15)⟩)] (some [2])) .ret))))
def md149 : FuncId→Option Nat × Bool
  | 73=>(some 0,false)
  | 74=>(some 0,false)
  | _=>(none,false)
def od149 : Nat→List (List Nat) × List Nat × Option (List Nat)
  | 0=>([],[],some [0,2])
  | 1=>([],[],some [0,2,3])
  | 2=>([],[],some [0,2,3,8])
  | 3=>([],[],some [0,2,3])
  | 4=>([],[],some [2])
  | _=>([],[],none)
theorem b149 {ags : List AV} {row : Option (List DV)} {r : AV} {row' nw : Option (List DV)} (hal : ags.length≤16) (hrow : row'.isSome=true→row.isSome=true) (h : xwp Tryz.prog x149 (retK [.cell 2 (some 8)] row.isSome r row' nw) (St.init ags row)) : Good Tryz.prog 47 ags row r row' nw :=
  good_of_body' (md:=md149) (od:=od149) Tryz.f47 (by kernel_rfl) (by kernel_rfl) (by kernel_rfl) (by kernel_rfl) (by kernel_rfl) hal hrow h

def x150 : XC:=(.seq (.ops 2 [ (0,⟨some 6,none,.mv (.t 1)⟩),(1,⟨some 7,none,.un .not (.t 6)⟩)] (some [2,7])) (.cond (.t 7) (.ops 3 [ (0,⟨some 8,none,.mv (.t 2)⟩),(1,⟨some 9,none,.bad⟩),(2,⟨none,none,.bad⟩)] (some [])) .skip))
def md150 : FuncId→Option Nat × Bool
  | _=>(none,false)
def od150 : Nat→List (List Nat) × List Nat × Option (List Nat)
  | 0=>([],[],some [2,7])
  | 1=>([],[],some [])
  | _=>([],[],none)
theorem b150 {ags : List AV} {row : Option (List DV)} {r : AV} {row' nw : Option (List DV)} (hal : ags.length≤10) (hrow : row'.isSome=true→row.isSome=true) (h : xwp Tryz.prog x150 (retK [] row.isSome r row' nw) (St.init ags row)) : Good Tryz.prog 48 ags row r row' nw :=
  good_of_body' (md:=md150) (od:=od150) Tryz.f48 (by kernel_rfl) (by kernel_rfl) (by kernel_rfl) (by kernel_rfl) (by kernel_rfl) hal hrow h

def x162 : XC:=(.seq (.ops 1 [ (0,⟨some 2,none,.alloc [(.int .i64 0),(.int .u64 0),(.int .u64 0),(.int .u64 0),(.int .u64 0),(.int .i64 0),(.int .i64 0),(.slice none 0 0)]⟩)] (some [0,2])) (.seq (.ops 1 [ (0,⟨some 3,none,.mv (.k (.d (.val (.slice none 0 0))))⟩)] (some [0,2,3])) (.seq (.block 0 (.loop (.seq (.seq (.ops 3 [ (0,⟨some 4,none,.mv (.t 0)⟩),(1,⟨some 5,none,.call 85 [(.t 4)] none false⟩),(2,⟨some 6,none,.un .not (.t 5)⟩)] (some [0,2,3,6])) (.cond (.t 6) .skip (.exit 0))) (.block 1 (.ops 6 [ (0,⟨some 7,none,.mv (.t 3)⟩),(1,⟨some 8,none,.mv (.t 0)⟩),(2,⟨some 9,none,.call 86 [(.t 8)] (some 0) false⟩),(3,⟨some 10,none,.mkrow [(.int .i64 0),(.int .u64 0),(.int .u64 0),(.int .u64 0),(.int .u64 0),(.int .i64 0),(.int .i64 0),(.slice none 0 0)] 1 8 [(0,8,(.t 9))]⟩),(4,⟨some 11,none,.app [(.int .i64 0),(.int .u64 0),(.int .u64 0),(.int .u64 0),(.int .u64 0),(.int .i64 0),(.int .i64 0),(.slice none 0 0)] 80 (.t 7) (.t 10)⟩),(5,⟨some 3,none,.mv (.t 11)⟩)] (some [0,2,3])))))) (.seq (.ops 3 [ (0,⟨some 12,none,.mv (.t 3)⟩),(1,⟨some 13,none,.call 75 [(.k (.d (.val (.int .i64 3)))),(.t 12)] none false⟩),(2,⟨none,none,.store 8 (.t 2) (.t 13)⟩)] (some [2])) .ret))))
def md162 : FuncId→Option Nat × Bool
  | 86=>(some 0,false)
  | _=>(none,false)
def od162 : Nat→List (List Nat) × List Nat × Option (List Nat)
  | 0=>([],[],some [0,2])
  | 1=>([],[],some [0,2,3])
  | 2=>([],[],some [0,2,3,6])
  | 3=>([],[],some [0,2,3])
  | 4=>([],[],some [2])
  | _=>([],[],none)
theorem b162 {ags : List AV} {row : Option (List DV)} {r : AV} {row' nw : Option (List DV)} (hal : ags.length≤14) (hrow : row'.isSome=true→row.isSome=true) (h : xwp Tryz.prog x162 (retK [.cell 2 (some 8)] row.isSome r row' nw) (St.init ags row)) : Good Tryz.prog 73 ags row r row' nw :=
  good_of_body' (md:=md162) (od:=od162) Tryz.f73 (by kernel_rfl) (by kernel_rfl) (by kernel_rfl) (by kernel_rfl) (by kernel_rfl) hal hrow h

def x163 : XC:=(.seq (.ops 1 [ (0,⟨some 4,none,.mv (.k (.d (.val (.bool false))))⟩)] (some [0,1])) (.seq (.seq (.ops 5 [ (0,⟨some 5,none,.mv (.t 0)⟩),(1,⟨some 6,none,.call 87 [(.t 5)] none false⟩),(2,⟨some 7,none,.mv (.t 1)⟩),(3,⟨some 8,none,.conv .i64 (.t 7)⟩),(4,⟨some 9,none,.arith .neq (.t 6) (.t 8)⟩)] (some [0,9])) (.cond (.t 9) (.seq (.ops 1 [ (0,⟨some 4,none,.mv (.k (.d (.val (.bool false))))⟩)] (some [4])) .ret) .skip)) (.seq (.ops 8 [ (0,⟨some 10,none,.mv (.t 0)⟩),(1,⟨some 11,none,.nilck (.t 10)⟩),(2,⟨some 12,none,.fadd 1 (.t 11)⟩),(3,⟨some 13,none,.load none (.t 12)⟩),(4,⟨some 14,none,.arith .add (.t 13) (.k (.d (.val (.int .i64 1))))⟩),(5,⟨some 15,none,.nilck (.t 10)⟩),(6,⟨some 16,none,.fadd 1 (.t 15)⟩),(7,⟨none,none,.store 1 (.t 16) (.t 14)⟩)] (some [])) (.seq (.ops 1 [ (0,⟨some 4,none,.mv (.k (.d (.val (.bool true))))⟩)] (some [4])) .ret))))
def md163 : FuncId→Option Nat × Bool
  | _=>(none,false)
def od163 : Nat→List (List Nat) × List Nat × Option (List Nat)
  | 0=>([],[],some [0,1])
  | 1=>([],[],some [0,9])
  | 2=>([],[],some [4])
  | 3=>([],[],some [])
  | 4=>([],[],some [4])
  | _=>([],[],none)
theorem b163 {ags : List AV} {row : Option (List DV)} {r : AV} {row' nw : Option (List DV)} (hal : ags.length≤17) (hrow : row'.isSome=true→row.isSome=true) (h : xwp Tryz.prog x163 (retK [.tmp 4] row.isSome r row' nw) (St.init ags row)) : Good Tryz.prog 74 ags row r row' nw :=
  good_of_body' (md:=md163) (od:=od163) Tryz.f74 (by kernel_rfl) (by kernel_rfl) (by kernel_rfl) (by kernel_rfl) (by kernel_rfl) hal hrow h

def x164 : XC:=(.seq (.ops 1 [ (0,⟨some 4,none,.alloc [(.int .i64 0),(.int .u64 0),(.int .u64 0),(.int .u64 0),(.int .u64 0),(.int .i64 0),(.int .i64 0),(.slice none 0 0)]⟩)] (some [0,1,4])) (.seq (.block 0 (.seq (.ops 4 [ (0,⟨some 6,none,.mv (.t 1)⟩),(1,⟨some 7,none,.lenS (.t 6)⟩),(2,⟨some 8,none,.arith .eql (.t 7) (.k (.d (.val (.int .i64 0))))⟩),(3,⟨some 5,none,.mv (.t 8)⟩)] (some [0,1,4,5])) (.cond (.t 5) (.seq (.ops 2 [ (0,⟨some 9,none,.build [(.int .i64 0),(.int .u64 0),(.int .u64 0),(.int .u64 0),(.int .u64 0),(.int .i64 0),(.int .i64 0),(.slice none 0 0)] [(0,1,(.k (.d (.val (.int .i64 1)))))]⟩),(1,⟨none,none,.store 8 (.t 4) (.t 9)⟩)] (some [4])) .ret) (.seq (.ops 4 [ (0,⟨some 11,none,.mv (.t 1)⟩),(1,⟨some 12,none,.lenS (.t 11)⟩),(2,⟨some 13,none,.arith .eql (.t 12) (.k (.d (.val (.int .i64 1))))⟩),(3,⟨some 10,none,.mv (.t 13)⟩)] (some [0,1,4,10])) (.cond (.t 10) (.seq (.ops 4 [ (0,⟨some 14,none,.mv (.t 1)⟩),(1,⟨some 15,none,.idxS 8 (.t 14) (.k (.d (.val (.int .i64 0))))⟩),(2,⟨some 16,none,.load (some 8) (.t 15)⟩),(3,⟨none,none,.store 8 (.t 4) (.t 16)⟩)] (some [4])) .ret) .skip))))) (.seq (.ops 4 [ (0,⟨some 17,none,.mv (.t 0)⟩),(1,⟨some 18,none,.mv (.t 1)⟩),(2,⟨some 19,none,.build [(.int .i64 0),(.int .u64 0),(.int .u64 0),(.int .u64 0),(.int .u64 0),(.int .i64 0),(.int .i64 0),(.slice none 0 0)] [(0,1,(.t 17)),(7,1,(.t 18))]⟩),(3,⟨none,none,.store 8 (.t 4) (.t 19)⟩)] (some [4])) .ret)))
def md164 : FuncId→Option Nat × Bool
  | _=>(none,false)
def od164 : Nat→List (List Nat) × List Nat × Option (List Nat)
  | 0=>([],[],some [0,1,4])
  | 1=>([],[],some [0,1,4,5])
  | 2=>([],[],some [4])
  | 3=>([],[],some [0,1,4,10])
  | 4=>([],[],some [4])
  | 5=>([],[],some [4])
  | _=>([],[],none)
theorem b164 {ags : List AV} {row : Option (List DV)} {r : AV} {row' nw : Option (List DV)} (hal : ags.length≤20) (hrow : row'.isSome=true→row.isSome=true) (h : xwp Tryz.prog x164 (retK [.cell 4 (some 8)] row.isSome r row' nw) (St.init ags row)) : Good Tryz.prog 75 ags row r row' nw :=
  good_of_body' (md:=md164) (od:=od164) Tryz.f75 (by kernel_rfl) (by kernel_rfl) (by kernel_rfl) (by kernel_rfl) (by kernel_rfl) hal hrow h

def x170 : XC:=(.seq (.ops 1 [ (0,⟨some 2,none,.mv (.k (.d (.val (.bool false))))⟩)] (some [0])) (.seq (.ops 3 [ (0,⟨some 4,none,.mv (.t 0)⟩),(1,⟨some 5,none,.call 87 [(.t 4)] none false⟩),(2,⟨some 3,none,.mv (.t 5)⟩)] (some [3])) (.seq (.ops 11 [ (0,⟨some 6,none,.mv (.t 3)⟩),(1,⟨some 7,none,.arith .lss (.t 6) (.k (.d (.val (.int .i64 0))))⟩),(2,⟨some 8,none,.mv (.t 7)⟩),(3,⟨some 9,(some (8,false)),.mv (.t 3)⟩),(4,⟨some 10,(some (8,false)),.arith .eql (.t 9) (.k (.d (.val (.int .i64 124))))⟩),(5,⟨some 11,none,.pick (.t 8) (.k (.d (.val (.bool true)))) (.t 10)⟩),(6,⟨some 12,none,.mv (.t 11)⟩),(7,⟨some 13,(some (12,false)),.mv (.t 3)⟩),(8,⟨some 14,(some (12,false)),.arith .eql (.t 13) (.k (.d (.val (.int .i64 41))))⟩),(9,⟨some 15,none,.pick (.t 12) (.k (.d (.val (.bool true)))) (.t 14)⟩),(10,⟨some 2,none,.mv (.t 15)⟩)] (some [2])) .ret)))
def md170 : FuncId→Option Nat × Bool
  | _=>(none,false)
def od170 : Nat→List (List Nat) × List Nat × Option (List Nat)
  | 0=>([],[],some [0])
  | 1=>([],[],some [3])
  | 2=>([],[],some [2])
  | _=>([],[],none)
theorem b170 {ags : List AV} {row : Option (List DV)} {r : AV} {row' nw : Option (List DV)} (hal : ags.length≤16) (hrow : row'.isSome=true→row.isSome=true) (h : xwp Tryz.prog x170 (retK [.tmp 2] row.isSome r row' nw) (St.init ags row)) : Good Tryz.prog 85 ags row r row' nw :=
  good_of_body' (md:=md170) (od:=od170) Tryz.f85 (by kernel_rfl) (by kernel_rfl) (by kernel_rfl) (by kernel_rfl) (by kernel_rfl) hal hrow h

def x171 : XC:=(.seq (.ops 1 [ (0,⟨some 2,none,.alloc [(.int .i64 0),(.int .u64 0),(.int .u64 0),(.int .u64 0),(.int .u64 0),(.int .i64 0),(.int .i64 0),(.slice none 0 0)]⟩)] (some [0,2])) (.seq (.ops 4 [ (0,⟨some 5,none,.mv (.t 0)⟩),(1,⟨some 6,none,.call 90 [(.t 5)] (some 0) false⟩),(2,⟨some 3,none,.alloc [(.int .i64 0),(.int .u64 0),(.int .u64 0),(.int .u64 0),(.int .u64 0),(.int .i64 0),(.int .i64 0),(.slice none 0 0)]⟩),(3,⟨none,none,.store 8 (.t 3) (.t 6)⟩)] (some [0,2,3])) (.seq (.ops 5 [ (0,⟨some 7,none,.load (some 8) (.t 3)⟩),(1,⟨some 8,none,.mkrow [(.int .i64 0),(.int .u64 0),(.int .u64 0),(.int .u64 0),(.int .u64 0),(.int .i64 0),(.int .i64 0),(.slice none 0 0)] 1 8 [(0,8,(.t 7))]⟩),(2,⟨some 9,none,.build [(.int .i64 0),(.int .u64 0),(.int .u64 0),(.int .u64 0),(.int .u64 0),(.int .i64 0),(.int .i64 0),(.slice none 0 0)] [(0,1,(.k (.d (.val (.int .i64 5))))),(6,1,(.k (.d (.val (.int .i64 (-1)))))),(7,1,(.t 8))]⟩),(3,⟨some 4,none,.alloc [(.int .i64 0),(.int .u64 0),(.int .u64 0),(.int .u64 0),(.int .u64 0),(.int .i64 0),(.int .i64 0),(.slice none 0 0)]⟩),(4,⟨none,none,.store 8 (.t 4) (.t 9)⟩)] (some [0,2,3,4])) (.seq (.block 0 (.seq (.ops 3 [ (0,⟨some 12,none,.mv (.t 0)⟩),(1,⟨some 13,none,.call 74 [(.t 12),(.k (.d (.val (.int .u8 42))))] (some 0) false⟩),(2,⟨some 11,none,.mv (.t 13)⟩)] (some [0,2,3,4,11])) (.cond (.t 11) .skip (.seq (.ops 3 [ (0,⟨some 15,none,.mv (.t 0)⟩),(1,⟨some 16,none,.call 74 [(.t 15),(.k (.d (.val (.int .u8 43))))] (some 0) false⟩),(2,⟨some 14,none,.mv (.t 16)⟩)] (some [0,2,3,4,14])) (.cond (.t 14) (.ops 2 [ (0,⟨some 17,none,.fadd 5 (.t 4)⟩),(1,⟨none,none,.store 1 (.t 17) (.k (.d (.val (.int .i64 1))))⟩)] (some [2,4])) (.seq (.ops 3 [ (0,⟨some 19,none,.mv (.t 0)⟩),(1,⟨some 20,none,.call 74 [(.t 19),(.k (.d (.val (.int .u8 63))))] (some 0) false⟩),(2,⟨some 18,none,.mv (.t 20)⟩)] (some [0,2,3,4,18])) (.cond (.t 18) (.ops 2 [ (0,⟨some 21,none,.fadd 6 (.t 4)⟩),(1,⟨none,none,.store 1 (.t 21) (.k (.d (.val (.int .i64 1))))⟩)] (some [2,4])) (.seq (.ops 3 [ (0,⟨some 23,none,.mv (.t 0)⟩),(1,⟨some 24,none,.call 74 [(.t 23),(.k (.d (.val (.int .u8 123))))] (some 0) false⟩),(2,⟨some 22,none,.mv (.t 24)⟩)] (some [0,2,3,4,22])) (.cond (.t 22) (.ops 9 [ (0,⟨some 26,none,.mv (.t 0)⟩),(1,⟨some 27,none,.call 91 [(.t 26)] (some 0) false⟩),(2,⟨some 25,none,.mv (.t 27)⟩),(3,⟨some 28,none,.ext (.t 25) 0⟩),(4,⟨some 29,none,.ext (.t 25) 1⟩),(5,⟨some 30,none,.fadd 5 (.t 4)⟩),(6,⟨none,none,.store 1 (.t 30) (.t 28)⟩),(7,⟨some 31,none,.fadd 6 (.t 4)⟩),(8,⟨none,none,.store 1 (.t 31) (.t 29)⟩)] (some [2,4])) (.seq (.ops 2 [ (0,⟨some 10,none,.load (some 8) (.t 3)⟩),(1,⟨none,none,.store 8 (.t 2) (.t 10)⟩)] (some [2])) .ret)))))))))) (.seq (.ops 2 [ (0,⟨some 32,none,.load (some 8) (.t 4)⟩),(1,⟨none,none,.store 8 (.t 2) (.t 32)⟩)] (some [2])) .ret)))))
def md171 : FuncId→Option Nat × Bool
  | 74=>(some 0,false)
  | 90=>(some 0,false)
  | 91=>(some 0,false)
  | _=>(none,false)
def od171 : Nat→List (List Nat) × List Nat × Option (List Nat)
  | 0=>([],[],some [0,2])
  | 1=>([],[],some [0,2,3])
  | 2=>([],[],some [0,2,3,4])
  | 3=>([],[],some [2])
  | 4=>([],[],some [0,2,3,4,11])
  | 5=>([],[],some [0,2,3,4,14])
  | 6=>([],[],some [2,4])
  | 7=>([],[],some [0,2,3,4,18])
  | 8=>([],[],some [2,4])
  | 9=>([],[],some [0,2,3,4,22])
  | 10=>([],[],some [2,4])
  | 11=>([],[],some [2])
  | _=>([],[],none)
theorem b171 {ags : List AV} {row : Option (List DV)} {r : AV} {row' nw : Option (List DV)} (hal : ags.length≤33) (hrow : row'.isSome=true→row.isSome=true) (h : xwp Tryz.prog x171 (retK [.cell 2 (some 8)] row.isSome r row' nw) (St.init ags row)) : Good Tryz.prog 86 ags row r row' nw :=
  good_of_body' (md:=md171) (od:=od171) Tryz.f86 (by kernel_rfl) (by kernel_rfl) (by kernel_rfl) (by kernel_rfl) (by kernel_rfl) hal hrow h

def x172 : XC:=(.seq (.ops 1 [ (0,⟨some 2,none,.mv (.k (.d (.val (.int .i64 0))))⟩)] (some [0])) (.seq (.seq (.ops 10 [ (0,⟨some 3,none,.mv (.t 0)⟩),(1,⟨some 4,none,.nilck (.t 3)⟩),(2,⟨some 5,none,.fadd 1 (.t 4)⟩),(3,⟨some 6,none,.load none (.t 5)⟩),(4,⟨some 7,none,.mv (.t 0)⟩),(5,⟨some 8,none,.nilck (.t 7)⟩),(6,⟨some 9,none,.fadd 0 (.t 8)⟩),(7,⟨some 10,none,.load none (.t 9)⟩),(8,⟨some 11,none,.lenT (.t 10)⟩),(9,⟨some 12,none,.arith .geq (.t 6) (.t 11)⟩)] (some [0,12])) (.cond (.t 12) (.seq (.ops 1 [ (0,⟨some 2,none,.mv (.k (.d (.val (.int .i64 (-1)))))⟩)] (some [2])) .ret) .skip)) (.seq (.ops 11 [ (0,⟨some 13,none,.mv (.t 0)⟩),(1,⟨some 14,none,.nilck (.t 13)⟩),(2,⟨some 15,none,.fadd 0 (.t 14)⟩),(3,⟨some 16,none,.load none (.t 15)⟩),(4,⟨some 17,none,.mv (.t 0)⟩),(5,⟨some 18,none,.nilck (.t 17)⟩),(6,⟨some 19,none,.fadd 1 (.t 18)⟩),(7,⟨some 20,none,.load none (.t 19)⟩),(8,⟨some 21,none,.idxT (.t 16) (.t 20)⟩),(9,⟨some 22,none,.conv .i64 (.t 21)⟩),(10,⟨some 2,none,.mv (.t 22)⟩)] (some [2])) .ret)))
def md172 : FuncId→Option Nat × Bool
  | _=>(none,false)
def od172 : Nat→List (List Nat) × List Nat × Option (List Nat)
  | 0=>([],[],some [0])
  | 1=>([[],[0],[0,1],[0,1,2],[],[4],[4,5],[4,5,6],[4,5,6,7],[0,1,2,3,4,5,6,7,8]],[0,1,2,3,4,5,6,7,8,9],some [0,12])
  | 2=>([],[],some [2])
  | 3=>([[],[0],[0,1],[0,1,2],[],[4],[4,5],[4,5,6],[0,1,2,3,4,5,6,7],[0,1,2,3,4,5,6,7,8],[0,1,2,3,4,5,6,7,8,9]],[0,1,2,3,4,5,6,7,8,9,10],some [2])
  | _=>([],[],none)
theorem b172 {ags : List AV} {row : Option (List DV)} {r : AV} {row' nw : Option (List DV)} (hal : ags.length≤23) (hrow : row'.isSome=true→row.isSome=true) (h : xwp Tryz.prog x172 (retK [.tmp 2] row.isSome r row' nw) (St.init ags row)) : Good Tryz.prog 87 ags row r row' nw :=
  good_of_body' (md:=md172) (od:=od172) Tryz.f87 (by kernel_rfl) (by kernel_rfl) (by kernel_rfl) (by kernel_rfl) (by kernel_rfl) hal hrow h

def x176 : XC:=(.seq (.ops 1 [ (0,⟨some 2,none,.alloc [(.int .i64 0),(.int .u64 0),(.int .u64 0),(.int .u64 0),(.int .u64 0),(.int .i64 0),(.int .i64 0),(.slice none 0 0)]⟩)] (some [0,2])) (.seq (.block 0 (.seq (.ops 4 [ (0,⟨some 5,none,.mv (.t 0)⟩),(1,⟨some 6,none,.call 87 [(.t 5)] none false⟩),(2,⟨some 7,none,.arith .eql (.t 6) (.k (.d (.val (.int .i64 40))))⟩),(3,⟨some 4,none,.mv (.t 7)⟩)] (some [0,2,4])) (.cond (.t 4) (.seq (.ops 11 [ (0,⟨some 8,none,.mv (.t 0)⟩),(1,⟨some 9,none,.mv (.t 0)⟩),(2,⟨some 10,none,.nilck (.t 9)⟩),(3,⟨some 11,none,.fadd 2 (.t 10)⟩),(4,⟨some 12,none,.load none (.t 11)⟩),(5,⟨some 13,none,.arith .lss (.t 12) (.k (.d (.val (.int .i64 12))))⟩),(6,⟨some 14,none,.mv (.t 0)⟩),(7,⟨some 15,none,.nilck (.t 14)⟩),(8,⟨some 16,none,.fadd 1 (.t 15)⟩),(9,⟨some 17,none,.load none (.t 16)⟩),(10,⟨some 18,none,.call 48 [(.t 8),(.t 13),(.t 17)] none false⟩)] (some [0,2])) (.seq (.ops 8 [ (0,⟨some 19,none,.mv (.t 0)⟩),(1,⟨some 20,none,.nilck (.t 19)⟩),(2,⟨some 21,none,.fadd 1 (.t 20)⟩),(3,⟨some 22,none,.load none (.t 21)⟩),(4,⟨some 23,none,.arith .add (.t 22) (.k (.d (.val (.int .i64 1))))⟩),(5,⟨some 24,none,.nilck (.t 19)⟩),(6,⟨some 25,none,.fadd 1 (.t 24)⟩),(7,⟨none,none,.store 1 (.t 25) (.t 23)⟩)] (some [0,2])) (.seq (.ops 8 [ (0,⟨some 26,none,.mv (.t 0)⟩),(1,⟨some 27,none,.nilck (.t 26)⟩),(2,⟨some 28,none,.fadd 2 (.t 27)⟩),(3,⟨some 29,none,.load none (.t 28)⟩),(4,⟨some 30,none,.arith .add (.t 29) (.k (.d (.val (.int .i64 1))))⟩),(5,⟨some 31,none,.nilck (.t 26)⟩),(6,⟨some 32,none,.fadd 2 (.t 31)⟩),(7,⟨none,none,.store 1 (.t 32) (.t 30)⟩)] (some [0,2])) (.seq (.ops 4 [ (0,⟨some 33,none,.mv (.t 0)⟩),(1,⟨some 34,none,.call 47 [(.t 33)] (some 0) false⟩),(2,⟨some 3,none,.alloc [(.int .i64 0),(.int .u64 0),(.int .u64 0),(.int .u64 0),(.int .u64 0),(.int .i64 0),(.int .i64 0),(.slice none 0 0)]⟩),(3,⟨none,none,.store 8 (.t 3) (.t 34)⟩)] (some [0,2,3])) (.seq (.ops 8 [ (0,⟨some 35,none,.mv (.t 0)⟩),(1,⟨some 36,none,.nilck (.t 35)⟩),(2,⟨some 37,none,.fadd 2 (.t 36)⟩),(3,⟨some 38,none,.load none (.t 37)⟩),(4,⟨some 39,none,.arith .sub (.t 38) (.k (.d (.val (.int .i64 1))))⟩),(5,⟨some 40,none,.nilck (.t 35)⟩),(6,⟨some 41,none,.fadd 2 (.t 40)⟩),(7,⟨none,none,.store 1 (.t 41) (.t 39)⟩)] (some [0,2,3])) (.seq (.ops 2 [ (0,⟨some 42,none,.mv (.t 0)⟩),(1,⟨some 43,none,.call 92 [(.t 42),(.k (.d (.val (.int .u8 41))))] (some 0) false⟩)] (some [2,3])) (.seq (.ops 2 [ (0,⟨some 44,none,.load (some 8) (.t 3)⟩),(1,⟨none,none,.store 8 (.t 2) (.t 44)⟩)] (some [2])) .ret))))))) (.seq (.ops 3 [ (0,⟨some 46,none,.mv (.t 0)⟩),(1,⟨some 47,none,.call 74 [(.t 46),(.k (.d (.val (.int .u8 46))))] (some 0) false⟩),(2,⟨some 45,none,.mv (.t 47)⟩)] (some [0,2,45])) (.cond (.t 45) (.seq (.ops 3 [ (0,⟨some 48,none,.call 93 [(.k (.d (.val (.int .u8 0)))),(.k (.d (.val (.int .u8 255))))] none false⟩),(1,⟨some 49,none,.build [(.int .i64 0),(.int .u64 0),(.int .u64 0),(.int .u64 0),(.int .u64 0),(.int .i64 0),(.int .i64 0),(.slice none 0 0)] [(0,1,(.k (.d (.val (.int .i64 2))))),(1,4,(.t 48))]⟩),(2,⟨none,none,.store 8 (.t 2) (.t 49)⟩)] (some [2])) .ret) (.seq (.ops 3 [ (0,⟨some 51,none,.mv (.t 0)⟩),(1,⟨some 52,none,.call 74 [(.t 51),(.k (.d (.val (.int .u8 91))))] (some 0) false⟩),(2,⟨some 50,none,.mv (.t 52)⟩)] (some [0,2,50])) (.cond (.t 50) (.seq (.ops 4 [ (0,⟨some 53,none,.mv (.t 0)⟩),(1,⟨some 54,none,.call 94 [(.t 53)] (some 0) false⟩),(2,⟨some 55,none,.build [(.int .i64 0),(.int .u64 0),(.int .u64 0),(.int .u64 0),(.int .u64 0),(.int .i64 0),(.int .i64 0),(.slice none 0 0)] [(0,1,(.k (.d (.val (.int .i64 2))))),(1,4,(.t 54))]⟩),(3,⟨none,none,.store 8 (.t 2) (.t 55)⟩)] (some [2])) .ret) .skip))))))) (.seq (.ops 5 [ (0,⟨some 56,none,.mv (.t 0)⟩),(1,⟨some 57,none,.call 96 [(.t 56)] (some 0) false⟩),(2,⟨some 58,none,.call 95 [(.t 57)] none false⟩),(3,⟨some 59,none,.build [(.int .i64 0),(.int .u64 0),(.int .u64 0),(.int .u64 0),(.int .u64 0),(.int .i64 0),(.int .i64 0),(.slice none 0 0)] [(0,1,(.k (.d (.val (.int .i64 2))))),(1,4,(.t 58))]⟩),(4,⟨none,none,.store 8 (.t 2) (.t 59)⟩)] (some [2])) .ret)))
def md176 : FuncId→Option Nat × Bool
  | 47=>(some 0,false)
  | 74=>(some 0,false)
  | 92=>(some 0,false)
  | 94=>(some 0,false)
  | 96=>(some 0,false)
  | _=>(none,false)
def od176 : Nat→List (List Nat) × List Nat × Option (List Nat)
  | 0=>([],[],some [0,2])
  | 1=>([],[],some [0,2,4])
  | 2=>([[],[],[1],[1,2],[1,2,3],[1,2,3,4],[],[6],[6,7],[6,7,8],[0,1,2,3,4,5,6,7,8,9]],[0,1,2,3,4,5,6,7,8,9,10],some [0,2])
  | 3=>([],[],some [0,2])
  | 4=>([],[],some [0,2])
  | 5=>([],[],some [0,2,3])
  | 6=>([],[],some [0,2,3])
  | 7=>([],[],some [2,3])
  | 8=>([],[],some [2])
  | 9=>([],[],some [0,2,45])
  | 10=>([],[],some [2])
  | 11=>([],[],some [0,2,50])
  | 12=>([],[],some [2])
  | 13=>([],[],some [2])
  | _=>([],[],none)
theorem b176 {ags : List AV} {row : Option (List DV)} {r : AV} {row' nw : Option (List DV)} (hal : ags.length≤60) (hrow : row'.isSome=true→row.isSome=true) (h : xwp Tryz.prog x176 (retK [.cell 2 (some 8)] row.isSome r row' nw) (St.init ags row)) : Good Tryz.prog 90 ags row r row' nw :=
  good_of_body' (md:=md176) (od:=od176) Tryz.f90 (by kernel_rfl) (by kernel_rfl) (by kernel_rfl) (by kernel_rfl) (by kernel_rfl) hal hrow h

def x177 : XC:=(.seq (.ops 2 [ (0,⟨some 2,none,.mv (.k (.d (.val (.int .i64 0))))⟩),(1,⟨some 3,none,.mv (.k (.d (.val (.int .i64 0))))⟩)] (some [0])) (.seq (.ops 3 [ (0,⟨some 5,none,.mv (.t 0)⟩),(1,⟨some 6,none,.call 97 [(.t 5)] (some 0) false⟩),(2,⟨some 2,none,.mv (.t 6)⟩)] (some [0,2])) (.seq (.ops 2 [ (0,⟨some 7,none,.mv (.t 2)⟩),(1,⟨some 3,none,.mv (.t 7)⟩)] (some [0,2,3])) (.seq (.seq (.ops 2 [ (0,⟨some 8,none,.mv (.t 0)⟩),(1,⟨some 9,none,.call 74 [(.t 8),(.k (.d (.val (.int .u8 44))))] (some 0) false⟩)] (some [0,2,3,9])) (.cond (.t 9) (.seq (.ops 1 [ (0,⟨some 3,none,.mv (.k (.d (.val (.int .i64 (-1)))))⟩)] (some [0,2,3])) (.seq (.ops 3 [ (0,⟨some 10,none,.mv (.t 0)⟩),(1,⟨some 11,none,.call 87 [(.t 10)] none false⟩),(2,⟨some 12,none,.arith .neq (.t 11) (.k (.d (.val (.int .i64 125))))⟩)] (some [0,2,3,12])) (.cond (.t 12) (.seq (.ops 5 [ (0,⟨some 13,none,.mv (.t 0)⟩),(1,⟨some 14,none,.nilck (.t 13)⟩),(2,⟨some 15,none,.fadd 1 (.t 14)⟩),(3,⟨some 16,none,.load none (.t 15)⟩),(4,⟨some 4,none,.mv (.t 16)⟩)] (some [0,2,4])) (.seq (.ops 3 [ (0,⟨some 17,none,.mv (.t 0)⟩),(1,⟨some 18,none,.call 97 [(.t 17)] (some 0) false⟩),(2,⟨some 3,none,.mv (.t 18)⟩)] (some [0,2,3,4])) (.ops 6 [ (0,⟨some 19,none,.mv (.t 0)⟩),(1,⟨some 20,none,.mv (.t 3)⟩),(2,⟨some 21,none,.mv (.t 2)⟩),(3,⟨some 22,none,.arith .geq (.t 20) (.t 21)⟩),(4,⟨some 23,none,.mv (.t 4)⟩),(5,⟨some 24,none,.call 48 [(.t 19),(.t 22),(.t 23)] none false⟩)] (some [0,2,3])))) .skip))) .skip)) (.seq (.ops 2 [ (0,⟨some 25,none,.mv (.t 0)⟩),(1,⟨some 26,none,.call 92 [(.t 25),(.k (.d (.val (.int .u8 125))))] (some 0) false⟩)] (some [2,3])) (.seq (.ops 4 [ (0,⟨some 27,none,.mv (.t 2)⟩),(1,⟨some 28,none,.mv (.t 3)⟩),(2,⟨some 2,none,.mv (.t 27)⟩),(3,⟨some 3,none,.mv (.t 28)⟩)] (some [2,3])) .ret))))))
def md177 : FuncId→Option Nat × Bool
  | 74=>(some 0,false)
  | 92=>(some 0,false)
  | 97=>(some 0,false)
  | _=>(none,false)
def od177 : Nat→List (List Nat) × List Nat × Option (List Nat)
  | 0=>([],[],some [0])
  | 1=>([],[],some [0,2])
  | 2=>([],[],some [0,2,3])
  | 3=>([],[],some [0,2,3,9])
  | 4=>([],[],some [0,2,3])
  | 5=>([],[],some [0,2,3,12])
  | 6=>([],[],some [0,2,4])
  | 7=>([],[],some [0,2,3,4])
  | 8=>([],[],some [0,2,3])
  | 9=>([],[],some [2,3])
  | 10=>([],[],some [2,3])
  | _=>([],[],none)
theorem b177 {ags : List AV} {row : Option (List DV)} {r : AV} {row' nw : Option (List DV)} (hal : ags.length≤29) (hrow : row'.isSome=true→row.isSome=true) (h : xwp Tryz.prog x177 (retK [.tmp 2,.tmp 3] row.isSome r row' nw) (St.init ags row)) : Good Tryz.prog 91 ags row r row' nw :=
  good_of_body' (md:=md177) (od:=od177) Tryz.f91 (by kernel_rfl) (by kernel_rfl) (by kernel_rfl) (by kernel_rfl) (by kernel_rfl) hal hrow h

def x178 : XC:=(.seq (.ops 4 [ (0,⟨some 5,none,.mv (.t 0)⟩),(1,⟨some 6,none,.mv (.t 1)⟩),(2,⟨some 7,none,.call 74 [(.t 5),(.t 6)] (some 0) false⟩),(3,⟨some 4,none,.mv (.t 7)⟩)] (some [0,4])) (.ops 7 [ (0,⟨some 8,none,.mv (.t 0)⟩),(1,⟨some 9,none,.mv (.t 4)⟩),(2,⟨some 10,none,.mv (.t 0)⟩),(3,⟨some 11,none,.nilck (.t 10)⟩),(4,⟨some 12,none,.fadd 1 (.t 11)⟩),(5,⟨some 13,none,.load none (.t 12)⟩),(6,⟨some 14,none,.call 48 [(.t 8),(.t 9),(.t 13)] none false⟩)] (some [])))
def md178 : FuncId→Option Nat × Bool
  | 74=>(some 0,false)
  | _=>(none,false)
def od178 : Nat→List (List Nat) × List Nat × Option (List Nat)
  | 0=>([],[],some [0,4])
  | 1=>([],[],some [])
  | _=>([],[],none)
theorem b178 {ags : List AV} {row : Option (List DV)} {r : AV} {row' nw : Option (List DV)} (hal : ags.length≤15) (hrow : row'.isSome=true→row.isSome=true) (h : xwp Tryz.prog x178 (retK [] row.isSome r row' nw) (St.init ags row)) : Good Tryz.prog 92 ags row r row' nw :=
  good_of_body' (md:=md178) (od:=od178) Tryz.f92 (by kernel_rfl) (by kernel_rfl) (by kernel_rfl) (by kernel_rfl) (by kernel_rfl) hal hrow h

def x179 : XC:=(.seq (.ops 1 [ (0,⟨some 2,none,.alloc [(.int .u64 0),(.int .u64 0),(.int .u64 0),(.int .u64 0)]⟩)] (some [0,2])) (.seq (.ops 3 [ (0,⟨some 4,none,.mv (.t 0)⟩),(1,⟨some 5,none,.call 74 [(.t 4),(.k (.d (.val (.int .u8 94))))] (some 0) false⟩),(2,⟨some 3,none,.mv (.t 5)⟩)] (some [0,2,3])) (.seq (.block 0 (.loop (.seq (.seq (.ops 3 [ (0,⟨some 6,none,.mv (.t 0)⟩),(1,⟨some 7,none,.call 87 [(.t 6)] none false⟩),(2,⟨some 8,none,.arith .neq (.t 7) (.k (.d (.val (.int .i64 93))))⟩)] (some [0,2,3,8])) (.cond (.t 8) .skip (.exit 0))) (.block 1 (.ops 5 [ (0,⟨some 9,none,.load (some 4) (.t 2)⟩),(1,⟨some 10,none,.mv (.t 0)⟩),(2,⟨some 11,none,.callA 98 [(.t 10)] 0 [2]⟩),(3,⟨some 12,none,.call 69 [(.t 9),(.t 11)] none false⟩),(4,⟨none,none,.store 4 (.t 2) (.t 12)⟩)] (some [0,2,3])))))) (.seq (.ops 2 [ (0,⟨some 13,none,.mv (.t 0)⟩),(1,⟨some 14,none,.call 92 [(.t 13),(.k (.d (.val (.int .u8 93))))] (some 0) false⟩)] (some [2,3])) (.seq (.seq (.ops 1 [ (0,⟨some 15,none,.mv (.t 3)⟩)] (some [2,15])) (.cond (.t 15) (.ops 3 [ (0,⟨some 16,none,.load (some 4) (.t 2)⟩),(1,⟨some 17,none,.call 99 [(.t 16)] none false⟩),(2,⟨none,none,.store 4 (.t 2) (.t 17)⟩)] (some [2])) .skip)) (.seq (.ops 2 [ (0,⟨some 18,none,.load (some 4) (.t 2)⟩),(1,⟨none,none,.store 4 (.t 2) (.t 18)⟩)] (some [2])) .ret))))))
def md179 : FuncId→Option Nat × Bool
  | 74=>(some 0,false)
  | 92=>(some 0,false)
  | 98=>(some 0,false)
  | _=>(none,false)
def od179 : Nat→List (List Nat) × List Nat × Option (List Nat)
  | 0=>([],[],some [0,2])
  | 1=>([],[],some [0,2,3])
  | 2=>([],[],some [0,2,3,8])
  | 3=>([[],[],[1],[0,1,2],[0,1,2,3]],[0,1,2,3,4],some [0,2,3])
  | 4=>([],[],some [2,3])
  | 5=>([],[],some [2,15])
  | 6=>([],[],some [2])
  | 7=>([],[],some [2])
  | _=>([],[],none)
theorem b179 {ags : List AV} {row : Option (List DV)} {r : AV} {row' nw : Option (List DV)} (hal : ags.length≤19) (hrow : row'.isSome=true→row.isSome=true) (h : xwp Tryz.prog x179 (retK [.cell 2 (some 4)] row.isSome r row' nw) (St.init ags row)) : Good Tryz.prog 94 ags row r row' nw :=
  good_of_body' (md:=md179) (od:=od179) Tryz.f94 (by kernel_rfl) (by kernel_rfl) (by kernel_rfl) (by kernel_rfl) (by kernel_rfl) hal hrow h

def x180 : XC:=(.seq (.ops 1 [ (0,⟨some 2,none,.alloc [(.int .u64 0),(.int .u64 0),(.int .u64 0),(.int .u64 0)]⟩)] (some [0,2])) (.seq (.ops 7 [ (0,⟨some 3,none,.mv (.t 0)⟩),(1,⟨some 4,none,.arith .quo (.t 3) (.k (.d (.val (.int .u8 64))))⟩),(2,⟨some 5,none,.mv (.t 0)⟩),(3,⟨some 6,none,.arith .rem (.t 5) (.k (.d (.val (.int .u8 64))))⟩),(4,⟨some 7,none,.arith .shl (.k (.d (.val (.int .u64 1)))) (.t 6)⟩),(5,⟨some 8,none,.idxP 4 1 (.t 2) (.t 4)⟩),(6,⟨none,none,.store 1 (.t 8) (.t 7)⟩)] (some [2])) (.seq (.ops 2 [ (0,⟨some 9,none,.load (some 4) (.t 2)⟩),(1,⟨none,none,.store 4 (.t 2) (.t 9)⟩)] (some [2])) .ret)))
def md180 : FuncId→Option Nat × Bool
  | _=>(none,false)
def od180 : Nat→List (List Nat) × List Nat × Option (List Nat)
  | 0=>([],[],some [0,2])
  | 1=>([],[],some [2])
  | 2=>([],[],some [2])
  | _=>([],[],none)
theorem b180 {ags : List AV} {row : Option (List DV)} {r : AV} {row' nw : Option (List DV)} (hal : ags.length≤10) (hrow : row'.isSome=true→row.isSome=true) (h : xwp Tryz.prog x180 (retK [.cell 2 (some 4)] row.isSome r row' nw) (St.init ags row)) : Good Tryz.prog 95 ags row r row' nw :=
  good_of_body' (md:=md180) (od:=od180) Tryz.f95 (by kernel_rfl) (by kernel_rfl) (by kernel_rfl) (by kernel_rfl) (by kernel_rfl) hal hrow h

def x181 : XC:=(.seq (.ops 1 [ (0,⟨some 2,none,.mv (.k (.d (.val (.int .u8 0))))⟩)] (some [0])) (.seq (.ops 3 [ (0,⟨some 4,none,.mv (.t 0)⟩),(1,⟨some 5,none,.call 87 [(.t 4)] none false⟩),(2,⟨some 3,none,.mv (.t 5)⟩)] (some [0,3])) (.seq (.seq (.ops 2 [ (0,⟨some 6,none,.mv (.t 0)⟩),(1,⟨some 7,none,.call 74 [(.t 6),(.k (.d (.val (.int .u8 92))))] (some 0) false⟩)] (some [0,3,7])) (.cond (.t 7) (.seq (.ops 3 [ (0,⟨some 8,none,.mv (.t 0)⟩),(1,⟨some 9,none,.call 100 [(.t 8)] (some 0) false⟩),(2,⟨some 2,none,.mv (.t 9)⟩)] (some [2])) .ret) .skip)) (.seq (.ops 15 [ (0,⟨some 10,none,.mv (.t 0)⟩),(1,⟨some 11,none,.mv (.t 3)⟩),(2,⟨some 12,none,.arith .geq (.t 11) (.k (.d (.val (.int .i64 0))))⟩),(3,⟨some 13,none,.mv (.t 12)⟩),(4,⟨some 14,(some (13,true)),.mv (.t 3)⟩),(5,⟨some 15,(some (13,true)),.conv .u8 (.t 14)⟩),(6,⟨some 16,(some (13,true)),.call 101 [(.t 15)] none false⟩),(7,⟨some 17,(some (13,true)),.lenT (.t 16)⟩),(8,⟨some 18,(some (13,true)),.arith .eql (.t 17) (.k (.d (.val (.int .i64 1))))⟩),(9,⟨some 19,none,.pick (.t 13) (.t 18) (.k (.d (.val (.bool false))))⟩),(10,⟨some 20,none,.mv (.t 0)⟩),(11,⟨some 21,none,.nilck (.t 20)⟩),(12,⟨some 22,none,.fadd 1 (.t 21)⟩),(13,⟨some 23,none,.load none (.t 22)⟩),(14,⟨some 24,none,.call 48 [(.t 10),(.t 19),(.t 23)] none false⟩)] (some [0,3])) (.seq (.ops 8 [ (0,⟨some 25,none,.mv (.t 0)⟩),(1,⟨some 26,none,.nilck (.t 25)⟩),(2,⟨some 27,none,.fadd 1 (.t 26)⟩),(3,⟨some 28,none,.load none (.t 27)⟩),(4,⟨some 29,none,.arith .add (.t 28) (.k (.d (.val (.int .i64 1))))⟩),(5,⟨some 30,none,.nilck (.t 25)⟩),(6,⟨some 31,none,.fadd 1 (.t 30)⟩),(7,⟨none,none,.store 1 (.t 31) (.t 29)⟩)] (some [3])) (.seq (.ops 3 [ (0,⟨some 32,none,.mv (.t 3)⟩),(1,⟨some 33,none,.conv .u8 (.t 32)⟩),(2,⟨some 2,none,.mv (.t 33)⟩)] (some [2])) .ret))))))
def md181 : FuncId→Option Nat × Bool
  | 74=>(some 0,false)
  | 100=>(some 0,false)
  | _=>(none,false)
def od181 : Nat→List (List Nat) × List Nat × Option (List Nat)
  | 0=>([],[],some [0])
  | 1=>([],[],some [0,3])
  | 2=>([],[],some [0,3,7])
  | 3=>([],[],some [2])
  | 4=>([[],[],[1],[1,2],[1,2,3],[1,2,3,4],[1,2,3,4,5],[1,2,3,4,5,6],[1,2,3,4,5,6,7],[1,2,3,4,5,6,7,8],[],[10],[10,11],[10,11,12],[0,1,2,3,4,5,6,7,8,9,10,11,12,13]],[0,1,2,3,4,5,6,7,8,9,10,11,12,13,14],some [0,3])
  | 5=>([],[],some [3])
  | 6=>([],[],some [2])
  | _=>([],[],none)
theorem b181 {ags : List AV} {row : Option (List DV)} {r : AV} {row' nw : Option (List DV)} (hal : ags.length≤34) (hrow : row'.isSome=true→row.isSome=true) (h : xwp Tryz.prog x181 (retK [.tmp 2] row.isSome r row' nw) (St.init ags row)) : Good Tryz.prog 96 ags row r row' nw :=
  good_of_body' (md:=md181) (od:=od181) Tryz.f96 (by kernel_rfl) (by kernel_rfl) (by kernel_rfl) (by kernel_rfl) (by kernel_rfl) hal hrow h

def x182 : XC:=(.seq (.ops 1 [ (0,⟨some 2,none,.mv (.k (.d (.val (.int .i64 0))))⟩)] (some [0,2])) (.seq (.ops 5 [ (0,⟨some 5,none,.mv (.t 0)⟩),(1,⟨some 6,none,.nilck (.t 5)⟩),(2,⟨some 7,none,.fadd 1 (.t 6)⟩),(3,⟨some 8,none,.load none (.t 7)⟩),(4,⟨some 3,none,.mv (.t 8)⟩)] (some [0,2,3])) (.seq (.seq (.ops 3 [ (0,⟨some 9,none,.mv (.t 0)⟩),(1,⟨some 10,none,.call 87 [(.t 9)] none false⟩),(2,⟨some 4,none,.mv (.t 10)⟩)] (some [0,2,3,4])) (.block 0 (.loop (.seq (.seq (.ops 15 [ (0,⟨some 11,none,.mv (.t 4)⟩),(1,⟨some 12,none,.arith .geq (.t 11) (.k (.d (.val (.int .i64 48))))⟩),(2,⟨some 13,none,.mv (.t 12)⟩),(3,⟨some 14,(some (13,true)),.mv (.t 4)⟩),(4,⟨some 15,(some (13,true)),.arith .leq (.t 14) (.k (.d (.val (.int .i64 57))))⟩),(5,⟨some 16,none,.pick (.t 13) (.t 15) (.k (.d (.val (.bool false))))⟩),(6,⟨some 17,none,.mv (.t 16)⟩),(7,⟨some 18,(some (17,true)),.mv (.t 0)⟩),(8,⟨some 19,(some (17,true)),.nilck (.t 18)⟩),(9,⟨some 20,(some (17,true)),.fadd 1 (.t 19)⟩),(10,⟨some 21,(some (17,true)),.load none (.t 20)⟩),(11,⟨some 22,(some (17,true)),.mv (.t 3)⟩),(12,⟨some 23,(some (17,true)),.arith .sub (.t 21) (.t 22)⟩),(13,⟨some 24,(some (17,true)),.arith .lss (.t 23) (.k (.d (.val (.int .i64 2))))⟩),(14,⟨some 25,none,.pick (.t 17) (.t 24) (.k (.d (.val (.bool false))))⟩)] (some [0,2,3,4,25])) (.cond (.t 25) .skip (.exit 0))) (.seq (.block 1 (.seq (.ops 6 [ (0,⟨some 28,none,.mv (.t 2)⟩),(1,⟨some 29,none,.arith .mul (.k (.d (.val (.int .i64 10)))) (.t 28)⟩),(2,⟨some 30,none,.mv (.t 4)⟩),(3,⟨some 31,none,.arith .add (.t 29) (.t 30)⟩),(4,⟨some 32,none,.arith .sub (.t 31) (.k (.d (.val (.int .i64 48))))⟩),(5,⟨some 2,none,.mv (.t 32)⟩)] (some [0,2,3])) (.ops 8 [ (0,⟨some 33,none,.mv (.t 0)⟩),(1,⟨some 34,none,.nilck (.t 33)⟩),(2,⟨some 35,none,.fadd 1 (.t 34)⟩),(3,⟨some 36,none,.load none (.t 35)⟩),(4,⟨some 37,none,.arith .add (.t 36) (.k (.d (.val (.int .i64 1))))⟩),(5,⟨some 38,none,.nilck (.t 33)⟩),(6,⟨some 39,none,.fadd 1 (.t 38)⟩),(7,⟨none,none,.store 1 (.t 39) (.t 37)⟩)] (some [0,2,3])))) (.ops 3 [ (0,⟨some 26,none,.mv (.t 0)⟩),(1,⟨some 27,none,.call 87 [(.t 26)] none false⟩),(2,⟨some 4,none,.mv (.t 27)⟩)] (some [0,2,3,4]))))))) (.seq (.ops 13 [ (0,⟨some 40,none,.mv (.t 0)⟩),(1,⟨some 41,none,.mv (.t 0)⟩),(2,⟨some 42,none,.nilck (.t 41)⟩),(3,⟨some 43,none,.fadd 1 (.t 42)⟩),(4,⟨some 44,none,.load none (.t 43)⟩),(5,⟨some 45,none,.mv (.t 3)⟩),(6,⟨some 46,none,.arith .gtr (.t 44) (.t 45)⟩),(7,⟨some 47,none,.mv (.t 46)⟩),(8,⟨some 48,(some (47,true)),.mv (.t 2)⟩),(9,⟨some 49,(some (47,true)),.arith .leq (.t 48) (.k (.d (.val (.int .i64 20))))⟩),(10,⟨some 50,none,.pick (.t 47) (.t 49) (.k (.d (.val (.bool false))))⟩),(11,⟨some 51,none,.mv (.t 3)⟩),(12,⟨some 52,none,.call 48 [(.t 40),(.t 50),(.t 51)] none false⟩)] (some [2])) (.seq (.ops 2 [ (0,⟨some 53,none,.mv (.t 2)⟩),(1,⟨some 2,none,.mv (.t 53)⟩)] (some [2])) .ret)))))
def md182 : FuncId→Option Nat × Bool
  | _=>(none,false)
def od182 : Nat→List (List Nat) × List Nat × Option (List Nat)
  | 0=>([],[],some [0,2])
  | 1=>([],[],some [0,2,3])
  | 2=>([],[],some [0,2,3,4])
  | 3=>([],[],some [0,2,3,4,25])
  | 4=>([],[],some [0,2,3,4])
  | 5=>([],[],some [0,2,3])
  | 6=>([],[],some [0,2,3])
  | 7=>([],[],some [2])
  | 8=>([],[],some [2])
  | _=>([],[],none)
theorem b182 {ags : List AV} {row : Option (List DV)} {r : AV} {row' nw : Option (List DV)} (hal : ags.length≤54) (hrow : row'.isSome=true→row.isSome=true) (h : xwp Tryz.prog x182 (retK [.tmp 2] row.isSome r row' nw) (St.init ags row)) : Good Tryz.prog 97 ags row r row' nw :=
  good_of_body' (md:=md182) (od:=od182) Tryz.f97 (by kernel_rfl) (by kernel_rfl) (by kernel_rfl) (by kernel_rfl) (by kernel_rfl) hal hrow h

def x183 : XC:=(.seq (.ops 1 [ (0,⟨some 2,none,.alloc [(.int .u64 0),(.int .u64 0),(.int .u64 0),(.int .u64 0)]⟩)] (some [0,2])) (.seq (.ops 3 [ (0,⟨some 6,none,.mv (.t 0)⟩),(1,⟨some 7,none,.call 96 [(.t 6)] (some 0) false⟩),(2,⟨some 3,none,.mv (.t 7)⟩)] (some [0,2,3])) (.seq (.seq (.ops 3 [ (0,⟨some 8,none,.mv (.t 0)⟩),(1,⟨some 9,none,.call 74 [(.t 8),(.k (.d (.val (.int .u8 45))))] (some 0) false⟩),(2,⟨some 10,none,.un .not (.t 9)⟩)] (some [0,2,3,10])) (.cond (.t 10) (.seq (.ops 3 [ (0,⟨some 11,none,.mv (.t 3)⟩),(1,⟨some 12,none,.call 95 [(.t 11)] none false⟩),(2,⟨none,none,.store 4 (.t 2) (.t 12)⟩)] (some [2])) .ret) .skip)) (.seq (.ops 5 [ (0,⟨some 13,none,.mv (.t 0)⟩),(1,⟨some 14,none,.nilck (.t 13)⟩),(2,⟨some 15,none,.fadd 1 (.t 14)⟩),(3,⟨some 16,none,.load none (.t 15)⟩),(4,⟨some 4,none,.mv (.t 16)⟩)] (some [0,2,3,4])) (.seq (.ops 3 [ (0,⟨some 17,none,.mv (.t 0)⟩),(1,⟨some 18,none,.call 96 [(.t 17)] (some 0) false⟩),(2,⟨some 5,none,.mv (.t 18)⟩)] (some [0,2,3,4,5])) (.seq (.ops 6 [ (0,⟨some 19,none,.mv (.t 0)⟩),(1,⟨some 20,none,.mv (.t 5)⟩),(2,⟨some 21,none,.mv (.t 3)⟩),(3,⟨some 22,none,.arith .geq (.t 20) (.t 21)⟩),(4,⟨some 23,none,.mv (.t 4)⟩),(5,⟨some 24,none,.call 48 [(.t 19),(.t 22),(.t 23)] none false⟩)] (some [2,3,5])) (.seq (.ops 4 [ (0,⟨some 25,none,.mv (.t 3)⟩),(1,⟨some 26,none,.mv (.t 5)⟩),(2,⟨some 27,none,.call 93 [(.t 25),(.t 26)] none false⟩),(3,⟨none,none,.store 4 (.t 2) (.t 27)⟩)] (some [2])) .ret)))))))
def md183 : FuncId→Option Nat × Bool
  | 74=>(some 0,false)
  | 96=>(some 0,false)
  | _=>(none,false)
def od183 : Nat→List (List Nat) × List Nat × Option (List Nat)
  | 0=>([],[],some [0,2])
  | 1=>([],[],some [0,2,3])
  | 2=>([],[],some [0,2,3,10])
  | 3=>([],[],some [2])
  | 4=>([],[],some [0,2,3,4])
  | 5=>([],[],some [0,2,3,4,5])
  | 6=>([],[],some [2,3,5])
  | 7=>([],[],some [2])
  | _=>([],[],none)
theorem b183 {ags : List AV} {row : Option (List DV)} {r : AV} {row' nw : Option (List DV)} (hal : ags.length≤28) (hrow : row'.isSome=true→row.isSome=true) (h : xwp Tryz.prog x183 (retK [.cell 2 (some 4)] row.isSome r row' nw) (St.init ags row)) : Good Tryz.prog 98 ags row r row' nw :=
  good_of_body' (md:=md183) (od:=od183) Tryz.f98 (by kernel_rfl) (by kernel_rfl) (by kernel_rfl) (by kernel_rfl) (by kernel_rfl) hal hrow h

def x184 : XC:=(.seq (.ops 2 [ (0,⟨some 1,none,.box (.t 0)⟩),(1,⟨some 2,none,.alloc [(.int .u64 0),(.int .u64 0),(.int .u64 0),(.int .u64 0)]⟩)] (some [1,2])) (.seq (.seq (.ops 1 [ (0,⟨some 4,none,.mv (.k (.d (.val (.int .i64 0))))⟩)] (some [1,2,4])) (.block 0 (.loop (.seq (.ops 1 [ (0,⟨some 5,none,.arith .lss (.t 4) (.k (.d (.val (.int .i64 4))))⟩)] (some [1,2,4,5])) (.seq (.cond (.t 5) .skip (.exit 0)) (.seq (.block 1 (.seq (.ops 2 [ (0,⟨some 6,none,.mv (.t 4)⟩),(1,⟨some 3,none,.mv (.t 6)⟩)] (some [1,2,3,4])) (.ops 7 [ (0,⟨some 7,none,.mv (.t 3)⟩),(1,⟨some 8,none,.mv (.t 3)⟩),(2,⟨some 9,none,.idxP 4 1 (.t 1) (.t 8)⟩),(3,⟨some 10,none,.load none (.t 9)⟩),(4,⟨some 11,none,.un .xor (.t 10)⟩),(5,⟨some 12,none,.idxP 4 1 (.t 1) (.t 7)⟩),(6,⟨none,none,.store 1 (.t 12) (.t 11)⟩)] (some [1,2,4])))) (.ops 2 [ (0,⟨some 13,none,.arith .add (.t 4) (.k (.d (.val (.int .i64 1))))⟩),(1,⟨some 4,none,.mv (.t 13)⟩)] (some [1,2,4])))))))) (.seq (.ops 2 [ (0,⟨some 14,none,.load (some 4) (.t 1)⟩),(1,⟨none,none,.store 4 (.t 2) (.t 14)⟩)] (some [2])) .ret)))
def md184 : FuncId→Option Nat × Bool
  | _=>(none,false)
def od184 : Nat→List (List Nat) × List Nat × Option (List Nat)
  | 0=>([],[],some [1,2])
  | 1=>([],[],some [1,2,4])
  | 2=>([],[],some [1,2,4,5])
  | 3=>([],[],some [1,2,3,4])
  | 4=>([],[],some [1,2,4])
  | 5=>([],[],some [1,2,4])
  | 6=>([],[],some [2])
  | _=>([],[],none)
theorem b184 {ags : List AV} {row : Option (List DV)} {r : AV} {row' nw : Option (List DV)} (hal : ags.length≤15) (hrow : row'.isSome=true→row.isSome=true) (h : xwp Tryz.prog x184 (retK [.cell 2 (some 4)] row.isSome r row' nw) (St.init ags row)) : Good Tryz.prog 99 ags row r row' nw :=
  good_of_body' (md:=md184) (od:=od184) Tryz.f99 (by kernel_rfl) (by kernel_rfl) (by kernel_rfl) (by kernel_rfl) (by kernel_rfl) hal hrow h

def x185 : XC:=(.seq (.ops 1 [ (0,⟨some 2,none,.mv (.k (.d (.val (.int .u8 0))))⟩)] (some [0])) (.seq (.ops 3 [ (0,⟨some 5,none,.mv (.t 0)⟩),(1,⟨some 6,none,.call 87 [(.t 5)] none false⟩),(2,⟨some 3,none,.mv (.t 6)⟩)] (some [0,3])) (.seq (.ops 8 [ (0,⟨some 7,none,.mv (.t 0)⟩),(1,⟨some 8,none,.mv (.t 3)⟩),(2,⟨some 9,none,.arith .geq (.t 8) (.k (.d (.val (.int .i64 0))))⟩),(3,⟨some 10,none,.mv (.t 0)⟩),(4,⟨some 11,none,.nilck (.t 10)⟩),(5,⟨some 12,none,.fadd 1 (.t 11)⟩),(6,⟨some 13,none,.load none (.t 12)⟩),(7,⟨some 14,none,.call 48 [(.t 7),(.t 9),(.t 13)] none false⟩)] (some [0,3])) (.seq (.ops 8 [ (0,⟨some 15,none,.mv (.t 0)⟩),(1,⟨some 16,none,.nilck (.t 15)⟩),(2,⟨some 17,none,.fadd 1 (.t 16)⟩),(3,⟨some 18,none,.load none (.t 17)⟩),(4,⟨some 19,none,.arith .add (.t 18) (.k (.d (.val (.int .i64 1))))⟩),(5,⟨some 20,none,.nilck (.t 15)⟩),(6,⟨some 21,none,.fadd 1 (.t 20)⟩),(7,⟨none,none,.store 1 (.t 21) (.t 19)⟩)] (some [0,3])) (.seq (.seq (.ops 1 [ (0,⟨some 22,none,.mv (.t 3)⟩)] (some [0,3,22])) (.block 0 (.seq (.ops 2 [ (0,⟨some 24,none,.arith .eql (.t 22) (.k (.d (.val (.int .i64 120))))⟩),(1,⟨some 23,none,.mv (.t 24)⟩)] (some [0,3,22,23])) (.cond (.t 23) (.seq (.ops 4 [ (0,⟨some 25,none,.mv (.t 0)⟩),(1,⟨some 26,none,.call 102 [(.t 25)] (some 0) false⟩),(2,⟨some 27,none,.arith .shl (.t 26) (.k (.d (.val (.int .u64 4))))⟩),(3,⟨some 4,none,.mv (.t 27)⟩)] (some [0,4])) (.seq (.ops 6 [ (0,⟨some 28,none,.mv (.t 4)⟩),(1,⟨some 29,none,.mv (.t 0)⟩),(2,⟨some 30,none,.call 102 [(.t 29)] (some 0) false⟩),(3,⟨some 31,none,.arith .or (.t 28) (.t 30)⟩),(4,⟨some 32,none,.conv .u8 (.t 31)⟩),(5,⟨some 2,none,.mv (.t 32)⟩)] (some [2])) .ret)) (.seq (.ops 2 [ (0,⟨some 34,none,.arith .eql (.t 22) (.k (.d (.val (.int .i64 110))))⟩),(1,⟨some 33,none,.mv (.t 34)⟩)] (some [0,3,22,33])) (.cond (.t 33) (.seq (.ops 1 [ (0,⟨some 2,none,.mv (.k (.d (.val (.int .u8 10))))⟩)] (some [2])) .ret) (.seq (.ops 2 [ (0,⟨some 36,none,.arith .eql (.t 22) (.k (.d (.val (.int .i64 116))))⟩),(1,⟨some 35,none,.mv (.t 36)⟩)] (some [0,3,35])) (.cond (.t 35) (.seq (.ops 1 [ (0,⟨some 2,none,.mv (.k (.d (.val (.int .u8 9))))⟩)] (some [2])) .ret) .skip)))))))) (.seq (.ops 11 [ (0,⟨some 37,none,.mv (.t 0)⟩),(1,⟨some 38,none,.mv (.t 3)⟩),(2,⟨some 39,none,.conv .u8 (.t 38)⟩),(3,⟨some 40,none,.call 103 [(.k (.d (.val (.string ⟨#[124,42,43,63,40,41,91,93,123,125,46,92,94,36,45]⟩)))),(.t 39)] none false⟩),(4,⟨some 41,none,.arith .geq (.t 40) (.k (.d (.val (.int .i64 0))))⟩),(5,⟨some 42,none,.mv (.t 0)⟩),(6,⟨some 43,none,.nilck (.t 42)⟩),(7,⟨some 44,none,.fadd 1 (.t 43)⟩),(8,⟨some 45,none,.load none (.t 44)⟩),(9,⟨some 46,none,.arith .sub (.t 45) (.k (.d (.val (.int .i64 1))))⟩),(10,⟨some 47,none,.call 48 [(.t 37),(.t 41),(.t 46)] none false⟩)] (some [3])) (.seq (.ops 3 [ (0,⟨some 48,none,.mv (.t 3)⟩),(1,⟨some 49,none,.conv .u8 (.t 48)⟩),(2,⟨some 2,none,.mv (.t 49)⟩)] (some [2])) .ret)))))))
def md185 : FuncId→Option Nat × Bool
  | 102=>(some 0,false)
  | _=>(none,false)
def od185 : Nat→List (List Nat) × List Nat × Option (List Nat)
  | 0=>([],[],some [0])
  | 1=>([],[],some [0,3])
  | 2=>([],[],some [0,3])
  | 3=>([],[],some [0,3])
  | 4=>([],[],some [0,3,22])
  | 5=>([],[],some [0,3,22,23])
  | 6=>([],[],some [0,4])
  | 7=>([],[],some [2])
  | 8=>([],[],some [0,3,22,33])
  | 9=>([],[],some [2])
  | 10=>([],[],some [0,3,35])
  | 11=>([],[],some [2])
  | 12=>([[],[],[1],[1,2],[1,2,3],[],[5],[5,6],[5,6,7],[5,6,7,8],[0,1,2,3,4,5,6,7,8,9]],[0,1,2,3,4,5,6,7,8,9,10],some [3])
  | 13=>([],[],some [2])
  | _=>([],[],none)
theorem b185 {ags : List AV} {row : Option (List DV)} {r : AV} {row' nw : Option (List DV)} (hal : ags.length≤50) (hrow : row'.isSome=true→row.isSome=true) (h : xwp Tryz.prog x185 (retK [.tmp 2] row.isSome r row' nw) (St.init ags row)) : Good Tryz.prog 100 ags row r row' nw :=
  good_of_body' (md:=md185) (od:=od185) Tryz.f100 (by kernel_rfl) (by kernel_rfl) (by kernel_rfl) (by kernel_rfl) (by kernel_rfl) hal hrow h

def x186 : XC:=(.seq (.ops 1 [ (0,⟨some 2,none,.mv (.k (.d (.val (.string ⟨#[]⟩))))⟩)] (some [0])) (.seq (.seq (.ops 2 [ (0,⟨some 3,none,.mv (.t 0)⟩),(1,⟨some 4,none,.call 104 [(.t 3)] none false⟩)] (some [0,4])) (.cond (.t 4) (.seq (.ops 4 [ (0,⟨some 5,none,.mv (.t 0)⟩),(1,⟨some 6,none,.mkrow [(.int .u8 0)] 1 1 [(0,1,(.t 5))]⟩),(2,⟨some 7,none,.strB (.t 6)⟩),(3,⟨some 2,none,.mv (.t 7)⟩)] (some [2])) .ret) .skip)) (.seq (.ops 15 [ (0,⟨some 8,none,.mv (.t 0)⟩),(1,⟨some 9,none,.arith .shr (.t 8) (.k (.d (.val (.int .u64 4))))⟩),(2,⟨some 10,none,.mv (.t 0)⟩),(3,⟨some 11,none,.arith .shr (.t 10) (.k (.d (.val (.int .u64 4))))⟩),(4,⟨some 12,none,.arith .add (.t 11) (.k (.d (.val (.int .u8 1))))⟩),(5,⟨some 13,none,.slT (.k (.d (.val (.string ⟨#[48,49,50,51,52,53,54,55,56,57,97,98,99,100,101,102]⟩)))) (some (.t 9)) (some (.t 12))⟩),(6,⟨some 14,none,.arith .add (.k (.d (.val (.string ⟨#[92,120]⟩)))) (.t 13)⟩),(7,⟨some 15,none,.mv (.t 0)⟩),(8,⟨some 16,none,.arith .and (.t 15) (.k (.d (.val (.int .u8 15))))⟩),(9,⟨some 17,none,.mv (.t 0)⟩),(10,⟨some 18,none,.arith .and (.t 17) (.k (.d (.val (.int .u8 15))))⟩),(11,⟨some 19,none,.arith .add (.t 18) (.k (.d (.val (.int .u8 1))))⟩),(12,⟨some 20,none,.slT (.k (.d (.val (.string ⟨#[48,49,50,51,52,53,54,55,56,57,97,98,99,100,101,102]⟩)))) (some (.t 16)) (some (.t 19))⟩),(13,⟨some 21,none,.arith .add (.t 14) (.t 20)⟩),(14,⟨some 2,none,.mv (.t 21)⟩)] (some [2])) .ret)))
def md186 : FuncId→Option Nat × Bool
  | _=>(none,false)
def od186 : Nat→List (List Nat) × List Nat × Option (List Nat)
  | 0=>([],[],some [0])
  | 1=>([],[],some [0,4])
  | 2=>([],[],some [2])
  | 3=>([[],[0],[],[2],[2,3],[0,1,2,3,4],[0,1,2,3,4,5],[],[7],[],[9],[9,10],[7,8,9,10,11],[0,1,2,3,4,5,6,7,8,9,10,11,12],[0,1,2,3,4,5,6,7,8,9,10,11,12,13]],[0,1,2,3,4,5,6,7,8,9,10,11,12,13,14],some [2])
  | _=>([],[],none)
theorem b186 {ags : List AV} {row : Option (List DV)} {r : AV} {row' nw : Option (List DV)} (hal : ags.length≤22) (hrow : row'.isSome=true→row.isSome=true) (h : xwp Tryz.prog x186 (retK [.tmp 2] row.isSome r row' nw) (St.init ags row)) : Good Tryz.prog 101 ags row r row' nw :=
  good_of_body' (md:=md186) (od:=od186) Tryz.f101 (by kernel_rfl) (by kernel_rfl) (by kernel_rfl) (by kernel_rfl) (by kernel_rfl) hal hrow h

def x187 : XC:=(.seq (.ops 1 [ (0,⟨some 2,none,.mv (.k (.d (.val (.int .i64 0))))⟩)] (some [0])) (.seq (.ops 3 [ (0,⟨some 5,none,.mv (.t 0)⟩),(1,⟨some 6,none,.call 87 [(.t 5)] none false⟩),(2,⟨some 3,none,.mv (.t 6)⟩)] (some [0,3])) (.seq (.ops 1 [ (0,⟨some 4,none,.mv (.k (.d (.val (.int .i64 (-1)))))⟩)] (some [0,3,4])) (.seq (.seq (.ops 2 [ (0,⟨some 7,none,.mv (.t 3)⟩),(1,⟨some 8,none,.arith .geq (.t 7) (.k (.d (.val (.int .i64 0))))⟩)] (some [0,3,4,8])) (.cond (.t 8) (.ops 4 [ (0,⟨some 9,none,.mv (.t 3)⟩),(1,⟨some 10,none,.conv .u8 (.t 9)⟩),(2,⟨some 11,none,.call 103 [(.k (.d (.val (.string ⟨#[48,49,50,51,52,53,54,55,56,57,97,98,99,100,101,102]⟩)))),(.t 10)] none false⟩),(3,⟨some 4,none,.mv (.t 11)⟩)] (some [0,4])) .skip)) (.seq (.ops 8 [ (0,⟨some 12,none,.mv (.t 0)⟩),(1,⟨some 13,none,.mv (.t 4)⟩),(2,⟨some 14,none,.arith .geq (.t 13) (.k (.d (.val (.int .i64 0))))⟩),(3,⟨some 15,none,.mv (.t 0)⟩),(4,⟨some 16,none,.nilck (.t 15)⟩),(5,⟨some 17,none,.fadd 1 (.t 16)⟩),(6,⟨some 18,none,.load none (.t 17)⟩),(7,⟨some 19,none,.call 48 [(.t 12),(.t 14),(.t 18)] none false⟩)] (some [0,4])) (.seq (.ops 8 [ (0,⟨some 20,none,.mv (.t 0)⟩),(1,⟨some 21,none,.nilck (.t 20)⟩),(2,⟨some 22,none,.fadd 1 (.t 21)⟩),(3,⟨some 23,none,.load none (.t 22)⟩),(4,⟨some 24,none,.arith .add (.t 23) (.k (.d (.val (.int .i64 1))))⟩),(5,⟨some 25,none,.nilck (.t 20)⟩),(6,⟨some 26,none,.fadd 1 (.t 25)⟩),(7,⟨none,none,.store 1 (.t 26) (.t 24)⟩)] (some [4])) (.seq (.ops 2 [ (0,⟨some 27,none,.mv (.t 4)⟩),(1,⟨some 2,none,.mv (.t 27)⟩)] (some [2])) .ret)))))))
def md187 : FuncId→Option Nat × Bool
  | _=>(none,false)
def od187 : Nat→List (List Nat) × List Nat × Option (List Nat)
  | 0=>([],[],some [0])
  | 1=>([],[],some [0,3])
  | 2=>([],[],some [0,3,4])
  | 3=>([],[],some [0,3,4,8])
  | 4=>([],[],some [0,4])
  | 5=>([],[],some [0,4])
  | 6=>([],[],some [4])
  | 7=>([],[],some [2])
  | _=>([],[],none)
theorem b187 {ags : List AV} {row : Option (List DV)} {r : AV} {row' nw : Option (List DV)} (hal : ags.length≤28) (hrow : row'.isSome=true→row.isSome=true) (h : xwp Tryz.prog x187 (retK [.tmp 2] row.isSome r row' nw) (St.init ags row)) : Good Tryz.prog 102 ags row r row' nw :=
  good_of_body' (md:=md187) (od:=od187) Tryz.f102 (by kernel_rfl) (by kernel_rfl) (by kernel_rfl) (by kernel_rfl) (by kernel_rfl) hal hrow h

def x188 : XC:=(.seq (.ops 1 [ (0,⟨some 4,none,.mv (.k (.d (.val (.int .i64 0))))⟩)] (some [0,1])) (.seq (.ops 4 [ (0,⟨some 5,none,.mv (.t 0)⟩),(1,⟨some 6,none,.mv (.t 1)⟩),(2,⟨some 7,none,.call 105 [(.t 5),(.t 6)] none false⟩),(3,⟨some 4,none,.mv (.t 7)⟩)] (some [4])) .ret))
def md188 : FuncId→Option Nat × Bool
  | _=>(none,false)
def od188 : Nat→List (List Nat) × List Nat × Option (List Nat)
  | 0=>([],[],some [0,1])
  | 1=>([],[],some [4])
  | _=>([],[],none)
theorem b188 {ags : List AV} {row : Option (List DV)} {r : AV} {row' nw : Option (List DV)} (hal : ags.length≤8) (hrow : row'.isSome=true→row.isSome=true) (h : xwp Tryz.prog x188 (retK [.tmp 4] row.isSome r row' nw) (St.init ags row)) : Good Tryz.prog 103 ags row r row' nw :=
  good_of_body' (md:=md188) (od:=od188) Tryz.f103 (by kernel_rfl) (by kernel_rfl) (by kernel_rfl) (by kernel_rfl) (by kernel_rfl) hal hrow h

def x189 : XC:=(.seq (.ops 1 [ (0,⟨some 2,none,.mv (.k (.d (.val (.bool false))))⟩)] (some [0])) (.seq (.ops 22 [ (0,⟨some 3,none,.mv (.t 0)⟩),(1,⟨some 4,none,.arith .or (.t 3) (.k (.d (.val (.int .u8 32))))⟩),(2,⟨some 5,none,.arith .geq (.t 4) (.k (.d (.val (.int .u8 97))))⟩),(3,⟨some 6,none,.mv (.t 5)⟩),(4,⟨some 7,(some (6,true)),.mv (.t 0)⟩),(5,⟨some 8,(some (6,true)),.arith .or (.t 7) (.k (.d (.val (.int .u8 32))))⟩),(6,⟨some 9,(some (6,true)),.arith .leq (.t 8) (.k (.d (.val (.int .u8 122))))⟩),(7,⟨some 10,none,.pick (.t 6) (.t 9) (.k (.d (.val (.bool false))))⟩),(8,⟨some 11,none,.mv (.t 10)⟩),(9,⟨some 12,(some (11,false)),.mv (.t 0)⟩),(10,⟨some 13,(some (11,false)),.arith .geq (.t 12) (.k (.d (.val (.int .u8 48))))⟩),(11,⟨some 14,(some (11,false)),.mv (.t 13)⟩),(12,⟨some 15,(some (14,true)),.mv (.t 0)⟩),(13,⟨some 16,(some (14,true)),.arith .leq (.t 15) (.k (.d (.val (.int .u8 57))))⟩),(14,⟨some 17,(some (11,false)),.pick (.t 14) (.t 16) (.k (.d (.val (.bool false))))⟩),(15,⟨some 18,none,.pick (.t 11) (.k (.d (.val (.bool true)))) (.t 17)⟩),(16,⟨some 19,none,.mv (.t 18)⟩),(17,⟨some 20,(some (19,false)),.mv (.t 0)⟩),(18,⟨some 21,(some (19,false)),.call 103 [(.k (.d (.val (.string ⟨#[32,33,34,35,37,38,39,44,47,58,59,60,61,62,64,95,96,126]⟩)))),(.t 20)] none false⟩),(19,⟨some 22,(some (19,false)),.arith .geq (.t 21) (.k (.d (.val (.int .i64 0))))⟩),(20,⟨some 23,none,.pick (.t 19) (.k (.d (.val (.bool true)))) (.t 22)⟩),(21,⟨some 2,none,.mv (.t 23)⟩)] (some [2])) .ret))
def md189 : FuncId→Option Nat × Bool
  | _=>(none,false)
def od189 : Nat→List (List Nat) × List Nat × Option (List Nat)
  | 0=>([],[],some [0])
  | 1=>([],[],some [2])
  | _=>([],[],none)
theorem b189 {ags : List AV} {row : Option (List DV)} {r : AV} {row' nw : Option (List DV)} (hal : ags.length≤24) (hrow : row'.isSome=true→row.isSome=true) (h : xwp Tryz.prog x189 (retK [.tmp 2] row.isSome r row' nw) (St.init ags row)) : Good Tryz.prog 104 ags row r row' nw :=
  good_of_body' (md:=md189) (od:=od189) Tryz.f104 (by kernel_rfl) (by kernel_rfl) (by kernel_rfl) (by kernel_rfl) (by kernel_rfl) hal hrow h

def x190 : XC:=(.seq (.ops 1 [ (0,⟨some 4,none,.mv (.k (.d (.val (.int .i64 0))))⟩)] (some [0,1])) (.seq (.ops 4 [ (0,⟨some 5,none,.mv (.t 0)⟩),(1,⟨some 6,none,.mv (.t 1)⟩),(2,⟨some 7,none,.call 106 [(.t 5),(.t 6)] none false⟩),(3,⟨some 4,none,.mv (.t 7)⟩)] (some [4])) .ret))
def md190 : FuncId→Option Nat × Bool
  | _=>(none,false)
def od190 : Nat→List (List Nat) × List Nat × Option (List Nat)
  | 0=>([],[],some [0,1])
  | 1=>([],[],some [4])
  | _=>([],[],none)
theorem b190 {ags : List AV} {row : Option (List DV)} {r : AV} {row' nw : Option (List DV)} (hal : ags.length≤8) (hrow : row'.isSome=true→row.isSome=true) (h : xwp Tryz.prog x190 (retK [.tmp 4] row.isSome r row' nw) (St.init ags row)) : Good Tryz.prog 105 ags row r row' nw :=
  good_of_body' (md:=md190) (od:=od190) Tryz.f105 (by kernel_rfl) (by kernel_rfl) (by kernel_rfl) (by kernel_rfl) (by kernel_rfl) hal hrow h

def x73 : XC:=(.seq (.ops 3 [ (0,⟨some 2,none,.box (.t 0)⟩),(1,⟨some 3,none,.box (.t 1)⟩),(2,⟨some 4,none,.alloc [(.int .u64 0),(.int .u64 0),(.int .u64 0),(.int .u64 0)]⟩)] (some [2,3,4])) (.seq (.seq (.ops 1 [ (0,⟨some 6,none,.mv (.k (.d (.val (.int .i64 0))))⟩)] (some [2,3,4,6])) (.block 0 (.loop (.seq (.ops 1 [ (0,⟨some 7,none,.arith .lss (.t 6) (.k (.d (.val (.int .i64 4))))⟩)] (some [2,3,4,6,7])) (.seq (.cond (.t 7) .skip (.exit 0)) (.seq (.block 1 (.seq (.ops 2 [ (0,⟨some 8,none,.mv (.t 6)⟩),(1,⟨some 5,none,.mv (.t 8)⟩)] (some [2,3,4,5,6])) (.ops 9 [ (0,⟨some 9,none,.mv (.t 5)⟩),(1,⟨some 10,none,.idxP 4 1 (.t 2) (.t 9)⟩),(2,⟨some 11,none,.load none (.t 10)⟩),(3,⟨some 12,none,.mv (.t 5)⟩),(4,⟨some 13,none,.idxP 4 1 (.t 3) (.t 12)⟩),(5,⟨some 14,none,.load none (.t 13)⟩),(6,⟨some 15,none,.arith .or (.t 11) (.t 14)⟩),(7,⟨some 16,none,.idxP 4 1 (.t 2) (.t 9)⟩),(8,⟨none,none,.store 1 (.t 16) (.t 15)⟩)] (some [2,3,4,6])))) (.ops 2 [ (0,⟨some 17,none,.arith .add (.t 6) (.k (.d (.val (.int .i64 1))))⟩),(1,⟨some 6,none,.mv (.t 17)⟩)] (some [2,3,4,6])))))))) (.seq (.ops 2 [ (0,⟨some 18,none,.load (some 4) (.t 2)⟩),(1,⟨none,none,.store 4 (.t 4) (.t 18)⟩)] (some [4])) .ret)))
def md73 : FuncId→Option Nat × Bool
  | _=>(none,false)
def od73 : Nat→List (List Nat) × List Nat × Option (List Nat)
  | 0=>([],[],some [2,3,4])
  | 1=>([],[],some [2,3,4,6])
  | 2=>([],[],some [2,3,4,6,7])
  | 3=>([],[],some [2,3,4,5,6])
  | 4=>([[],[0],[0,1],[],[3],[3,4],[0,1,2,3,4,5],[0,1,2,3,4,5,6],[0,1,2,3,4,5,6,7]],[0,1,2,3,4,5,6,7,8],some [2,3,4,6])
  | 5=>([],[],some [2,3,4,6])
  | 6=>([],[],some [4])
  | _=>([],[],none)
theorem b73 {ags : List AV} {row : Option (List DV)} {r : AV} {row' nw : Option (List DV)} (hal : ags.length≤19) (hrow : row'.isSome=true→row.isSome=true) (h : xwp Tryz.prog x73 (retK [.cell 4 (some 4)] row.isSome r row' nw) (St.init ags row)) : Good Tryz.prog 69 ags row r row' nw :=
  good_of_body' (md:=md73) (od:=od73) Tryz.f69 (by kernel_rfl) (by kernel_rfl) (by kernel_rfl) (by kernel_rfl) (by kernel_rfl) hal hrow h

def spP (n : Nat) : CallF→CallF:=fun cf f ags row =>
  if f=27∧row.isNone=true∧ags.length≤26 then
    match evC cf n xa118 (LS.init ags none) with
    | some (.normal,s1)=>match frOf s1.fr 6 with
      | .dead=>match evC cf n xb118 s1 with
        | some (.normal,s)=>(resVals (frOf s.fr) (heapOf s.C) rs118).bind fun vs=>evRet (heapOf s.C) (zOf s.Z) (tupOf vs) false false
        | some (.ret,s)=>(resVals (frOf s.fr) (heapOf s.C) rs118).bind fun vs=>evRet (heapOf s.C) (zOf s.Z) (tupOf vs) false false
        | _=>none
      | _=>none
    | _=>none
  else none
theorem evRet_data {C : Heap} {Z : Frz} {v : AV} {r : AV} {row' nr : Option (List DV)} (h : evRet C Z v false false=some (r,row',nr)) : row'=none∧nr=none:=by
  simp only [evRet,Bool.false_eq_true,if_false] at h
  obtain ⟨r',_,h3⟩:=Option.map_eq_some_iff.1 h
  cases h3;exact ⟨rfl,rfl⟩
theorem spP_ok (n : Nat) (cf : CallF) (hcf : ∀ f ags row r row' nw,cf f ags row=some (r,row',nw)→Good Tryz.prog f ags row r row' nw) (f : FuncId) (ags : List AV) (row : Option (List DV)) (r : AV) (row' nw : Option (List DV)) (h : spP n cf f ags row=some (r,row',nw)) : Good Tryz.prog f ags row r row' nw:=by
  unfold spP at h
  split at h
  case isFalse=>cases h
  rename_i hc
  obtain ⟨rfl,hr,hal⟩:=hc
  have hr' : row=none:=by cases row<;>simp_all
  subst hr'
  split at h
  case h_2=>cases h
  rename_i s1 h1
  split at h
  case h_2=>cases h
  rename_i h6
  have fin : ∀ e s,evC cf n xb118 s1=some (e,s)→(e=.normal ∨ e=.ret)→((resVals (frOf s.fr) (heapOf s.C) rs118).bind fun vs=>evRet (heapOf s.C) (zOf s.Z) (tupOf vs) false false)=some (r,row',nw)→Good Tryz.prog 27 ags none r row' nw:=by
    intro e s h2 he h3
    obtain ⟨vs,h4,h5⟩:=Option.bind_eq_some_iff.1 h3
    obtain ⟨rfl,rfl⟩:=evRet_data h5
    refine parse_of hal ?_
    rw [← LS.init_eq]
    refine evC_sound hcf n _ _ _ _ h1 _ ⟨rfl,h6,?_⟩
    refine evC_sound hcf n _ _ _ _ h2 _ ?_
    rcases he with rfl | rfl
    · exact ⟨vs,h4,evRet_sound h5⟩
    · exact ⟨vs,h4,evRet_sound h5⟩
  split at h
  · rename_i s h2;exact fin _ _ h2 (.inl rfl) h
  · rename_i s h2;exact fin _ _ h2 (.inr rfl) h
  · cases h
end Go.Sv
namespace Go.Sv
open Go Go.Proofs
set_option maxRecDepth 100000
def x47 : XC:=(.seq (.ops 3 [ (0,⟨some 2,none,.box (.t 0)⟩),(1,⟨some 3,none,.box (.t 1)⟩),(2,⟨some 4,none,.mv (.k (.d (.val (.bool false))))⟩)] (some [2,3])) (.seq (.seq (.ops 35 [ (0,⟨some 6,none,.fadd 0 (.t 2)⟩),(1,⟨some 7,none,.load none (.t 6)⟩),(2,⟨some 8,none,.fadd 0 (.t 3)⟩),(3,⟨some 9,none,.load none (.t 8)⟩),(4,⟨some 10,none,.arith .neq (.t 7) (.t 9)⟩),(5,⟨some 11,none,.mv (.t 10)⟩),(6,⟨some 12,(some (11,false)),.fadd 1 (.t 2)⟩),(7,⟨some 13,(some (11,false)),.load (some 4) (.t 12)⟩),(8,⟨some 14,(some (11,false)),.fadd 1 (.t 3)⟩),(9,⟨some 15,(some (11,false)),.load (some 4) (.t 14)⟩),(10,⟨some 16,(some (11,false)),.eqAgg 4 true (.t 13) (.t 15)⟩),(11,⟨some 17,none,.pick (.t 11) (.k (.d (.val (.bool true)))) (.t 16)⟩),(12,⟨some 18,none,.mv (.t 17)⟩),(13,⟨some 19,(some (18,false)),.fadd 5 (.t 2)⟩),(14,⟨some 20,(some (18,false)),.load none (.t 19)⟩),(15,⟨some 21,(some (18,false)),.fadd 5 (.t 3)⟩),(16,⟨some 22,(some (18,false)),.load none (.t 21)⟩),(17,⟨some 23,(some (18,false)),.arith .neq (.t 20) (.t 22)⟩),(18,⟨some 24,none,.pick (.t 18) (.k (.d (.val (.bool true)))) (.t 23)⟩),(19,⟨some 25,none,.mv (.t 24)⟩),(20,⟨some 26,(some (25,false)),.fadd 6 (.t 2)⟩),(21,⟨some 27,(some (25,false)),.load none (.t 26)⟩),(22,⟨some 28,(some (25,false)),.fadd 6 (.t 3)⟩),(23,⟨some 29,(some (25,false)),.load none (.t 28)⟩),(24,⟨some 30,(some (25,false)),.arith .neq (.t 27) (.t 29)⟩),(25,⟨some 31,none,.pick (.t 25) (.k (.d (.val (.bool true)))) (.t 30)⟩),(26,⟨some 32,none,.mv (.t 31)⟩),(27,⟨some 33,(some (32,false)),.fadd 7 (.t 2)⟩),(28,⟨some 34,(some (32,false)),.load none (.t 33)⟩),(29,⟨some 35,(some (32,false)),.lenS (.t 34)⟩),(30,⟨some 36,(some (32,false)),.fadd 7 (.t 3)⟩),(31,⟨some 37,(some (32,false)),.load none (.t 36)⟩),(32,⟨some 38,(some (32,false)),.lenS (.t 37)⟩),(33,⟨some 39,(some (32,false)),.arith .neq (.t 35) (.t 38)⟩),(34,⟨some 40,none,.pick (.t 32) (.k (.d (.val (.bool true)))) (.t 39)⟩)] (some [2,3,40])) (.cond (.t 40) (.seq (.ops 1 [ (0,⟨some 4,none,.mv (.k (.d (.val (.bool false))))⟩)] (some [4])) .ret) .skip)) (.seq (.seq (.ops 1 [ (0,⟨some 5,none,.mv (.k (.d (.val (.int .i64 0))))⟩)] (some [2,3,5])) (.block 0 (.loop (.seq (.seq (.ops 5 [ (0,⟨some 41,none,.mv (.t 5)⟩),(1,⟨some 42,none,.fadd 7 (.t 2)⟩),(2,⟨some 43,none,.load none (.t 42)⟩),(3,⟨some 44,none,.lenS (.t 43)⟩),(4,⟨some 45,none,.arith .lss (.t 41) (.t 44)⟩)] (some [2,3,5,45])) (.cond (.t 45) .skip (.exit 0))) (.seq (.block 1 (.seq (.ops 12 [ (0,⟨some 48,none,.fadd 7 (.t 2)⟩),(1,⟨some 49,none,.load none (.t 48)⟩),(2,⟨some 50,none,.mv (.t 5)⟩),(3,⟨some 51,none,.idxS 8 (.t 49) (.t 50)⟩),(4,⟨some 52,none,.load (some 8) (.t 51)⟩),(5,⟨some 53,none,.fadd 7 (.t 3)⟩),(6,⟨some 54,none,.load none (.t 53)⟩),(7,⟨some 55,none,.mv (.t 5)⟩),(8,⟨some 56,none,.idxS 8 (.t 54) (.t 55)⟩),(9,⟨some 57,none,.load (some 8) (.t 56)⟩),(10,⟨some 58,none,.call 15 [(.t 52),(.t 57)] none false⟩),(11,⟨some 59,none,.un .not (.t 58)⟩)] (some [2,3,5,59])) (.cond (.t 59) (.seq (.ops 1 [ (0,⟨some 4,none,.mv (.k (.d (.val (.bool false))))⟩)] (some [4])) .ret) .skip))) (.ops 3 [ (0,⟨some 46,none,.mv (.t 5)⟩),(1,⟨some 47,none,.arith .add (.t 46) (.k (.d (.val (.int .i64 1))))⟩),(2,⟨some 5,none,.mv (.t 47)⟩)] (some [2,3,5]))))))) (.seq (.ops 1 [ (0,⟨some 4,none,.mv (.k (.d (.val (.bool true))))⟩)] (some [4])) .ret))))
def md47 : FuncId→Option Nat × Bool
  | _=>(none,false)
def od47 : Nat→List (List Nat) × List Nat × Option (List Nat)
  | 0=>([],[],some [2,3])
  | 1=>([],[],some [2,3,40])
  | 2=>([],[],some [4])
  | 3=>([],[],some [2,3,5])
  | 4=>([],[],some [2,3,5,45])
  | 5=>([],[],some [2,3,5])
  | 6=>([[],[0],[],[0,1,2],[0,1,2,3],[],[5],[],[5,6,7],[5,6,7,8],[0,1,2,3,4,5,6,7,8,9],[0,1,2,3,4,5,6,7,8,9,10]],[0,1,2,3,4,5,6,7,8,9,10,11],some [2,3,5,59])
  | 7=>([],[],some [4])
  | 8=>([],[],some [4])
  | _=>([],[],none)
theorem b47 {ags : List AV} {row : Option (List DV)} {r : AV} {row' nw : Option (List DV)} (hal : ags.length≤60) (hrow : row'.isSome=true→row.isSome=true) (h : xwp Tryz.prog x47 (retK [.tmp 4] row.isSome r row' nw) (St.init ags row)) : Good Tryz.prog 15 ags row r row' nw :=
  good_of_body' (md:=md47) (od:=od47) Tryz.f15 (by kernel_rfl) (by kernel_rfl) (by kernel_rfl) (by kernel_rfl) (by kernel_rfl) hal hrow h

def x104 : XC:=(.seq (.ops 1 [ (0,⟨some 4,none,.mv (.k (.d (.val (.bool false))))⟩)] (some [0,1])) (.seq (.ops 5 [ (0,⟨some 5,none,.mv (.t 0)⟩),(1,⟨some 6,none,.mv (.t 1)⟩),(2,⟨some 7,none,.call 83 [(.t 5),(.t 6)] none false⟩),(3,⟨some 8,none,.arith .geq (.t 7) (.k (.d (.val (.int .i64 0))))⟩),(4,⟨some 4,none,.mv (.t 8)⟩)] (some [4])) .ret))
def md104 : FuncId→Option Nat × Bool
  | _=>(none,false)
def od104 : Nat→List (List Nat) × List Nat × Option (List Nat)
  | 0=>([],[],some [0,1])
  | 1=>([],[],some [4])
  | _=>([],[],none)
theorem b104 {ags : List AV} {row : Option (List DV)} {r : AV} {row' nw : Option (List DV)} (hal : ags.length≤9) (hrow : row'.isSome=true→row.isSome=true) (h : xwp Tryz.prog x104 (retK [.tmp 4] row.isSome r row' nw) (St.init ags row)) : Good Tryz.prog 62 ags row r row' nw :=
  good_of_body' (md:=md104) (od:=od104) Tryz.f62 (by kernel_rfl) (by kernel_rfl) (by kernel_rfl) (by kernel_rfl) (by kernel_rfl) hal hrow h

def x145 : XC:=(.seq (.ops 1 [ (0,⟨some 4,none,.mv (.k (.d (.val (.int .i64 0))))⟩)] (some [0,1])) (.seq (.seq (.ops 3 [ (0,⟨some 6,none,.mv (.t 0)⟩),(1,⟨some 7,none,.lenS (.t 6)⟩),(2,⟨some 8,none,.mv (.k (.d (.val (.int .i64 0))))⟩)] (some [0,1,7,8])) (.block 0 (.loop (.seq (.ops 1 [ (0,⟨some 9,none,.arith .lss (.t 8) (.t 7)⟩)] (some [0,1,7,8,9])) (.seq (.cond (.t 9) .skip (.exit 0)) (.seq (.block 1 (.seq (.ops 2 [ (0,⟨some 10,none,.mv (.t 8)⟩),(1,⟨some 5,none,.mv (.t 10)⟩)] (some [0,1,5,7,8])) (.seq (.ops 6 [ (0,⟨some 11,none,.mv (.t 1)⟩),(1,⟨some 12,none,.mv (.t 0)⟩),(2,⟨some 13,none,.mv (.t 5)⟩),(3,⟨some 14,none,.idxS 8 (.t 12) (.t 13)⟩),(4,⟨some 15,none,.load (some 8) (.t 14)⟩),(5,⟨some 16,none,.callv (.t 11) [(.t 15)]⟩)] (some [0,1,5,7,8,16])) (.cond (.t 16) (.seq (.ops 2 [ (0,⟨some 17,none,.mv (.t 5)⟩),(1,⟨some 4,none,.mv (.t 17)⟩)] (some [4])) .ret) .skip)))) (.ops 2 [ (0,⟨some 18,none,.arith .add (.t 8) (.k (.d (.val (.int .i64 1))))⟩),(1,⟨some 8,none,.mv (.t 18)⟩)] (some [0,1,7,8])))))))) (.seq (.ops 1 [ (0,⟨some 4,none,.mv (.k (.d (.val (.int .i64 (-1)))))⟩)] (some [4])) .ret)))
def md145 : FuncId→Option Nat × Bool
  | _=>(none,false)
def od145 : Nat→List (List Nat) × List Nat × Option (List Nat)
  | 0=>([],[],some [0,1])
  | 1=>([],[],some [0,1,7,8])
  | 2=>([],[],some [0,1,7,8,9])
  | 3=>([],[],some [0,1,5,7,8])
  | 4=>([],[],some [0,1,5,7,8,16])
  | 5=>([],[],some [4])
  | 6=>([],[],some [0,1,7,8])
  | 7=>([],[],some [4])
  | _=>([],[],none)
theorem b145 {ags : List AV} {row : Option (List DV)} {r : AV} {row' nw : Option (List DV)} (hal : ags.length≤19) (hrow : row'.isSome=true→row.isSome=true) (h : xwp Tryz.prog x145 (retK [.tmp 4] row.isSome r row' nw) (St.init ags row)) : Good Tryz.prog 83 ags row r row' nw :=
  good_of_body' (md:=md145) (od:=od145) Tryz.f83 (by kernel_rfl) (by kernel_rfl) (by kernel_rfl) (by kernel_rfl) (by kernel_rfl) hal hrow h

end Go.Sv
namespace Go.Sv
open Go Go.Proofs
set_option maxRecDepth 100000
def zsN : List Value:=[.int .i64 0,.int .u64 0,.int .u64 0,.int .u64 0,.int .u64 0,.int .i64 0,.int .i64 0,.slice none 0 0]
section
variable {P : Program} {Q : Cont} {fr : Fr} {C : Heap} {Z : Frz} {nx : Nat} {base n d : Nat} {l : List (Nat × XO)} {kp : Option (List Nat)} {x i y s : X}
end
set_option maxHeartbeats 4000000
attribute [local irreducible] W E R KP thenK blockK retK Good xwp aRun
end Go.Sv
namespace Go.Sv
open Go Go.Proofs
theorem encL_app : ∀ (l r : List T),encL (l++r)=encL l++encL r
  | [],r=>rfl
  | t :: l,r=>by rw [List.cons_append,encL,encL_app l r,encL,List.append_assoc]
theorem encN_norm (t : T) : (encN t).map DV.norm=encN t:=by cases t;rfl
theorem encL_norm : ∀ l : List T,(encL l).map DV.norm=encL l
  | []=>rfl
  | t :: l=>by rw [encL,List.map_append,encN_norm,encL_norm l]
theorem encL_length : ∀ l : List T,(encL l).length=l.length * 8
  | []=>rfl
  | t :: l=>by rw [encL,List.length_append,encN_len,encL_length l,List.length_cons];omega
theorem mapO_app (g : AV→Option (DV × List Nat)) : ∀ (a b : List AV) (x y : List DV) (u v : List Nat),mapO g a=some (x,u)→mapO g b=some (y,v)→mapO g (a++b)=some (x++y,u++v)
  | [],b,x,y,u,v,h1,h2=>by cases h1;exact h2
  | c :: a,b,x,y,u,v,h1,h2=>by
    simp only [mapO] at h1
    obtain ⟨⟨p,q⟩,h3,h4⟩:=Option.bind_eq_some_iff.1 h1
    obtain ⟨⟨p',q'⟩,h5,h6⟩:=Option.map_eq_some_iff.1 h4
    cases h6
    simp only [List.cons_append,mapO,h3,Option.bind_some,mapO_app g a b p' y q' v h5 h2,Option.map_some,List.append_assoc]
theorem mapO_encL {C : Heap} {ex : Nat→Bool} (l : List T) : mapO (convC C ex 8) ((encL l).map AV.d)=some (encL l,[]):=by
  rw [mapO_d,encL_norm]
theorem one_encL (l : List T) : ((encL l).map AV.d).all AV.one=true:=by
  rw [List.all_map];simp [AV.one]
section
variable {P : Program} {Q : Cont} {fr : Fr} {C : Heap} {Z : Frz} {nx : Nat} {base n d : Nat} {l : List (Nat × XO)} {kp : Option (List Nat)} {x i y s : X}
theorem r_appN {b c id m j : Nat} {r src : List AV} (hs : s.ev fr=.slL b 0 m 8) (hx : x.ev fr=.slL c 0 j 8) (hC : C b=some r) (hCc : C c=some src) (hr : r.length=m * 8) (hsl : src.length=j * 8) (h1 : src.all AV.one=true) (hz : Z b=false) (hid : base + n=id) (hb : m + j≤100000000)
    (k : R P l base kp Q nx (fr.put d (.slL id 0 (m + j) 8)) ((C.del b).put id (r++src)) Z) : R P ((n,⟨some d,none,.app [.int .i64 0,.int .u64 0,.int .u64 0,.int .u64 0,.int .u64 0,.int .i64 0,.int .i64 0,.slice none 0 0] 80 s x⟩) :: l) base kp Q nx fr C Z:=by
  subst hid
  refine r_w (v:=.slL (base + n) 0 (m + j) 8) (C':=(C.del b).put (base + n) (r++src)) ?_ k
  have h2 : srcOf C 8 (.slL c 0 j 8)=some (src,j):=by
    simp only [srcOf,if_true,hCc,Option.bind_some]
    rw [if_pos (by omega),List.drop_zero,List.take_of_length_le (by omega)]
  simp only [xw,List.length_cons,List.length_nil,Nat.zero_add,Nat.reduceAdd,hx,h2,Option.bind_some,hs,hC]
  rw [if_pos h1,if_pos ⟨trivial,hz,by omega,by omega⟩,List.take_of_length_le (by omega)]
end
theorem r_callMN {P : Program} {Q : Cont} {fr : Fr} {C : Heap} {Z Z' : Frz} {nx : Nat} {base n d : Nat} {l : List (Nat × XO)} {kp : Option (List Nat)} {f : FuncId} {xs : List X} {ags bs : List AV} {us : List Nat} {id m sz : Nat} {ds : List DV} (ha : xs.map (X.ev fr)=ags) (hc : convAs C (fun _=>false) ags=some (bs,us)) (hid : base + n=id) (hg : Good P f bs none (.slL 1 0 m sz) none (some ds)) (hz : Z.add us=Z')
    (k : R P l base kp Q nx (fr.put d (.slL id 0 m sz)) (C.put id (ds.map AV.d)) Z') : R P ((n,⟨some d,none,.call f xs none true⟩) :: l) base kp Q nx fr C Z:=by
  subst hid
  exact s_callN ha hc hg hz rfl k
set_option maxRecDepth 100000
set_option maxHeartbeats 4000000
attribute [local irreducible] W E R KP thenK blockK retK Good xwp aRun
theorem conv_row {C : Heap} {ex : Nat→Bool} {k id m : Nat} {row : List AV} {ds : List DV} {us : List Nat} (hC : C id=some row) (hm : row.length=m * 8) (h0 : 0 < m) (hex : ex id=false) (hr : mapO (convC C ex k) row=some (ds,us)) : convC C ex (k + 1) (.slL id 0 m 8)=some (.sl ds m,id :: us):=by
  simp only [convC]
  rw [if_neg (by omega),if_neg (by simp [hex])]
  simp only [hC,Option.bind_some]
  rw [if_pos (by omega),List.drop_zero,List.take_of_length_le (by omega),hr]
  rfl
end Go.Sv
namespace Go.Sv
open Go Go.Proofs
set_option maxRecDepth 100000
set_option maxHeartbeats 4000000
attribute [local irreducible] W E R KP thenK blockK retK Good xwp aRun
end Go.Sv
namespace Go.Sv
open Go Go.Proofs
set_option maxRecDepth 100000
set_option maxHeartbeats 4000000
attribute [local irreducible] W E R KP thenK blockK retK Good xwp aRun
end Go.Sv
namespace Go.Sv
open Go Go.Proofs
section
variable {P : Program} {Q : Cont} {fr : Fr} {C : Heap} {Z : Frz} {nx : Nat} {base n d0 : Nat} {l : List (Nat × XO)} {kp : Option (List Nat)} {x y : X}
end
set_option maxRecDepth 100000
set_option maxHeartbeats 4000000
attribute [local irreducible] W E R KP thenK blockK retK Good xwp aRun
end Go.Sv
namespace Go.Sv
open Go Go.Proofs
set_option maxRecDepth 100000
set_option maxHeartbeats 4000000
attribute [local irreducible] W E R KP thenK blockK retK Good xwp aRun
end Go.Sv
namespace Go.Sv
open Go Go.Proofs
set_option maxRecDepth 100000
end Go.Sv
namespace Go.Sv
open Go Go.Proofs
def x137 : XC:=(.seq (.ops 1 [ (0,⟨some 4,none,.mv (.k (.d (.val (.bool false))))⟩)] (some [0,1])) (.seq (.ops 1 [ (0,⟨some 5,none,.mv (.k (.d (.val (.bool false))))⟩)] (some [0,1,5])) (.seq (.seq (.ops 1 [ (0,⟨some 6,none,.mv (.k (.d (.val (.int .i64 0))))⟩)] (some [0,1,5,6])) (.block 0 (.loop (.seq (.seq (.ops 4 [ (0,⟨some 7,none,.mv (.t 6)⟩),(1,⟨some 8,none,.mv (.t 0)⟩),(2,⟨some 9,none,.lenS (.t 8)⟩),(3,⟨some 10,none,.arith .lss (.t 7) (.t 9)⟩)] (some [0,1,5,6,10])) (.cond (.t 10) .skip (.exit 0))) (.seq (.block 1 (.seq (.ops 15 [ (0,⟨some 13,none,.mv (.t 5)⟩),(1,⟨some 14,none,.mv (.t 13)⟩),(2,⟨some 15,(some (14,false)),.mv (.t 1)⟩),(3,⟨some 16,(some (14,false)),.mv (.t 6)⟩),(4,⟨some 17,(some (14,false)),.idxS 1 (.t 15) (.t 16)⟩),(5,⟨some 18,(some (14,false)),.load none (.t 17)⟩),(6,⟨some 19,(some (14,false)),.mv (.t 18)⟩),(7,⟨some 20,(some (19,true)),.mv (.t 0)⟩),(8,⟨some 21,(some (19,true)),.mv (.t 6)⟩),(9,⟨some 22,(some (19,true)),.idxS 1 (.t 20) (.t 21)⟩),(10,⟨some 23,(some (19,true)),.load none (.t 22)⟩),(11,⟨some 24,(some (19,true)),.un .not (.t 23)⟩),(12,⟨some 25,(some (14,false)),.pick (.t 19) (.t 24) (.k (.d (.val (.bool false))))⟩),(13,⟨some 26,none,.pick (.t 14) (.k (.d (.val (.bool true)))) (.t 25)⟩),(14,⟨some 5,none,.mv (.t 26)⟩)] (some [0,1,5,6])) (.ops 14 [ (0,⟨some 27,none,.mv (.t 0)⟩),(1,⟨some 28,none,.mv (.t 6)⟩),(2,⟨some 29,none,.mv (.t 0)⟩),(3,⟨some 30,none,.mv (.t 6)⟩),(4,⟨some 31,none,.idxS 1 (.t 29) (.t 30)⟩),(5,⟨some 32,none,.load none (.t 31)⟩),(6,⟨some 33,none,.mv (.t 32)⟩),(7,⟨some 34,(some (33,false)),.mv (.t 1)⟩),(8,⟨some 35,(some (33,false)),.mv (.t 6)⟩),(9,⟨some 36,(some (33,false)),.idxS 1 (.t 34) (.t 35)⟩),(10,⟨some 37,(some (33,false)),.load none (.t 36)⟩),(11,⟨some 38,none,.pick (.t 33) (.k (.d (.val (.bool true)))) (.t 37)⟩),(12,⟨some 39,none,.idxS 1 (.t 27) (.t 28)⟩),(13,⟨none,none,.store 1 (.t 39) (.t 38)⟩)] (some [0,1,5,6])))) (.ops 3 [ (0,⟨some 11,none,.mv (.t 6)⟩),(1,⟨some 12,none,.arith .add (.t 11) (.k (.d (.val (.int .i64 1))))⟩),(2,⟨some 6,none,.mv (.t 12)⟩)] (some [0,1,5,6]))))))) (.seq (.ops 2 [ (0,⟨some 40,none,.mv (.t 5)⟩),(1,⟨some 4,none,.mv (.t 40)⟩)] (some [4])) .ret))))
def md137 : FuncId→Option Nat × Bool
  | _=>(none,false)
def od137 : Nat→List (List Nat) × List Nat × Option (List Nat)
  | 0=>([],[],some [0,1])
  | 1=>([],[],some [0,1,5])
  | 2=>([],[],some [0,1,5,6])
  | 3=>([],[],some [0,1,5,6,10])
  | 4=>([],[],some [0,1,5,6])
  | 5=>([],[],some [0,1,5,6])
  | 6=>([],[],some [0,1,5,6])
  | 7=>([],[],some [4])
  | _=>([],[],none)
theorem b137 {ags : List AV} {row : Option (List DV)} {r : AV} {row' nw : Option (List DV)} (hal : ags.length≤41) (hrow : row'.isSome=true→row.isSome=true) (h : xwp Tryz.prog x137 (retK [.tmp 4] row.isSome r row' nw) (St.init ags row)) : Good Tryz.prog 58 ags row r row' nw :=
  good_of_body' (md:=md137) (od:=od137) Tryz.f58 (by kernel_rfl) (by kernel_rfl) (by kernel_rfl) (by kernel_rfl) (by kernel_rfl) hal hrow h

set_option maxRecDepth 100000
set_option maxHeartbeats 4000000
attribute [local irreducible] W E R KP thenK blockK retK Good xwp aRun
theorem set_same (p : List Bool) (i : Nat) (h : i < p.length) (v : Bool) (hv : p[i]=v) : p.set i v=p:=by
  subst hv;exact List.set_getElem_self h
theorem or_good (p q : List Bool) {m : Nat} (hp : p.length=m) (hq : q.length=m) (hl : m≤1000001) : Good Tryz.prog 58 [.slL 0 0 m 1,.d (.sl (encB q) m)] (some (encB p)) (.b (addTo p q m).2) (some (encB (addTo p q m).1)) none:=by
  refine b137 (by simp) (by simp) (w_init ?_)
  unfold x137
  repeat' (first|(apply r_mvV;rfl)|(apply r_nilK)|(apply k_V;rfl)|(apply k_S;rfl)|(apply k_SL;rfl)|(apply k_nil)|(apply w_seq)|(apply w_ops;((conv=>lhs;simp only [Nat.reduceAdd])<;>rfl))|(apply e_thenN)|(apply w_block))
  apply w_loopI (S:=fun i : Nat=>⟨(((Fr.nil.put 0 (.slL 0 0 m 1)).put 1 (.d (.sl (encB q) m))).put 5 (.b (addTo p q i).2)).put 6 (.i i),Heap.nil.put 0 ((encB (addTo p q i).1).map AV.d),Frz.but 100 0,100⟩) (m:=fun i=>m - i) (I:=fun i=>i≤m) (i0:=0)
  · exact Nat.zero_le _
  · exact wk1D (by omega) (by omega) rfl rfl encB_isD (FWk.i rfl rfl (FWk.d rfl rfl (FWk.d rfl rfl (FWk.sl rfl rfl rfl rfl (by omega) rfl FWk.nil))))
  intro i K hi hK
  dsimp only
  rcases Nat.lt_or_ge i m with hlt | hge
  · have hlq : i < q.length:=by omega
    have hg:=List.getElem?_eq_getElem hlq
    have hlp : i < (addTo p q i).1.length:=by rw [addTo_len];omega
    have hgp:=List.getElem?_eq_getElem hlp
    have ed : addTo p q (i + 1)=((addTo p q i).1.set i ((addTo p q i).1[i] || q[i]),(addTo p q i).2 || (q[i] && !(addTo p q i).1[i])):=by
      rw [addTo,List.getD_eq_getElem?_getD,List.getD_eq_getElem?_getD,hg,hgp]
      simp only [Option.getD_some]
      rcases Bool.eq_false_or_eq_true q[i] with h1 | h1<;>rcases Bool.eq_false_or_eq_true (addTo p q i).1[i] with h2 | h2
      · rw [if_neg (by simp [h2]),h1,h2];simp [set_same _ _ hlp true h2]
      · rw [if_pos ⟨h1,h2⟩,h1,h2];simp
      · rw [if_neg (by simp [h1]),h1,h2];simp [set_same _ _ hlp true h2]
      · rw [if_neg (by simp [h1]),h1,h2];simp [set_same _ _ hlp false h2]
    have fin : ∀ fr C Z nx,Wk ⟨fr,C,Z,nx⟩ ⟨(((Fr.nil.put 0 (.slL 0 0 m 1)).put 1 (.d (.sl (encB q) m))).put 5 (.b ((addTo p q i).2 || (q[i] && !(addTo p q i).1[i])))).put 6 (.i ((i + 1 : Nat) : Int)),Heap.nil.put 0 ((encB ((addTo p q i).1.set i ((addTo p q i).1[i] || q[i]))).map AV.d),Frz.but 100 0,100⟩→K ⟨fr,C,Z,nx⟩:=by
      intro fr C Z nx hw
      refine hK (i + 1) fr C Z nx (by omega) (by omega) ?_
      rw [ed];exact hw
    clear ed hK
    generalize (addTo p q i).2=cm at *
    generalize (addTo p q i).1=pp at *
    repeat' (first|(apply r_mvV;rfl)|(apply r_mvS;rfl)|(apply r_mvSL;rfl)|(apply r_ixB';rfl;rfl;omega;omega)|(apply r_ldB;rfl;exact hg)|(apply r_ixL;rfl;rfl;omega)|(apply r_ldBL;rfl;rfl;exact hgp)|(apply r_stB;rfl;rfl;rfl;rfl;exact hlp)|(apply r_lss;rfl;rfl;(first|(apply dT;omega)|(apply dF;omega)|rfl))|(apply r_add;rfl;rfl;rfl;omega)|(apply r_not;rfl;rfl)|(apply r_pickT;rfl)|(apply r_pickF;rfl)|(apply r_lenL;rfl)|(apply r_gT;rfl)|(apply r_gF';rfl;rfl)|(apply r_gN';rfl)|((apply r_gS (o:=default);rfl)<;>(intro h;try simp only [decide_eq_true_eq,decide_eq_false_iff_not,Bool.not_eq_true,Bool.not_eq_false] at h))|(apply r_nilK)|(apply k_V;rfl)|(apply k_S;rfl)|(apply k_SL;rfl)|(apply k_nil)|(apply w_seq)|(apply w_ops;((conv=>lhs;simp only [Nat.reduceAdd])<;>rfl))|(apply w_condT;rfl)|(apply e_thenN)|(apply w_block)|(apply e_blkN)|(apply w_skip))
    all_goals (apply e_thenK;apply fin;refine wk1D (by omega) (by omega) ?_ rfl encB_isD (FWk.i rfl (by simp) (FWk.d rfl ?_ (FWk.d rfl rfl (FWk.sl rfl rfl rfl rfl (by omega) rfl FWk.nil)))))
    all_goals clear fin
    all_goals first
      | (simp_all [h_put];done)
      | simp_all
  · repeat' (first|(apply r_mvV;rfl)|(apply r_mvSL;rfl)|(apply r_lss;rfl;rfl;(first|(apply dT;omega)|(apply dF;omega)|rfl))|(apply r_lenL;rfl)|(apply r_nilK)|(apply k_V;rfl)|(apply k_S;rfl)|(apply k_SL;rfl)|(apply k_nil)|(apply e_ret (vs:=[.d (.val _)]);rfl)|(apply w_seq)|(apply w_ops;((conv=>lhs;simp only [Nat.reduceAdd])<;>rfl))|(apply w_condF;rfl)|(apply e_thenN)|(apply e_thenX)|(apply e_blkE)|(apply w_exit)|(apply w_ret))
    rw [show i=m by omega]
    exact .dataL _ _ rfl rfl rfl rfl
end Go.Sv
namespace Go.Sv
open Go Go.Proofs
def x89 : XC:=(.seq (.ops 2 [ (0,⟨some 2,none,.box (.t 0)⟩),(1,⟨some 4,none,.mv (.k (.d (.val (.bool false))))⟩)] (some [1,2])) (.seq (.ops 10 [ (0,⟨some 5,none,.mv (.t 1)⟩),(1,⟨some 6,none,.arith .quo (.t 5) (.k (.d (.val (.int .u8 64))))⟩),(2,⟨some 7,none,.idxP 4 1 (.t 2) (.t 6)⟩),(3,⟨some 8,none,.load none (.t 7)⟩),(4,⟨some 9,none,.mv (.t 1)⟩),(5,⟨some 10,none,.arith .rem (.t 9) (.k (.d (.val (.int .u8 64))))⟩),(6,⟨some 11,none,.arith .shr (.t 8) (.t 10)⟩),(7,⟨some 12,none,.arith .rem (.t 11) (.k (.d (.val (.int .u64 2))))⟩),(8,⟨some 13,none,.arith .eql (.t 12) (.k (.d (.val (.int .u64 1))))⟩),(9,⟨some 4,none,.mv (.t 13)⟩)] (some [4])) .ret))
def md89 : FuncId→Option Nat × Bool
  | _=>(none,false)
def od89 : Nat→List (List Nat) × List Nat × Option (List Nat)
  | 0=>([],[],some [1,2])
  | 1=>([],[],some [4])
  | _=>([],[],none)
theorem b89 {ags : List AV} {row : Option (List DV)} {r : AV} {row' nw : Option (List DV)} (hal : ags.length≤14) (hrow : row'.isSome=true→row.isSome=true) (h : xwp Tryz.prog x89 (retK [.tmp 4] row.isSome r row' nw) (St.init ags row)) : Good Tryz.prog 57 ags row r row' nw :=
  good_of_body' (md:=md89) (od:=od89) Tryz.f57 (by kernel_rfl) (by kernel_rfl) (by kernel_rfl) (by kernel_rfl) (by kernel_rfl) hal hrow h

section
variable {P : Program} {Q : Cont} {fr : Fr} {C : Heap} {Z : Frz} {nx : Nat} {base n d : Nat} {l : List (Nat × XO)} {kp : Option (List Nat)} {x i y s : X} {j c : Nat}
theorem r_quo64 (hx : x.ev fr=.d (.val (.int .u8 (c : Nat)))) (hy : y.ev fr=.d (.val (.int .u8 64))) (hc : c < 256) (k : R P l base kp Q nx (fr.put d (.d (.val (.int .u8 ((c / 64 : Nat) : Int))))) C Z) : R P ((n,⟨some d,none,.arith .quo x y⟩) :: l) base kp Q nx fr C Z:=by
  refine r_p ?_ k
  have e : IntKind.wrap .u8 (Int.tdiv (c : Int) 64)=((c / 64 : Nat) : Int):=by
    rw [Int.tdiv_eq_ediv_of_nonneg (by omega)]
    simp [IntKind.wrap,IntKind.signed,IntKind.bits];omega
  simp only [xp,hx,hy,arith]
  exact congrArg (fun z=>some (AV.d (DV.val (Value.int .u8 z)))) e
theorem r_rem64 (hx : x.ev fr=.d (.val (.int .u8 (c : Nat)))) (hy : y.ev fr=.d (.val (.int .u8 64))) (k : R P l base kp Q nx (fr.put d (.d (.val (.int .u8 ((c % 64 : Nat) : Int))))) C Z) : R P ((n,⟨some d,none,.arith .rem x y⟩) :: l) base kp Q nx fr C Z:=by
  refine r_p ?_ k
  have e : Int.tmod (c : Int) 64=((c % 64 : Nat) : Int):=by
    rw [Int.tmod_eq_emod_of_nonneg (by omega)];omega
  simp only [xp,hx,hy,arith]
  exact congrArg (fun z=>some (AV.d (DV.val (Value.int .u8 z)))) e
theorem r_rem2 {w : Int} (hx : x.ev fr=.d (.val (.int .u64 w))) (hy : y.ev fr=.d (.val (.int .u64 2))) (hw : 0≤w) (k : R P l base kp Q nx (fr.put d (.d (.val (.int .u64 (w % 2))))) C Z) : R P ((n,⟨some d,none,.arith .rem x y⟩) :: l) base kp Q nx fr C Z:=by
  refine r_p ?_ k
  have e : Int.tmod w 2=w % 2:=Int.tmod_eq_emod_of_nonneg hw
  simp only [xp,hx,hy,arith]
  exact congrArg (fun z=>some (AV.d (DV.val (Value.int .u64 z)))) e
theorem r_ixPL {m b off : Nat} {kd : IntKind} (hx : x.ev fr=.ptrL b off) (hi : i.ev fr=.d (.val (.int kd (j : Nat)))) (hj : j < m) (k : R P l base kp Q nx (fr.put d (.ptrL b (off + j))) C Z) : R P ((n,⟨some d,none,.idxP m 1 x i⟩) :: l) base kp Q nx fr C Z:=by
  refine r_p ?_ k
  simp [xp,hx,hi,intIn,hj]
theorem r_ldWL {b : Nat} {w0 w1 w2 w3 : Int} (hx : x.ev fr=.ptrL b (0 + j)) (hr : C b=some [.d (.val (.int .u64 w0)),.d (.val (.int .u64 w1)),.d (.val (.int .u64 w2)),.d (.val (.int .u64 w3))]) (hj : j < 4) (k : R P l base kp Q nx (fr.put d (.d (.val (.int .u64 ([w0,w1,w2,w3].getD j 0))))) C Z) : R P ((n,⟨some d,none,.load none x⟩) :: l) base kp Q nx fr C Z:=by
  refine r_l ?_ k
  simp only [xl,hx,rowOf,hr,Option.map_some,Option.bind_some,subA,Nat.zero_add]
  match j,hj with
  | 0,_=>rfl
  | 1,_=>rfl
  | 2,_=>rfl
  | 3,_=>rfl
end
set_option maxRecDepth 100000
set_option maxHeartbeats 4000000
attribute [local irreducible] W E R KP thenK blockK retK Good xwp aRun
def setA (a b c d : Int) : AV:=.agg [.d (.val (.int .u64 a)),.d (.val (.int .u64 b)),.d (.val (.int .u64 c)),.d (.val (.int .u64 d))]
theorem in_good {a b c d : Int} (ha : okW a) (hb : okW b) (hc : okW c) (hd : okW d) (x : Nat) (hx : x < 256) : Good Tryz.prog 57 [setA a b c d,.d (.val (.int .u8 (x : Nat)))] none (.b (inG a b c d x)) none none:=by
  unfold setA
  refine b89 (by simp) (by simp) (w_init ?_)
  unfold x89
  have hw : okW ([a,b,c,d].getD (x / 64) 0):=by
    have : x / 64 < 4:=by omega
    match x / 64,this with
    | 0,_=>exact ha
    | 1,_=>exact hb
    | 2,_=>exact hc
    | 3,_=>exact hd
  repeat' (first|(apply r_mvV;rfl)|(apply r_quo64;rfl;rfl;exact hx)|(apply r_rem64;rfl;rfl)|(apply r_ixPL;rfl;rfl;omega)|(apply r_ldWL;rfl;rfl;omega)|(apply r_shrW;rfl;rfl;exact hw.1;omega)|(apply r_rem2;rfl;rfl;exact (okW_div hw _).1)|(apply r_eqlU;rfl;rfl;rfl)|(apply r_box;((conv=>lhs;simp only [Nat.reduceAdd])<;>rfl);rfl;rfl;rfl)|(apply r_nilK)|(apply k_V;rfl)|(apply k_PL;rfl)|(apply k_nil)|(apply e_ret (vs:=[.d (.val _)]);rfl)|(apply w_seq)|(apply w_ops;((conv=>lhs;simp only [Nat.reduceAdd])<;>rfl))|(apply e_thenN)|(apply w_ret))
  exact retB rfl
end Go.Sv
namespace Go.Sv
open Go Go.Proofs
def x88 : XC:=(.seq (.ops 2 [ (0,⟨some 3,none,.box (.t 0)⟩),(1,⟨some 6,none,.mv (.k (.d (.val (.slice none 0 0))))⟩)] (some [1,2,3])) (.seq (.ops 5 [ (0,⟨some 14,none,.mv (.t 1)⟩),(1,⟨some 15,none,.lenT (.t 14)⟩),(2,⟨some 16,none,.arith .add (.t 15) (.k (.d (.val (.int .i64 1))))⟩),(3,⟨some 17,none,.mks [(.bool false)] 1 (.t 16) (.t 16)⟩),(4,⟨some 7,none,.mv (.t 17)⟩)] (some [1,2,3,7])) (.seq (.seq (.ops 2 [ (0,⟨some 18,none,.fadd 0 (.t 3)⟩),(1,⟨some 19,none,.load none (.t 18)⟩)] (some [1,2,3,7,19])) (.block 0 (.seq (.ops 2 [ (0,⟨some 21,none,.arith .eql (.t 19) (.k (.d (.val (.int .i64 1))))⟩),(1,⟨some 20,none,.mv (.t 21)⟩)] (some [1,2,3,7,19,20])) (.cond (.t 20) (.ops 3 [ (0,⟨some 22,none,.mv (.t 7)⟩),(1,⟨some 23,none,.mv (.t 2)⟩),(2,⟨some 24,none,.cpy 1 (.t 22) (.t 23)⟩)] (some [7])) (.seq (.ops 2 [ (0,⟨some 26,none,.arith .eql (.t 19) (.k (.d (.val (.int .i64 2))))⟩),(1,⟨some 25,none,.mv (.t 26)⟩)] (some [1,2,3,7,19,25])) (.cond (.t 25) (.seq (.ops 1 [ (0,⟨some 8,none,.mv (.k (.d (.val (.int .i64 0))))⟩)] (some [1,2,3,7,8])) (.block 1 (.loop (.seq (.seq (.ops 4 [ (0,⟨some 27,none,.mv (.t 8)⟩),(1,⟨some 28,none,.mv (.t 1)⟩),(2,⟨some 29,none,.lenT (.t 28)⟩),(3,⟨some 30,none,.arith .lss (.t 27) (.t 29)⟩)] (some [1,2,3,7,8,30])) (.cond (.t 30) .skip (.exit 1))) (.seq (.block 2 (.ops 17 [ (0,⟨some 33,none,.mv (.t 7)⟩),(1,⟨some 34,none,.mv (.t 8)⟩),(2,⟨some 35,none,.arith .add (.t 34) (.k (.d (.val (.int .i64 1))))⟩),(3,⟨some 36,none,.mv (.t 2)⟩),(4,⟨some 37,none,.mv (.t 8)⟩),(5,⟨some 38,none,.idxS 1 (.t 36) (.t 37)⟩),(6,⟨some 39,none,.load none (.t 38)⟩),(7,⟨some 40,none,.mv (.t 39)⟩),(8,⟨some 41,(some (40,true)),.fadd 1 (.t 3)⟩),(9,⟨some 42,(some (40,true)),.load (some 4) (.t 41)⟩),(10,⟨some 43,(some (40,true)),.mv (.t 1)⟩),(11,⟨some 44,(some (40,true)),.mv (.t 8)⟩),(12,⟨some 45,(some (40,true)),.idxT (.t 43) (.t 44)⟩),(13,⟨some 46,(some (40,true)),.call 57 [(.t 42),(.t 45)] none false⟩),(14,⟨some 47,none,.pick (.t 40) (.t 46) (.k (.d (.val (.bool false))))⟩),(15,⟨some 48,none,.idxS 1 (.t 33) (.t 35)⟩),(16,⟨none,none,.store 1 (.t 48) (.t 47)⟩)] (some [1,2,3,7,8]))) (.ops 3 [ (0,⟨some 31,none,.mv (.t 8)⟩),(1,⟨some 32,none,.arith .add (.t 31) (.k (.d (.val (.int .i64 1))))⟩),(2,⟨some 8,none,.mv (.t 32)⟩)] (some [1,2,3,7,8]))))))) (.seq (.ops 2 [ (0,⟨some 50,none,.arith .eql (.t 19) (.k (.d (.val (.int .i64 3))))⟩),(1,⟨some 49,none,.mv (.t 50)⟩)] (some [1,2,3,7,19,49])) (.cond (.t 49) (.seq (.ops 3 [ (0,⟨some 51,none,.mv (.t 7)⟩),(1,⟨some 52,none,.mv (.t 2)⟩),(2,⟨some 53,none,.cpy 1 (.t 51) (.t 52)⟩)] (some [1,3,7])) (.seq (.ops 1 [ (0,⟨some 9,none,.mv (.k (.d (.val (.int .i64 0))))⟩)] (some [1,3,7,9])) (.block 3 (.loop (.seq (.seq (.ops 5 [ (0,⟨some 54,none,.mv (.t 9)⟩),(1,⟨some 55,none,.fadd 7 (.t 3)⟩),(2,⟨some 56,none,.load none (.t 55)⟩),(3,⟨some 57,none,.lenS (.t 56)⟩),(4,⟨some 58,none,.arith .lss (.t 54) (.t 57)⟩)] (some [1,3,7,9,58])) (.cond (.t 58) .skip (.exit 3))) (.seq (.block 4 (.ops 9 [ (0,⟨some 61,none,.fadd 7 (.t 3)⟩),(1,⟨some 62,none,.load none (.t 61)⟩),(2,⟨some 63,none,.mv (.t 9)⟩),(3,⟨some 64,none,.idxS 8 (.t 62) (.t 63)⟩),(4,⟨some 65,none,.load (some 8) (.t 64)⟩),(5,⟨some 66,none,.mv (.t 1)⟩),(6,⟨some 67,none,.mv (.t 7)⟩),(7,⟨some 68,none,.call 38 [(.t 65),(.t 66),(.t 67)] none false⟩),(8,⟨some 7,none,.mv (.t 68)⟩)] (some [1,3,7,9]))) (.ops 3 [ (0,⟨some 59,none,.mv (.t 9)⟩),(1,⟨some 60,none,.arith .add (.t 59) (.k (.d (.val (.int .i64 1))))⟩),(2,⟨some 9,none,.mv (.t 60)⟩)] (some [1,3,7,9])))))))) (.seq (.ops 2 [ (0,⟨some 70,none,.arith .eql (.t 19) (.k (.d (.val (.int .i64 4))))⟩),(1,⟨some 69,none,.mv (.t 70)⟩)] (some [1,2,3,7,19,69])) (.cond (.t 69) (.seq (.ops 1 [ (0,⟨some 10,none,.mv (.k (.d (.val (.int .i64 0))))⟩)] (some [1,2,3,7,10])) (.block 5 (.loop (.seq (.seq (.ops 5 [ (0,⟨some 71,none,.mv (.t 10)⟩),(1,⟨some 72,none,.fadd 7 (.t 3)⟩),(2,⟨some 73,none,.load none (.t 72)⟩),(3,⟨some 74,none,.lenS (.t 73)⟩),(4,⟨some 75,none,.arith .lss (.t 71) (.t 74)⟩)] (some [1,2,3,7,10,75])) (.cond (.t 75) .skip (.exit 5))) (.seq (.block 6 (.ops 10 [ (0,⟨some 78,none,.mv (.t 7)⟩),(1,⟨some 79,none,.fadd 7 (.t 3)⟩),(2,⟨some 80,none,.load none (.t 79)⟩),(3,⟨some 81,none,.mv (.t 10)⟩),(4,⟨some 82,none,.idxS 8 (.t 80) (.t 81)⟩),(5,⟨some 83,none,.load (some 8) (.t 82)⟩),(6,⟨some 84,none,.mv (.t 1)⟩),(7,⟨some 85,none,.mv (.t 2)⟩),(8,⟨some 86,none,.call 38 [(.t 83),(.t 84),(.t 85)] none false⟩),(9,⟨some 87,none,.call 58 [(.t 78),(.t 86)] (some 0) false⟩)] (some [1,2,3,7,10]))) (.ops 3 [ (0,⟨some 76,none,.mv (.t 10)⟩),(1,⟨some 77,none,.arith .add (.t 76) (.k (.d (.val (.int .i64 1))))⟩),(2,⟨some 10,none,.mv (.t 77)⟩)] (some [1,2,3,7,10]))))))) (.seq (.ops 2 [ (0,⟨some 89,none,.arith .eql (.t 19) (.k (.d (.val (.int .i64 5))))⟩),(1,⟨some 88,none,.mv (.t 89)⟩)] (some [1,2,3,7,88])) (.cond (.t 88) (.seq (.ops 4 [ (0,⟨some 90,none,.mkrow [(.bool false)] 0 1 []⟩),(1,⟨some 91,none,.mv (.t 2)⟩),(2,⟨some 92,none,.app [(.bool false)] 1 (.t 90) (.t 91)⟩),(3,⟨some 11,none,.mv (.t 92)⟩)] (some [1,3,7,11])) (.seq (.ops 3 [ (0,⟨some 93,none,.fadd 6 (.t 3)⟩),(1,⟨some 94,none,.load none (.t 93)⟩),(2,⟨some 12,none,.mv (.t 94)⟩)] (some [1,3,7,11,12])) (.seq (.seq (.ops 2 [ (0,⟨some 95,none,.mv (.t 12)⟩),(1,⟨some 96,none,.arith .lss (.t 95) (.k (.d (.val (.int .i64 0))))⟩)] (some [1,3,7,11,12,96])) (.cond (.t 96) (.ops 7 [ (0,⟨some 97,none,.fadd 5 (.t 3)⟩),(1,⟨some 98,none,.load none (.t 97)⟩),(2,⟨some 99,none,.mv (.t 1)⟩),(3,⟨some 100,none,.lenT (.t 99)⟩),(4,⟨some 101,none,.arith .add (.t 98) (.t 100)⟩),(5,⟨some 102,none,.arith .add (.t 101) (.k (.d (.val (.int .i64 1))))⟩),(6,⟨some 12,none,.mv (.t 102)⟩)] (some [1,3,7,11,12])) .skip)) (.seq (.ops 1 [ (0,⟨some 13,none,.mv (.k (.d (.val (.int .i64 0))))⟩)] (some [1,3,7,11,12,13])) (.block 7 (.loop (.seq (.seq (.ops 3 [ (0,⟨some 103,none,.mv (.t 13)⟩),(1,⟨some 104,none,.mv (.t 12)⟩),(2,⟨some 105,none,.arith .leq (.t 103) (.t 104)⟩)] (some [1,3,7,11,12,13,105])) (.cond (.t 105) .skip (.exit 7))) (.seq (.block 8 (.seq (.seq (.ops 10 [ (0,⟨some 108,none,.mv (.t 13)⟩),(1,⟨some 109,none,.fadd 5 (.t 3)⟩),(2,⟨some 110,none,.load none (.t 109)⟩),(3,⟨some 111,none,.arith .geq (.t 108) (.t 110)⟩),(4,⟨some 112,none,.mv (.t 111)⟩),(5,⟨some 113,(some (112,true)),.mv (.t 7)⟩),(6,⟨some 114,(some (112,true)),.mv (.t 11)⟩),(7,⟨some 115,(some (112,true)),.call 58 [(.t 113),(.t 114)] (some 0) false⟩),(8,⟨some 116,(some (112,true)),.un .not (.t 115)⟩),(9,⟨some 117,none,.pick (.t 112) (.t 116) (.k (.d (.val (.bool false))))⟩)] (some [1,3,7,11,12,13,117])) (.cond (.t 117) (.exit 7) .skip)) (.ops 8 [ (0,⟨some 118,none,.fadd 7 (.t 3)⟩),(1,⟨some 119,none,.load none (.t 118)⟩),(2,⟨some 120,none,.idxS 8 (.t 119) (.k (.d (.val (.int .i64 0))))⟩),(3,⟨some 121,none,.load (some 8) (.t 120)⟩),(4,⟨some 122,none,.mv (.t 1)⟩),(5,⟨some 123,none,.mv (.t 11)⟩),(6,⟨some 124,none,.call 38 [(.t 121),(.t 122),(.t 123)] none false⟩),(7,⟨some 11,none,.mv (.t 124)⟩)] (some [1,3,7,11,12,13])))) (.ops 3 [ (0,⟨some 106,none,.mv (.t 13)⟩),(1,⟨some 107,none,.arith .add (.t 106) (.k (.d (.val (.int .i64 1))))⟩),(2,⟨some 13,none,.mv (.t 107)⟩)] (some [1,3,7,11,12,13])))))))))) .skip)))))))))))) (.seq (.ops 2 [ (0,⟨some 125,none,.mv (.t 7)⟩),(1,⟨some 6,none,.mv (.t 125)⟩)] (some [6])) .ret))))
def md88 : FuncId→Option Nat × Bool
  | 58=>(some 0,false)
  | _=>(none,false)
def od88 : Nat→List (List Nat) × List Nat × Option (List Nat)
  | 0=>([],[],some [1,2,3])
  | 1=>([],[],some [1,2,3,7])
  | 2=>([],[],some [1,2,3,7,19])
  | 3=>([],[],some [1,2,3,7,19,20])
  | 4=>([],[],some [7])
  | 5=>([],[],some [1,2,3,7,19,25])
  | 6=>([],[],some [1,2,3,7,8])
  | 7=>([],[],some [1,2,3,7,8,30])
  | 8=>([],[],some [1,2,3,7,8])
  | 9=>([[],[],[1],[],[],[3,4],[3,4,5],[3,4,5,6],[3,4,5,6,7],[3,4,5,6,7,8],[3,4,5,6,7],[3,4,5,6,7],[3,4,5,6,7,10,11],[3,4,5,6,7,8,9,10,11,12],[3,4,5,6,7,8,9,10,11,12,13],[0,1,2,3,4,5,6,7,8,9,10,11,12,13,14],[0,1,2,3,4,5,6,7,8,9,10,11,12,13,14,15]],[0,1,2,3,4,5,6,7,8,9,10,11,12,13,14,15,16],some [1,2,3,7,8])
  | 10=>([],[],some [1,2,3,7,19,49])
  | 11=>([],[],some [1,3,7])
  | 12=>([],[],some [1,3,7,9])
  | 13=>([],[],some [1,3,7,9,58])
  | 14=>([],[],some [1,3,7,9])
  | 15=>([],[],some [1,3,7,9])
  | 16=>([],[],some [1,2,3,7,19,69])
  | 17=>([],[],some [1,2,3,7,10])
  | 18=>([],[],some [1,2,3,7,10,75])
  | 19=>([],[],some [1,2,3,7,10])
  | 20=>([],[],some [1,2,3,7,10])
  | 21=>([],[],some [1,2,3,7,88])
  | 22=>([],[],some [1,3,7,11])
  | 23=>([],[],some [1,3,7,11,12])
  | 24=>([],[],some [1,3,7,11,12,96])
  | 25=>([],[],some [1,3,7,11,12])
  | 26=>([],[],some [1,3,7,11,12,13])
  | 27=>([],[],some [1,3,7,11,12,13,105])
  | 28=>([],[],some [1,3,7,11,12,13])
  | 29=>([],[],some [1,3,7,11,12,13,117])
  | 30=>([],[],some [1,3,7,11,12,13])
  | 31=>([],[],some [6])
  | _=>([],[],none)
theorem b88 {ags : List AV} {row : Option (List DV)} {r : AV} {row' nw : Option (List DV)} (hal : ags.length≤126) (hrow : row'.isSome=true→row.isSome=true) (h : xwp Tryz.prog x88 (retK [.tmp 6] row.isSome r row' nw) (St.init ags row)) : Good Tryz.prog 38 ags row r row' nw :=
  good_of_body' (md:=md88) (od:=od88) Tryz.f38 (by kernel_rfl) (by kernel_rfl) (by kernel_rfl) (by kernel_rfl) (by kernel_rfl) hal hrow h

def refR (f : List Bool→List Bool) (m : Nat) (mn last : Int) : Nat→Int→List Bool→List Bool→List Bool
  | 0,_,_,out=>out
  | n + 1,k,p,out =>
    if k≤last then
      if mn≤k then (if (addTo out p m).2=true then refR f m mn last n (k + 1) (f p) (addTo out p m).1 else (addTo out p m).1)
      else refR f m mn last n (k + 1) (f p) out
    else out
mutual
def refG (s : ByteArray) : T→List Bool→List Bool
  | .node k a b c d mn mx subs,p =>
    if k=1 then p
    else if k=2 then classTo a b c d s p s.size
    else if k=3 then rcatG s subs p
    else if k=4 then raltG s subs p (List.replicate (s.size + 1) false)
    else if k=5 then refR (rfstG s subs) (s.size + 1) mn (if mx < 0 then mn + s.size + 1 else mx) ((if mx < 0 then mn + s.size + 1 else mx) + 1).toNat 0 p (List.replicate (s.size + 1) false)
    else List.replicate (s.size + 1) false
def rcatG (s : ByteArray) : List T→List Bool→List Bool
  | [],p=>p
  | t :: l,p=>rcatG s l (refG s t p)
def raltG (s : ByteArray) : List T→List Bool→List Bool→List Bool
  | [],_,out=>out
  | t :: l,p,out=>raltG s l p (addTo out (refG s t p) (s.size + 1)).1
def rfstG (s : ByteArray) : List T→List Bool→List Bool
  | [],p=>p
  | t :: _,p=>refG s t p
end
theorem refR_len (f : List Bool→List Bool) (m : Nat) (mn last : Int) : ∀ (n : Nat) (k : Int) (p out : List Bool),(refR f m mn last n k p out).length=out.length
  | 0,_,_,_=>rfl
  | n + 1,k,p,out=>by
    simp only [refR]
    split
    · split
      · split
        · rw [refR_len f m mn last n,addTo_len]
        · rw [addTo_len]
      · rw [refR_len f m mn last n]
    · rfl
mutual
theorem refG_len (s : ByteArray) : ∀ (t : T) (p : List Bool),p.length=s.size + 1→(refG s t p).length=s.size + 1
  | .node k a b c d mn mx subs,p,h=>by
    simp only [refG]
    split
    · exact h
    split
    · exact classTo_len _ _ _ _ _ _ _
    split
    · exact rcatG_len s subs p h
    split
    · exact raltG_len s subs p _ h (by simp)
    split
    · rw [refR_len];simp
    · simp
theorem rcatG_len (s : ByteArray) : ∀ (l : List T) (p : List Bool),p.length=s.size + 1→(rcatG s l p).length=s.size + 1
  | [],p,h=>by simp only [rcatG];exact h
  | t :: l,p,h=>by simp only [rcatG];exact rcatG_len s l _ (refG_len s t p h)
theorem raltG_len (s : ByteArray) : ∀ (l : List T) (p out : List Bool),p.length=s.size + 1→out.length=s.size + 1→(raltG s l p out).length=s.size + 1
  | [],p,out,_,h=>by simp only [raltG];exact h
  | t :: l,p,out,h,h2=>by simp only [raltG];exact raltG_len s l p _ h (by rw [addTo_len];exact h2)
end
end Go.Sv
namespace Go.Sv
open Go

def word (s : ByteArray) (i j : Nat) : List Nat:=(List.range' i (j - i)).map (byteN s)
theorem word_nil (s : ByteArray) (i : Nat) : word s i i=[]:=by simp [word]
theorem word_one (s : ByteArray) (i : Nat) : word s i (i + 1)=[byteN s i]:=by
  simp [word,Nat.add_sub_cancel_left]
theorem word_len (s : ByteArray) (i j : Nat) : (word s i j).length=j - i:=by simp [word]
theorem word_app (s : ByteArray) {i j k : Nat} (h : i≤j) (h2 : j≤k) : word s i j++word s j k=word s i k:=by
  unfold word
  rw [← List.map_append]
  congr 1
  have e : j=i + (j - i):=by omega
  conv=>lhs;rhs;arg 1;rw [e]
  rw [List.range'_append_1]
  congr 1;omega
theorem word_split (s : ByteArray) {i k : Nat} (h : i≤k) {u v : List Nat} (e : word s i k=u++v) : i + u.length≤k∧u=word s i (i + u.length)∧v=word s (i + u.length) k:=by
  have hl:=congrArg List.length e
  rw [word_len,List.length_append] at hl
  have h1 : i + u.length≤k:=by omega
  rw [← word_app s (Nat.le_add_right i u.length) h1] at e
  have:=List.append_inj e (by rw [word_len];omega)
  exact ⟨h1,this.1.symm,this.2.symm⟩

def powL (P : List Nat→Prop) : Nat→List Nat→Prop
  | 0,w=>w=[]
  | n + 1,w=>∃ u v,w=u++v∧P u∧powL P n v

mutual
def L : T→List Nat→Prop
  | .node k a b c d mn mx subs,w =>
    if k=1 then w=[]
    else if k=2 then ∃ x,w=[x]∧inG a b c d x=true
    else if k=3 then catL subs w
    else if k=4 then altL subs w
    else if k=5 then ∃ r : Nat,mn≤r∧(mx < 0 ∨ (r : Int)≤mx)∧powL (fstL subs) r w
    else False
def catL : List T→List Nat→Prop
  | [],w=>w=[]
  | t :: l,w=>∃ u v,w=u++v∧L t u∧catL l v
def altL : List T→List Nat→Prop
  | [],_=>False
  | t :: l,w=>L t w ∨ altL l w
def fstL : List T→List Nat→Prop
  | [],w=>w=[]
  | t :: _,w=>L t w
end

def At (p : List Bool) (j : Nat) : Prop:=p.getD j false=true
theorem At.lt {p : List Bool} {j : Nat} (h : At p j) : j < p.length:=by
  unfold At at h
  rcases Nat.lt_or_ge j p.length with h' | h'
  · exact h'
  · rw [List.getD_eq_getElem?_getD,List.getElem?_eq_none h'] at h;simp at h
theorem at_rep (m j : Nat) : ¬ At (List.replicate m false) j:=by
  intro h
  have:=h.lt
  unfold At at h
  rw [List.getD_eq_getElem?_getD,List.getElem?_eq_getElem this] at h
  simp at h
theorem at_set {p : List Bool} {i : Nat} {v : Bool} (j : Nat) (hi : i < p.length) : At (p.set i v) j↔(j=i∧v=true) ∨ (j ≠ i∧At p j):=by
  unfold At
  rw [List.getD_eq_getElem?_getD,List.getD_eq_getElem?_getD,List.getElem?_set]
  by_cases h : i=j
  · subst h;simp [hi]
  · simp [h,Ne.symm h]
theorem at_ext {p q : List Bool} (hl : p.length=q.length) (h : ∀ j,At p j↔At q j) : p=q:=by
  refine List.ext_getElem hl fun j h1 h2=>?_
  have:=h j
  unfold At at this
  rw [List.getD_eq_getElem?_getD,List.getD_eq_getElem?_getD,List.getElem?_eq_getElem h1,List.getElem?_eq_getElem h2] at this
  simp only [Option.getD_some] at this
  exact Bool.eq_iff_iff.2 this

theorem at_addTo {p q : List Bool} : ∀ (m : Nat),m≤p.length→∀ j,At (addTo p q m).1 j↔At p j ∨ (j < m∧At q j)
  | 0,_,j=>by simp [addTo]
  | m + 1,h,j=>by
    have ih:=at_addTo (p:=p) (q:=q) m (by omega)
    have hl : m < (addTo p q m).1.length:=by rw [addTo_len];omega
    simp only [addTo]
    split
    · rename_i hc
      simp only [at_set j hl,ih j]
      constructor
      · rintro (⟨rfl,_⟩ | ⟨_,h | ⟨h1,h2⟩⟩)
        · exact .inr ⟨by omega,hc.1⟩
        · exact .inl h
        · exact .inr ⟨by omega,h2⟩
      · intro h
        by_cases hj : j=m
        · exact .inl (by simp [hj])
        · rcases h with h | ⟨h1,h2⟩
          · exact .inr ⟨hj,.inl h⟩
          · exact .inr ⟨hj,.inr ⟨by omega,h2⟩⟩
    · rename_i hc
      rw [ih j]
      constructor
      · rintro (h | ⟨h1,h2⟩)
        · exact .inl h
        · exact .inr ⟨by omega,h2⟩
      · rintro (h | ⟨h1,h2⟩)
        · exact .inl h
        · by_cases hj : j=m
          · subst hj
            have h3 : At (addTo p q j).1 j:=by
              unfold At
              cases hb : (addTo p q j).1.getD j false with
              | true=>rfl
              | false=>exact absurd ⟨h2,hb⟩ hc
            rcases (ih j).1 h3 with h | ⟨h1,_⟩
            · exact .inl h
            · omega
          · exact .inr ⟨by omega,h2⟩
theorem addTo_new {p q : List Bool} : ∀ (m : Nat),m≤p.length→((addTo p q m).2=true↔∃ j,j < m∧At q j∧¬ At p j)
  | 0,_=>by simp [addTo]
  | m + 1,h=>by
    have ih:=addTo_new (p:=p) (q:=q) m (by omega)
    have ha:=at_addTo (p:=p) (q:=q) m (by omega) m
    simp only [addTo]
    split
    · rename_i hc
      simp only [true_iff]
      refine ⟨m,by omega,hc.1,fun hp=>?_⟩
      have:=ha.2 (.inl hp)
      unfold At at this
      rw [hc.2] at this;cases this
    · rename_i hc
      rw [ih]
      constructor
      · rintro ⟨j,h1,h2,h3⟩;exact ⟨j,by omega,h2,h3⟩
      · rintro ⟨j,h1,h2,h3⟩
        by_cases hj : j=m
        · subst hj
          exfalso
          refine hc ⟨h2,?_⟩
          cases hb : (addTo p q j).1.getD j false with
          | false=>rfl
          | true =>
            rcases ha.1 hb with h | ⟨h,_⟩
            · exact absurd h h3
            · omega
        · exact ⟨j,by omega,h2,h3⟩

def Goes (s : ByteArray) (f : List Bool→List Bool) (P : List Nat→Prop) : Prop :=
  ∀ p,p.length=s.size + 1→(f p).length=s.size + 1∧∀ j,At (f p) j↔∃ i,i≤j∧At p i∧j≤s.size∧P (word s i j)

def iter (f : List Bool→List Bool) : Nat→List Bool→List Bool
  | 0,p=>p
  | n + 1,p=>iter f n (f p)
theorem iter_len {s : ByteArray} {f : List Bool→List Bool} {P : List Nat→Prop} (hf : Goes s f P) : ∀ (n : Nat) (p : List Bool),p.length=s.size + 1→(iter f n p).length=s.size + 1
  | 0,p,h=>h
  | n + 1,p,h=>iter_len hf n _ (hf p h).1
theorem iter_goes {s : ByteArray} {f : List Bool→List Bool} {P : List Nat→Prop} (hf : Goes s f P) : ∀ n,Goes s (iter f n) (powL P n)
  | 0=>fun p hp=>⟨hp,fun j=>by
      simp only [iter,powL]
      constructor
      · intro h;exact ⟨j,Nat.le_refl _,h,by have:=h.lt;omega,word_nil s j⟩
      · rintro ⟨i,h1,h2,h3,h4⟩
        have:=congrArg List.length h4
        rw [word_len] at this
        simp at this
        rw [show j=i by omega];exact h2⟩
  | n + 1=>fun p hp=>by
    obtain ⟨h1,h2⟩:=hf p hp
    obtain ⟨h3,h4⟩:=iter_goes hf n (f p) h1
    refine ⟨h3,fun j=>?_⟩
    simp only [iter,powL]
    rw [h4 j]
    constructor
    · rintro ⟨i,g1,g2,g3,g4⟩
      obtain ⟨i0,k1,k2,k3,k4⟩:=(h2 i).1 g2
      exact ⟨i0,by omega,k2,g3,_,_,(word_app s k1 g1).symm,k4,g4⟩
    · rintro ⟨i,g1,g2,g3,u,v,e,g4,g5⟩
      obtain ⟨k1,k2,k3⟩:=word_split s g1 e
      refine ⟨i + u.length,k1,(h2 _).2 ⟨i,by omega,g2,by omega,k2 ▸ g4⟩,g3,k3 ▸ g5⟩
def Sub (p q : List Bool) : Prop:=∀ j,At p j→At q j
theorem Goes.mono {s : ByteArray} {f : List Bool→List Bool} {P : List Nat→Prop} (hf : Goes s f P) {p q : List Bool} (hp : p.length=s.size + 1) (hq : q.length=s.size + 1) (h : Sub p q) : Sub (f p) (f q):=by
  intro j hj
  obtain ⟨i,h1,h2,h3,h4⟩:=((hf p hp).2 j).1 hj
  exact ((hf q hq).2 j).2 ⟨i,h1,h i h2,h3,h4⟩
theorem Goes.step {s : ByteArray} {f : List Bool→List Bool} {P : List Nat→Prop} (hf : Goes s f P) {p q r : List Bool} (hp : p.length=s.size + 1) (hq : q.length=s.size + 1) (hr : r.length=s.size + 1) (h : ∀ j,At r j→At p j ∨ At q j) : ∀ j,At (f r) j→At (f p) j ∨ At (f q) j:=by
  intro j hj
  obtain ⟨i,h1,h2,h3,h4⟩:=((hf r hr).2 j).1 hj
  rcases h i h2 with h | h
  · exact .inl (((hf p hp).2 j).2 ⟨i,h1,h,h3,h4⟩)
  · exact .inr (((hf q hq).2 j).2 ⟨i,h1,h,h3,h4⟩)
theorem iter_sub {s : ByteArray} {f : List Bool→List Bool} {P : List Nat→Prop} (hf : Goes s f P) {out : List Bool} (ho : out.length=s.size + 1) (hc : Sub (f out) out) : ∀ (n : Nat) (p : List Bool),p.length=s.size + 1→Sub p out→Sub (iter f n p) out
  | 0,p,_,h=>h
  | n + 1,p,hp,h=>iter_sub hf ho hc n (f p) (hf p hp).1 fun j hj=>hc j (hf.mono hp ho h j hj)

theorem refR_spec {s : ByteArray} {f : List Bool→List Bool} {P : List Nat→Prop} (hf : Goes s f P) (mn last : Int) : ∀ (n : Nat) (k : Int) (p out : List Bool),p.length=s.size + 1→out.length=s.size + 1→(last + 1 - k).toNat≤n →
    (∀ j,At (f out) j→At out j ∨ At p j)→(k < mn→∀ j,¬ At out j) →
    (∀ j,At (refR f (s.size + 1) mn last n k p out) j↔At out j ∨ ∃ r : Nat,mn≤k + r∧k + r≤last∧At (iter f r p) j) ∧
    (falses out≤last - max k mn→∀ (j r : Nat),mn≤k + r→At (iter f r p) j→At (refR f (s.size + 1) mn last n k p out) j)
  | 0,k,p,out,hp,ho,hn,hc,hz=>by
    simp only [refR]
    refine ⟨fun j=>⟨.inl,?_⟩,fun h=>?_⟩
    · rintro (h | ⟨r,h1,h2,h3⟩)
      · exact h
      · omega
    · omega
  | n + 1,k,p,out,hp,ho,hn,hc,hz=>by
    have hfp:=(hf p hp).1
    simp only [refR]
    split
    case isFalse hk =>
      refine ⟨fun j=>⟨.inl,?_⟩,fun h=>?_⟩
      · rintro (h | ⟨r,h1,h2,h3⟩)
        · exact h
        · omega
      · omega
    rename_i hk
    split
    · rename_i hmn
      have hl2 : (addTo out p (s.size + 1)).1.length=s.size + 1:=by rw [addTo_len];exact ho
      have hat : ∀ j,At (addTo out p (s.size + 1)).1 j↔At out j ∨ At p j:=fun j=>by
        rw [at_addTo _ (by omega)]
        exact or_congr Iff.rfl ⟨fun h=>h.2,fun h=>⟨by have:=h.lt;omega,h⟩⟩
      have hnew:=addTo_new (p:=out) (q:=p) (s.size + 1) (by omega)
      have hfs:=addTo_falses out p (s.size + 1) (by omega)
      split
      · rename_i hcame
        have hc' : ∀ j,At (f (addTo out p (s.size + 1)).1) j→At (addTo out p (s.size + 1)).1 j ∨ At (f p) j:=fun j hj=>by
          rcases hf.step ho hp hl2 (fun j hj=>(hat j).1 hj) j hj with h | h
          · exact .inl ((hat j).2 (hc j h))
          · exact .inr h
        obtain ⟨i1,i2⟩:=refR_spec hf mn last n (k + 1) (f p) _ hfp hl2 (by omega) hc' (fun h=>by omega)
        refine ⟨fun j=>?_,fun hlt j r hr hj=>?_⟩
        · rw [i1 j,hat j]
          constructor
          · rintro ((h | h) | ⟨r,h1,h2,h3⟩)
            · exact .inl h
            · exact .inr ⟨0,by omega,by omega,h⟩
            · exact .inr ⟨r + 1,by omega,by omega,h3⟩
          · rintro (h | ⟨r,h1,h2,h3⟩)
            · exact .inl (.inl h)
            · cases r with
              | zero=>exact .inl (.inr h3)
              | succ r=>exact .inr ⟨r,by omega,by omega,h3⟩
        · cases r with
          | zero=>exact (i1 j).2 (.inl ((hat j).2 (.inr hj)))
          | succ r =>
            have:=hfs.2 hcame
            exact i2 (by omega) j r (by omega) hj
      · rename_i hcame
        have hsub : Sub p out:=fun j hj=>by
          by_cases h : At out j
          · exact h
          · exact absurd (hnew.2 ⟨j,by have:=hj.lt;omega,hj,h⟩) hcame
        have hcl : Sub (f out) out:=fun j hj=>(hc j hj).elim id (hsub j)
        have hit : ∀ r j,At (iter f r p) j→At out j:=fun r j hj=>iter_sub hf ho hcl r p hp hsub j hj
        refine ⟨fun j=>?_,fun _ j r _ hj=>(hat j).2 (.inl (hit r j hj))⟩
        rw [hat j]
        constructor
        · rintro (h | h)
          · exact .inl h
          · exact .inl (hsub j h)
        · rintro (h | ⟨r,_,_,h⟩)
          · exact .inl h
          · exact .inl (hit r j h)
    · rename_i hmn
      have hz':=hz (by omega)
      have hc' : ∀ j,At (f out) j→At out j ∨ At (f p) j:=fun j hj=>by
        obtain ⟨i,_,h2,_⟩:=((hf out ho).2 j).1 hj
        exact absurd h2 (hz' i)
      obtain ⟨i1,i2⟩:=refR_spec hf mn last n (k + 1) (f p) out hfp ho (by omega) hc' (fun h=>hz')
      refine ⟨fun j=>?_,fun hlt j r hr hj=>?_⟩
      · rw [i1 j]
        constructor
        · rintro (h | ⟨r,h1,h2,h3⟩)
          · exact .inl h
          · exact .inr ⟨r + 1,by omega,by omega,h3⟩
        · rintro (h | ⟨r,h1,h2,h3⟩)
          · exact .inl h
          · cases r with
            | zero=>omega
            | succ r=>exact .inr ⟨r,by omega,by omega,h3⟩
      · cases r with
        | zero=>omega
        | succ r=>exact i2 (by omega) j r (by omega) hj

theorem moreG_spec {s : ByteArray} {f : List Bool→List Bool} {P : List Nat→Prop} (hf : Goes s f P) (mx : Int) : ∀ (n : Nat) (k : Int) (p out : List Bool),p.length=s.size + 1→out.length=s.size + 1→falses out < n →
    (∀ j,At (f out) j→At out j ∨ At (f p) j)→∀ j,At (moreG f mx n k p out) j↔At out j ∨ ∃ r : Nat,1≤r∧(mx < 0 ∨ k + r≤mx)∧At (iter f r p) j
  | 0,_,_,_,_,_,h,_,_=>by omega
  | n + 1,k,p,out,hp,ho,hn,hc,j=>by
    have hfp:=(hf p hp).1
    simp only [moreG]
    rw [hfp]
    split
    case isFalse hk =>
      constructor
      · exact .inl
      · rintro (h | ⟨r,h1,h2,_⟩)
        · exact h
        · omega
    rename_i hk
    have hl2 : (addTo out (f p) (s.size + 1)).1.length=s.size + 1:=by rw [addTo_len];exact ho
    have hat : ∀ j,At (addTo out (f p) (s.size + 1)).1 j↔At out j ∨ At (f p) j:=fun j=>by
      rw [at_addTo _ (by omega)]
      exact or_congr Iff.rfl ⟨fun h=>h.2,fun h=>⟨by have:=h.lt;omega,h⟩⟩
    have hnew:=addTo_new (p:=out) (q:=f p) (s.size + 1) (by omega)
    have hfs:=addTo_falses out (f p) (s.size + 1) (by omega)
    split
    · rename_i hcame
      have hc' : ∀ j,At (f (addTo out (f p) (s.size + 1)).1) j→At (addTo out (f p) (s.size + 1)).1 j ∨ At (f (f p)) j:=fun j hj=>by
        rcases hf.step ho hfp hl2 (fun j hj=>(hat j).1 hj) j hj with h | h
        · exact .inl ((hat j).2 (hc j h))
        · exact .inr h
      have:=hfs.2 hcame
      rw [moreG_spec hf mx n (k + 1) (f p) _ hfp hl2 (by omega) hc' j,hat j]
      constructor
      · rintro ((h | h) | ⟨r,h1,h2,h3⟩)
        · exact .inl h
        · exact .inr ⟨1,by omega,by omega,h⟩
        · exact .inr ⟨r + 1,by omega,by omega,h3⟩
      · rintro (h | ⟨r,h1,h2,h3⟩)
        · exact .inl (.inl h)
        · match r,h1 with
          | 1,_=>exact .inl (.inr h3)
          | r + 2,_=>exact .inr ⟨r + 1,by omega,by omega,h3⟩
    · rename_i hcame
      have hsub : Sub (f p) out:=fun j hj=>by
        by_cases h : At out j
        · exact h
        · exact absurd (hnew.2 ⟨j,by have:=hj.lt;omega,hj,h⟩) hcame
      have hcl : Sub (f out) out:=fun j hj=>(hc j hj).elim id (hsub j)
      rw [hat j]
      constructor
      · rintro (h | h)
        · exact .inl h
        · exact .inl (hsub j h)
      · rintro (h | ⟨r,h1,_,h3⟩)
        · exact .inl h
        · match r,h1 with
          | r + 1,_=>exact .inl (iter_sub hf ho hcl r (f p) hfp hsub j h3)
theorem minG_spec (f : List Bool→List Bool) : ∀ (n : Nat) (p : List Bool),((minG f n p).2=false∧(minG f n p).1=iter f n p) ∨ ((minG f n p).2=true∧(∀ j,¬ At (minG f n p).1 j)∧∃ k,k≤n∧(minG f n p).1=iter f k p)
  | 0,p=>.inl ⟨rfl,rfl⟩
  | n + 1,p=>by
    simp only [minG]
    split
    · rename_i h
      refine .inr ⟨rfl,fun j hj=>?_,0,by omega,rfl⟩
      have hlt:=hj.lt
      unfold At at hj
      rw [List.getD_eq_getElem?_getD,List.getElem?_eq_getElem hlt] at hj
      simp only [Option.getD_some] at hj
      have : p.any id=true:=List.any_eq_true.2 ⟨_,List.getElem_mem hlt,hj⟩
      rw [h] at this;cases this
    · rcases minG_spec f n (f p) with h | ⟨h1,h2,k,h3,h4⟩
      · exact .inl h
      · exact .inr ⟨h1,h2,k + 1,by omega,h4⟩
theorem iter_add (f : List Bool→List Bool) : ∀ (a b : Nat) (p : List Bool),iter f (a + b) p=iter f b (iter f a p)
  | 0,b,p=>by rw [Nat.zero_add];rfl
  | a + 1,b,p=>by rw [Nat.succ_add];exact iter_add f a b (f p)
theorem iter_empty {s : ByteArray} {f : List Bool→List Bool} {P : List Nat→Prop} (hf : Goes s f P) (n : Nat) {p : List Bool} (hp : p.length=s.size + 1) (h : ∀ j,¬ At p j) : ∀ j,¬ At (iter f n p) j:=fun j hj=>by
  obtain ⟨i,_,h2,_⟩:=((iter_goes hf n p hp).2 j).1 hj
  exact h i h2
theorem falses_le (p : List Bool) : falses p≤p.length:=List.countP_le_length

theorem ex_pow {s : ByteArray} {f : List Bool→List Bool} {P : List Nat→Prop} (hf : Goes s f P) {p : List Bool} (hp : p.length=s.size + 1) (C : Nat→Prop) (j : Nat) : (∃ r,C r∧At (iter f r p) j)↔∃ i,i≤j∧At p i∧j≤s.size∧∃ r,C r∧powL P r (word s i j):=by
  constructor
  · rintro ⟨r,h1,h2⟩
    obtain ⟨i,g1,g2,g3,g4⟩:=((iter_goes hf r p hp).2 j).1 h2
    exact ⟨i,g1,g2,g3,r,h1,g4⟩
  · rintro ⟨i,g1,g2,g3,r,h1,g4⟩
    exact ⟨r,h1,((iter_goes hf r p hp).2 j).2 ⟨i,g1,g2,g3,g4⟩⟩

theorem repG_goes {s : ByteArray} {f : List Bool→List Bool} {P : List Nat→Prop} (hf : Goes s f P) {mn mx : Int} (h0 : 0≤mn) (hm : mx < 0 ∨ mn≤mx) : Goes s (repG f (s.size + 1) mn mx) (fun w=>∃ r : Nat,mn≤r∧(mx < 0 ∨ (r : Int)≤mx)∧powL P r w):=by
  intro p hp
  have hi:=iter_len hf mn.toNat p hp
  have key : (repG f (s.size + 1) mn mx p).length=s.size + 1∧∀ j,At (repG f (s.size + 1) mn mx p) j↔∃ r : Nat,(mn≤r∧(mx < 0 ∨ (r : Int)≤mx))∧At (iter f r p) j:=by
    rcases minG_spec f mn.toNat p with ⟨h1,h2⟩ | ⟨h1,h2,k,h3,h4⟩
    · simp only [repG,h1,h2,Bool.false_eq_true,if_false]
      have hl2 : (addTo (List.replicate (s.size + 1) false) (iter f mn.toNat p) (s.size + 1)).1.length=s.size + 1:=by rw [addTo_len];simp
      have hat : ∀ j,At (addTo (List.replicate (s.size + 1) false) (iter f mn.toNat p) (s.size + 1)).1 j↔At (iter f mn.toNat p) j:=fun j=>by
        rw [at_addTo _ (by simp)]
        constructor
        · rintro (h | h)
          · exact absurd h (at_rep _ _)
          · exact h.2
        · intro h;exact .inr ⟨by have:=h.lt;omega,h⟩
      have e : (addTo (List.replicate (s.size + 1) false) (iter f mn.toNat p) (s.size + 1)).1=iter f mn.toNat p:=at_ext (by rw [hl2,hi]) hat
      rw [e]
      refine ⟨by rw [moreG_len];exact hi,fun j=>?_⟩
      rw [moreG_spec hf mx _ _ _ _ hi hi (by have:=falses_le (iter f mn.toNat p);omega) (fun j hj=>.inr hj) j]
      constructor
      · rintro (h | ⟨r,g1,g2,g3⟩)
        · exact ⟨mn.toNat,by omega,h⟩
        · refine ⟨mn.toNat + r,by omega,?_⟩
          rw [iter_add];exact g3
      · rintro ⟨r,g1,g3⟩
        have er : r=mn.toNat + (r - mn.toNat):=by omega
        rw [er,iter_add] at g3
        by_cases hr : r=mn.toNat
        · subst hr;rw [Nat.sub_self] at g3;exact .inl g3
        · exact .inr ⟨r - mn.toNat,by omega,by omega,g3⟩
    · simp only [repG,h1,if_true]
      refine ⟨by rw [h4];exact iter_len hf k p hp,fun j=>⟨fun h=>absurd h (h2 j),?_⟩⟩
      rintro ⟨r,g1,g3⟩
      rw [h4] at h2
      rw [show r=k + (r - k) by omega,iter_add] at g3
      exact absurd g3 (iter_empty hf _ (iter_len hf k p hp) h2 j)
  refine ⟨key.1,fun j=>?_⟩
  rw [key.2 j,ex_pow hf hp]
  simp only [and_assoc]
theorem refRep_goes {s : ByteArray} {f : List Bool→List Bool} {P : List Nat→Prop} (hf : Goes s f P) {mn mx : Int} (h0 : 0≤mn) (hm : mx < 0 ∨ mn≤mx) : Goes s (fun p=>refR f (s.size + 1) mn (if mx < 0 then mn + s.size + 1 else mx) ((if mx < 0 then mn + s.size + 1 else mx) + 1).toNat 0 p (List.replicate (s.size + 1) false)) (fun w=>∃ r : Nat,mn≤r∧(mx < 0 ∨ (r : Int)≤mx)∧powL P r w):=by
  intro p hp
  have hr : (List.replicate (s.size + 1) false).length=s.size + 1:=by simp
  have hz : ∀ j,At (f (List.replicate (s.size + 1) false)) j→At (List.replicate (s.size + 1) false) j ∨ At p j:=fun j hj=>by
    obtain ⟨i,_,h2,_⟩:=((hf _ hr).2 j).1 hj
    exact absurd h2 (at_rep _ _)
  obtain ⟨h1,h2⟩:=refR_spec hf mn (if mx < 0 then mn + s.size + 1 else mx) ((if mx < 0 then mn + s.size + 1 else mx) + 1).toNat 0 p (List.replicate (s.size + 1) false) hp hr (by omega) hz (fun _ j=>at_rep _ _)
  refine ⟨by rw [refR_len];exact hr,fun j=>?_⟩
  have e:=ex_pow hf hp (fun r : Nat=>mn≤r∧(mx < 0 ∨ (r : Int)≤mx)) j
  simp only [and_assoc] at e
  rw [← e]
  constructor
  · intro h
    rcases (h1 j).1 h with h | ⟨r,g1,g2,g3⟩
    · exact absurd h (at_rep _ _)
    · refine ⟨r,by omega,?_,g3⟩
      split at g2<;>omega
  · rintro ⟨r,g1,g2,g3⟩
    by_cases hx : mx < 0
    · refine h2 ?_ j r (by omega) g3
      have:=falses_le (List.replicate (s.size + 1) false)
      rw [if_pos hx];omega
    · exact (h1 j).2 (.inr ⟨r,by omega,by rw [if_neg hx];omega,g3⟩)

theorem classTo_goes (a b c d : Int) (s : ByteArray) : Goes s (fun p=>classTo a b c d s p s.size) (fun w=>∃ x,w=[x]∧inG a b c d x=true):=by
  intro p hp
  refine ⟨classTo_len _ _ _ _ _ _ _,fun j=>?_⟩
  have key : ∀ m,m≤s.size→(At (classTo a b c d s p m) j↔∃ i,j=i + 1∧i < m∧At p i∧inG a b c d (byteN s i)=true):=by
    intro m
    induction m with
    | zero=>intro _;simp only [classTo];exact ⟨fun h=>absurd h (at_rep _ _),fun ⟨i,_,h,_⟩=>by omega⟩
    | succ m ih =>
      intro hm
      have ih:=ih (by omega)
      simp only [classTo]
      rw [at_set j (by rw [classTo_len];omega),ih]
      constructor
      · rintro (⟨rfl,h⟩ | ⟨h1,i,h2,h3,h4⟩)
        · simp only [Bool.and_eq_true] at h
          exact ⟨m,rfl,by omega,h.1,h.2⟩
        · exact ⟨i,h2,by omega,h4⟩
      · rintro ⟨i,rfl,h2,h3,h4⟩
        by_cases hi : i=m
        · subst hi;exact .inl ⟨rfl,by rw [Bool.and_eq_true];exact ⟨h3,h4⟩⟩
        · exact .inr ⟨by omega,i,rfl,by omega,h3,h4⟩
  rw [key s.size (Nat.le_refl _)]
  constructor
  · rintro ⟨i,rfl,h2,h3,h4⟩
    exact ⟨i,by omega,h3,by omega,_,word_one s i,h4⟩
  · rintro ⟨i,h1,h2,h3,x,h4,h5⟩
    have hl:=congrArg List.length h4
    rw [word_len] at hl
    simp at hl
    have : j=i + 1:=by omega
    subst this
    rw [word_one] at h4
    cases h4
    exact ⟨i,rfl,by omega,h2,h5⟩
theorem id_goes (s : ByteArray) : Goes s (fun p=>p) (fun w=>w=[]):=by
  intro p hp
  refine ⟨hp,fun j=>?_⟩
  show At p j↔_
  constructor
  · intro h;exact ⟨j,Nat.le_refl _,h,by have:=h.lt;omega,word_nil s j⟩
  · rintro ⟨i,h1,h2,h3,h4⟩
    have:=congrArg List.length h4
    rw [word_len] at this
    simp at this
    rw [show j=i by omega];exact h2
theorem Goes.seq {s : ByteArray} {f g : List Bool→List Bool} {P Q : List Nat→Prop} (hf : Goes s f P) (hg : Goes s g Q) : Goes s (fun p=>g (f p)) (fun w=>∃ u v,w=u++v∧P u∧Q v):=by
  intro p hp
  obtain ⟨h1,h2⟩:=hf p hp
  obtain ⟨h3,h4⟩:=hg (f p) h1
  refine ⟨h3,fun j=>?_⟩
  rw [h4 j]
  constructor
  · rintro ⟨i,g1,g2,g3,g4⟩
    obtain ⟨i0,k1,k2,k3,k4⟩:=(h2 i).1 g2
    exact ⟨i0,by omega,k2,g3,_,_,(word_app s k1 g1).symm,k4,g4⟩
  · rintro ⟨i,g1,g2,g3,u,v,e,g4,g5⟩
    obtain ⟨k1,k2,k3⟩:=word_split s g1 e
    exact ⟨i + u.length,k1,(h2 _).2 ⟨i,by omega,g2,by omega,k2 ▸ g4⟩,g3,k3 ▸ g5⟩
theorem Goes.congr {s : ByteArray} {f : List Bool→List Bool} {P Q : List Nat→Prop} (hf : Goes s f P) (h : ∀ w,P w↔Q w) : Goes s f Q:=by
  intro p hp
  refine ⟨(hf p hp).1,fun j=>?_⟩
  rw [(hf p hp).2 j]
  simp only [h]
theorem alt_goes {s : ByteArray} {f : List Bool→List Bool} {P : List Nat→Prop} (hf : Goes s f P) {p out : List Bool} (hp : p.length=s.size + 1) (ho : out.length=s.size + 1) (j : Nat) :
    At (addTo out (f p) (s.size + 1)).1 j↔At out j ∨ ∃ i,i≤j∧At p i∧j≤s.size∧P (word s i j):=by
  rw [at_addTo _ (by omega),← (hf p hp).2 j]
  exact or_congr Iff.rfl ⟨fun h=>h.2,fun h=>⟨by have:=h.lt;have:=(hf p hp).1;omega,h⟩⟩

theorem plainT_kind {k a b c d mn mx : Int} {subs : List T} (h : plainT (.node k a b c d mn mx subs)=true) : (k=1 ∨ k=2 ∨ k=3 ∨ k=4 ∨ k=5)∧(k=5→0≤mn∧(mx < 0 ∨ mn≤mx)):=by
  by_cases h5 : k=5
  · subst h5
    simp [plainT] at h
    omega
  · by_cases h1 : k=1 ∨ k=2 ∨ k=3 ∨ k=4
    · omega
    · have h2 : ¬ k=1:=by omega
      have h3 : ¬ k=2:=by omega
      have h4 : ¬ (k=3 ∨ k=4):=by omega
      simp [plainT,h2,h3,h4,h5] at h
mutual
theorem stepG_goes (s : ByteArray) : ∀ (t : T),okT t→Goes s (stepG s t) (L t)
  | .node k a b c d mn mx subs,h=>by
    simp only [okT,okN] at h
    obtain ⟨hk,hr⟩:=plainT_kind h.1.2.2.2.2
    by_cases h2 : k=2
    · subst h2
      have:=classTo_goes a b c d s
      intro p hp;simpa [stepG,L] using this p hp
    by_cases h3 : k=3
    · subst h3
      have:=catG_goes s subs h.2
      intro p hp;simpa [stepG,L] using this p hp
    by_cases h4 : k=4
    · subst h4
      intro p hp
      have:=altG_goes s subs h.2 p (List.replicate (s.size + 1) false) hp (by simp)
      refine ⟨by simp only [stepG];exact this.1,fun j=>?_⟩
      simp only [stepG,L]
      simp only [if_neg h2,if_neg h3,if_true]
      rw [this.2 j]
      constructor
      · rintro (h | h)
        · exact absurd h (at_rep _ _)
        · exact h
      · exact .inr
    by_cases h5 : k=5
    · subst h5
      have:=repG_goes (fstG_goes s subs h.2) (hr rfl).1 (hr rfl).2
      intro p hp;simpa [stepG,L] using this p hp
    · have h1 : k=1:=by omega
      subst h1
      have:=id_goes s
      intro p hp;simpa [stepG,L] using this p hp
theorem catG_goes (s : ByteArray) : ∀ (l : List T),okL l→Goes s (catG s l) (catL l)
  | [],_=>by
    have:=id_goes s
    intro p hp;simpa [catG,catL] using this p hp
  | t :: l,h=>by
    simp only [okL] at h
    have:=(stepG_goes s t h.1).seq (catG_goes s l h.2)
    intro p hp;simpa [catG,catL] using this p hp
theorem altG_goes (s : ByteArray) : ∀ (l : List T),okL l→∀ (p out : List Bool),p.length=s.size + 1→out.length=s.size + 1→(altG s l p out).length=s.size + 1 ∧
    ∀ j,At (altG s l p out) j↔At out j ∨ ∃ i,i≤j∧At p i∧j≤s.size∧altL l (word s i j)
  | [],_,p,out,_,ho=>⟨ho,fun j=>by simp [altG,altL]⟩
  | t :: l,h,p,out,hp,ho=>by
    simp only [okL] at h
    have h1:=alt_goes (stepG_goes s t h.1) hp ho
    have h2:=altG_goes s l h.2 p (addTo out (stepG s t p) (s.size + 1)).1 hp (by rw [addTo_len];exact ho)
    refine ⟨by simp only [altG];exact h2.1,fun j=>?_⟩
    simp only [altG,altL]
    rw [h2.2 j,h1 j]
    constructor
    · rintro ((h | ⟨i,g1,g2,g3,g4⟩) | ⟨i,g1,g2,g3,g4⟩)
      · exact .inl h
      · exact .inr ⟨i,g1,g2,g3,.inl g4⟩
      · exact .inr ⟨i,g1,g2,g3,.inr g4⟩
    · rintro (h | ⟨i,g1,g2,g3,g4 | g4⟩)
      · exact .inl (.inl h)
      · exact .inl (.inr ⟨i,g1,g2,g3,g4⟩)
      · exact .inr ⟨i,g1,g2,g3,g4⟩
theorem fstG_goes (s : ByteArray) : ∀ (l : List T),okL l→Goes s (fstG s l) (fstL l)
  | [],_=>by
    have:=id_goes s
    intro p hp;simpa [fstG,fstL] using this p hp
  | t :: l,h=>by
    simp only [okL] at h
    have:=stepG_goes s t h.1
    intro p hp;simpa [fstG,fstL] using this p hp
end
mutual
theorem refG_goes (s : ByteArray) : ∀ (t : T),okT t→Goes s (refG s t) (L t)
  | .node k a b c d mn mx subs,h=>by
    simp only [okT,okN] at h
    obtain ⟨hk,hr⟩:=plainT_kind h.1.2.2.2.2
    by_cases h2 : k=2
    · subst h2
      have:=classTo_goes a b c d s
      intro p hp;simpa [refG,L] using this p hp
    by_cases h3 : k=3
    · subst h3
      have:=rcatG_goes s subs h.2
      intro p hp;simpa [refG,L] using this p hp
    by_cases h4 : k=4
    · subst h4
      intro p hp
      have:=raltG_goes s subs h.2 p (List.replicate (s.size + 1) false) hp (by simp)
      refine ⟨by simp only [refG];exact this.1,fun j=>?_⟩
      simp only [refG,L]
      simp only [if_neg h2,if_neg h3,if_neg (show ¬ (4 : Int)=1 by omega),if_true]
      rw [this.2 j]
      constructor
      · rintro (h | h)
        · exact absurd h (at_rep _ _)
        · exact h
      · exact .inr
    by_cases h5 : k=5
    · subst h5
      have:=refRep_goes (rfstG_goes s subs h.2) (hr rfl).1 (hr rfl).2
      intro p hp
      have:=this p hp
      simp only [refG,L]
      exact this
    · have h1 : k=1:=by omega
      subst h1
      have:=id_goes s
      intro p hp;simpa [refG,L] using this p hp
theorem rcatG_goes (s : ByteArray) : ∀ (l : List T),okL l→Goes s (rcatG s l) (catL l)
  | [],_=>by
    have:=id_goes s
    intro p hp;simpa [rcatG,catL] using this p hp
  | t :: l,h=>by
    simp only [okL] at h
    have:=(refG_goes s t h.1).seq (rcatG_goes s l h.2)
    intro p hp;simpa [rcatG,catL] using this p hp
theorem raltG_goes (s : ByteArray) : ∀ (l : List T),okL l→∀ (p out : List Bool),p.length=s.size + 1→out.length=s.size + 1→(raltG s l p out).length=s.size + 1 ∧
    ∀ j,At (raltG s l p out) j↔At out j ∨ ∃ i,i≤j∧At p i∧j≤s.size∧altL l (word s i j)
  | [],_,p,out,_,ho=>⟨ho,fun j=>by simp [raltG,altL]⟩
  | t :: l,h,p,out,hp,ho=>by
    simp only [okL] at h
    have h1:=alt_goes (refG_goes s t h.1) hp ho
    have h2:=raltG_goes s l h.2 p (addTo out (refG s t p) (s.size + 1)).1 hp (by rw [addTo_len];exact ho)
    refine ⟨by simp only [raltG];exact h2.1,fun j=>?_⟩
    simp only [raltG,altL]
    rw [h2.2 j,h1 j]
    constructor
    · rintro ((h | ⟨i,g1,g2,g3,g4⟩) | ⟨i,g1,g2,g3,g4⟩)
      · exact .inl h
      · exact .inr ⟨i,g1,g2,g3,.inl g4⟩
      · exact .inr ⟨i,g1,g2,g3,.inr g4⟩
    · rintro (h | ⟨i,g1,g2,g3,g4 | g4⟩)
      · exact .inl (.inl h)
      · exact .inl (.inr ⟨i,g1,g2,g3,g4⟩)
      · exact .inr ⟨i,g1,g2,g3,g4⟩
theorem rfstG_goes (s : ByteArray) : ∀ (l : List T),okL l→Goes s (rfstG s l) (fstL l)
  | [],_=>by
    have:=id_goes s
    intro p hp;simpa [rfstG,fstL] using this p hp
  | t :: l,h=>by
    simp only [okL] at h
    have:=refG_goes s t h.1
    intro p hp;simpa [rfstG,fstL] using this p hp
end
theorem goes_eq {s : ByteArray} {f g : List Bool→List Bool} {P : List Nat→Prop} (hf : Goes s f P) (hg : Goes s g P) {p : List Bool} (hp : p.length=s.size + 1) : f p=g p :=
  at_ext (by rw [(hf p hp).1,(hg p hp).1]) fun j=>by rw [(hf p hp).2 j,(hg p hp).2 j]
theorem step_ref (s : ByteArray) (t : T) (h : okT t) {p : List Bool} (hp : p.length=s.size + 1) : stepG s t p=refG s t p:=goes_eq (stepG_goes s t h) (refG_goes s t h) hp
end Go.Sv
namespace Go.Sv
open Go Go.Proofs
set_option maxRecDepth 100000
set_option maxHeartbeats 4000000
attribute [local irreducible] W E R KP thenK blockK retK Good xwp aRun
theorem rcatG_drop (s : ByteArray) (l : List T) (p : List Bool) (i : Nat) (h : i < l.length) : rcatG s (l.drop i) p=rcatG s (l.drop (i + 1)) (refG s l[i] p):=by
  rw [List.drop_eq_getElem_cons h,rcatG]
theorem raltG_drop (s : ByteArray) (l : List T) (p out : List Bool) (i : Nat) (h : i < l.length) : raltG s (l.drop i) p out=raltG s (l.drop (i + 1)) p (addTo out (refG s l[i] p) (s.size + 1)).1:=by
  rw [List.drop_eq_getElem_cons h,raltG]
theorem ref_good (s : ByteArray) (hsz : s.size≤1000000) : ∀ (n : Nat) (t : T),t.cnt≤n→n≤1000000→okT t→∀ (p : List Bool),p.length=s.size + 1 →
    Good Tryz.prog 38 [nodeA t,.d (.val (.string s)),.d (.sl (encB p) (s.size + 1))] none (.d (.sl (encB (refG s t p)) (s.size + 1))) none none:=by
  intro n
  induction n with
  | zero=>intro t ht;have:=cnt_pos t;omega
  | succ n ih =>
  intro t ht hc hok p hp
  obtain ⟨k,a,b,c,d,mn,mx,subs⟩:=t
  have hR:=okT_R hok
  simp only [okT,okN] at hok
  obtain ⟨⟨ha,hb,hcc,hd,hpl⟩,hoks⟩:=hok
  have ih' : ∀ i (h : i < subs.length) (q : List Bool),q.length=s.size + 1→Good Tryz.prog 38 [nodeA subs[i],.d (.val (.string s)),.d (.sl (encB q) (s.size + 1))] none (.d (.sl (encB (refG s subs[i] q)) (s.size + 1))) none none:=by
    intro i h q hq
    refine ih _ ?_ (by omega) (okL_get subs i h hoks) _ hq
    have:=cntL_get subs i h
    simp only [T.cnt] at ht
    omega
  have hlen : subs.length≤1000000:=by
    have:=cntL_len subs
    simp only [T.cnt] at ht
    omega
  have e0 : nodeA (.node k a b c d mn mx subs)=.agg [.i k,.d (.val (.int .u64 a)),.d (.val (.int .u64 b)),.d (.val (.int .u64 c)),.d (.val (.int .u64 d)),.i mn,.i mx,.d (.sl (encL subs) subs.length)]:=rfl
  rw [e0]
  refine b88 (by simp) (by simp) (w_init ?_)
  unfold x88
  by_cases h1 : k=1
  · repeat' (first|(apply r_mvV;rfl)|(apply r_mvS;rfl)|(apply r_mvSL;rfl)|(apply r_faddL;rfl)|(apply r_mksB (m:=s.size + 1);rfl;rfl;((conv=>lhs;simp only [Nat.reduceAdd])<;>rfl);omega;omega)|(apply r_cpyB;rfl;rfl;rfl;rfl;simp;exact hp)|(apply r_ldL;rfl;rfl;rfl)|(apply r_eql;rfl;rfl;(first|(apply dT;omega)|(apply dF;omega)|rfl))|(apply r_add;rfl;rfl;rfl;omega)|(apply r_lenT;rfl)|(apply r_box;((conv=>lhs;simp only [Nat.reduceAdd])<;>rfl);rfl;rfl;rfl)|(apply r_nilK)|(apply k_V;rfl)|(apply k_PL;rfl)|(apply k_S;rfl)|(apply k_SL;rfl)|(apply k_nil)|(apply e_ret;rfl)|(apply w_seq)|(apply w_ops;((conv=>lhs;simp only [Nat.reduceAdd])<;>rfl))|(apply w_condT;rfl)|(apply e_thenN)|(apply w_block)|(apply e_blkN)|(apply w_ret))
    rw [show refG s (.node k a b c d mn mx subs) p=p by simp [refG,h1]]
    exact retSB rfl hp
  by_cases h2 : k=2
  · repeat' (first|(apply r_mvV;rfl)|(apply r_mvSL;rfl)|(apply r_faddL;rfl)|(apply r_mksB (m:=s.size + 1);rfl;rfl;((conv=>lhs;simp only [Nat.reduceAdd])<;>rfl);omega;omega)|(apply r_ldL;rfl;rfl;rfl)|(apply r_eql;rfl;rfl;(first|(apply dT;omega)|(apply dF;omega)|rfl))|(apply r_add;rfl;rfl;rfl;omega)|(apply r_lenT;rfl)|(apply r_box;((conv=>lhs;simp only [Nat.reduceAdd])<;>rfl);rfl;rfl;rfl)|(apply r_nilK)|(apply k_V;rfl)|(apply k_PL;rfl)|(apply k_S;rfl)|(apply k_SL;rfl)|(apply k_nil)|(apply w_seq)|(apply w_ops;((conv=>lhs;simp only [Nat.reduceAdd])<;>rfl))|(apply w_condT;rfl)|(apply w_condF;rfl)|(apply e_thenN)|(apply w_block))
    apply w_loopI (S:=fun i : Nat=>⟨((((Fr.nil.put 1 (.d (.val (.string s)))).put 2 (.d (.sl (encB p) (s.size + 1)))).put 3 (.ptrL 1 0)).put 7 (.slL 6 0 (s.size + 1) 1)).put 8 (.i i),(Heap.nil.put 1 [.i k,.d (.val (.int .u64 a)),.d (.val (.int .u64 b)),.d (.val (.int .u64 c)),.d (.val (.int .u64 d)),.i mn,.i mx,.d (.sl (encL subs) subs.length)]).put 6 ((encB (classTo a b c d s p i)).map AV.d),Frz.but 100 6,100⟩) (m:=fun i=>s.size - i) (I:=fun i=>i≤s.size) (i0:=0)
    · exact Nat.zero_le _
    · exact wk2C (c:=6) (by omega) (by omega) (by omega) (by omega) (by omega) (by omega) rfl rfl rfl rfl encB_isD (FWk.i rfl rfl (FWk.sl rfl rfl rfl rfl (by omega) rfl (FWk.ptr rfl rfl rfl (by omega) rfl (FWk.d rfl rfl (FWk.d rfl rfl FWk.nil)))))
    intro i K hi hK
    dsimp only
    rcases Nat.lt_or_ge i s.size with hlt | hge
    · have hby:=byteN_lt s i
      have hl:=classTo_len a b c d s p i
      have hg : p[i]?=some (p.getD i false):=by
        rw [List.getD_eq_getElem?_getD,List.getElem?_eq_getElem (by omega)];rfl
      have hin:=in_good ha hb hcc hd (byteN s i) hby
      repeat' (first|(apply r_mvV;rfl)|(apply r_mvS;rfl)|(apply r_mvSL;rfl)|(apply r_faddL;rfl)|(apply r_ixB';rfl;rfl;omega;exact hp)|(apply r_ldB;rfl;exact hg)|(apply r_idxT;rfl;rfl;omega)|(apply r_callA;rfl;rfl;exact hin)|(apply r_ixL1;rfl;rfl;omega)|(apply r_stB;rfl;rfl;rfl;rfl;omega)|(apply r_ldL;rfl;rfl;rfl)|(apply r_lss;rfl;rfl;(first|(apply dT;omega)|(apply dF;omega)|rfl))|(apply r_add;rfl;rfl;rfl;omega)|(apply r_pickT;rfl)|(apply r_pickF;rfl)|(apply r_lenT;rfl)|(apply r_gT;rfl)|(apply r_gF';rfl;rfl)|((apply r_gS (o:=default);rfl)<;>(intro h;try simp only [decide_eq_true_eq,decide_eq_false_iff_not,Bool.not_eq_true,Bool.not_eq_false] at h))|(apply r_nilK)|(apply k_V;rfl)|(apply k_PL;rfl)|(apply k_S;rfl)|(apply k_SL;rfl)|(apply k_nil)|(apply w_seq)|(apply w_ops;((conv=>lhs;simp only [Nat.reduceAdd])<;>rfl))|(apply w_condT;rfl)|(apply e_thenN)|(apply w_block)|(apply e_blkN)|(apply w_skip))
      all_goals (apply e_thenK;apply hK (i + 1);omega;omega;refine wk2C (c:=6) (by omega) (by omega) (by omega) (by omega) (by omega) (by omega) rfl rfl ?_ rfl encB_isD (FWk.i rfl (by simp) (FWk.sl rfl rfl rfl rfl (by omega) rfl (FWk.ptr rfl rfl rfl (by omega) rfl (FWk.d rfl rfl (FWk.d rfl rfl FWk.nil)))));rw [classTo,h];rfl)
    · repeat' (first|(apply r_mvV;rfl)|(apply r_mvSL;rfl)|(apply r_lss;rfl;rfl;(first|(apply dT;omega)|(apply dF;omega)|rfl))|(apply r_lenT;rfl)|(apply r_nilK)|(apply k_V;rfl)|(apply k_PL;rfl)|(apply k_S;rfl)|(apply k_SL;rfl)|(apply k_nil)|(apply e_ret;rfl)|(apply w_seq)|(apply w_ops;((conv=>lhs;simp only [Nat.reduceAdd])<;>rfl))|(apply w_condF;rfl)|(apply e_thenN)|(apply e_thenX)|(apply e_blkN)|(apply e_blkE)|(apply w_exit)|(apply w_ret))
      rw [show refG s (.node k a b c d mn mx subs) p=classTo a b c d s p i by simp [refG,h2,show i=s.size by omega]]
      exact retSB rfl (classTo_len _ _ _ _ _ _ _)
  by_cases h3 : k=3
  · repeat' (first|(apply r_mvV;rfl)|(apply r_mvS;rfl)|(apply r_mvSL;rfl)|(apply r_faddL;rfl)|(apply r_mksB (m:=s.size + 1);rfl;rfl;((conv=>lhs;simp only [Nat.reduceAdd])<;>rfl);omega;omega)|(apply r_cpyB;rfl;rfl;rfl;rfl;simp;exact hp)|(apply r_ldL;rfl;rfl;rfl)|(apply r_eql;rfl;rfl;(first|(apply dT;omega)|(apply dF;omega)|rfl))|(apply r_add;rfl;rfl;rfl;omega)|(apply r_lenT;rfl)|(apply r_box;((conv=>lhs;simp only [Nat.reduceAdd])<;>rfl);rfl;rfl;rfl)|(apply r_nilK)|(apply k_V;rfl)|(apply k_PL;rfl)|(apply k_S;rfl)|(apply k_SL;rfl)|(apply k_nil)|(apply w_seq)|(apply w_ops;((conv=>lhs;simp only [Nat.reduceAdd])<;>rfl))|(apply w_condT;rfl)|(apply w_condF;rfl)|(apply e_thenN)|(apply w_block))
    apply w_loopF (ι:=Nat × List Bool) (S:=fun q=>⟨(((Fr.nil.put 1 (.d (.val (.string s)))).put 3 (.ptrL 1 0)).put 7 (.d (.sl (encB q.2) (s.size + 1)))).put 9 (.i q.1),Heap.nil.put 1 [.i k,.d (.val (.int .u64 a)),.d (.val (.int .u64 b)),.d (.val (.int .u64 c)),.d (.val (.int .u64 d)),.i mn,.i mx,.d (.sl (encL subs) subs.length)],Frz.lo 100,100⟩) (m:=fun q=>subs.length - q.1)
      (I:=fun q=>q.1≤subs.length∧q.2.length=s.size + 1∧rcatG s subs p=rcatG s (subs.drop q.1) q.2) (i0:=(0,p))
    · exact ⟨Nat.zero_le _,hp,by simp⟩
    · refine fzB (k:=7) (p:=p) rfl rfl hp (by omega) (wkR (by omega) rfl rfl ?_)
      repeat' (first|exact FWk.nil|(apply FWk.i;rfl;(first|rfl|omega|(simp;done)))|(apply FWk.ptr;rfl;rfl;rfl;omega;rfl)|(apply FWk.d;rfl;rfl))
    rintro ⟨i,q⟩ K ⟨hi,hq,hm⟩ hK
    dsimp only at hi hq hm hK ⊢
    rcases Nat.lt_or_ge i subs.length with hlt | hge
    · have hs:=NodeAt.sub hlt
      have hdr:=rcatG_drop s subs q i hlt
      have hna : [nodeA subs[i],.d (.val (.string s)),.d (.sl (encB q) (s.size + 1))].all AV.nrm=true:=by
        rw [List.all_cons,nodeA_nrm];rfl
      repeat' (first|(apply r_mvV;rfl)|(apply r_mvS;rfl)|(apply r_faddL;rfl)|(apply r_l;apply ld_node';assumption;rfl)|(apply r_p;apply ix_sub;rfl;rfl;omega)|(apply r_callA (ags:=[nodeA subs[i],.d (.val (.string s)),.d (.sl (encB q) (s.size + 1))]);rfl;exact hna;exact ih' i hlt q hq)|(apply r_ldL;rfl;rfl;rfl)|(apply r_lss;rfl;rfl;(first|(apply dT;omega)|(apply dF;omega)|rfl))|(apply r_add;rfl;rfl;rfl;omega)|(apply r_lenD;rfl)|(apply r_nilK)|(apply k_V;rfl)|(apply k_PL;rfl)|(apply k_S;rfl)|(apply k_nil)|(apply w_seq)|(apply w_ops;((conv=>lhs;simp only [Nat.reduceAdd])<;>rfl))|(apply w_condT;rfl)|(apply e_thenN)|(apply w_block)|(apply e_blkN)|(apply w_skip))
      apply e_thenK
      apply hK (i + 1,refG s subs[i] q)
      · exact ⟨by dsimp only;omega,refG_len s _ _ hq,by rw [hm,hdr]⟩
      · dsimp only;omega
      · refine (wkR (by omega) rfl rfl ?_).f
        repeat' (first|exact FWk.nil|(apply FWk.i;rfl;(first|rfl|omega|(simp;done)))|(apply FWk.ptr;rfl;rfl;rfl;omega;rfl)|(apply FWk.d;rfl;rfl))
    · repeat' (first|(apply r_mvV;rfl)|(apply r_mvS;rfl)|(apply r_faddL;rfl)|(apply r_ldL;rfl;rfl;rfl)|(apply r_lss;rfl;rfl;(first|(apply dT;omega)|(apply dF;omega)|rfl))|(apply r_lenD;rfl)|(apply r_nilK)|(apply k_V;rfl)|(apply k_PL;rfl)|(apply k_S;rfl)|(apply k_nil)|(apply e_ret;rfl)|(apply w_seq)|(apply w_ops;((conv=>lhs;simp only [Nat.reduceAdd])<;>rfl))|(apply w_condF;rfl)|(apply e_thenN)|(apply e_thenX)|(apply e_blkN)|(apply e_blkE)|(apply w_exit)|(apply w_ret))
      rw [show i=subs.length by omega,List.drop_length,rcatG] at hm
      rw [show refG s (.node k a b c d mn mx subs) p=q by simp [refG,h3,hm]]
      exact retSD rfl
  by_cases h4 : k=4
  · repeat' (first|(apply r_mvV;rfl)|(apply r_mvSL;rfl)|(apply r_faddL;rfl)|(apply r_mksB (m:=s.size + 1);rfl;rfl;((conv=>lhs;simp only [Nat.reduceAdd])<;>rfl);omega;omega)|(apply r_ldL;rfl;rfl;rfl)|(apply r_eql;rfl;rfl;(first|(apply dT;omega)|(apply dF;omega)|rfl))|(apply r_add;rfl;rfl;rfl;omega)|(apply r_lenT;rfl)|(apply r_box;((conv=>lhs;simp only [Nat.reduceAdd])<;>rfl);rfl;rfl;rfl)|(apply r_nilK)|(apply k_V;rfl)|(apply k_PL;rfl)|(apply k_S;rfl)|(apply k_SL;rfl)|(apply k_nil)|(apply w_seq)|(apply w_ops;((conv=>lhs;simp only [Nat.reduceAdd])<;>rfl))|(apply w_condT;rfl)|(apply w_condF;rfl)|(apply e_thenN)|(apply w_block))
    apply w_loopI (ι:=Nat × List Bool) (S:=fun q=>⟨((((Fr.nil.put 1 (.d (.val (.string s)))).put 2 (.d (.sl (encB p) (s.size + 1)))).put 3 (.ptrL 1 0)).put 7 (.slL 6 0 (s.size + 1) 1)).put 10 (.i q.1),(Heap.nil.put 1 [.i k,.d (.val (.int .u64 a)),.d (.val (.int .u64 b)),.d (.val (.int .u64 c)),.d (.val (.int .u64 d)),.i mn,.i mx,.d (.sl (encL subs) subs.length)]).put 6 ((encB q.2).map AV.d),Frz.but 100 6,100⟩) (m:=fun q=>subs.length - q.1)
      (I:=fun q=>q.1≤subs.length∧q.2.length=s.size + 1∧raltG s subs p (List.replicate (s.size + 1) false)=raltG s (subs.drop q.1) p q.2) (i0:=(0,List.replicate (s.size + 1) false))
    · exact ⟨Nat.zero_le _,by simp,by simp⟩
    · exact wk2C (c:=6) (by omega) (by omega) (by omega) (by omega) (by omega) (by omega) rfl rfl rfl rfl encB_isD (FWk.i rfl rfl (FWk.sl rfl rfl rfl rfl (by omega) rfl (FWk.ptr rfl rfl rfl (by omega) rfl (FWk.d rfl rfl (FWk.d rfl rfl FWk.nil)))))
    rintro ⟨i,q⟩ K ⟨hi,hq,hm⟩ hK
    dsimp only at hi hq hm hK ⊢
    rcases Nat.lt_or_ge i subs.length with hlt | hge
    · have hs:=NodeAt.sub hlt
      have hdr:=raltG_drop s subs p q i hlt
      have hs2:=refG_len s subs[i] p hp
      have hna : [nodeA subs[i],.d (.val (.string s)),.d (.sl (encB p) (s.size + 1))].all AV.nrm=true:=by
        rw [List.all_cons,nodeA_nrm];rfl
      repeat' (first|(apply r_mvV;rfl)|(apply r_mvS;rfl)|(apply r_mvSL;rfl)|(apply r_faddL;rfl)|(apply r_l;apply ld_node';assumption;rfl)|(apply r_p;apply ix_sub;rfl;rfl;omega)|(apply r_callA (ags:=[nodeA subs[i],.d (.val (.string s)),.d (.sl (encB p) (s.size + 1))]);rfl;exact hna;exact ih' i hlt p hp)|(apply r_callW;rfl;rfl;rfl;rfl;exact or_good q _ hq hs2 (by omega))|(apply r_ldL;rfl;rfl;rfl)|(apply r_lss;rfl;rfl;(first|(apply dT;omega)|(apply dF;omega)|rfl))|(apply r_add;rfl;rfl;rfl;omega)|(apply r_lenD;rfl)|(apply r_nilK)|(apply k_V;rfl)|(apply k_PL;rfl)|(apply k_S;rfl)|(apply k_SL;rfl)|(apply k_nil)|(apply w_seq)|(apply w_ops;((conv=>lhs;simp only [Nat.reduceAdd])<;>rfl))|(apply w_condT;rfl)|(apply e_thenN)|(apply w_block)|(apply e_blkN)|(apply w_skip))
      apply e_thenK
      apply hK (i + 1,(addTo q (refG s subs[i] p) (s.size + 1)).1)
      · exact ⟨by dsimp only;omega,by dsimp only;rw [addTo_len];exact hq,by rw [hm,hdr]⟩
      · dsimp only;omega
      · exact wk2C (c:=6) (by omega) (by omega) (by omega) (by omega) (by omega) (by omega) rfl rfl rfl rfl encB_isD (FWk.i rfl (by simp) (FWk.sl rfl rfl rfl rfl (by omega) rfl (FWk.ptr rfl rfl rfl (by omega) rfl (FWk.d rfl rfl (FWk.d rfl rfl FWk.nil)))))
    · repeat' (first|(apply r_mvV;rfl)|(apply r_mvSL;rfl)|(apply r_faddL;rfl)|(apply r_ldL;rfl;rfl;rfl)|(apply r_lss;rfl;rfl;(first|(apply dT;omega)|(apply dF;omega)|rfl))|(apply r_lenD;rfl)|(apply r_nilK)|(apply k_V;rfl)|(apply k_PL;rfl)|(apply k_S;rfl)|(apply k_SL;rfl)|(apply k_nil)|(apply e_ret;rfl)|(apply w_seq)|(apply w_ops;((conv=>lhs;simp only [Nat.reduceAdd])<;>rfl))|(apply w_condF;rfl)|(apply e_thenN)|(apply e_thenX)|(apply e_blkN)|(apply e_blkE)|(apply w_exit)|(apply w_ret))
      rw [show i=subs.length by omega,List.drop_length,raltG] at hm
      rw [show refG s (.node k a b c d mn mx subs) p=q by simp [refG,h4,hm]]
      exact retSB rfl hq
  by_cases h5 : k=5
  · have hR5:=hR h5
    have hl0 : 0 < subs.length:=by
      simp [plainT,h5] at hpl
      omega
    have hfst : ∀ q,rfstG s subs q=refG s (subs[0]'hl0) q:=by
      intro q
      match subs,hl0 with
      | t :: l,_=>rfl
    have hs0 : NodeAt (encL subs) 0 (subs[0]'hl0):=by simpa using NodeAt.sub hl0
    obtain ⟨last,hlast⟩ : ∃ last : Int,last=(if mx < 0 then mn + s.size + 1 else mx):=⟨_,rfl⟩
    have hspec : refG s (.node k a b c d mn mx subs) p=refR (rfstG s subs) (s.size + 1) mn last (last + 1).toNat 0 p (List.replicate (s.size + 1) false):=by simp [refG,h5,hlast]
    by_cases hneg : mx < 0
    all_goals simp only [hneg,if_true,if_false] at hlast
    · repeat' (first|(apply r_mvV;rfl)|(apply r_mvS;rfl)|(apply r_mvSL;rfl)|(apply r_faddL;rfl)|(apply r_mksB (m:=s.size + 1);rfl;rfl;((conv=>lhs;simp only [Nat.reduceAdd])<;>rfl);omega;omega)|(apply r_mkrow0;((conv=>lhs;simp only [Nat.reduceAdd])<;>rfl))|(apply r_appB0;rfl;rfl;rfl;rfl;((conv=>lhs;simp only [Nat.reduceAdd])<;>rfl);exact hp;omega)|(apply r_ldL;rfl;rfl;rfl)|(apply r_eql;rfl;rfl;(first|(apply dT;omega)|(apply dF;omega)|rfl))|(apply r_lss;rfl;rfl;(first|(apply dT;omega)|(apply dF;omega)|rfl))|(apply r_add;rfl;rfl;rfl;omega)|(apply r_lenT;rfl)|(apply r_box;((conv=>lhs;simp only [Nat.reduceAdd])<;>rfl);rfl;rfl;rfl)|(apply r_nilK)|(apply k_V;rfl)|(apply k_PL;rfl)|(apply k_S;rfl)|(apply k_SL;rfl)|(apply k_nil)|(apply w_seq)|(apply w_ops;((conv=>lhs;simp only [Nat.reduceAdd])<;>rfl))|(apply w_condT;rfl)|(apply w_condF;rfl)|(apply e_thenN)|(apply w_block))
      apply w_loopF (ι:=Nat × List Bool × List Bool) (S:=fun q=>⟨(((((Fr.nil.put 1 (.d (.val (.string s)))).put 3 (.ptrL 1 0)).put 7 (.slL 6 0 (s.size + 1) 1)).put 11 (.d (.sl (encB q.2.1) (s.size + 1)))).put 12 (.i last)).put 13 (.i q.1),(Heap.nil.put 1 [.i k,.d (.val (.int .u64 a)),.d (.val (.int .u64 b)),.d (.val (.int .u64 c)),.d (.val (.int .u64 d)),.i mn,.i mx,.d (.sl (encL subs) subs.length)]).put 6 ((encB q.2.2).map AV.d),Frz.but 100 6,100⟩) (m:=fun q=>(last + 1 - q.1).toNat)
        (I:=fun q=>q.2.1.length=s.size + 1∧q.2.2.length=s.size + 1∧refG s (.node k a b c d mn mx subs) p=refR (rfstG s subs) (s.size + 1) mn last (last + 1 - q.1).toNat q.1 q.2.1 q.2.2) (i0:=(0,p,List.replicate (s.size + 1) false))
      · exact ⟨hp,by simp,by rw [hspec];simp⟩
      · refine fzB (k:=11) (p:=p) rfl rfl hp (by omega) (wk2C (c:=6) (by omega) (by omega) (by omega) (by omega) (by omega) (by omega) rfl rfl rfl rfl encB_isD ?_)
        repeat' (first|exact FWk.nil|(apply FWk.i;rfl;(first|rfl|omega|(simp;done)))|(apply FWk.sl;rfl;rfl;rfl;rfl;omega;rfl)|(apply FWk.ptr;rfl;rfl;rfl;omega;rfl)|(apply FWk.d;rfl;rfl))
      rintro ⟨i,q,out⟩ K ⟨hq,ho,hm⟩ hK
      dsimp only at hq ho hm hK ⊢
      have hor:=or_good out q ho hq (by omega)
      have hl2 : (addTo out q (s.size + 1)).1.length=s.size + 1:=by rw [addTo_len];exact ho
      have hnx : (rfstG s subs q).length=s.size + 1:=by rw [hfst];exact refG_len s _ _ hq
      have hcall : Good Tryz.prog 38 [nodeA (subs[0]'hl0),.d (.val (.string s)),.d (.sl (encB q) (s.size + 1))] none (.d (.sl (encB (rfstG s subs q)) (s.size + 1))) none none:=by
        rw [hfst];exact ih' 0 hl0 q hq
      have hna : [nodeA (subs[0]'hl0),.d (.val (.string s)),.d (.sl (encB q) (s.size + 1))].all AV.nrm=true:=by
        rw [List.all_cons,nodeA_nrm];rfl
      by_cases hgt : last < (i : Int)
      · repeat' (first|(apply r_mvV;rfl)|(apply r_mvSL;rfl)|(apply r_leq;rfl;rfl;(first|(apply dT;omega)|(apply dF;omega)|rfl))|(apply r_nilK)|(apply k_V;rfl)|(apply k_PL;rfl)|(apply k_S;rfl)|(apply k_SL;rfl)|(apply k_nil)|(apply e_ret;rfl)|(apply w_seq)|(apply w_ops;((conv=>lhs;simp only [Nat.reduceAdd])<;>rfl))|(apply w_condF;rfl)|(apply e_thenN)|(apply e_thenX)|(apply e_blkN)|(apply e_blkE)|(apply w_exit)|(apply w_ret))
        rw [show (last + 1 - (i : Int)).toNat=0 by omega,refR] at hm
        rw [hm]
        exact retSB rfl ho
      have hle : (i : Int)≤last:=by omega
      obtain ⟨f,hf⟩ : ∃ f,(last + 1 - (i : Int)).toNat=f + 1:=⟨(last - i).toNat,by omega⟩
      have hf2 : (last + 1 - ((i + 1 : Nat) : Int)).toNat=f:=by omega
      rw [hf] at hm
      rw [refR,if_pos hle] at hm
      by_cases hmk : mn≤i
      · rw [if_pos hmk] at hm
        repeat' (first|(apply r_mvV;rfl)|(apply r_mvS;rfl)|(apply r_mvSL;rfl)|(apply r_faddL;rfl)|(apply r_l;apply ld_node';assumption;rfl)|(apply r_callW;rfl;rfl;rfl;rfl;exact hor)|(apply r_p;apply ix_sub0;rfl;rfl;exact hl0)|(apply r_callA (ags:=[nodeA (subs[0]'hl0),.d (.val (.string s)),.d (.sl (encB q) (s.size + 1))]);rfl;exact hna;exact hcall)|(apply r_ldL;rfl;rfl;rfl)|(apply r_leq;rfl;rfl;(first|(apply dT;omega)|(apply dF;omega)|rfl))|(apply r_geq;rfl;rfl;(first|(apply dT;omega)|(apply dF;omega)|rfl))|(apply r_add;rfl;rfl;rfl;omega)|(apply r_not;rfl;rfl)|(apply r_pickT;rfl)|(apply r_gT;rfl)|(apply r_nilK)|(apply k_V;rfl)|(apply k_PL;rfl)|(apply k_S;rfl)|(apply k_SL;rfl)|(apply k_nil)|(apply e_ret;rfl)|(apply w_seq)|(apply w_ops;((conv=>lhs;simp only [Nat.reduceAdd])<;>rfl))|(apply w_condT;rfl)|((apply w_condS;rfl)<;>(intro h;try simp only [decide_eq_true_eq,decide_eq_false_iff_not,Bool.not_eq_true,Bool.not_eq_false] at h))|(apply e_thenN)|(apply w_block)|(apply e_thenX)|(apply e_blkN)|(apply e_blkE)|(apply w_exit)|(apply w_ret)|(apply w_skip)|(apply e_blkE';rfl))
        · simp only [Bool.not_eq_true'] at h
          rw [if_neg (by simp [h])] at hm
          rw [hm]
          exact retSB rfl hl2
        · apply e_thenK
          simp only [Bool.not_eq_false'] at h
          rw [if_pos h] at hm
          apply hK (i + 1,rfstG s subs q,(addTo out q (s.size + 1)).1)
          · exact ⟨hnx,hl2,by dsimp only;rw [hf2,hm];rfl⟩
          · dsimp only;omega
          · refine (wk2C (c:=6) (by omega) (by omega) (by omega) (by omega) (by omega) (by omega) rfl rfl rfl rfl encB_isD ?_).f
            repeat' (first|exact FWk.nil|(apply FWk.i;rfl;(first|rfl|omega|(simp;done)))|(apply FWk.sl;rfl;rfl;rfl;rfl;omega;rfl)|(apply FWk.ptr;rfl;rfl;rfl;omega;rfl)|(apply FWk.d;rfl;rfl))
      · rw [if_neg hmk] at hm
        repeat' (first|(apply r_mvV;rfl)|(apply r_mvS;rfl)|(apply r_faddL;rfl)|(apply r_l;apply ld_node';assumption;rfl)|(apply r_p;apply ix_sub0;rfl;rfl;exact hl0)|(apply r_callA (ags:=[nodeA (subs[0]'hl0),.d (.val (.string s)),.d (.sl (encB q) (s.size + 1))]);rfl;exact hna;exact hcall)|(apply r_ldL;rfl;rfl;rfl)|(apply r_leq;rfl;rfl;(first|(apply dT;omega)|(apply dF;omega)|rfl))|(apply r_geq;rfl;rfl;(first|(apply dT;omega)|(apply dF;omega)|rfl))|(apply r_add;rfl;rfl;rfl;omega)|(apply r_pickF;rfl)|(apply r_gF';rfl;rfl)|(apply r_nilK)|(apply k_V;rfl)|(apply k_PL;rfl)|(apply k_S;rfl)|(apply k_SL;rfl)|(apply k_nil)|(apply w_seq)|(apply w_ops;((conv=>lhs;simp only [Nat.reduceAdd])<;>rfl))|(apply w_condT;rfl)|(apply w_condF;rfl)|(apply e_thenN)|(apply w_block)|(apply e_blkN)|(apply w_skip))
        apply e_thenK
        apply hK (i + 1,rfstG s subs q,out)
        · exact ⟨hnx,ho,by dsimp only;rw [hf2,hm];rfl⟩
        · dsimp only;omega
        · refine (wk2C (c:=6) (by omega) (by omega) (by omega) (by omega) (by omega) (by omega) rfl rfl rfl rfl encB_isD ?_).f
          repeat' (first|exact FWk.nil|(apply FWk.i;rfl;(first|rfl|omega|(simp;done)))|(apply FWk.sl;rfl;rfl;rfl;rfl;omega;rfl)|(apply FWk.ptr;rfl;rfl;rfl;omega;rfl)|(apply FWk.d;rfl;rfl))
    · repeat' (first|(apply r_mvV;rfl)|(apply r_mvS;rfl)|(apply r_mvSL;rfl)|(apply r_faddL;rfl)|(apply r_mksB (m:=s.size + 1);rfl;rfl;((conv=>lhs;simp only [Nat.reduceAdd])<;>rfl);omega;omega)|(apply r_mkrow0;((conv=>lhs;simp only [Nat.reduceAdd])<;>rfl))|(apply r_appB0;rfl;rfl;rfl;rfl;((conv=>lhs;simp only [Nat.reduceAdd])<;>rfl);exact hp;omega)|(apply r_ldL;rfl;rfl;rfl)|(apply r_eql;rfl;rfl;(first|(apply dT;omega)|(apply dF;omega)|rfl))|(apply r_lss;rfl;rfl;(first|(apply dT;omega)|(apply dF;omega)|rfl))|(apply r_add;rfl;rfl;rfl;omega)|(apply r_lenT;rfl)|(apply r_box;((conv=>lhs;simp only [Nat.reduceAdd])<;>rfl);rfl;rfl;rfl)|(apply r_nilK)|(apply k_V;rfl)|(apply k_PL;rfl)|(apply k_S;rfl)|(apply k_SL;rfl)|(apply k_nil)|(apply w_seq)|(apply w_ops;((conv=>lhs;simp only [Nat.reduceAdd])<;>rfl))|(apply w_condT;rfl)|(apply w_condF;rfl)|(apply e_thenN)|(apply w_block)|(apply w_skip))
      apply w_loopF (ι:=Nat × List Bool × List Bool) (S:=fun q=>⟨(((((Fr.nil.put 1 (.d (.val (.string s)))).put 3 (.ptrL 1 0)).put 7 (.slL 6 0 (s.size + 1) 1)).put 11 (.d (.sl (encB q.2.1) (s.size + 1)))).put 12 (.i last)).put 13 (.i q.1),(Heap.nil.put 1 [.i k,.d (.val (.int .u64 a)),.d (.val (.int .u64 b)),.d (.val (.int .u64 c)),.d (.val (.int .u64 d)),.i mn,.i mx,.d (.sl (encL subs) subs.length)]).put 6 ((encB q.2.2).map AV.d),Frz.but 100 6,100⟩) (m:=fun q=>(last + 1 - q.1).toNat)
        (I:=fun q=>q.2.1.length=s.size + 1∧q.2.2.length=s.size + 1∧refG s (.node k a b c d mn mx subs) p=refR (rfstG s subs) (s.size + 1) mn last (last + 1 - q.1).toNat q.1 q.2.1 q.2.2) (i0:=(0,p,List.replicate (s.size + 1) false))
      · exact ⟨hp,by simp,by rw [hspec];simp⟩
      · refine fzB (k:=11) (p:=p) rfl rfl hp (by omega) (wk2C (c:=6) (by omega) (by omega) (by omega) (by omega) (by omega) (by omega) rfl rfl rfl rfl encB_isD ?_)
        repeat' (first|exact FWk.nil|(apply FWk.i;rfl;(first|rfl|omega|(simp;done)))|(apply FWk.sl;rfl;rfl;rfl;rfl;omega;rfl)|(apply FWk.ptr;rfl;rfl;rfl;omega;rfl)|(apply FWk.d;rfl;rfl))
      rintro ⟨i,q,out⟩ K ⟨hq,ho,hm⟩ hK
      dsimp only at hq ho hm hK ⊢
      have hor:=or_good out q ho hq (by omega)
      have hl2 : (addTo out q (s.size + 1)).1.length=s.size + 1:=by rw [addTo_len];exact ho
      have hnx : (rfstG s subs q).length=s.size + 1:=by rw [hfst];exact refG_len s _ _ hq
      have hcall : Good Tryz.prog 38 [nodeA (subs[0]'hl0),.d (.val (.string s)),.d (.sl (encB q) (s.size + 1))] none (.d (.sl (encB (rfstG s subs q)) (s.size + 1))) none none:=by
        rw [hfst];exact ih' 0 hl0 q hq
      have hna : [nodeA (subs[0]'hl0),.d (.val (.string s)),.d (.sl (encB q) (s.size + 1))].all AV.nrm=true:=by
        rw [List.all_cons,nodeA_nrm];rfl
      by_cases hgt : last < (i : Int)
      · repeat' (first|(apply r_mvV;rfl)|(apply r_mvSL;rfl)|(apply r_leq;rfl;rfl;(first|(apply dT;omega)|(apply dF;omega)|rfl))|(apply r_nilK)|(apply k_V;rfl)|(apply k_PL;rfl)|(apply k_S;rfl)|(apply k_SL;rfl)|(apply k_nil)|(apply e_ret;rfl)|(apply w_seq)|(apply w_ops;((conv=>lhs;simp only [Nat.reduceAdd])<;>rfl))|(apply w_condF;rfl)|(apply e_thenN)|(apply e_thenX)|(apply e_blkN)|(apply e_blkE)|(apply w_exit)|(apply w_ret))
        rw [show (last + 1 - (i : Int)).toNat=0 by omega,refR] at hm
        rw [hm]
        exact retSB rfl ho
      have hle : (i : Int)≤last:=by omega
      obtain ⟨f,hf⟩ : ∃ f,(last + 1 - (i : Int)).toNat=f + 1:=⟨(last - i).toNat,by omega⟩
      have hf2 : (last + 1 - ((i + 1 : Nat) : Int)).toNat=f:=by omega
      rw [hf] at hm
      rw [refR,if_pos hle] at hm
      by_cases hmk : mn≤i
      · rw [if_pos hmk] at hm
        repeat' (first|(apply r_mvV;rfl)|(apply r_mvS;rfl)|(apply r_mvSL;rfl)|(apply r_faddL;rfl)|(apply r_l;apply ld_node';assumption;rfl)|(apply r_callW;rfl;rfl;rfl;rfl;exact hor)|(apply r_p;apply ix_sub0;rfl;rfl;exact hl0)|(apply r_callA (ags:=[nodeA (subs[0]'hl0),.d (.val (.string s)),.d (.sl (encB q) (s.size + 1))]);rfl;exact hna;exact hcall)|(apply r_ldL;rfl;rfl;rfl)|(apply r_leq;rfl;rfl;(first|(apply dT;omega)|(apply dF;omega)|rfl))|(apply r_geq;rfl;rfl;(first|(apply dT;omega)|(apply dF;omega)|rfl))|(apply r_add;rfl;rfl;rfl;omega)|(apply r_not;rfl;rfl)|(apply r_pickT;rfl)|(apply r_gT;rfl)|(apply r_nilK)|(apply k_V;rfl)|(apply k_PL;rfl)|(apply k_S;rfl)|(apply k_SL;rfl)|(apply k_nil)|(apply e_ret;rfl)|(apply w_seq)|(apply w_ops;((conv=>lhs;simp only [Nat.reduceAdd])<;>rfl))|(apply w_condT;rfl)|((apply w_condS;rfl)<;>(intro h;try simp only [decide_eq_true_eq,decide_eq_false_iff_not,Bool.not_eq_true,Bool.not_eq_false] at h))|(apply e_thenN)|(apply w_block)|(apply e_thenX)|(apply e_blkN)|(apply e_blkE)|(apply w_exit)|(apply w_ret)|(apply w_skip)|(apply e_blkE';rfl))
        · simp only [Bool.not_eq_true'] at h
          rw [if_neg (by simp [h])] at hm
          rw [hm]
          exact retSB rfl hl2
        · apply e_thenK
          simp only [Bool.not_eq_false'] at h
          rw [if_pos h] at hm
          apply hK (i + 1,rfstG s subs q,(addTo out q (s.size + 1)).1)
          · exact ⟨hnx,hl2,by dsimp only;rw [hf2,hm];rfl⟩
          · dsimp only;omega
          · refine (wk2C (c:=6) (by omega) (by omega) (by omega) (by omega) (by omega) (by omega) rfl rfl rfl rfl encB_isD ?_).f
            repeat' (first|exact FWk.nil|(apply FWk.i;rfl;(first|rfl|omega|(simp;done)))|(apply FWk.sl;rfl;rfl;rfl;rfl;omega;rfl)|(apply FWk.ptr;rfl;rfl;rfl;omega;rfl)|(apply FWk.d;rfl;rfl))
      · rw [if_neg hmk] at hm
        repeat' (first|(apply r_mvV;rfl)|(apply r_mvS;rfl)|(apply r_faddL;rfl)|(apply r_l;apply ld_node';assumption;rfl)|(apply r_p;apply ix_sub0;rfl;rfl;exact hl0)|(apply r_callA (ags:=[nodeA (subs[0]'hl0),.d (.val (.string s)),.d (.sl (encB q) (s.size + 1))]);rfl;exact hna;exact hcall)|(apply r_ldL;rfl;rfl;rfl)|(apply r_leq;rfl;rfl;(first|(apply dT;omega)|(apply dF;omega)|rfl))|(apply r_geq;rfl;rfl;(first|(apply dT;omega)|(apply dF;omega)|rfl))|(apply r_add;rfl;rfl;rfl;omega)|(apply r_pickF;rfl)|(apply r_gF';rfl;rfl)|(apply r_nilK)|(apply k_V;rfl)|(apply k_PL;rfl)|(apply k_S;rfl)|(apply k_SL;rfl)|(apply k_nil)|(apply w_seq)|(apply w_ops;((conv=>lhs;simp only [Nat.reduceAdd])<;>rfl))|(apply w_condT;rfl)|(apply w_condF;rfl)|(apply e_thenN)|(apply w_block)|(apply e_blkN)|(apply w_skip))
        apply e_thenK
        apply hK (i + 1,rfstG s subs q,out)
        · exact ⟨hnx,ho,by dsimp only;rw [hf2,hm];rfl⟩
        · dsimp only;omega
        · refine (wk2C (c:=6) (by omega) (by omega) (by omega) (by omega) (by omega) (by omega) rfl rfl rfl rfl encB_isD ?_).f
          repeat' (first|exact FWk.nil|(apply FWk.i;rfl;(first|rfl|omega|(simp;done)))|(apply FWk.sl;rfl;rfl;rfl;rfl;omega;rfl)|(apply FWk.ptr;rfl;rfl;rfl;omega;rfl)|(apply FWk.d;rfl;rfl))
  · exfalso
    have:=(plainT_kind hpl).1
    omega
end Go.Sv
namespace Go.Sv
open Go Go.Proofs
def x36 : XC:=(.seq (.ops 2 [ (0,⟨some 3,none,.box (.t 0)⟩),(1,⟨some 6,none,.mv (.k (.d (.val (.slice none 0 0))))⟩)] (some [1,2,3])) (.seq (.ops 5 [ (0,⟨some 10,none,.mv (.t 1)⟩),(1,⟨some 11,none,.lenT (.t 10)⟩),(2,⟨some 12,none,.arith .add (.t 11) (.k (.d (.val (.int .i64 1))))⟩),(3,⟨some 13,none,.mks [(.bool false)] 1 (.t 12) (.t 12)⟩),(4,⟨some 7,none,.mv (.t 13)⟩)] (some [1,2,3,7])) (.seq (.ops 4 [ (0,⟨some 14,none,.mv (.t 7)⟩),(1,⟨some 15,none,.mv (.t 2)⟩),(2,⟨some 16,none,.idxS 1 (.t 14) (.t 15)⟩),(3,⟨none,none,.store 1 (.t 16) (.k (.d (.val (.bool true))))⟩)] (some [1,3,7])) (.seq (.ops 5 [ (0,⟨some 17,none,.load (some 8) (.t 3)⟩),(1,⟨some 18,none,.mv (.t 1)⟩),(2,⟨some 19,none,.mv (.t 7)⟩),(3,⟨some 20,none,.call 38 [(.t 17),(.t 18),(.t 19)] none false⟩),(4,⟨some 7,none,.mv (.t 20)⟩)] (some [7])) (.seq (.ops 1 [ (0,⟨some 8,none,.mv (.k (.d (.val (.slice none 0 0))))⟩)] (some [7,8])) (.seq (.seq (.ops 1 [ (0,⟨some 9,none,.mv (.k (.d (.val (.int .i64 0))))⟩)] (some [7,8,9])) (.block 0 (.loop (.seq (.seq (.ops 4 [ (0,⟨some 21,none,.mv (.t 9)⟩),(1,⟨some 22,none,.mv (.t 7)⟩),(2,⟨some 23,none,.lenS (.t 22)⟩),(3,⟨some 24,none,.arith .lss (.t 21) (.t 23)⟩)] (some [7,8,9,24])) (.cond (.t 24) .skip (.exit 0))) (.seq (.block 1 (.seq (.ops 4 [ (0,⟨some 27,none,.mv (.t 7)⟩),(1,⟨some 28,none,.mv (.t 9)⟩),(2,⟨some 29,none,.idxS 1 (.t 27) (.t 28)⟩),(3,⟨some 30,none,.load none (.t 29)⟩)] (some [7,8,9,30])) (.cond (.t 30) (.ops 5 [ (0,⟨some 31,none,.mv (.t 8)⟩),(1,⟨some 32,none,.mv (.t 9)⟩),(2,⟨some 33,none,.mkrow [(.int .i64 0)] 1 1 [(0,1,(.t 32))]⟩),(3,⟨some 34,none,.app [(.int .i64 0)] 8 (.t 31) (.t 33)⟩),(4,⟨some 8,none,.mv (.t 34)⟩)] (some [7,8,9])) .skip))) (.ops 3 [ (0,⟨some 25,none,.mv (.t 9)⟩),(1,⟨some 26,none,.arith .add (.t 25) (.k (.d (.val (.int .i64 1))))⟩),(2,⟨some 9,none,.mv (.t 26)⟩)] (some [7,8,9]))))))) (.seq (.ops 2 [ (0,⟨some 35,none,.mv (.t 8)⟩),(1,⟨some 6,none,.mv (.t 35)⟩)] (some [6])) .ret)))))))
def md36 : FuncId→Option Nat × Bool
  | _=>(none,false)
def od36 : Nat→List (List Nat) × List Nat × Option (List Nat)
  | 0=>([],[],some [1,2,3])
  | 1=>([],[],some [1,2,3,7])
  | 2=>([],[],some [1,3,7])
  | 3=>([],[],some [7])
  | 4=>([],[],some [7,8])
  | 5=>([],[],some [7,8,9])
  | 6=>([],[],some [7,8,9,24])
  | 7=>([],[],some [7,8,9])
  | 8=>([],[],some [7,8,9,30])
  | 9=>([],[],some [7,8,9])
  | 10=>([],[],some [6])
  | _=>([],[],none)
theorem b36 {ags : List AV} {row : Option (List DV)} {r : AV} {row' nw : Option (List DV)} (hal : ags.length≤36) (hrow : row'.isSome=true→row.isSome=true) (h : xwp Tryz.prog x36 (retK [.tmp 6] row.isSome r row' nw) (St.init ags row)) : Good Tryz.prog 23 ags row r row' nw :=
  good_of_body' (md:=md36) (od:=od36) Tryz.f23 (by kernel_rfl) (by kernel_rfl) (by kernel_rfl) (by kernel_rfl) (by kernel_rfl) hal hrow h

def x37 : XC:=(.seq (.ops 2 [ (0,⟨some 3,none,.box (.t 0)⟩),(1,⟨some 6,none,.mv (.k (.d (.val (.int .i64 0))))⟩)] (some [1,2,3])) (.seq (.ops 5 [ (0,⟨some 8,none,.load (some 8) (.t 3)⟩),(1,⟨some 9,none,.mv (.t 1)⟩),(2,⟨some 10,none,.mv (.t 2)⟩),(3,⟨some 11,none,.call 23 [(.t 8),(.t 9),(.t 10)] none false⟩),(4,⟨some 7,none,.mv (.t 11)⟩)] (some [7])) (.seq (.seq (.ops 3 [ (0,⟨some 12,none,.mv (.t 7)⟩),(1,⟨some 13,none,.lenS (.t 12)⟩),(2,⟨some 14,none,.arith .eql (.t 13) (.k (.d (.val (.int .i64 0))))⟩)] (some [7,14])) (.cond (.t 14) (.seq (.ops 1 [ (0,⟨some 6,none,.mv (.k (.d (.val (.int .i64 (-1)))))⟩)] (some [6])) .ret) .skip)) (.seq (.ops 7 [ (0,⟨some 15,none,.mv (.t 7)⟩),(1,⟨some 16,none,.mv (.t 7)⟩),(2,⟨some 17,none,.lenS (.t 16)⟩),(3,⟨some 18,none,.arith .sub (.t 17) (.k (.d (.val (.int .i64 1))))⟩),(4,⟨some 19,none,.idxS 1 (.t 15) (.t 18)⟩),(5,⟨some 20,none,.load none (.t 19)⟩),(6,⟨some 6,none,.mv (.t 20)⟩)] (some [6])) .ret))))
def md37 : FuncId→Option Nat × Bool
  | _=>(none,false)
def od37 : Nat→List (List Nat) × List Nat × Option (List Nat)
  | 0=>([],[],some [1,2,3])
  | 1=>([],[],some [7])
  | 2=>([],[],some [7,14])
  | 3=>([],[],some [6])
  | 4=>([],[],some [6])
  | _=>([],[],none)
theorem b37 {ags : List AV} {row : Option (List DV)} {r : AV} {row' nw : Option (List DV)} (hal : ags.length≤21) (hrow : row'.isSome=true→row.isSome=true) (h : xwp Tryz.prog x37 (retK [.tmp 6] row.isSome r row' nw) (St.init ags row)) : Good Tryz.prog 9 ags row r row' nw :=
  good_of_body' (md:=md37) (od:=od37) Tryz.f9 (by kernel_rfl) (by kernel_rfl) (by kernel_rfl) (by kernel_rfl) (by kernel_rfl) hal hrow h

section
variable {P : Program} {Q : Cont} {fr : Fr} {C : Heap} {Z Z' : Frz} {nx : Nat} {base n d : Nat} {l : List (Nat × XO)} {kp : Option (List Nat)} {x i y s : X}
theorem convAs_snoc {C : Heap} {ex : Nat→Bool} {v y : AV} {u : List Nat} (hx : convA C ex v=some (y,u)) : ∀ (l : List AV),l.all AV.nrm=true→convAs C ex (l++[v])=some (l++[y],u)
  | [],_=>by simp [convAs,hx]
  | a :: l,h=>by
    have h1 : [a].all AV.nrm=true:=by simp only [List.all_cons,Bool.and_eq_true] at h ⊢;exact ⟨h.1,rfl⟩
    have h2 : l.all AV.nrm=true:=by simp only [List.all_cons,Bool.and_eq_true] at h;exact h.2
    have ih:=convAs_snoc hx l h2
    have e:=convAs_nrm (C:=C) (ex:=ex) [a] h1
    simp only [convAs,Option.bind_eq_bind] at e
    obtain ⟨⟨y',u'⟩,g1,g2⟩:=Option.bind_eq_some_iff.1 e
    simp at g2
    obtain ⟨rfl,rfl⟩:=g2
    simp only [List.cons_append,convAs,g1,ih,Option.bind_some,Option.map_some,List.nil_append]
theorem r_callLB {f : FuncId} {xs : List X} {ags : List AV} {b m : Nat} {p : List Bool} {r : AV} (ha : xs.map (X.ev fr)=ags++[.slL b 0 m 1]) (hn : ags.all AV.nrm=true) (hC : C b=some ((encB p).map AV.d)) (hm : p.length=m) (h0 : 0 < m)
    (hg : Good P f (ags++[.d (.sl (encB p) m)]) none r none none) (hz : Z.add (if r.scalar=true then [] else [b])=Z') (k : R P l base kp Q nx (fr.put d r) C Z') : R P ((n,⟨some d,none,.call f xs none false⟩) :: l) base kp Q nx fr C Z:=by
  refine r_call ha (convAs_snoc ?_ ags hn) hg hz k
  simp only [convA,conv_slB (ex:=fun _=>false) rfl hC hm h0,Option.map_some]
theorem retL1 {live : Bool} {b m : Nat} {p : List Int} (hC : C b=some ((encI p).map AV.d)) (hm : p.length=m) : RetOK C Z (tupOf [.slL b 0 m 1]) live (.d (.sl (encI p) m)) none none:=by
  refine .data _ ?_
  simp only [tupOf,convT,convA,conv_slI (ex:=fun _=>false) rfl hC hm,Option.map_some]
end
set_option maxRecDepth 100000
set_option maxHeartbeats 4000000
attribute [local irreducible] W E R KP thenK blockK retK Good xwp aRun
def rallG (s : ByteArray) (t : T) (j : Nat) : List Int:=idxTo (refG s t ((List.replicate (s.size + 1) false).set j true)) (s.size + 1)
theorem all36_good (s : ByteArray) (hsz : s.size≤1000000) (t : T) (hc : t.cnt≤1000000) (hok : okT t) (j : Nat) (hj : j≤s.size) : Good Tryz.prog 23 [nodeA t,.d (.val (.string s)),.i j] none (.d (.sl (encI (rallG s t j)) (rallG s t j).length)) none none:=by
  have hl0 : ((List.replicate (s.size + 1) false).set j true).length=s.size + 1:=by simp
  have hst:=ref_good s hsz 1000000 t hc (by omega) hok _ hl0
  have hql:=refG_len s t _ hl0
  unfold rallG
  generalize refG s t ((List.replicate (s.size + 1) false).set j true)=q at hst hql ⊢
  have hna : [nodeA t,.d (.val (.string s))].all AV.nrm=true:=by
    rw [List.all_cons,nodeA_nrm];rfl
  obtain ⟨k,a,b,c,d,mn,mx,subs⟩:=t
  have e0 : nodeA (.node k a b c d mn mx subs)=.agg [.i k,.d (.val (.int .u64 a)),.d (.val (.int .u64 b)),.d (.val (.int .u64 c)),.d (.val (.int .u64 d)),.i mn,.i mx,.d (.sl (encL subs) subs.length)]:=rfl
  rw [e0] at hst hna ⊢
  refine b36 (by simp) (by simp) (w_init ?_)
  unfold x36
  repeat' (first|(apply r_mvV;rfl)|(apply r_mvS;rfl)|(apply r_mvSL;rfl)|(apply r_mksB (m:=s.size + 1);rfl;rfl;((conv=>lhs;simp only [Nat.reduceAdd])<;>rfl);omega;omega)|(apply r_ixL (j:=j);rfl;rfl;omega)|(apply r_stB;rfl;rfl;rfl;rfl;(simp;omega))|(apply r_callLB (ags:=[.agg [.i k,.d (.val (.int .u64 a)),.d (.val (.int .u64 b)),.d (.val (.int .u64 c)),.d (.val (.int .u64 d)),.i mn,.i mx,.d (.sl (encL subs) subs.length)],.d (.val (.string s))]);rfl;exact hna;rfl;exact hl0;omega;exact hst;rfl)|(apply r_ldL;rfl;rfl;rfl)|(apply r_add;rfl;rfl;rfl;omega)|(apply r_lenT;rfl)|(apply r_box;((conv=>lhs;simp only [Nat.reduceAdd])<;>rfl);rfl;rfl;rfl)|(apply r_nilK)|(apply k_V;rfl)|(apply k_PL;rfl)|(apply k_S;rfl)|(apply k_SL;rfl)|(apply k_nil)|(apply w_seq)|(apply w_ops;((conv=>lhs;simp only [Nat.reduceAdd])<;>rfl))|(apply e_thenN)|(apply w_block))
  apply w_loopI (S:=fun i : Nat=>⟨((Fr.nil.put 8 (.slL 5 0 (idxTo q i).length 1)).put 7 (.d (.sl (encB q) (s.size + 1)))).put 9 (.i i),Heap.nil.put 5 ((encI (idxTo q i)).map AV.d),Frz.but 200 5,200⟩) (m:=fun i=>s.size + 1 - i) (I:=fun i=>i≤s.size + 1) (i0:=0)
  · exact Nat.zero_le _
  · refine wkN (by omega) (by omega) ?_
    repeat' (first|exact FWk.nil|(apply FWk.i;rfl;(first|rfl|omega|(simp;done)))|(apply FWk.d;rfl;rfl)|(apply FWk.slN;rfl;omega;rfl))
  intro i K hi hK
  dsimp only
  rcases Nat.lt_or_ge i (s.size + 1) with hlt | hge
  · have hg : q[i]?=some (q.getD i false):=by
      rw [List.getD_eq_getElem?_getD,List.getElem?_eq_getElem (by omega)];rfl
    have hidx:=idxTo_len q i
    repeat' (first|(apply r_mvV;rfl)|(apply r_mvS;rfl)|(apply r_mvSL;rfl)|(apply r_ixB';rfl;rfl;exact hlt;exact hql)|(apply r_ldB;rfl;exact hg)|(apply r_mkrow1;rfl;((conv=>lhs;simp only [Nat.reduceAdd])<;>rfl))|(apply r_app1;rfl;rfl;rfl;rfl;rfl;((conv=>lhs;simp only [Nat.reduceAdd])<;>rfl);rfl;omega)|(apply r_lss;rfl;rfl;(first|(apply dT;omega)|(apply dF;omega)|rfl))|(apply r_add;rfl;rfl;rfl;omega)|(apply r_lenD;rfl)|(apply r_nilK)|(apply k_V;rfl)|(apply k_S;rfl)|(apply k_SL;rfl)|(apply k_nil)|(apply w_seq)|(apply w_ops;((conv=>lhs;simp only [Nat.reduceAdd])<;>rfl))|(apply w_condT;rfl)|((apply w_condS;rfl)<;>(intro h;try simp only [decide_eq_true_eq,decide_eq_false_iff_not,Bool.not_eq_true,Bool.not_eq_false] at h))|(apply e_thenN)|(apply w_block)|(apply e_blkN)|(apply w_skip))
    · have e : idxTo q (i + 1)=idxTo q i++[(i : Int)]:=by rw [idxTo,if_pos h]
      apply e_thenK
      apply hK (i + 1)
      · omega
      · omega
      · refine wkC (c:=211) (by omega) (by omega) (by rw [e];rfl) rfl encI_isD (FWk.i rfl (by simp) (FWk.d rfl rfl (FWk.sl rfl rfl (by rw [e,List.length_append];rfl) rfl (by omega) rfl FWk.nil)))
    · have e : idxTo q (i + 1)=idxTo q i:=by rw [idxTo,if_neg (by simp only [h];simp)]
      apply e_thenK
      apply hK (i + 1)
      · omega
      · omega
      · refine wkC (c:=5) (by omega) (by omega) (by rw [e];rfl) rfl encI_isD (FWk.i rfl (by simp) (FWk.d rfl rfl (FWk.sl rfl rfl (by rw [e]) rfl (by omega) rfl FWk.nil)))
  · repeat' (first|(apply r_mvV;rfl)|(apply r_mvS;rfl)|(apply r_mvSL;rfl)|(apply r_lss;rfl;rfl;(first|(apply dT;omega)|(apply dF;omega)|rfl))|(apply r_lenD;rfl)|(apply r_nilK)|(apply k_V;rfl)|(apply k_S;rfl)|(apply k_SL;rfl)|(apply k_nil)|(apply e_ret;rfl)|(apply w_seq)|(apply w_ops;((conv=>lhs;simp only [Nat.reduceAdd])<;>rfl))|(apply w_condF;rfl)|(apply e_thenN)|(apply e_thenX)|(apply e_blkE)|(apply w_exit)|(apply w_ret))
    have ei : i=s.size + 1:=by omega
    subst ei
    exact retL1 rfl rfl
theorem longest37_good (s : ByteArray) (hsz : s.size≤1000000) (t : T) (hc : t.cnt≤1000000) (hok : okT t) (j : Nat) (hj : j≤s.size) :
    Good Tryz.prog 9 [nodeA t,.d (.val (.string s)),.i j] none (.i (lastG (rallG s t j))) none none:=by
  have hall:=all36_good s hsz t hc hok j hj
  have hL : (rallG s t j).length≤1000001:=Nat.le_trans (idxTo_len _ _) (by omega)
  generalize rallG s t j=L at hall hL ⊢
  obtain ⟨k,a,b,c,d,mn,mx,subs⟩:=t
  have e0 : nodeA (.node k a b c d mn mx subs)=.agg [.i k,.d (.val (.int .u64 a)),.d (.val (.int .u64 b)),.d (.val (.int .u64 c)),.d (.val (.int .u64 d)),.i mn,.i mx,.d (.sl (encL subs) subs.length)]:=rfl
  rw [e0] at hall ⊢
  refine b37 (by simp) (by simp) (w_init ?_)
  unfold x37
  rcases Nat.eq_zero_or_pos L.length with h0 | h0
  · repeat' (first|(apply r_mvV;rfl)|(apply r_mvS;rfl)|(apply r_callA;rfl;rfl;exact hall)|(apply r_ldL;rfl;rfl;rfl)|(apply r_eql;rfl;rfl;(first|(apply dT;omega)|(apply dF;omega)|rfl))|(apply r_lenD;rfl)|(apply r_box;((conv=>lhs;simp only [Nat.reduceAdd])<;>rfl);rfl;rfl;rfl)|(apply r_nilK)|(apply k_V;rfl)|(apply k_PL;rfl)|(apply k_S;rfl)|(apply k_nil)|(apply e_ret (vs:=[.d (.val _)]);rfl)|(apply w_seq)|(apply w_ops;((conv=>lhs;simp only [Nat.reduceAdd])<;>rfl))|(apply w_condT;rfl)|(apply e_thenN)|(apply e_thenR)|(apply w_ret))
    refine retI ?_
    simp [lastG,h0]
  · have hg : L[L.length - 1]?=some (L.getD (L.length - 1) 0):=by
      rw [List.getD_eq_getElem?_getD,List.getElem?_eq_getElem (by omega)];rfl
    repeat' (first|(apply r_mvV;rfl)|(apply r_mvS;rfl)|(apply r_callA;rfl;rfl;exact hall)|(apply r_ixI (j:=L.length - 1);rfl;rfl;omega;rfl;omega)|(apply r_ldI;rfl;exact hg)|(apply r_ldL;rfl;rfl;rfl)|(apply r_eql;rfl;rfl;(first|(apply dT;omega)|(apply dF;omega)|rfl))|(apply r_sub;rfl;rfl;rfl;omega)|(apply r_lenD;rfl)|(apply r_box;((conv=>lhs;simp only [Nat.reduceAdd])<;>rfl);rfl;rfl;rfl)|(apply r_nilK)|(apply k_V;rfl)|(apply k_PL;rfl)|(apply k_S;rfl)|(apply k_nil)|(apply e_ret (vs:=[.d (.val _)]);rfl)|(apply w_seq)|(apply w_ops;((conv=>lhs;simp only [Nat.reduceAdd])<;>rfl))|(apply w_condF;rfl)|(apply e_thenN)|(apply w_ret)|(apply w_skip))
    refine retI ?_
    rw [lastG,if_neg (by omega)]
end Go.Sv
namespace Go.Sv
open Go Go.Proofs
set_option linter.unusedVariables false
set_option maxRecDepth 100000

theorem cells_27 : Tryz.prog.cellsOf 27=8:=by kernel_rfl
theorem cells_3 : Tryz.prog.cellsOf 3=1:=by kernel_rfl
theorem cells_24 : Tryz.prog.cellsOf 24=4:=by kernel_rfl
theorem cells_22 : Tryz.prog.cellsOf 22=1:=by kernel_rfl
theorem cells_25 : Tryz.prog.cellsOf 25=1:=by kernel_rfl
def inW (k : Int) : Prop:=-9223372036854775808≤k∧k < 9223372036854775808
mutual
def inT : T→Prop
  | .node k a b c d mn mx subs=>inW k∧okW a∧okW b∧okW c∧okW d∧inW mn∧inW mx∧inL subs
def inL : List T→Prop
  | []=>True
  | t :: l=>inT t∧inL l
end
theorem inL_of : ∀ {l : List T},(∀ t ∈ l,inT t)→inL l
  | [],_=>trivial
  | t :: l,h=>⟨h t (by simp),inL_of fun u hu=>h u (by simp [hu])⟩

section
variable {H : Type} {enc : TypeId × Value→H} {W : World} {sp : Nat→Bool}
theorem wf_i64 {n : Int} (h : (Lit.int .i64 n).wf=true) : inW n:=by
  simp [Lit.wf,IntKind.min,IntKind.max,IntKind.signed,IntKind.bits] at h
  unfold inW;omega
theorem wf_u64 {n : Int} (h : (Lit.int .u64 n).wf=true) : okW n:=by
  simp [Lit.wf,IntKind.min,IntKind.max,IntKind.signed,IntKind.bits] at h
  unfold okW;omega
def NoA : Nat→Prop:=fun _=>False
def RDs (W : World) (vs : List Value) (ds : List DV) : Prop:=vs.length=ds.length∧∀ (j : Nat) (v : Value) (d : DV),vs[j]?=some v→ds[j]?=some d→RD W NoA v d
theorem RDs.nil : RDs W [] []:=⟨rfl,fun j v d h=>by simp at h⟩
theorem RDs.cons {v : Value} {d : DV} {vs : List Value} {ds : List DV} (h : RD W NoA v d) (hs : RDs W vs ds) : RDs W (v :: vs) (d :: ds):=by
  refine ⟨by simp [hs.1],fun j v' d' h1 h2=>?_⟩
  cases j with
  | zero=>simp at h1 h2;subst h1;subst h2;exact h
  | succ j=>exact hs.2 j v' d' (by simpa using h1) (by simpa using h2)

theorem cells_at {a : Addr} {n : Nat} {cs : List Value} (h : W.cells? 0 a n=some cs) : cs.length=n∧∀ j,j < n→cs[j]?=W.cell? (a.add j):=by
  unfold World.cells? at h
  rw [if_pos (Nat.zero_le _)] at h
  refine ⟨by simpa using mapM_some_length h,fun j hj=>?_⟩
  exact (mapM_some_get h j j (by simp [hj])).symm
theorem cell_spot {a : Addr} {v : Value} (h : W.cell? a=some v) : a=⟨a.block,a.off,none⟩:=by
  obtain ⟨b,o,s⟩:=a
  unfold World.cell? at h
  split at h
  · split at h
    · cases h
    · rename_i hs
      cases s with
      | none=>rfl
      | some _=>simp at hs
  · cases h

theorem addr_add2 (b o m k : Nat) : (((⟨b,o,none⟩ : Addr).add m).add k)=⟨b,o + (m + k),none⟩:=by
  unfold Addr.add
  split<;>split<;>simp_all<;>omega
theorem elems_open {sz : Nat} (hsz : 0 < sz) {a : Addr} {α : Type} {P : α→Prop} {en : α→List DV} (hen : ∀ x,(en x).length=sz) : ∀ (len : Nat),(∀ i,i < len→∃ cs x,W.cells? 0 (a.add (i * sz)) sz=some cs∧P x∧RDs W cs (en x)) →
    ∃ l : List α,l.length=len∧(∀ x ∈ l,P x)∧∀ j,j < len * sz→∃ v d,W.cell? ⟨a.block,a.off + j,none⟩=some v∧(l.flatMap en)[j]?=some d∧RD W NoA v d
  | 0,_=>⟨[],rfl,by simp,fun j hj=>by omega⟩
  | len + 1,h=>by
    obtain ⟨l,h1,h2,h3⟩:=elems_open hsz hen len fun i hi=>h i (by omega)
    obtain ⟨cs,x,h4,h5,h6⟩:=h len (by omega)
    obtain ⟨h7,h8⟩:=cells_at h4
    have hspot : a=⟨a.block,a.off,none⟩:=by
      obtain ⟨cs0,x0,g4,_,_⟩:=h 0 (by omega)
      obtain ⟨g7,g8⟩:=cells_at g4
      have g9:=g8 0 hsz
      rw [List.getElem?_eq_getElem (by omega)] at g9
      have:=cell_spot g9.symm
      simpa [Addr.add] using this
    have hfl : ∀ m : List α,(m.flatMap en).length=m.length * sz:=by
      intro m
      induction m with
      | nil=>simp
      | cons y m ih=>simp [ih,hen,Nat.succ_mul];omega
    refine ⟨l++[x],by simp [h1],fun y hy=>?_,fun j hj=>?_⟩
    · rcases List.mem_append.1 hy with hy | hy
      · exact h2 y hy
      · simp at hy;subst hy;exact h5
    · rcases Nat.lt_or_ge j (len * sz) with hlt | hge
      · obtain ⟨v,d,g1,g2,g3⟩:=h3 j hlt
        refine ⟨v,d,g1,?_,g3⟩
        rw [List.flatMap_append,List.getElem?_append_left (by rw [hfl,h1];exact hlt)]
        exact g2
      · have hj2 : j - len * sz < sz:=by rw [Nat.succ_mul] at hj;omega
        have g1:=h8 (j - len * sz) hj2
        rw [List.getElem?_eq_getElem (by omega)] at g1
        have hl6:=h6.1
        have hx : (en x)[j - len * sz]?=some (en x)[j - len * sz]:=List.getElem?_eq_getElem (by rw [hen];exact hj2)
        refine ⟨cs[j - len * sz],(en x)[j - len * sz],?_,?_,h6.2 _ _ _ (List.getElem?_eq_getElem (by omega)) hx⟩
        · rw [g1]
          congr 1
          have e : len * sz + (j - len * sz)=j:=by omega
          have h9:=addr_add2 a.block a.off (len * sz) (j - len * sz)
          rw [← hspot,e] at h9
          exact h9.symm
        · rw [List.flatMap_append,List.getElem?_append_right (by rw [hfl,h1];exact hge),hfl,h1]
          simpa using hx
theorem encL_flat : ∀ l : List T,encL l=l.flatMap encN
  | []=>rfl
  | t :: l=>by simp [encL,encL_flat l]

theorem len8 {cs : List Value} (h : cs.length=8) : ∃ a b c d e f g i,cs=[a,b,c,d,e,f,g,i]:=by
  match cs,h with
  | [a,b,c,d,e,f,g,i],_=>exact ⟨a,b,c,d,e,f,g,i,rfl⟩

theorem node_open : ∀ (fuel : Nat) (cs : List Value) (x : DataW H × List MemPlace),DataW.trod enc Tryz.prog W 0 sp true fuel 27 cs=some x→∃ t : T,inT t∧RDs W cs (encN t):=by
  intro fuel
  induction fuel using Nat.strongRecOn with
  | ind fuel ih =>
  intro cs x h
  obtain ⟨xs,n,rfl,_,hl,hxl,hf⟩:=DataW.trod_struct Tryz.underlying27 h
  rw [cells_27] at hl
  obtain ⟨c0,c1,c2,c3,c4,c5,c6,c7,rfl⟩:=len8 hl
  have hx : ∀ i,i < 5→∃ y,xs[i]?=some y:=fun i hi=>⟨_,List.getElem?_eq_getElem (by rw [hxl];exact hi)⟩
  obtain ⟨y0,e0⟩:=hx 0 (by omega)
  obtain ⟨y1,e1⟩:=hx 1 (by omega)
  obtain ⟨y2,e2⟩:=hx 2 (by omega)
  obtain ⟨y3,e3⟩:=hx 3 (by omega)
  obtain ⟨y4,e4⟩:=hx 4 (by omega)
  have f0:=hf 0 _ rfl
  have f1:=hf 1 _ rfl
  have f2:=hf 2 _ rfl
  have f3:=hf 3 _ rfl
  have f4:=hf 4 _ rfl
  simp only [cells_3,cells_24,cells_25,List.drop_succ_cons,List.drop_zero,List.take_succ_cons,List.take_zero,e0,e1,e2,e3,e4] at f0 f1 f2 f3 f4
  obtain ⟨k,g0,_,w0⟩:=DataW.trod_int Tryz.underlying3 f0
  obtain ⟨mn,g2,_,w2⟩:=DataW.trod_int Tryz.underlying3 f2
  obtain ⟨mx,g3,_,w3⟩:=DataW.trod_int Tryz.underlying3 f3
  obtain ⟨ws,m,rfl,_,hl1,hwl,hw⟩:=DataW.trod_array Tryz.underlying24 f1
  have hy : ∀ i,i < 4→∃ y,ws[i]?=some y:=fun i hi=>⟨_,List.getElem?_eq_getElem (by rw [hwl];exact hi)⟩
  obtain ⟨z0,k0⟩:=hy 0 (by omega)
  obtain ⟨z1,k1⟩:=hy 1 (by omega)
  obtain ⟨z2,k2⟩:=hy 2 (by omega)
  obtain ⟨z3,k3⟩:=hy 3 (by omega)
  have q0:=hw 0 (by omega)
  have q1:=hw 1 (by omega)
  have q2:=hw 2 (by omega)
  have q3:=hw 3 (by omega)
  simp only [cells_22,Nat.zero_mul,Nat.one_mul,Nat.mul_one,List.drop_succ_cons,List.drop_zero,List.take_succ_cons,List.take_zero,k0,k1,k2,k3] at q0 q1 q2 q3
  obtain ⟨a,a0,_,v0⟩:=DataW.trod_int Tryz.underlying22 q0
  obtain ⟨b,a1,_,v1⟩:=DataW.trod_int Tryz.underlying22 q1
  obtain ⟨c,a2,_,v2⟩:=DataW.trod_int Tryz.underlying22 q2
  obtain ⟨d,a3,_,v3⟩:=DataW.trod_int Tryz.underlying22 q3
  have one : ∀ {u v : Value},[u]=[v]→u=v:=fun h=>by cases h;rfl
  have s0:=one g0;have s2:=one g2;have s3:=one g3
  have t0:=one a0;have t1:=one a1;have t2:=one a2;have t3:=one a3
  subst s0 s2 s3 t0 t1 t2 t3
  have fin : ∀ subs : List T,inL subs→RD W NoA c7 (.sl (encL subs) subs.length)→∃ t : T,inT t∧RDs W [.int .i64 k,.int .u64 a,.int .u64 b,.int .u64 c,.int .u64 d,.int .i64 mn,.int .i64 mx,c7] (encN t):=by
    intro subs hs hr
    refine ⟨.node k a b c d mn mx subs,⟨wf_i64 w0,wf_u64 v0,wf_u64 v1,wf_u64 v2,wf_u64 v3,wf_i64 w2,wf_i64 w3,hs⟩,?_⟩
    exact .cons (.val _ rfl) (.cons (.val _ rfl) (.cons (.val _ rfl) (.cons (.val _ rfl) (.cons (.val _ rfl) (.cons (.val _ rfl) (.cons (.val _ rfl) (.cons hr .nil)))))))
  rcases DataW.trod_slice Tryz.underlying25 f4 with ⟨g4,_⟩ | ⟨ad,len,cap,elems,rest,n',hn',g4,_,_,hlc,_,hel,hr,_⟩
  · have:=one g4;subst this
    exact fin [] trivial (.sl0 none 0)
  · have:=one g4;subst this
    have hall : ∀ i,i < len→∃ cs t,W.cells? 0 (ad.add (i * 8)) 8=some cs∧inT t∧RDs W cs (encN t):=by
      intro i hi
      have h1:=hr i hi
      rw [cells_27,List.getElem?_eq_getElem (by omega)] at h1
      obtain ⟨cs,h2,h3⟩:=Option.bind_eq_some_iff.1 h1
      obtain ⟨t,h4,h5⟩:=ih n' (by omega) cs _ h3
      exact ⟨cs,t,h2,h4,h5⟩
    obtain ⟨l,h1,h2,h3⟩:=elems_open (sz:=8) (by omega) encN_len len hall
    refine fin l (inL_of h2) ?_
    rw [h1]
    by_cases h0 : len=0
    · subst h0
      rw [List.length_eq_zero_iff.1 h1]
      exact .sl0 _ _
    · have hsp : ad=⟨ad.block,ad.off,none⟩:=by
        obtain ⟨cs,t,g1,_,g2⟩:=hall 0 (by omega)
        obtain ⟨g7,g8⟩:=cells_at g1
        have g9:=g8 0 (by omega)
        rw [List.getElem?_eq_getElem (by omega)] at g9
        have:=cell_spot g9.symm
        simpa [Addr.add] using this
      rw [hsp]
      have hlen : (encL l).length=len * 8:=by rw [encL_len,h1]
      refine .sl ad.block ad.off len cap (encL l) (fun j=>(W.cell? ⟨ad.block,ad.off + j,none⟩).getD undef) (fun h=>h) (by omega) hlc (fun j hj=>?_) (fun j hj=>?_)
      · obtain ⟨v,_,g1,_⟩:=h3 j (by omega)
        rw [g1];rfl
      · obtain ⟨v,dd,g1,g2,g3⟩:=h3 j (by omega)
        rw [g1]
        rw [← encL_flat,List.getElem?_eq_getElem hj] at g2
        cases g2
        exact g3
end
end Go.Sv
namespace Go.Sv
open Go
set_option linter.unusedVariables false

mutual
theorem fits_open : ∀ (t : T) (left : Int),fitsT t left=true↔(0≤openT t∧openT t≤left)
  | .node k a b c d mn mx subs,left=>by
    have ih:=fitsL_open k subs left 0 (Int.le_refl _)
    simp only [fitsT,openT]
    by_cases hp : plainT (.node k a b c d mn mx subs)=true
    · rw [if_pos hp]
      simp only [Bool.and_eq_true,decide_eq_true_eq,hp,and_true]
      exact ih
    · rw [if_neg hp]
      simp only [Bool.and_eq_true,decide_eq_true_eq]
      constructor
      · rintro ⟨⟨_,h⟩,_⟩;exact absurd h hp
      · rintro ⟨h,_⟩;omega
theorem fitsL_open (k : Int) : ∀ (l : List T) (left m : Int),0≤m→((m≤left∧fitsL k l left=true)↔(0≤openL k l m∧openL k l m≤left))
  | [],left,m,hm=>by
    have e : (fitsL k [] left=true)=True:=by simp [fitsL]
    simp only [openL,e,and_true];omega
  | t :: l,left,m,hm=>by
    have h1:=fits_open t (if roundG k t.kind=true then left - 1 else left)
    simp only [fitsL,openL,Bool.and_eq_true]
    rw [h1]
    by_cases hn : openT t < 0
    · rw [if_pos hn];omega
    · rw [if_neg hn]
      have h2:=fitsL_open k l left (max m (if roundG k t.kind=true then openT t + 1 else openT t)) (by split<;>omega)
      rw [← h2]
      by_cases hf : fitsL k l left=true
      · simp only [hf,and_true];split<;>omega
      · simp only [hf,and_false];simp
end
theorem right_fits (t : T) : rightT t=fitsT t 12:=by
  rw [Bool.eq_iff_iff,fits_open]
  simp [rightT]
mutual
theorem ok_of_open : ∀ (t : T),inT t→0≤openT t→okT t
  | .node k a b c d mn mx subs,h,ho=>by
    simp only [inT] at h
    obtain ⟨_,ha,hb,hc,hd,_,_,hs⟩:=h
    simp only [openT] at ho
    split at ho
    · rename_i hp
      refine ⟨⟨ha,hb,hc,hd,hp⟩,okL_of_open k subs hs 0 ho⟩
    · omega
theorem okL_of_open (k : Int) : ∀ (l : List T),inL l→∀ m : Int,0≤openL k l m→okL l
  | [],_,_,_=>trivial
  | t :: l,h,m,ho=>by
    simp only [inL] at h
    simp only [openL] at ho
    split at ho
    · omega
    · exact ⟨ok_of_open t h.1 (by omega),okL_of_open k l h.2 _ ho⟩
end
theorem ok_of_right {t : T} (h : inT t) (hr : rightT t=true) : okT t:=ok_of_open t h (by simp [rightT] at hr;omega)
end Go.Sv
namespace Go.Sv
open Go Go.Proofs
set_option maxRecDepth 100000
end Go.Sv
namespace Go.Sv
open Go Go.Proofs
set_option maxRecDepth 100000
set_option maxHeartbeats 4000000
attribute [local irreducible] W E R KP thenK blockK retK Good xwp aRun
theorem few_cnt {t : T} (h : sizeT t 601≤200) : t.cnt≤200:=by
  have:=sizeT_cnt t 601 (by omega)
  omega
theorem all_ref (s : ByteArray) (t : T) (hf : fitsT t 12=true) (hok : okT t) (j : Nat) (hj : j≤s.size) : allG s t j=rallG s t j:=by
  have : 0≤((j : Nat) : Int)∧((j : Nat) : Int)≤s.size:=by omega
  simp only [allG,hf,this,and_self,if_true,Int.toNat_natCast,rallG]
  rw [step_ref s t hok (by simp)]
end Go.Sv
namespace Go.Sv
open Go Go.Proofs
set_option maxRecDepth 100000
set_option maxHeartbeats 4000000
attribute [local irreducible] W E R KP thenK blockK retK Good xwp aRun
def zT : T:=.node 0 0 0 0 0 0 0 []
end Go.Sv
namespace Go.Sv
open Go Go.Proofs
section
variable {P : Program} {Q : Cont} {fr : Fr} {C : Heap} {Z : Frz} {nx : Nat} {base n d0 : Nat} {l : List (Nat × XO)} {kp : Option (List Nat)} {x y : X}
theorem r_callv {f : FuncId} {g : X} {xs : List X} {ags : List AV} {r : AV} (hf : g.ev fr=.d (.fn f [])) (ha : xs.map (X.ev fr)=ags) (hn : ags.all AV.nrm=true) (hg : Good P f ags none r none none)
    (k : R P l base kp Q nx (fr.put d0 r) C Z) : R P ((n,⟨some d0,none,.callv g xs⟩) :: l) base kp Q nx fr C Z:=by
  refine ⟨r,C,Z,.inl ⟨rfl,f,[],.inr ⟨[],hf,rfl⟩,?_⟩,k⟩
  subst ha
  refine ⟨_,[],r,none,none,by rw [List.append_nil];exact convAs_nrm _ hn,hg,rfl,fun h=>(by cases h),rfl,rfl,?_⟩
  simp [Frz.add_nil]
end
set_option maxRecDepth 100000
set_option maxHeartbeats 4000000
attribute [local irreducible] W E R KP thenK blockK retK Good xwp aRun
end Go.Sv
namespace Go.Sv
open Go Go.Proofs
set_option maxRecDepth 100000
set_option maxHeartbeats 4000000
attribute [local irreducible] W E R KP thenK blockK retK Good xwp aRun
end Go.Sv
namespace Go.Sv
open Go
theorem L_k1 {a b c d mn mx : Int} {subs : List T} {w : List Nat} : L (.node 1 a b c d mn mx subs) w↔w=[]:=by simp [L]
theorem L_k2 {a b c d mn mx : Int} {subs : List T} {w : List Nat} : L (.node 2 a b c d mn mx subs) w↔∃ x,w=[x]∧inG a b c d x=true:=by simp [L]
theorem L_k3 {a b c d mn mx : Int} {subs : List T} {w : List Nat} : L (.node 3 a b c d mn mx subs) w↔catL subs w:=by simp [L]
theorem L_k4 {a b c d mn mx : Int} {subs : List T} {w : List Nat} : L (.node 4 a b c d mn mx subs) w↔altL subs w:=by simp [L]
theorem L_k5 {a b c d mn mx : Int} {subs : List T} {w : List Nat} : L (.node 5 a b c d mn mx subs) w↔∃ r : Nat,mn≤r∧(mx < 0 ∨ (r : Int)≤mx)∧powL (fstL subs) r w:=by simp [L]
theorem catL_app : ∀ (l r : List T) (w : List Nat),catL (l++r) w↔∃ u v,w=u++v∧catL l u∧catL r v
  | [],r,w=>by
    simp only [List.nil_append,catL]
    constructor
    · intro h;exact ⟨[],w,rfl,rfl,h⟩
    · rintro ⟨u,v,rfl,rfl,h⟩;exact h
  | t :: l,r,w=>by
    simp only [List.cons_append,catL]
    constructor
    · rintro ⟨u,v,rfl,h1,h2⟩
      obtain ⟨a,b,rfl,h3,h4⟩:=(catL_app l r v).1 h2
      exact ⟨u++a,b,by simp,⟨u,a,rfl,h1,h3⟩,h4⟩
    · rintro ⟨_,v,rfl,⟨u,a,rfl,h1,h3⟩,h4⟩
      exact ⟨u,a++v,by simp,h1,(catL_app l r _).2 ⟨a,v,rfl,h3,h4⟩⟩
theorem altL_app : ∀ (l r : List T) (w : List Nat),altL (l++r) w↔altL l w ∨ altL r w
  | [],r,w=>by simp [altL]
  | t :: l,r,w=>by simp only [List.cons_append,altL,altL_app l r w,or_assoc]
theorem catL_one (t : T) (w : List Nat) : catL [t] w↔L t w:=by
  simp only [catL]
  constructor
  · rintro ⟨u,v,rfl,h,rfl⟩;simpa using h
  · intro h;exact ⟨w,[],by simp,h,rfl⟩
theorem powL_congr {P Q : List Nat→Prop} (h : ∀ w,P w↔Q w) : ∀ (n : Nat) (w : List Nat),powL P n w↔powL Q n w
  | 0,w=>Iff.rfl
  | n + 1,w=>by simp only [powL,h,powL_congr h n]
theorem powL_add (P : List Nat→Prop) : ∀ (a b : Nat) (w : List Nat),powL P (a + b) w↔∃ u v,w=u++v∧powL P a u∧powL P b v
  | 0,b,w=>by
    rw [Nat.zero_add];simp only [powL]
    constructor
    · intro h;exact ⟨[],w,rfl,rfl,h⟩
    · rintro ⟨u,v,rfl,rfl,h⟩;exact h
  | a + 1,b,w=>by
    rw [Nat.succ_add];simp only [powL]
    constructor
    · rintro ⟨u,v,rfl,h1,h2⟩
      obtain ⟨p,q,rfl,h3,h4⟩:=(powL_add P a b v).1 h2
      exact ⟨u++p,q,by simp,⟨u,p,rfl,h1,h3⟩,h4⟩
    · rintro ⟨_,v,rfl,⟨u,p,rfl,h1,h3⟩,h4⟩
      exact ⟨u,p++v,by simp,h1,(powL_add P a b _).2 ⟨p,v,rfl,h3,h4⟩⟩
theorem plainT_5 {a b c d mn mx : Int} {subs : List T} (h : plainT (.node 5 a b c d mn mx subs)=true) : ∃ u,subs=[u]:=by
  simp [plainT] at h
  obtain ⟨_,h⟩:=h
  match subs,h with
  | [u],_=>exact ⟨u,rfl⟩
theorem okT_plain {k a b c d mn mx : Int} {subs : List T} (h : okT (.node k a b c d mn mx subs)) : plainT (.node k a b c d mn mx subs)=true:=by
  simp only [okT,okN] at h;exact h.1.2.2.2.2
theorem okT_subs {k a b c d mn mx : Int} {subs : List T} (h : okT (.node k a b c d mn mx subs)) : okL subs:=by
  simp only [okT] at h;exact h.2
theorem plainT_leaf {k a b c d mn mx : Int} {subs : List T} (hk : k=1 ∨ k=2) (h : plainT (.node k a b c d mn mx subs)=true) : subs=[]:=by
  cases subs with
  | nil=>rfl
  | cons x l=>exfalso;rcases hk with rfl | rfl<;>simp [plainT] at h
theorem okW_0 : okW 0:=by unfold okW;omega
theorem okT_mk {k mn mx : Int} {subs : List T} (h : plainT (.node k 0 0 0 0 mn mx subs)=true) (hs : okL subs) : okT (.node k 0 0 0 0 mn mx subs):=by
  simp only [okT,okN];exact ⟨⟨okW_0,okW_0,okW_0,okW_0,h⟩,hs⟩
theorem okL_iff : ∀ (l : List T),okL l↔∀ t ∈ l,okT t
  | []=>by simp [okL]
  | t :: l=>by simp [okL,okL_iff l]
theorem okT_empty : okT (.node 1 0 0 0 0 0 0 []):=okT_mk (by simp [plainT,isZero]) trivial
theorem cntL_app : ∀ (l r : List T),cntL (l++r)=cntL l + cntL r
  | [],r=>by simp [cntL]
  | t :: l,r=>by rw [List.cons_append,cntL,cntL_app l r,cntL];omega
theorem cntL_take (l : List T) (i : Nat) (h : i < l.length) : cntL (l.take (i + 1))=cntL (l.take i) + l[i].cnt:=by
  rw [List.take_succ_eq_append_getElem h,cntL_app,cntL,cntL];omega
theorem cntL_take_le (l : List T) (i : Nat) : cntL (l.take i)≤cntL l:=by
  have:=cntL_app (l.take i) (l.drop i)
  rw [List.take_append_drop] at this;omega
end Go.Sv
namespace Go.Sv
open Go Go.Proofs
theorem convAs_app {C : Heap} {ex : Nat→Bool} : ∀ {l r l' r' : List AV} {u v : List Nat},convAs C ex l=some (l',u)→convAs C ex r=some (r',v)→convAs C ex (l++r)=some (l'++r',u++v)
  | [],r,l',r',u,v,h1,h2=>by cases h1;exact h2
  | x :: l,r,l',r',u,v,h1,h2=>by
    simp only [convAs] at h1
    obtain ⟨⟨p,q⟩,h3,h4⟩:=Option.bind_eq_some_iff.1 h1
    obtain ⟨⟨p',q'⟩,h5,h6⟩:=Option.map_eq_some_iff.1 h4
    cases h6
    simp only [List.cons_append,convAs,h3,Option.bind_some,convAs_app h5 h2,Option.map_some,List.append_assoc]
theorem convAs_encL {C : Heap} {ex : Nat→Bool} (l : List T) : convAs C ex ((encL l).map AV.d)=some ((encL l).map AV.d,[]):=by
  rw [convAs_d]
  have : (encL l).map (fun x=>AV.d x.norm)=((encL l).map DV.norm).map AV.d:=by rw [List.map_map];rfl
  rw [this,encL_norm]
theorem isD_encL (l : List T) : ((encL l).map AV.d).all AV.isD=true:=by rw [List.all_map];simp [AV.isD]
set_option maxRecDepth 100000
set_option maxHeartbeats 4000000
attribute [local irreducible] W E R KP thenK blockK retK Good xwp aRun
end Go.Sv
namespace Go.Sv
open Go
set_option linter.unusedVariables false
def rhoM (n : Nat) : List (Nat × Nat)→Nat→Nat
  | [],k=>rho n k
  | (b,c) :: σ,k=>cond (Nat.beq k b) c (rhoM n σ k)
def vtM (vs : List Nat) (k : Nat) : Bool:=vs.any (Nat.beq k)
theorem beq_false {k b : Nat} (h : k ≠ b) : Nat.beq k b=false:=by
  cases e : Nat.beq k b with
  | false=>rfl
  | true=>exact absurd (Nat.eq_of_beq_eq_true e) h
theorem rhoM_ge {n k : Nat} : ∀ {σ : List (Nat × Nat)},(σ.all fun p=>Nat.blt p.1 n)=true→¬ k < n→rhoM n σ k=1000000
  | [],_,h=>rho_ge h
  | (b,c) :: σ,hs,h=>by
    simp only [List.all_cons,Bool.and_eq_true] at hs
    have : b < n:=Eq.mp Nat.blt_eq hs.1
    rw [rhoM,beq_false (by omega)]
    exact rhoM_ge hs.2 h
theorem wkM {C : Heap} {Z : Frz} {nx nx' : Nat} {fr fr' : Fr} (σ : List (Nat × Nat)) (vs : List Nat) {rows : List (Nat × List AV)} {hot : List Nat} (h0 : (Nat.blt 0 nx' && (Nat.beq (rhoM nx' σ 0) 0 && (!(vtM vs 0) && σ.all fun p=>Nat.blt p.1 nx')))=true)
    (h : ∀ p ∈ rows,p.1 < nx'∧((vtM vs p.1=true∧p.2=[]) ∨ (vtM vs p.1=false∧∃ r,C (rhoM nx' σ p.1)=some r∧LWk (rhoM nx' σ) (vtM vs) nx' r p.2)))
    (hh : ∀ k ∈ hot,Z (rhoM nx' σ k)=false)
    (hinj : ((rows.map (·.1)).all fun a=>(rows.map (·.1)).all fun b=>Nat.beq a b || (!(Nat.beq (rhoM nx' σ a) (rhoM nx' σ b)) || (vtM vs a || vtM vs b)))=true)
    (hf : FWk (rhoM nx' σ) (vtM vs) nx' fr fr') (hN : Z 1000000=false:=by rfl) :
    Wk ⟨fr,C,Z,nx⟩ ⟨fr',rowsOf rows,Frz.buts nx' hot,nx'⟩:=by
  simp only [Bool.and_eq_true,Bool.not_eq_true'] at h0
  obtain ⟨a1,a2,a3,a4⟩:=h0
  have a1 : 0 < nx':=Eq.mp Nat.blt_eq a1
  refine ⟨rhoM nx' σ,vtM vs,⟨Nat.eq_of_beq_eq_true a2,a3,a1⟩,hf,fun e s he=>?_,fun e e' r1 r2 h1 h2 v1 v2 hee=>?_,fun e hc=>?_⟩
  · obtain ⟨g1,g2⟩:=h _ (rowsOf_mem he)
    refine ⟨g1,?_⟩
    rcases g2 with ⟨q1,q3⟩ | ⟨q1,r,q2,q3⟩
    · simp only at q3
      exact .inl ⟨q1,q3⟩
    · refine .inr ⟨q1,r,q2,q3.len,q3.get,fun hz'=>?_⟩
      by_cases hm : e ∈ hot
      · exact hh e hm
      · have : Frz.buts nx' hot e=true:=buts_lt g1 hm
        simp only at hz'
        rw [this] at hz';cases hz'
  · have k1:=List.all_eq_true.1 hinj e (List.mem_map.2 ⟨_,rowsOf_mem h1,rfl⟩)
    have k2:=List.all_eq_true.1 k1 e' (List.mem_map.2 ⟨_,rowsOf_mem h2,rfl⟩)
    simp only [Bool.or_eq_true,Bool.not_eq_true'] at k2
    rcases k2 with k2 | k2 | k2 | k2
    · exact Nat.eq_of_beq_eq_true k2
    · have : Nat.beq (rhoM nx' σ e) (rhoM nx' σ e')=true:=by rw [hee];exact Nat.beq_refl _
      rw [this] at k2;cases k2
    · rw [v1] at k2;cases k2
    · rw [v2] at k2;cases k2
  · by_cases hlt : e < nx'
    · refine buts_lt hlt fun hm=>?_
      have:=hh e hm
      simp only at hc
      rw [this] at hc;cases hc
    · simp only [rhoM_ge a4 hlt,hN] at hc;cases hc

section
variable {P : Program} {Q : Cont} {fr : Fr} {C : Heap} {Z : Frz} {nx : Nat} {base n d : Nat} {l : List (Nat × XO)} {kp : Option (List Nat)} {x i y s : X}
theorem xl_live {b off : Nat} {cs : List DV} {m : Option Nat} (hx : x.ev fr=.ptrL b off) (hC : C b=some (cs.map AV.d)) : xl fr C (.load m x)=xl (Fr.nil.put 0 (.d (.ptr cs off))) C (.load m (.t 0)):=by
  simp only [xl,hx,rowOf,hC,Option.map_some,Option.bind_some]
  rfl
theorem r_ixN {b m j : Nat} {e : Int} (hx : x.ev fr=.slL b 0 m 8) (hi : i.ev fr=.i e) (he : e=(j : Nat)) (hj : j < m) (k : R P l base kp Q nx (fr.put d (.ptrL b (j * 8))) C Z) : R P ((n,⟨some d,none,.idxS 8 x i⟩) :: l) base kp Q nx fr C Z:=by
  subst he
  refine r_p ?_ k
  simp [xp,hx,hi,intIn,hj]
theorem r_ldN {b off : Nat} {cs : List DV} {t : T} (hx : x.ev fr=.ptrL b off) (hC : C b=some (cs.map AV.d)) (hn : NodeAt cs off t) (k : R P l base kp Q nx (fr.put d (nodeA t)) C Z) : R P ((n,⟨some d,none,.load (some 8) x⟩) :: l) base kp Q nx fr C Z:=by
  refine r_l ?_ k
  rw [xl_live hx hC]
  exact ld_node' hn rfl
theorem r_ldNk {b off : Nat} {cs : List DV} {t : T} (hx : x.ev fr=.ptrL b (off + 0)) (hC : C b=some (cs.map AV.d)) (hn : NodeAt cs off t) (k : R P l base kp Q nx (fr.put d (.i t.kind)) C Z) : R P ((n,⟨some d,none,.load none x⟩) :: l) base kp Q nx fr C Z:=by
  refine r_l ?_ k
  rw [xl_live hx hC]
  exact ld_kind' hn rfl
theorem r_ldNw {b off : Nat} {cs : List DV} {k0 a0 b0 c0 d0 mn mx : Int} {subs : List T} (hx : x.ev fr=.ptrL b (off + 1)) (hC : C b=some (cs.map AV.d)) (hn : NodeAt cs off (.node k0 a0 b0 c0 d0 mn mx subs)) (k : R P l base kp Q nx (fr.put d (.agg [.d (.val (.int .u64 a0)),.d (.val (.int .u64 b0)),.d (.val (.int .u64 c0)),.d (.val (.int .u64 d0))])) C Z) : R P ((n,⟨some d,none,.load (some 4) x⟩) :: l) base kp Q nx fr C Z:=by
  refine r_l ?_ k
  rw [xl_live hx hC]
  exact ld_set hn rfl
theorem r_mkN {t : T} {id : Nat} (hx : x.ev fr=nodeA t) (hid : base + n=id) (k : R P l base kp Q nx (fr.put d (.slL id 0 1 8)) (C.put id ((encL [t]).map AV.d)) Z) : R P ((n,⟨some d,none,.mkrow [.int .i64 0,.int .u64 0,.int .u64 0,.int .u64 0,.int .u64 0,.int .i64 0,.int .i64 0,.slice none 0 0] 1 8 [(0,8,x)]⟩) :: l) base kp Q nx fr C Z:=by
  subst hid
  refine r_n (v:=.slL (base + n) 0 1 8) (r:=(encL [t]).map AV.d) ?_ k
  obtain ⟨k0,a0,b0,c0,d0,mn,mx,subs⟩:=t
  simp only [xn,List.map_cons,List.map_nil,hx]
  rfl
theorem r_appE {b c id m j : Nat} {K L : List T} (hs : s.ev fr=.slL b 0 m 8) (hx : x.ev fr=.slL c 0 j 8) (hC : C b=some ((encL K).map AV.d)) (hCc : C c=some ((encL L).map AV.d)) (hm : K.length=m) (hj : L.length=j) (hz : Z b=false) (hid : base + n=id) (hb : m + j≤100000000)
    (k : R P l base kp Q nx (fr.put d (.slL id 0 (m + j) 8)) ((C.del b).put id ((encL (K++L)).map AV.d)) Z) : R P ((n,⟨some d,none,.app [.int .i64 0,.int .u64 0,.int .u64 0,.int .u64 0,.int .u64 0,.int .i64 0,.int .i64 0,.slice none 0 0] 80 s x⟩) :: l) base kp Q nx fr C Z:=by
  refine r_appN hs hx hC hCc (by rw [List.length_map,encL_length,hm]) (by rw [List.length_map,encL_length,hj]) (one_encL L) hz hid hb ?_
  rw [encL_app,List.map_append] at k
  exact k
theorem r_appD {b id m j : Nat} {K L : List T} (hs : s.ev fr=.slL b 0 m 8) (hx : x.ev fr=.d (.sl (encL L) j)) (hC : C b=some ((encL K).map AV.d)) (hm : K.length=m) (hj : L.length=j) (hz : Z b=false) (hid : base + n=id) (hb : m + j≤100000000)
    (k : R P l base kp Q nx (fr.put d (.slL id 0 (m + j) 8)) ((C.del b).put id ((encL (K++L)).map AV.d)) Z) : R P ((n,⟨some d,none,.app [.int .i64 0,.int .u64 0,.int .u64 0,.int .u64 0,.int .u64 0,.int .i64 0,.int .i64 0,.slice none 0 0] 80 s x⟩) :: l) base kp Q nx fr C Z:=by
  subst hid hm hj
  refine r_w (v:=.slL (base + n) 0 (K.length + L.length) 8) (C':=(C.del b).put (base + n) ((encL (K++L)).map AV.d)) ?_ k
  have h2 : srcOf C 8 (.d (.sl (encL L) L.length))=some ((encL L).map AV.d,L.length):=by
    unfold srcOf
    split
    · rename_i e;cases e
    · rename_i e;cases e;rw [if_pos (encL_length L)]
    · rename_i e;cases e
    · rename_i h1 h2 h3;exact absurd rfl (h2 _ _)
  simp only [xw,List.length_cons,List.length_nil,Nat.zero_add,Nat.reduceAdd,hx,h2,Option.bind_some,hs,hC]
  rw [if_pos (one_encL L),if_pos ⟨trivial,hz,by rw [List.length_map,encL_length];omega,by omega⟩,List.take_of_length_le (by rw [List.length_map,encL_length];omega),encL_app,List.map_append]
theorem conv_rowN {ex : Nat→Bool} {id m : Nat} {L : List T} (hC : C id=some ((encL L).map AV.d)) (hm : L.length=m) (hex : ex id=false) : convC C ex 9 (.slL id 0 m 8)=some (.sl (encL L) m,if m=0 then [] else [id]):=by
  subst hm
  rcases Nat.eq_zero_or_pos L.length with h | h
  · have : L=[]:=List.length_eq_zero_iff.1 h
    subst this
    simp [convC,encL]
  · rw [if_neg (by omega)]
    exact conv_row hC (by rw [List.length_map,encL_length]) h hex (mapO_encL L)
theorem conv_rowA {ex : Nat→Bool} {id m : Nat} {L : List T} (hC : C id=some ((encL L).map AV.d)) (hm : L.length=m) (hex : ex id=false) : convA C ex (.slL id 0 m 8)=some (.d (.sl (encL L) m),if m=0 then [] else [id]):=by
  simp only [convA,conv_rowN hC hm hex,Option.map_some]
end
end Go.Sv
