/- A part of the proof of the law DeriveSimple: that it answers true for every input, and that the input reads behind the call as before (no condition). -/
import Derived.Test.YtcnlgmajkclgjaaDeriveSimpleG7
set_option linter.all false
set_option linter.unusedSectionVars false
set_option linter.unusedVariables false
set_option linter.unusedSimpArgs false
namespace Go.Sv
open Go Go.Proofs
set_option maxRecDepth 100000
def x75 : XC:=(.seq (.ops 1 [ (0,⟨some 0,none,.mv (.k (.d (.val (.bool false))))⟩)] (some [])) (.seq (.ops 8 [ (0,⟨some 16,none,.call 125 [(.k (.d (.val (.string ⟨#[97,98,124,97,99]⟩))))] none false⟩),(1,⟨some 17,none,.call 77 [(.t 16),(.k (.d (.val (.int .u8 97))))] none false⟩),(2,⟨some 15,none,.mv (.t 17)⟩),(3,⟨some 18,none,.ext (.t 15) 0⟩),(4,⟨some 19,none,.ext (.t 15) 1⟩),(5,⟨some 1,none,.alloc [(.int .i64 0),(.int .u64 0),(.int .u64 0),(.int .u64 0),(.int .u64 0),(.int .i64 0),(.int .i64 0),(.slice none 0 0)]⟩),(6,⟨none,none,.store 8 (.t 1) (.t 18)⟩),(7,⟨some 2,none,.mv (.t 19)⟩)] (some [1,2])) (.seq (.ops 8 [ (0,⟨some 21,none,.call 125 [(.k (.d (.val (.string ⟨#[97,42]⟩))))] none false⟩),(1,⟨some 22,none,.call 77 [(.t 21),(.k (.d (.val (.int .u8 97))))] none false⟩),(2,⟨some 20,none,.mv (.t 22)⟩),(3,⟨some 23,none,.ext (.t 20) 0⟩),(4,⟨some 24,none,.ext (.t 20) 1⟩),(5,⟨some 3,none,.alloc [(.int .i64 0),(.int .u64 0),(.int .u64 0),(.int .u64 0),(.int .u64 0),(.int .i64 0),(.int .i64 0),(.slice none 0 0)]⟩),(6,⟨none,none,.store 8 (.t 3) (.t 23)⟩),(7,⟨some 4,none,.mv (.t 24)⟩)] (some [1,2,3])) (.seq (.ops 8 [ (0,⟨some 26,none,.call 125 [(.k (.d (.val (.string ⟨#[97,123,50,125,98]⟩))))] none false⟩),(1,⟨some 27,none,.call 78 [(.t 26),(.k (.d (.val (.string ⟨#[97,97]⟩))))] none false⟩),(2,⟨some 25,none,.mv (.t 27)⟩),(3,⟨some 28,none,.ext (.t 25) 0⟩),(4,⟨some 29,none,.ext (.t 25) 1⟩),(5,⟨some 5,none,.alloc [(.int .i64 0),(.int .u64 0),(.int .u64 0),(.int .u64 0),(.int .u64 0),(.int .i64 0),(.int .i64 0),(.slice none 0 0)]⟩),(6,⟨none,none,.store 8 (.t 5) (.t 28)⟩),(7,⟨some 6,none,.mv (.t 29)⟩)] (some [1,2,3,5])) (.seq (.ops 7 [ (0,⟨some 31,none,.call 125 [(.k (.d (.val (.string ⟨#[40,97,98,41,42]⟩))))] none false⟩),(1,⟨some 32,none,.call 126 [(.t 31),(.k (.d (.val (.string ⟨#[97,98,97,98]⟩))))] none false⟩),(2,⟨some 30,none,.mv (.t 32)⟩),(3,⟨some 33,none,.ext (.t 30) 0⟩),(4,⟨some 34,none,.ext (.t 30) 1⟩),(5,⟨some 7,none,.mv (.t 33)⟩),(6,⟨some 8,none,.mv (.t 34)⟩)] (some [1,2,3,5,7,8])) (.seq (.ops 7 [ (0,⟨some 36,none,.call 125 [(.k (.d (.val (.string ⟨#[97,42,98,63]⟩))))] none false⟩),(1,⟨some 37,none,.call 81 [(.t 36),(.k (.d (.val (.string ⟨#[97,97,99]⟩)))),(.k (.d (.val (.int .i64 0))))] none false⟩),(2,⟨some 35,none,.mv (.t 37)⟩),(3,⟨some 38,none,.ext (.t 35) 0⟩),(4,⟨some 39,none,.ext (.t 35) 1⟩),(5,⟨some 9,none,.mv (.t 38)⟩),(6,⟨some 10,none,.mv (.t 39)⟩)] (some [1,2,3,5,7,8,9,10])) (.seq (.ops 8 [ (0,⟨some 41,none,.build [(.int .i64 0),(.int .u64 0),(.int .u64 0),(.int .u64 0),(.int .u64 0),(.int .i64 0),(.int .i64 0),(.slice none 0 0)] []⟩),(1,⟨some 42,none,.call 77 [(.t 41),(.k (.d (.val (.int .u8 0))))] none false⟩),(2,⟨some 40,none,.mv (.t 42)⟩),(3,⟨some 43,none,.ext (.t 40) 0⟩),(4,⟨some 44,none,.ext (.t 40) 1⟩),(5,⟨some 11,none,.alloc [(.int .i64 0),(.int .u64 0),(.int .u64 0),(.int .u64 0),(.int .u64 0),(.int .i64 0),(.int .i64 0),(.slice none 0 0)]⟩),(6,⟨none,none,.store 8 (.t 11) (.t 43)⟩),(7,⟨some 12,none,.mv (.t 44)⟩)] (some [1,2,3,5,7,8,9,10,12])) (.seq (.ops 7 [ (0,⟨some 46,none,.call 125 [(.k (.d (.val (.string ⟨#[97]⟩))))] none false⟩),(1,⟨some 47,none,.call 81 [(.t 46),(.k (.d (.val (.string ⟨#[97]⟩)))),(.k (.d (.val (.int .i64 2))))] none false⟩),(2,⟨some 45,none,.mv (.t 47)⟩),(3,⟨some 48,none,.ext (.t 45) 0⟩),(4,⟨some 49,none,.ext (.t 45) 1⟩),(5,⟨some 13,none,.mv (.t 48)⟩),(6,⟨some 14,none,.mv (.t 49)⟩)] (some [1,2,3,5,7,8,9,10,12,14])) (.seq (.ops 41 [ (0,⟨some 50,none,.load (some 8) (.t 1)⟩),(1,⟨some 51,none,.call 125 [(.k (.d (.val (.string ⟨#[91,98,99,93]⟩))))] none false⟩),(2,⟨some 52,none,.call 47 [(.t 50),(.t 51)] none false⟩),(3,⟨some 53,none,.mv (.t 52)⟩),(4,⟨some 54,(some (53,true)),.mv (.t 2)⟩),(5,⟨some 55,(some (53,true)),.arith .eql (.t 54) (.k (.d (.val (.int .i64 0))))⟩),(6,⟨some 56,none,.pick (.t 53) (.t 55) (.k (.d (.val (.bool false))))⟩),(7,⟨some 57,none,.mv (.t 56)⟩),(8,⟨some 58,(some (57,true)),.load (some 8) (.t 3)⟩),(9,⟨some 59,(some (57,true)),.call 125 [(.k (.d (.val (.string ⟨#[97,42]⟩))))] none false⟩),(10,⟨some 60,(some (57,true)),.call 47 [(.t 58),(.t 59)] none false⟩),(11,⟨some 61,none,.pick (.t 57) (.t 60) (.k (.d (.val (.bool false))))⟩),(12,⟨some 62,none,.mv (.t 61)⟩),(13,⟨some 63,(some (62,true)),.load (some 8) (.t 5)⟩),(14,⟨some 64,(some (62,true)),.call 125 [(.k (.d (.val (.string ⟨#[98]⟩))))] none false⟩),(15,⟨some 65,(some (62,true)),.call 47 [(.t 63),(.t 64)] none false⟩),(16,⟨some 66,none,.pick (.t 62) (.t 65) (.k (.d (.val (.bool false))))⟩),(17,⟨some 67,none,.mv (.t 66)⟩),(18,⟨some 68,(some (67,true)),.mv (.t 7)⟩),(19,⟨some 69,none,.pick (.t 67) (.t 68) (.k (.d (.val (.bool false))))⟩),(20,⟨some 70,none,.mv (.t 69)⟩),(21,⟨some 71,(some (70,true)),.mv (.t 8)⟩),(22,⟨some 72,(some (70,true)),.arith .eql (.t 71) (.k (.d (.val (.int .i64 0))))⟩),(23,⟨some 73,none,.pick (.t 70) (.t 72) (.k (.d (.val (.bool false))))⟩),(24,⟨some 74,none,.mv (.t 73)⟩),(25,⟨some 75,(some (74,true)),.mv (.t 9)⟩),(26,⟨some 76,(some (74,true)),.arith .eql (.t 75) (.k (.d (.val (.int .i64 2))))⟩),(27,⟨some 77,none,.pick (.t 74) (.t 76) (.k (.d (.val (.bool false))))⟩),(28,⟨some 78,none,.mv (.t 77)⟩),(29,⟨some 79,(some (78,true)),.mv (.t 10)⟩),(30,⟨some 80,(some (78,true)),.arith .eql (.t 79) (.k (.d (.val (.int .i64 0))))⟩),(31,⟨some 81,none,.pick (.t 78) (.t 80) (.k (.d (.val (.bool false))))⟩),(32,⟨some 82,none,.mv (.t 81)⟩),(33,⟨some 83,(some (82,true)),.mv (.t 12)⟩),(34,⟨some 84,(some (82,true)),.arith .eql (.t 83) (.k (.d (.val (.int .i64 1))))⟩),(35,⟨some 85,none,.pick (.t 82) (.t 84) (.k (.d (.val (.bool false))))⟩),(36,⟨some 86,none,.mv (.t 85)⟩),(37,⟨some 87,(some (86,true)),.mv (.t 14)⟩),(38,⟨some 88,(some (86,true)),.arith .eql (.t 87) (.k (.d (.val (.int .i64 2))))⟩),(39,⟨some 89,none,.pick (.t 86) (.t 88) (.k (.d (.val (.bool false))))⟩),(40,⟨some 0,none,.mv (.t 89)⟩)] (some [0])) .ret)))))))))
def md75 : FuncId→Option Nat × Bool
  | _=>(none,false)
def od75 : Nat→List (List Nat) × List Nat × Option (List Nat)
  | 0=>([],[],some [])
  | 1=>([],[],some [1,2])
  | 2=>([],[],some [1,2,3])
  | 3=>([],[],some [1,2,3,5])
  | 4=>([],[],some [1,2,3,5,7,8])
  | 5=>([],[],some [1,2,3,5,7,8,9,10])
  | 6=>([],[],some [1,2,3,5,7,8,9,10,12])
  | 7=>([],[],some [1,2,3,5,7,8,9,10,12,14])
  | 8=>([[],[],[0,1],[0,1,2],[0,1,2,3],[0,1,2,3,4],[0,1,2,3,4,5],[0,1,2,3,4,5,6],[0,1,2,3,4,5,6,7],[0,1,2,3,4,5,6,7],[0,1,2,3,4,5,6,7,8,9],[0,1,2,3,4,5,6,7,8,9,10],[0,1,2,3,4,5,6,7,8,9,10,11],[0,1,2,3,4,5,6,7,8,9,10,11,12],[0,1,2,3,4,5,6,7,8,9,10,11,12],[0,1,2,3,4,5,6,7,8,9,10,11,12,13,14],[0,1,2,3,4,5,6,7,8,9,10,11,12,13,14,15],[0,1,2,3,4,5,6,7,8,9,10,11,12,13,14,15,16],[0,1,2,3,4,5,6,7,8,9,10,11,12,13,14,15,16,17],[0,1,2,3,4,5,6,7,8,9,10,11,12,13,14,15,16,17,18],[0,1,2,3,4,5,6,7,8,9,10,11,12,13,14,15,16,17,18,19],[0,1,2,3,4,5,6,7,8,9,10,11,12,13,14,15,16,17,18,19,20],[0,1,2,3,4,5,6,7,8,9,10,11,12,13,14,15,16,17,18,19,20,21],[0,1,2,3,4,5,6,7,8,9,10,11,12,13,14,15,16,17,18,19,20,21,22],[0,1,2,3,4,5,6,7,8,9,10,11,12,13,14,15,16,17,18,19,20,21,22,23],[0,1,2,3,4,5,6,7,8,9,10,11,12,13,14,15,16,17,18,19,20,21,22,23,24],[0,1,2,3,4,5,6,7,8,9,10,11,12,13,14,15,16,17,18,19,20,21,22,23,24,25],[0,1,2,3,4,5,6,7,8,9,10,11,12,13,14,15,16,17,18,19,20,21,22,23,24,25,26],[0,1,2,3,4,5,6,7,8,9,10,11,12,13,14,15,16,17,18,19,20,21,22,23,24,25,26,27],[0,1,2,3,4,5,6,7,8,9,10,11,12,13,14,15,16,17,18,19,20,21,22,23,24,25,26,27,28],[0,1,2,3,4,5,6,7,8,9,10,11,12,13,14,15,16,17,18,19,20,21,22,23,24,25,26,27,28,29],[0,1,2,3,4,5,6,7,8,9,10,11,12,13,14,15,16,17,18,19,20,21,22,23,24,25,26,27,28,29,30],[0,1,2,3,4,5,6,7,8,9,10,11,12,13,14,15,16,17,18,19,20,21,22,23,24,25,26,27,28,29,30,31],[0,1,2,3,4,5,6,7,8,9,10,11,12,13,14,15,16,17,18,19,20,21,22,23,24,25,26,27,28,29,30,31,32],[0,1,2,3,4,5,6,7,8,9,10,11,12,13,14,15,16,17,18,19,20,21,22,23,24,25,26,27,28,29,30,31,32,33],[0,1,2,3,4,5,6,7,8,9,10,11,12,13,14,15,16,17,18,19,20,21,22,23,24,25,26,27,28,29,30,31,32,33,34],[0,1,2,3,4,5,6,7,8,9,10,11,12,13,14,15,16,17,18,19,20,21,22,23,24,25,26,27,28,29,30,31,32,33,34,35],[0,1,2,3,4,5,6,7,8,9,10,11,12,13,14,15,16,17,18,19,20,21,22,23,24,25,26,27,28,29,30,31,32,33,34,35,36],[0,1,2,3,4,5,6,7,8,9,10,11,12,13,14,15,16,17,18,19,20,21,22,23,24,25,26,27,28,29,30,31,32,33,34,35,36,37],[0,1,2,3,4,5,6,7,8,9,10,11,12,13,14,15,16,17,18,19,20,21,22,23,24,25,26,27,28,29,30,31,32,33,34,35,36,37,38],[0,1,2,3,4,5,6,7,8,9,10,11,12,13,14,15,16,17,18,19,20,21,22,23,24,25,26,27,28,29,30,31,32,33,34,35,36,37,38,39]],[0,1,2,3,4,5,6,7,8,9,10,11,12,13,14,15,16,17,18,19,20,21,22,23,24,25,26,27,28,29,30,31,32,33,34,35,36,37,38,39,40],some [0])
  | _=>([],[],none)
theorem b75 {ags : List AV} {row : Option (List DV)} {r : AV} {row' nw : Option (List DV)} (hal : ags.length≤90) (hrow : row'.isSome=true→row.isSome=true) (h : xwp Try.prog x75 (retK [.tmp 0] row.isSome r row' nw) (St.init ags row)) : Good Try.prog 75 ags row r row' nw :=
  good_of_body' (md:=md75) (od:=od75) Try.f75 (by kernel_rfl) (by kernel_rfl) (by kernel_rfl) (by kernel_rfl) (by kernel_rfl) hal hrow h

def x125 : XC:=(.seq (.ops 1 [ (0,⟨some 2,none,.alloc [(.int .i64 0),(.int .u64 0),(.int .u64 0),(.int .u64 0),(.int .u64 0),(.int .i64 0),(.int .i64 0),(.slice none 0 0)]⟩)] (some [0,2])) (.seq (.ops 10 [ (0,⟨some 7,none,.mv (.t 0)⟩),(1,⟨some 8,none,.call 118 [(.t 7)] none false⟩),(2,⟨some 6,none,.mv (.t 8)⟩),(3,⟨some 9,none,.ext (.t 6) 0⟩),(4,⟨some 10,none,.ext (.t 6) 1⟩),(5,⟨some 11,none,.ext (.t 6) 2⟩),(6,⟨some 3,none,.alloc [(.int .i64 0),(.int .u64 0),(.int .u64 0),(.int .u64 0),(.int .u64 0),(.int .i64 0),(.int .i64 0),(.slice none 0 0)]⟩),(7,⟨none,none,.store 8 (.t 3) (.t 9)⟩),(8,⟨some 4,none,.mv (.t 10)⟩),(9,⟨some 5,none,.mv (.t 11)⟩)] (some [2,3])) (.seq (.ops 2 [ (0,⟨some 12,none,.load (some 8) (.t 3)⟩),(1,⟨none,none,.store 8 (.t 2) (.t 12)⟩)] (some [2])) .ret)))
def md125 : FuncId→Option Nat × Bool
  | _=>(none,false)
def od125 : Nat→List (List Nat) × List Nat × Option (List Nat)
  | 0=>([],[],some [0,2])
  | 1=>([],[],some [2,3])
  | 2=>([],[],some [2])
  | _=>([],[],none)
theorem b125 {ags : List AV} {row : Option (List DV)} {r : AV} {row' nw : Option (List DV)} (hal : ags.length≤13) (hrow : row'.isSome=true→row.isSome=true) (h : xwp Try.prog x125 (retK [.cell 2 (some 8)] row.isSome r row' nw) (St.init ags row)) : Good Try.prog 125 ags row r row' nw :=
  good_of_body' (md:=md125) (od:=od125) Try.f125 (by kernel_rfl) (by kernel_rfl) (by kernel_rfl) (by kernel_rfl) (by kernel_rfl) hal hrow h

def x77 : XC:=(.seq (.ops 3 [ (0,⟨some 2,none,.box (.t 0)⟩),(1,⟨some 4,none,.alloc [(.int .i64 0),(.int .u64 0),(.int .u64 0),(.int .u64 0),(.int .u64 0),(.int .i64 0),(.int .i64 0),(.slice none 0 0)]⟩),(2,⟨some 5,none,.mv (.k (.d (.val (.int .i64 0))))⟩)] (some [1,2,4])) (.seq (.ops 7 [ (0,⟨some 8,none,.load (some 8) (.t 2)⟩),(1,⟨some 9,none,.call 46 [(.t 8)] none false⟩),(2,⟨some 7,none,.mv (.t 9)⟩),(3,⟨some 10,none,.ext (.t 7) 0⟩),(4,⟨some 11,none,.ext (.t 7) 1⟩),(5,⟨none,none,.store 8 (.t 2) (.t 10)⟩),(6,⟨some 6,none,.mv (.t 11)⟩)] (some [1,2,4,6])) (.seq (.seq (.ops 2 [ (0,⟨some 12,none,.mv (.t 6)⟩),(1,⟨some 13,none,.arith .neq (.t 12) (.k (.d (.val (.int .i64 0))))⟩)] (some [1,2,4,6,13])) (.cond (.t 13) (.seq (.ops 4 [ (0,⟨some 14,none,.build [(.int .i64 0),(.int .u64 0),(.int .u64 0),(.int .u64 0),(.int .u64 0),(.int .i64 0),(.int .i64 0),(.slice none 0 0)] []⟩),(1,⟨some 15,none,.mv (.t 6)⟩),(2,⟨none,none,.store 8 (.t 4) (.t 14)⟩),(3,⟨some 5,none,.mv (.t 15)⟩)] (some [4,5])) .ret) .skip)) (.seq (.ops 5 [ (0,⟨some 16,none,.load (some 8) (.t 2)⟩),(1,⟨some 17,none,.mv (.t 1)⟩),(2,⟨some 18,none,.call 127 [(.t 16),(.t 17)] none false⟩),(3,⟨none,none,.store 8 (.t 4) (.t 18)⟩),(4,⟨some 5,none,.mv (.k (.d (.val (.int .i64 0))))⟩)] (some [4,5])) .ret))))
def md77 : FuncId→Option Nat × Bool
  | _=>(none,false)
def od77 : Nat→List (List Nat) × List Nat × Option (List Nat)
  | 0=>([],[],some [1,2,4])
  | 1=>([],[],some [1,2,4,6])
  | 2=>([],[],some [1,2,4,6,13])
  | 3=>([],[],some [4,5])
  | 4=>([],[],some [4,5])
  | _=>([],[],none)
theorem b77 {ags : List AV} {row : Option (List DV)} {r : AV} {row' nw : Option (List DV)} (hal : ags.length≤19) (hrow : row'.isSome=true→row.isSome=true) (h : xwp Try.prog x77 (retK [.cell 4 (some 8),.tmp 5] row.isSome r row' nw) (St.init ags row)) : Good Try.prog 77 ags row r row' nw :=
  good_of_body' (md:=md77) (od:=od77) Try.f77 (by kernel_rfl) (by kernel_rfl) (by kernel_rfl) (by kernel_rfl) (by kernel_rfl) hal hrow h

def x78 : XC:=(.seq (.ops 3 [ (0,⟨some 2,none,.box (.t 0)⟩),(1,⟨some 4,none,.alloc [(.int .i64 0),(.int .u64 0),(.int .u64 0),(.int .u64 0),(.int .u64 0),(.int .i64 0),(.int .i64 0),(.slice none 0 0)]⟩),(2,⟨some 5,none,.mv (.k (.d (.val (.int .i64 0))))⟩)] (some [1,2,4])) (.seq (.ops 7 [ (0,⟨some 9,none,.load (some 8) (.t 2)⟩),(1,⟨some 10,none,.call 46 [(.t 9)] none false⟩),(2,⟨some 8,none,.mv (.t 10)⟩),(3,⟨some 11,none,.ext (.t 8) 0⟩),(4,⟨some 12,none,.ext (.t 8) 1⟩),(5,⟨none,none,.store 8 (.t 2) (.t 11)⟩),(6,⟨some 6,none,.mv (.t 12)⟩)] (some [1,2,4,6])) (.seq (.seq (.ops 1 [ (0,⟨some 7,none,.mv (.k (.d (.val (.int .i64 0))))⟩)] (some [1,2,4,6,7])) (.block 0 (.loop (.seq (.seq (.ops 8 [ (0,⟨some 13,none,.mv (.t 7)⟩),(1,⟨some 14,none,.mv (.t 1)⟩),(2,⟨some 15,none,.lenT (.t 14)⟩),(3,⟨some 16,none,.arith .lss (.t 13) (.t 15)⟩),(4,⟨some 17,none,.mv (.t 16)⟩),(5,⟨some 18,(some (17,true)),.mv (.t 6)⟩),(6,⟨some 19,(some (17,true)),.arith .eql (.t 18) (.k (.d (.val (.int .i64 0))))⟩),(7,⟨some 20,none,.pick (.t 17) (.t 19) (.k (.d (.val (.bool false))))⟩)] (some [1,2,4,6,7,20])) (.cond (.t 20) .skip (.exit 0))) (.seq (.block 1 (.ops 10 [ (0,⟨some 24,none,.load (some 8) (.t 2)⟩),(1,⟨some 25,none,.mv (.t 1)⟩),(2,⟨some 26,none,.mv (.t 7)⟩),(3,⟨some 27,none,.idxT (.t 25) (.t 26)⟩),(4,⟨some 28,none,.call 128 [(.t 24),(.t 27)] none false⟩),(5,⟨some 23,none,.mv (.t 28)⟩),(6,⟨some 29,none,.ext (.t 23) 0⟩),(7,⟨some 30,none,.ext (.t 23) 1⟩),(8,⟨none,none,.store 8 (.t 2) (.t 29)⟩),(9,⟨some 6,none,.mv (.t 30)⟩)] (some [1,2,4,6,7]))) (.ops 3 [ (0,⟨some 21,none,.mv (.t 7)⟩),(1,⟨some 22,none,.arith .add (.t 21) (.k (.d (.val (.int .i64 1))))⟩),(2,⟨some 7,none,.mv (.t 22)⟩)] (some [1,2,4,6,7]))))))) (.seq (.ops 4 [ (0,⟨some 31,none,.load (some 8) (.t 2)⟩),(1,⟨some 32,none,.mv (.t 6)⟩),(2,⟨none,none,.store 8 (.t 4) (.t 31)⟩),(3,⟨some 5,none,.mv (.t 32)⟩)] (some [4,5])) .ret))))
def md78 : FuncId→Option Nat × Bool
  | _=>(none,false)
def od78 : Nat→List (List Nat) × List Nat × Option (List Nat)
  | 0=>([],[],some [1,2,4])
  | 1=>([],[],some [1,2,4,6])
  | 2=>([],[],some [1,2,4,6,7])
  | 3=>([],[],some [1,2,4,6,7,20])
  | 4=>([],[],some [1,2,4,6,7])
  | 5=>([[],[],[],[1,2],[0,1,2,3],[0,1,2,3,4],[0,1,2,3,4,5],[0,1,2,3,4,5],[0,1,2,3,4,5,6],[0,1,2,3,4,5,6,7,8]],[0,1,2,3,4,5,6,7,8,9],some [1,2,4,6,7])
  | 6=>([],[],some [4,5])
  | _=>([],[],none)
theorem b78 {ags : List AV} {row : Option (List DV)} {r : AV} {row' nw : Option (List DV)} (hal : ags.length≤33) (hrow : row'.isSome=true→row.isSome=true) (h : xwp Try.prog x78 (retK [.cell 4 (some 8),.tmp 5] row.isSome r row' nw) (St.init ags row)) : Good Try.prog 78 ags row r row' nw :=
  good_of_body' (md:=md78) (od:=od78) Try.f78 (by kernel_rfl) (by kernel_rfl) (by kernel_rfl) (by kernel_rfl) (by kernel_rfl) hal hrow h

def x126 : XC:=(.seq (.ops 3 [ (0,⟨some 2,none,.box (.t 0)⟩),(1,⟨some 4,none,.mv (.k (.d (.val (.bool false))))⟩),(2,⟨some 5,none,.mv (.k (.d (.val (.int .i64 0))))⟩)] (some [1,2])) (.seq (.ops 8 [ (0,⟨some 8,none,.load (some 8) (.t 2)⟩),(1,⟨some 9,none,.mv (.t 1)⟩),(2,⟨some 10,none,.call 78 [(.t 8),(.t 9)] none false⟩),(3,⟨some 7,none,.mv (.t 10)⟩),(4,⟨some 11,none,.ext (.t 7) 0⟩),(5,⟨some 12,none,.ext (.t 7) 1⟩),(6,⟨none,none,.store 8 (.t 2) (.t 11)⟩),(7,⟨some 6,none,.mv (.t 12)⟩)] (some [2,6])) (.seq (.ops 8 [ (0,⟨some 13,none,.mv (.t 6)⟩),(1,⟨some 14,none,.arith .eql (.t 13) (.k (.d (.val (.int .i64 0))))⟩),(2,⟨some 15,none,.mv (.t 14)⟩),(3,⟨some 16,(some (15,true)),.call 131 [(.t 2)] none false⟩),(4,⟨some 17,none,.pick (.t 15) (.t 16) (.k (.d (.val (.bool false))))⟩),(5,⟨some 18,none,.mv (.t 6)⟩),(6,⟨some 4,none,.mv (.t 17)⟩),(7,⟨some 5,none,.mv (.t 18)⟩)] (some [4,5])) .ret)))
def md126 : FuncId→Option Nat × Bool
  | _=>(none,false)
def od126 : Nat→List (List Nat) × List Nat × Option (List Nat)
  | 0=>([],[],some [1,2])
  | 1=>([],[],some [2,6])
  | 2=>([],[],some [4,5])
  | _=>([],[],none)
theorem b126 {ags : List AV} {row : Option (List DV)} {r : AV} {row' nw : Option (List DV)} (hal : ags.length≤19) (hrow : row'.isSome=true→row.isSome=true) (h : xwp Try.prog x126 (retK [.tmp 4,.tmp 5] row.isSome r row' nw) (St.init ags row)) : Good Try.prog 126 ags row r row' nw :=
  good_of_body' (md:=md126) (od:=od126) Try.f126 (by kernel_rfl) (by kernel_rfl) (by kernel_rfl) (by kernel_rfl) (by kernel_rfl) hal hrow h

def x81 : XC:=(.seq (.ops 3 [ (0,⟨some 3,none,.box (.t 0)⟩),(1,⟨some 6,none,.mv (.k (.d (.val (.int .i64 0))))⟩),(2,⟨some 7,none,.mv (.k (.d (.val (.int .i64 0))))⟩)] (some [1,2,3])) (.seq (.block 0 (.seq (.ops 4 [ (0,⟨some 10,none,.load (some 8) (.t 3)⟩),(1,⟨some 11,none,.call 84 [(.t 10)] none false⟩),(2,⟨some 12,none,.un .not (.t 11)⟩),(3,⟨some 9,none,.mv (.t 12)⟩)] (some [1,2,3,9])) (.cond (.t 9) (.seq (.ops 2 [ (0,⟨some 6,none,.mv (.k (.d (.val (.int .i64 0))))⟩),(1,⟨some 7,none,.mv (.k (.d (.val (.int .i64 1))))⟩)] (some [6,7])) .ret) (.seq (.ops 9 [ (0,⟨some 14,none,.mv (.t 2)⟩),(1,⟨some 15,none,.arith .lss (.t 14) (.k (.d (.val (.int .i64 0))))⟩),(2,⟨some 16,none,.mv (.t 15)⟩),(3,⟨some 17,(some (16,false)),.mv (.t 2)⟩),(4,⟨some 18,(some (16,false)),.mv (.t 1)⟩),(5,⟨some 19,(some (16,false)),.lenT (.t 18)⟩),(6,⟨some 20,(some (16,false)),.arith .gtr (.t 17) (.t 19)⟩),(7,⟨some 21,none,.pick (.t 16) (.k (.d (.val (.bool true)))) (.t 20)⟩),(8,⟨some 13,none,.mv (.t 21)⟩)] (some [1,2,3,13])) (.cond (.t 13) (.seq (.ops 2 [ (0,⟨some 6,none,.mv (.k (.d (.val (.int .i64 0))))⟩),(1,⟨some 7,none,.mv (.k (.d (.val (.int .i64 2))))⟩)] (some [6,7])) .ret) .skip))))) (.seq (.ops 7 [ (0,⟨some 23,none,.load (some 8) (.t 3)⟩),(1,⟨some 24,none,.call 46 [(.t 23)] none false⟩),(2,⟨some 22,none,.mv (.t 24)⟩),(3,⟨some 25,none,.ext (.t 22) 0⟩),(4,⟨some 26,none,.ext (.t 22) 1⟩),(5,⟨none,none,.store 8 (.t 3) (.t 25)⟩),(6,⟨some 7,none,.mv (.t 26)⟩)] (some [1,2,3,7])) (.seq (.ops 1 [ (0,⟨some 6,none,.mv (.k (.d (.val (.int .i64 (-1)))))⟩)] (some [1,2,3,6,7])) (.seq (.ops 2 [ (0,⟨some 27,none,.mv (.t 2)⟩),(1,⟨some 8,none,.mv (.t 27)⟩)] (some [1,3,6,7,8])) (.block 1 (.loop (.seq (.block 2 (.seq (.seq (.ops 1 [ (0,⟨some 30,none,.call 131 [(.t 3)] none false⟩)] (some [1,3,6,7,8,30])) (.cond (.t 30) (.ops 2 [ (0,⟨some 31,none,.mv (.t 8)⟩),(1,⟨some 6,none,.mv (.t 31)⟩)] (some [1,3,6,7,8])) .skip)) (.seq (.seq (.ops 15 [ (0,⟨some 32,none,.mv (.t 8)⟩),(1,⟨some 33,none,.mv (.t 1)⟩),(2,⟨some 34,none,.lenT (.t 33)⟩),(3,⟨some 35,none,.arith .eql (.t 32) (.t 34)⟩),(4,⟨some 36,none,.mv (.t 35)⟩),(5,⟨some 37,(some (36,false)),.fadd 0 (.t 3)⟩),(6,⟨some 38,(some (36,false)),.load none (.t 37)⟩),(7,⟨some 39,(some (36,false)),.arith .eql (.t 38) (.k (.d (.val (.int .i64 2))))⟩),(8,⟨some 40,(some (36,false)),.mv (.t 39)⟩),(9,⟨some 41,(some (40,true)),.fadd 1 (.t 3)⟩),(10,⟨some 42,(some (40,true)),.load (some 4) (.t 41)⟩),(11,⟨some 43,(some (40,true)),.build [(.int .u64 0),(.int .u64 0),(.int .u64 0),(.int .u64 0)] []⟩),(12,⟨some 44,(some (40,true)),.eqAgg 4 false (.t 42) (.t 43)⟩),(13,⟨some 45,(some (36,false)),.pick (.t 40) (.t 44) (.k (.d (.val (.bool false))))⟩),(14,⟨some 46,none,.pick (.t 36) (.k (.d (.val (.bool true)))) (.t 45)⟩)] (some [1,3,6,7,8,46])) (.cond (.t 46) (.seq (.ops 4 [ (0,⟨some 47,none,.mv (.t 6)⟩),(1,⟨some 48,none,.mv (.t 7)⟩),(2,⟨some 6,none,.mv (.t 47)⟩),(3,⟨some 7,none,.mv (.t 48)⟩)] (some [6,7])) .ret) .skip)) (.seq (.ops 10 [ (0,⟨some 50,none,.load (some 8) (.t 3)⟩),(1,⟨some 51,none,.mv (.t 1)⟩),(2,⟨some 52,none,.mv (.t 8)⟩),(3,⟨some 53,none,.idxT (.t 51) (.t 52)⟩),(4,⟨some 54,none,.call 128 [(.t 50),(.t 53)] none false⟩),(5,⟨some 49,none,.mv (.t 54)⟩),(6,⟨some 55,none,.ext (.t 49) 0⟩),(7,⟨some 56,none,.ext (.t 49) 1⟩),(8,⟨none,none,.store 8 (.t 3) (.t 55)⟩),(9,⟨some 7,none,.mv (.t 56)⟩)] (some [1,3,6,7,8])) (.seq (.ops 2 [ (0,⟨some 57,none,.mv (.t 7)⟩),(1,⟨some 58,none,.arith .neq (.t 57) (.k (.d (.val (.int .i64 0))))⟩)] (some [1,3,6,7,8,58])) (.cond (.t 58) (.seq (.ops 3 [ (0,⟨some 59,none,.mv (.t 7)⟩),(1,⟨some 6,none,.mv (.k (.d (.val (.int .i64 0))))⟩),(2,⟨some 7,none,.mv (.t 59)⟩)] (some [6,7])) .ret) .skip)))))) (.ops 3 [ (0,⟨some 28,none,.mv (.t 8)⟩),(1,⟨some 29,none,.arith .add (.t 28) (.k (.d (.val (.int .i64 1))))⟩),(2,⟨some 8,none,.mv (.t 29)⟩)] (some [1,3,6,7,8]))))))))))
def md81 : FuncId→Option Nat × Bool
  | _=>(none,false)
def od81 : Nat→List (List Nat) × List Nat × Option (List Nat)
  | 0=>([],[],some [1,2,3])
  | 1=>([],[],some [1,2,3,9])
  | 2=>([],[],some [6,7])
  | 3=>([],[],some [1,2,3,13])
  | 4=>([],[],some [6,7])
  | 5=>([],[],some [1,2,3,7])
  | 6=>([],[],some [1,2,3,6,7])
  | 7=>([],[],some [1,3,6,7,8])
  | 8=>([],[],some [1,3,6,7,8])
  | 9=>([],[],some [1,3,6,7,8,30])
  | 10=>([],[],some [1,3,6,7,8])
  | 11=>([],[],some [1,3,6,7,8,46])
  | 12=>([],[],some [6,7])
  | 13=>([[],[],[],[1,2],[0,1,2,3],[0,1,2,3,4],[0,1,2,3,4,5],[0,1,2,3,4,5],[0,1,2,3,4,5,6],[0,1,2,3,4,5,6,7,8]],[0,1,2,3,4,5,6,7,8,9],some [1,3,6,7,8])
  | 14=>([],[],some [1,3,6,7,8,58])
  | 15=>([],[],some [6,7])
  | _=>([],[],none)
theorem b81 {ags : List AV} {row : Option (List DV)} {r : AV} {row' nw : Option (List DV)} (hal : ags.length≤60) (hrow : row'.isSome=true→row.isSome=true) (h : xwp Try.prog x81 (retK [.tmp 6,.tmp 7] row.isSome r row' nw) (St.init ags row)) : Good Try.prog 81 ags row r row' nw :=
  good_of_body' (md:=md81) (od:=od81) Try.f81 (by kernel_rfl) (by kernel_rfl) (by kernel_rfl) (by kernel_rfl) (by kernel_rfl) hal hrow h

def x127 : XC:=(.seq (.ops 2 [ (0,⟨some 2,none,.box (.t 0)⟩),(1,⟨some 4,none,.alloc [(.int .i64 0),(.int .u64 0),(.int .u64 0),(.int .u64 0),(.int .u64 0),(.int .i64 0),(.int .i64 0),(.slice none 0 0)]⟩)] (some [1,2,4])) (.seq (.seq (.ops 2 [ (0,⟨some 10,none,.fadd 0 (.t 2)⟩),(1,⟨some 11,none,.load none (.t 10)⟩)] (some [1,2,4,11])) (.block 0 (.seq (.ops 2 [ (0,⟨some 13,none,.arith .eql (.t 11) (.k (.d (.val (.int .i64 2))))⟩),(1,⟨some 12,none,.mv (.t 13)⟩)] (some [1,2,4,11,12])) (.cond (.t 12) (.seq (.ops 3 [ (0,⟨some 14,none,.fadd 1 (.t 2)⟩),(1,⟨some 15,none,.mv (.t 1)⟩),(2,⟨some 16,none,.call 152 [(.t 14),(.t 15)] none false⟩)] (some [4,16])) (.cond (.t 16) (.seq (.ops 2 [ (0,⟨some 17,none,.call 53 [(.k (.d (.val (.slice none 0 0))))] none false⟩),(1,⟨none,none,.store 8 (.t 4) (.t 17)⟩)] (some [4])) .ret) .skip)) (.seq (.ops 2 [ (0,⟨some 19,none,.arith .eql (.t 11) (.k (.d (.val (.int .i64 3))))⟩),(1,⟨some 18,none,.mv (.t 19)⟩)] (some [1,2,4,11,18])) (.cond (.t 18) (.seq (.ops 5 [ (0,⟨some 20,none,.fadd 7 (.t 2)⟩),(1,⟨some 21,none,.load none (.t 20)⟩),(2,⟨some 22,none,.mv (.t 1)⟩),(3,⟨some 23,none,.call 153 [(.t 21),(.t 22)] none false⟩),(4,⟨none,none,.store 8 (.t 4) (.t 23)⟩)] (some [4])) .ret) (.seq (.ops 2 [ (0,⟨some 25,none,.arith .eql (.t 11) (.k (.d (.val (.int .i64 4))))⟩),(1,⟨some 24,none,.mv (.t 25)⟩)] (some [1,2,4,11,24])) (.cond (.t 24) (.seq (.ops 1 [ (0,⟨some 5,none,.mv (.k (.d (.val (.slice none 0 0))))⟩)] (some [1,2,4,5])) (.seq (.seq (.ops 4 [ (0,⟨some 26,none,.fadd 7 (.t 2)⟩),(1,⟨some 27,none,.load none (.t 26)⟩),(2,⟨some 28,none,.lenS (.t 27)⟩),(3,⟨some 29,none,.mv (.k (.d (.val (.int .i64 0))))⟩)] (some [1,4,5,27,28,29])) (.block 1 (.loop (.seq (.ops 1 [ (0,⟨some 30,none,.arith .lss (.t 29) (.t 28)⟩)] (some [1,4,5,27,28,29,30])) (.seq (.cond (.t 30) .skip (.exit 1)) (.seq (.block 2 (.seq (.ops 4 [ (0,⟨some 31,none,.idxS 8 (.t 27) (.t 29)⟩),(1,⟨some 32,none,.load (some 8) (.t 31)⟩),(2,⟨some 7,none,.alloc [(.int .i64 0),(.int .u64 0),(.int .u64 0),(.int .u64 0),(.int .u64 0),(.int .i64 0),(.int .i64 0),(.slice none 0 0)]⟩),(3,⟨none,none,.store 8 (.t 7) (.t 32)⟩)] (some [1,4,5,7,27,28,29])) (.ops 7 [ (0,⟨some 33,none,.mv (.t 5)⟩),(1,⟨some 34,none,.load (some 8) (.t 7)⟩),(2,⟨some 35,none,.mv (.t 1)⟩),(3,⟨some 36,none,.call 127 [(.t 34),(.t 35)] none false⟩),(4,⟨some 37,none,.mkrow [(.int .i64 0),(.int .u64 0),(.int .u64 0),(.int .u64 0),(.int .u64 0),(.int .i64 0),(.int .i64 0),(.slice none 0 0)] 1 8 [(0,8,(.t 36))]⟩),(5,⟨some 38,none,.app [(.int .i64 0),(.int .u64 0),(.int .u64 0),(.int .u64 0),(.int .u64 0),(.int .i64 0),(.int .i64 0),(.slice none 0 0)] 80 (.t 33) (.t 37)⟩),(6,⟨some 5,none,.mv (.t 38)⟩)] (some [1,4,5,27,28,29])))) (.ops 2 [ (0,⟨some 39,none,.arith .add (.t 29) (.k (.d (.val (.int .i64 1))))⟩),(1,⟨some 29,none,.mv (.t 39)⟩)] (some [1,4,5,27,28,29])))))))) (.seq (.ops 3 [ (0,⟨some 40,none,.mv (.t 5)⟩),(1,⟨some 41,none,.call 54 [(.t 40)] none false⟩),(2,⟨none,none,.store 8 (.t 4) (.t 41)⟩)] (some [4])) .ret))) (.seq (.ops 2 [ (0,⟨some 43,none,.arith .eql (.t 11) (.k (.d (.val (.int .i64 5))))⟩),(1,⟨some 42,none,.mv (.t 43)⟩)] (some [1,2,4,42])) (.cond (.t 42) (.seq (.seq (.ops 3 [ (0,⟨some 44,none,.fadd 6 (.t 2)⟩),(1,⟨some 45,none,.load none (.t 44)⟩),(2,⟨some 46,none,.arith .eql (.t 45) (.k (.d (.val (.int .i64 0))))⟩)] (some [1,2,4,46])) (.cond (.t 46) (.exit 0) .skip)) (.seq (.ops 3 [ (0,⟨some 47,none,.fadd 6 (.t 2)⟩),(1,⟨some 48,none,.load none (.t 47)⟩),(2,⟨some 8,none,.mv (.t 48)⟩)] (some [1,2,4,8])) (.seq (.seq (.ops 2 [ (0,⟨some 49,none,.mv (.t 8)⟩),(1,⟨some 50,none,.arith .gtr (.t 49) (.k (.d (.val (.int .i64 0))))⟩)] (some [1,2,4,8,50])) (.cond (.t 50) (.ops 3 [ (0,⟨some 51,none,.mv (.t 8)⟩),(1,⟨some 52,none,.arith .sub (.t 51) (.k (.d (.val (.int .i64 1))))⟩),(2,⟨some 8,none,.mv (.t 52)⟩)] (some [1,2,4,8])) .skip)) (.seq (.ops 6 [ (0,⟨some 53,none,.fadd 7 (.t 2)⟩),(1,⟨some 54,none,.load none (.t 53)⟩),(2,⟨some 55,none,.idxS 8 (.t 54) (.k (.d (.val (.int .i64 0))))⟩),(3,⟨some 56,none,.load (some 8) (.t 55)⟩),(4,⟨some 9,none,.alloc [(.int .i64 0),(.int .u64 0),(.int .u64 0),(.int .u64 0),(.int .u64 0),(.int .i64 0),(.int .i64 0),(.slice none 0 0)]⟩),(5,⟨none,none,.store 8 (.t 9) (.t 56)⟩)] (some [1,2,4,8,9])) (.seq (.ops 13 [ (0,⟨some 57,none,.load (some 8) (.t 9)⟩),(1,⟨some 58,none,.mv (.t 1)⟩),(2,⟨some 59,none,.call 127 [(.t 57),(.t 58)] none false⟩),(3,⟨some 60,none,.load (some 8) (.t 9)⟩),(4,⟨some 61,none,.fadd 5 (.t 2)⟩),(5,⟨some 62,none,.load none (.t 61)⟩),(6,⟨some 63,none,.arith .sub (.t 62) (.k (.d (.val (.int .i64 1))))⟩),(7,⟨some 64,none,.max [(.t 63),(.k (.d (.val (.int .i64 0))))]⟩),(8,⟨some 65,none,.mv (.t 8)⟩),(9,⟨some 66,none,.call 55 [(.t 60),(.t 64),(.t 65)] none false⟩),(10,⟨some 67,none,.mkrow [(.int .i64 0),(.int .u64 0),(.int .u64 0),(.int .u64 0),(.int .u64 0),(.int .i64 0),(.int .i64 0),(.slice none 0 0)] 2 8 [(0,8,(.t 59)),(8,8,(.t 66))]⟩),(11,⟨some 68,none,.call 53 [(.t 67)] none false⟩),(12,⟨none,none,.store 8 (.t 4) (.t 68)⟩)] (some [4])) .ret))))) .skip)))))))))) (.seq (.ops 2 [ (0,⟨some 69,none,.call 54 [(.k (.d (.val (.slice none 0 0))))] none false⟩),(1,⟨none,none,.store 8 (.t 4) (.t 69)⟩)] (some [4])) .ret)))
def md127 : FuncId→Option Nat × Bool
  | _=>(none,false)
def od127 : Nat→List (List Nat) × List Nat × Option (List Nat)
  | 0=>([],[],some [1,2,4])
  | 1=>([],[],some [1,2,4,11])
  | 2=>([],[],some [1,2,4,11,12])
  | 3=>([],[],some [4,16])
  | 4=>([],[],some [4])
  | 5=>([],[],some [1,2,4,11,18])
  | 6=>([],[],some [4])
  | 7=>([],[],some [1,2,4,11,24])
  | 8=>([],[],some [1,2,4,5])
  | 9=>([],[],some [1,4,5,27,28,29])
  | 10=>([],[],some [1,4,5,27,28,29,30])
  | 11=>([],[],some [1,4,5,7,27,28,29])
  | 12=>([],[],some [1,4,5,27,28,29])
  | 13=>([],[],some [1,4,5,27,28,29])
  | 14=>([],[],some [4])
  | 15=>([],[],some [1,2,4,42])
  | 16=>([],[],some [1,2,4,46])
  | 17=>([],[],some [1,2,4,8])
  | 18=>([],[],some [1,2,4,8,50])
  | 19=>([],[],some [1,2,4,8])
  | 20=>([],[],some [1,2,4,8,9])
  | 21=>([[],[],[0,1],[],[],[4],[4,5],[4,5,6],[],[0,1,2,3,4,5,6,7,8],[0,1,2,3,4,5,6,7,8,9],[0,1,2,3,4,5,6,7,8,9,10],[0,1,2,3,4,5,6,7,8,9,10,11]],[0,1,2,3,4,5,6,7,8,9,10,11,12],some [4])
  | 22=>([],[],some [4])
  | _=>([],[],none)
theorem b127 {ags : List AV} {row : Option (List DV)} {r : AV} {row' nw : Option (List DV)} (hal : ags.length≤70) (hrow : row'.isSome=true→row.isSome=true) (h : xwp Try.prog x127 (retK [.cell 4 (some 8)] row.isSome r row' nw) (St.init ags row)) : Good Try.prog 127 ags row r row' nw :=
  good_of_body' (md:=md127) (od:=od127) Try.f127 (by kernel_rfl) (by kernel_rfl) (by kernel_rfl) (by kernel_rfl) (by kernel_rfl) hal hrow h

def x128 : XC:=(.seq (.ops 3 [ (0,⟨some 2,none,.box (.t 0)⟩),(1,⟨some 4,none,.alloc [(.int .i64 0),(.int .u64 0),(.int .u64 0),(.int .u64 0),(.int .u64 0),(.int .i64 0),(.int .i64 0),(.slice none 0 0)]⟩),(2,⟨some 5,none,.mv (.k (.d (.val (.int .i64 0))))⟩)] (some [1,2,4])) (.seq (.ops 4 [ (0,⟨some 6,none,.load (some 8) (.t 2)⟩),(1,⟨some 7,none,.mv (.t 1)⟩),(2,⟨some 8,none,.call 127 [(.t 6),(.t 7)] none false⟩),(3,⟨none,none,.store 8 (.t 2) (.t 8)⟩)] (some [2,4])) (.seq (.seq (.ops 2 [ (0,⟨some 9,none,.call 154 [(.t 2),(.k (.d (.val (.int .i64 4000))))] none false⟩),(1,⟨some 10,none,.arith .lss (.t 9) (.k (.d (.val (.int .i64 0))))⟩)] (some [2,4,10])) (.cond (.t 10) (.seq (.ops 3 [ (0,⟨some 11,none,.build [(.int .i64 0),(.int .u64 0),(.int .u64 0),(.int .u64 0),(.int .u64 0),(.int .i64 0),(.int .i64 0),(.slice none 0 0)] []⟩),(1,⟨none,none,.store 8 (.t 4) (.t 11)⟩),(2,⟨some 5,none,.mv (.k (.d (.val (.int .i64 11))))⟩)] (some [4,5])) .ret) .skip)) (.seq (.ops 3 [ (0,⟨some 12,none,.load (some 8) (.t 2)⟩),(1,⟨none,none,.store 8 (.t 4) (.t 12)⟩),(2,⟨some 5,none,.mv (.k (.d (.val (.int .i64 0))))⟩)] (some [4,5])) .ret))))
def md128 : FuncId→Option Nat × Bool
  | _=>(none,false)
def od128 : Nat→List (List Nat) × List Nat × Option (List Nat)
  | 0=>([],[],some [1,2,4])
  | 1=>([],[],some [2,4])
  | 2=>([],[],some [2,4,10])
  | 3=>([],[],some [4,5])
  | 4=>([],[],some [4,5])
  | _=>([],[],none)
theorem b128 {ags : List AV} {row : Option (List DV)} {r : AV} {row' nw : Option (List DV)} (hal : ags.length≤13) (hrow : row'.isSome=true→row.isSome=true) (h : xwp Try.prog x128 (retK [.cell 4 (some 8),.tmp 5] row.isSome r row' nw) (St.init ags row)) : Good Try.prog 128 ags row r row' nw :=
  good_of_body' (md:=md128) (od:=od128) Try.f128 (by kernel_rfl) (by kernel_rfl) (by kernel_rfl) (by kernel_rfl) (by kernel_rfl) hal hrow h

def x153 : XC:=(.seq (.ops 1 [ (0,⟨some 4,none,.alloc [(.int .i64 0),(.int .u64 0),(.int .u64 0),(.int .u64 0),(.int .u64 0),(.int .i64 0),(.int .i64 0),(.slice none 0 0)]⟩)] (some [0,1,4])) (.seq (.seq (.ops 3 [ (0,⟨some 7,none,.mv (.t 0)⟩),(1,⟨some 8,none,.lenS (.t 7)⟩),(2,⟨some 9,none,.arith .eql (.t 8) (.k (.d (.val (.int .i64 0))))⟩)] (some [0,1,4,9])) (.cond (.t 9) (.seq (.ops 2 [ (0,⟨some 10,none,.call 54 [(.k (.d (.val (.slice none 0 0))))] none false⟩),(1,⟨none,none,.store 8 (.t 4) (.t 10)⟩)] (some [4])) .ret) .skip)) (.seq (.ops 7 [ (0,⟨some 11,none,.mv (.t 0)⟩),(1,⟨some 12,none,.idxS 8 (.t 11) (.k (.d (.val (.int .i64 0))))⟩),(2,⟨some 13,none,.load (some 8) (.t 12)⟩),(3,⟨some 14,none,.mv (.t 1)⟩),(4,⟨some 15,none,.call 127 [(.t 13),(.t 14)] none false⟩),(5,⟨some 5,none,.alloc [(.int .i64 0),(.int .u64 0),(.int .u64 0),(.int .u64 0),(.int .u64 0),(.int .i64 0),(.int .i64 0),(.slice none 0 0)]⟩),(6,⟨none,none,.store 8 (.t 5) (.t 15)⟩)] (some [0,1,4,5])) (.seq (.seq (.ops 3 [ (0,⟨some 16,none,.mv (.t 0)⟩),(1,⟨some 17,none,.lenS (.t 16)⟩),(2,⟨some 18,none,.arith .eql (.t 17) (.k (.d (.val (.int .i64 1))))⟩)] (some [0,1,4,5,18])) (.cond (.t 18) (.seq (.ops 2 [ (0,⟨some 19,none,.load (some 8) (.t 5)⟩),(1,⟨none,none,.store 8 (.t 4) (.t 19)⟩)] (some [4])) .ret) .skip)) (.seq (.ops 8 [ (0,⟨some 20,none,.load (some 8) (.t 5)⟩),(2,⟨some 22,none,.mv (.t 0)⟩),(3,⟨some 23,none,.slS 8 (.t 22) (some (.k (.d (.val (.int .i64 1))))) none⟩),(1,⟨some 21,none,.mkrow [(.int .i64 0),(.int .u64 0),(.int .u64 0),(.int .u64 0),(.int .u64 0),(.int .i64 0),(.int .i64 0),(.slice none 0 0)] 1 8 [(0,8,(.t 20))]⟩),(4,⟨some 24,none,.app [(.int .i64 0),(.int .u64 0),(.int .u64 0),(.int .u64 0),(.int .u64 0),(.int .i64 0),(.int .i64 0),(.slice none 0 0)] 80 (.t 21) (.t 23)⟩),(5,⟨some 25,none,.call 53 [(.t 24)] none false⟩),(6,⟨some 6,none,.alloc [(.int .i64 0),(.int .u64 0),(.int .u64 0),(.int .u64 0),(.int .u64 0),(.int .i64 0),(.int .i64 0),(.slice none 0 0)]⟩),(7,⟨none,none,.store 8 (.t 6) (.t 25)⟩)] (some [0,1,4,6])) (.seq (.seq (.ops 4 [ (0,⟨some 26,none,.mv (.t 0)⟩),(1,⟨some 27,none,.idxS 8 (.t 26) (.k (.d (.val (.int .i64 0))))⟩),(2,⟨some 28,none,.call 131 [(.t 27)] none false⟩),(3,⟨some 29,none,.un .not (.t 28)⟩)] (some [0,1,4,6,29])) (.cond (.t 29) (.seq (.ops 2 [ (0,⟨some 30,none,.load (some 8) (.t 6)⟩),(1,⟨none,none,.store 8 (.t 4) (.t 30)⟩)] (some [4])) .ret) .skip)) (.seq (.ops 8 [ (0,⟨some 31,none,.load (some 8) (.t 6)⟩),(1,⟨some 32,none,.mv (.t 0)⟩),(2,⟨some 33,none,.slS 8 (.t 32) (some (.k (.d (.val (.int .i64 1))))) none⟩),(3,⟨some 34,none,.mv (.t 1)⟩),(4,⟨some 35,none,.call 153 [(.t 33),(.t 34)] none false⟩),(5,⟨some 36,none,.mkrow [(.int .i64 0),(.int .u64 0),(.int .u64 0),(.int .u64 0),(.int .u64 0),(.int .i64 0),(.int .i64 0),(.slice none 0 0)] 2 8 [(0,8,(.t 31)),(8,8,(.t 35))]⟩),(6,⟨some 37,none,.call 54 [(.t 36)] none false⟩),(7,⟨none,none,.store 8 (.t 4) (.t 37)⟩)] (some [4])) .ret)))))))
def md153 : FuncId→Option Nat × Bool
  | _=>(none,false)
def od153 : Nat→List (List Nat) × List Nat × Option (List Nat)
  | 0=>([],[],some [0,1,4])
  | 1=>([],[],some [0,1,4,9])
  | 2=>([],[],some [4])
  | 3=>([],[],some [0,1,4,5])
  | 4=>([],[],some [0,1,4,5,18])
  | 5=>([],[],some [4])
  | 6=>([[],[0],[],[2],[0,1,2,3],[0,1,2,3,4],[],[0,1,2,3,4,5,6]],[0,2,3,1,4,5,6,7],some [0,1,4,6])
  | 7=>([],[],some [0,1,4,6,29])
  | 8=>([],[],some [4])
  | 9=>([[],[],[1],[],[1,2,3],[0,1,2,3,4],[0,1,2,3,4,5],[0,1,2,3,4,5,6]],[0,1,2,3,4,5,6,7],some [4])
  | _=>([],[],none)
theorem b153 {ags : List AV} {row : Option (List DV)} {r : AV} {row' nw : Option (List DV)} (hal : ags.length≤38) (hrow : row'.isSome=true→row.isSome=true) (h : xwp Try.prog x153 (retK [.cell 4 (some 8)] row.isSome r row' nw) (St.init ags row)) : Good Try.prog 153 ags row r row' nw :=
  good_of_body' (md:=md153) (od:=od153) Try.f153 (by kernel_rfl) (by kernel_rfl) (by kernel_rfl) (by kernel_rfl) (by kernel_rfl) hal hrow h

def tabD : Tab
  | 75=>some ⟨x75,[.tmp 0],90,false,8⟩
  | 125=>some ⟨x125,[.cell 2 (some 8)],13,false,8⟩
  | 77=>some ⟨x77,[.cell 4 (some 8),.tmp 5],19,false,8⟩
  | 78=>some ⟨x78,[.cell 4 (some 8),.tmp 5],33,false,8⟩
  | 126=>some ⟨x126,[.tmp 4,.tmp 5],19,false,8⟩
  | 81=>some ⟨x81,[.tmp 6,.tmp 7],60,false,8⟩
  | 127=>some ⟨x127,[.cell 4 (some 8)],70,false,8⟩
  | 128=>some ⟨x128,[.cell 4 (some 8),.tmp 5],13,false,8⟩
  | 153=>some ⟨x153,[.cell 4 (some 8)],38,false,8⟩
  | 131=>some ⟨x131,[.tmp 2],63,false,8⟩
  | 152=>some ⟨x152,[.tmp 4],16,false,8⟩
  | 154=>some ⟨x154,[.tmp 4],30,false,8⟩
  | 46=>some ⟨x46,[.cell 2 (some 8),.tmp 3],10,false,8⟩
  | 47=>some ⟨x47,[.tmp 4],60,false,8⟩
  | 53=>some ⟨x53,[.cell 2 (some 8)],13,false,8⟩
  | 54=>some ⟨x54,[.cell 2 (some 8)],62,false,8⟩
  | 55=>some ⟨x55,[.cell 6 (some 8)],80,false,8⟩
  | 97=>some ⟨x97,[.cell 2 (some 8)],40,false,8⟩
  | 103=>some ⟨x103,[.tmp 4],27,true,8⟩
  | 104=>some ⟨x104,[.tmp 4],9,false,8⟩
  | 105=>some ⟨x105,[.tmp 2],12,false,8⟩
  | 106=>some ⟨x106,[.cell 0 (some 8)],2,false,8⟩
  | 107=>some ⟨x107,[.tmp 4],42,false,8⟩
  | 108=>some ⟨x108,[.tmp 2],6,false,8⟩
  | 109=>some ⟨x109,[.cell 6 (some 8)],20,false,8⟩
  | 110=>some ⟨x110,[.cell 0 (some 8)],2,false,8⟩
  | 111=>some ⟨x111,[.tmp 3],7,false,8⟩
  | 112=>some ⟨x112,[.tmp 4],38,false,8⟩
  | 113=>some ⟨x113,[.tmp 2],16,false,8⟩
  | 145=>some ⟨x145,[.tmp 4],19,false,8⟩
  | 146=>some ⟨x146,[.tmp 6],32,false,8⟩
  | 73=>some ⟨x73,[.cell 4 (some 4)],19,false,8⟩
  | 84=>some ⟨x84,[.tmp 2],4,false,8⟩
  | 132=>some ⟨x132,[.tmp 4],46,false,8⟩
  | 156=>some ⟨x156,[.tmp 2],121,false,8⟩
  | 157=>some ⟨x157,[.tmp 4],24,false,8⟩
  | 83=>some ⟨x83,[.cell 2 (some 8)],13,false,8⟩
  | 119=>some ⟨x119,[.cell 4 (some 4)],24,false,8⟩
  | 149=>some ⟨x149,[.cell 2 (some 8)],16,false,8⟩
  | 150=>some ⟨x150,[],10,false,8⟩
  | 162=>some ⟨x162,[.cell 2 (some 8)],14,false,8⟩
  | 163=>some ⟨x163,[.tmp 4],17,false,8⟩
  | 164=>some ⟨x164,[.cell 4 (some 8)],20,false,8⟩
  | 170=>some ⟨x170,[.tmp 2],16,false,8⟩
  | 171=>some ⟨x171,[.cell 2 (some 8)],33,false,8⟩
  | 172=>some ⟨x172,[.tmp 2],23,false,8⟩
  | 176=>some ⟨x176,[.cell 2 (some 8)],60,false,8⟩
  | 177=>some ⟨x177,[.tmp 2,.tmp 3],29,false,8⟩
  | 178=>some ⟨x178,[],15,false,8⟩
  | 179=>some ⟨x179,[.cell 2 (some 4)],19,false,8⟩
  | 180=>some ⟨x180,[.cell 2 (some 4)],10,false,8⟩
  | 181=>some ⟨x181,[.tmp 2],34,false,8⟩
  | 182=>some ⟨x182,[.tmp 2],54,false,8⟩
  | 183=>some ⟨x183,[.cell 2 (some 4)],28,false,8⟩
  | 184=>some ⟨x184,[.cell 2 (some 4)],15,false,8⟩
  | 185=>some ⟨x185,[.tmp 2],50,false,8⟩
  | 186=>some ⟨x186,[.tmp 2],22,false,8⟩
  | 187=>some ⟨x187,[.tmp 2],28,false,8⟩
  | 188=>some ⟨x188,[.tmp 4],8,false,8⟩
  | 189=>some ⟨x189,[.tmp 2],24,false,8⟩
  | 190=>some ⟨x190,[.tmp 4],8,false,8⟩
  | _=>none
theorem tabD_ok : TabOK Try.prog tabD:=by
  intro f t h ags row r row' nw hal hrow hx
  unfold tabD at h
  split at h
  · cases h;exact b75 hal hrow hx
  · cases h;exact b125 hal hrow hx
  · cases h;exact b77 hal hrow hx
  · cases h;exact b78 hal hrow hx
  · cases h;exact b126 hal hrow hx
  · cases h;exact b81 hal hrow hx
  · cases h;exact b127 hal hrow hx
  · cases h;exact b128 hal hrow hx
  · cases h;exact b153 hal hrow hx
  · cases h;exact b131 hal hrow hx
  · cases h;exact b152 hal hrow hx
  · cases h;exact b154 hal hrow hx
  · cases h;exact b46 hal hrow hx
  · cases h;exact b47 hal hrow hx
  · cases h;exact b53 hal hrow hx
  · cases h;exact b54 hal hrow hx
  · cases h;exact b55 hal hrow hx
  · cases h;exact b97 hal hrow hx
  · cases h;exact b103 hal hrow hx
  · cases h;exact b104 hal hrow hx
  · cases h;exact b105 hal hrow hx
  · cases h;exact b106 hal hrow hx
  · cases h;exact b107 hal hrow hx
  · cases h;exact b108 hal hrow hx
  · cases h;exact b109 hal hrow hx
  · cases h;exact b110 hal hrow hx
  · cases h;exact b111 hal hrow hx
  · cases h;exact b112 hal hrow hx
  · cases h;exact b113 hal hrow hx
  · cases h;exact b145 hal hrow hx
  · cases h;exact b146 hal hrow hx
  · cases h;exact b73 hal hrow hx
  · cases h;exact b84 hal hrow hx
  · cases h;exact b132 hal hrow hx
  · cases h;exact b156 hal hrow hx
  · cases h;exact b157 hal hrow hx
  · cases h;exact b83 hal hrow hx
  · cases h;exact b119 hal hrow hx
  · cases h;exact b149 hal hrow hx
  · cases h;exact b150 hal hrow hx
  · cases h;exact b162 hal hrow hx
  · cases h;exact b163 hal hrow hx
  · cases h;exact b164 hal hrow hx
  · cases h;exact b170 hal hrow hx
  · cases h;exact b171 hal hrow hx
  · cases h;exact b172 hal hrow hx
  · cases h;exact b176 hal hrow hx
  · cases h;exact b177 hal hrow hx
  · cases h;exact b178 hal hrow hx
  · cases h;exact b179 hal hrow hx
  · cases h;exact b180 hal hrow hx
  · cases h;exact b181 hal hrow hx
  · cases h;exact b182 hal hrow hx
  · cases h;exact b183 hal hrow hx
  · cases h;exact b184 hal hrow hx
  · cases h;exact b185 hal hrow hx
  · cases h;exact b186 hal hrow hx
  · cases h;exact b187 hal hrow hx
  · cases h;exact b188 hal hrow hx
  · cases h;exact b189 hal hrow hx
  · cases h;exact b190 hal hrow hx
  · cases h

theorem awake75_ev : evF tabD (spP 100) 100 40 75 [] none=some (.b true,none,none):=by kernel_rfl
theorem awake75_good : Good Try.prog 75 [] none (.b true) none none:=evF_sound tabD_ok (spP_ok 100) 40 75 [] none _ _ _ awake75_ev
end Go.Sv
