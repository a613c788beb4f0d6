/- A part of the proof of the law DeriveWords: that it answers true for every input, and that the input reads behind the call as before (no condition). -/
import Derived.Test.YtcnlgmajkclgjaaDeriveWordsG5
set_option linter.all false
set_option linter.unusedSectionVars false
set_option linter.unusedVariables false
set_option linter.unusedSimpArgs false
namespace Go.Sv
open Go Go.Proofs
def x7 : XC:=(.seq (.ops 2 [ (0,⟨some 4,none,.box (.t 0)⟩),(1,⟨some 8,none,.mv (.k (.d (.val (.bool false))))⟩)] (some [1,2,3,4])) (.seq (.seq (.ops 25 [ (0,⟨some 15,none,.call 29 [] none false⟩),(1,⟨some 16,none,.un .not (.t 15)⟩),(2,⟨some 17,none,.mv (.t 16)⟩),(3,⟨some 18,(some (17,false)),.load (some 8) (.t 4)⟩),(4,⟨some 19,(some (17,false)),.mv (.t 1)⟩),(5,⟨some 20,(some (17,false)),.mv (.t 2)⟩),(6,⟨some 21,(some (17,false)),.arith .add (.t 19) (.t 20)⟩),(7,⟨some 22,(some (17,false)),.call 30 [(.t 18),(.t 21)] none false⟩),(8,⟨some 23,(some (17,false)),.un .not (.t 22)⟩),(9,⟨some 24,none,.pick (.t 17) (.k (.d (.val (.bool true)))) (.t 23)⟩),(10,⟨some 25,none,.mv (.t 24)⟩),(11,⟨some 26,(some (25,false)),.load (some 8) (.t 4)⟩),(12,⟨some 27,(some (25,false)),.call 32 [(.t 26)] none false⟩),(13,⟨some 28,(some (25,false)),.un .not (.t 27)⟩),(14,⟨some 29,none,.pick (.t 25) (.k (.d (.val (.bool true)))) (.t 28)⟩),(15,⟨some 30,none,.mv (.t 29)⟩),(16,⟨some 31,(some (30,false)),.mv (.t 3)⟩),(17,⟨some 32,(some (30,false)),.arith .lss (.t 31) (.k (.d (.val (.int .i64 0))))⟩),(18,⟨some 33,none,.pick (.t 30) (.k (.d (.val (.bool true)))) (.t 32)⟩),(19,⟨some 34,none,.mv (.t 33)⟩),(20,⟨some 35,(some (34,false)),.mv (.t 3)⟩),(21,⟨some 36,(some (34,false)),.mv (.t 1)⟩),(22,⟨some 37,(some (34,false)),.lenT (.t 36)⟩),(23,⟨some 38,(some (34,false)),.arith .gtr (.t 35) (.t 37)⟩),(24,⟨some 39,none,.pick (.t 34) (.k (.d (.val (.bool true)))) (.t 38)⟩)] (some [1,2,3,4,39])) (.cond (.t 39) (.seq (.ops 2 [ (0,⟨some 40,none,.call 29 [] none false⟩),(1,⟨some 8,none,.mv (.t 40)⟩)] (some [8])) .ret) .skip)) (.seq (.ops 9 [ (0,⟨some 42,none,.load (some 8) (.t 4)⟩),(1,⟨some 43,none,.mv (.t 1)⟩),(2,⟨some 44,none,.mv (.t 3)⟩),(3,⟨some 45,none,.call 31 [(.t 42),(.t 43),(.t 44)] none false⟩),(4,⟨some 41,none,.mv (.t 45)⟩),(5,⟨some 46,none,.ext (.t 41) 0⟩),(6,⟨some 47,none,.ext (.t 41) 1⟩),(7,⟨some 9,none,.mv (.t 46)⟩),(8,⟨some 10,none,.mv (.t 47)⟩)] (some [1,2,3,4,9,10])) (.seq (.ops 11 [ (0,⟨some 49,none,.load (some 8) (.t 4)⟩),(1,⟨some 50,none,.mv (.t 1)⟩),(2,⟨some 51,none,.mv (.t 2)⟩),(3,⟨some 52,none,.arith .add (.t 50) (.t 51)⟩),(4,⟨some 53,none,.mv (.t 3)⟩),(5,⟨some 54,none,.call 31 [(.t 49),(.t 52),(.t 53)] none false⟩),(6,⟨some 48,none,.mv (.t 54)⟩),(7,⟨some 55,none,.ext (.t 48) 0⟩),(8,⟨some 56,none,.ext (.t 48) 1⟩),(9,⟨some 11,none,.mv (.t 55)⟩),(10,⟨some 12,none,.mv (.t 56)⟩)] (some [1,9,10,11,12])) (.seq (.seq (.ops 22 [ (0,⟨some 57,none,.mv (.t 10)⟩),(1,⟨some 58,none,.arith .neq (.t 57) (.k (.d (.val (.int .i64 0))))⟩),(2,⟨some 59,none,.mv (.t 58)⟩),(3,⟨some 60,(some (59,false)),.mv (.t 12)⟩),(4,⟨some 61,(some (59,false)),.arith .neq (.t 60) (.k (.d (.val (.int .i64 0))))⟩),(5,⟨some 62,none,.pick (.t 59) (.k (.d (.val (.bool true)))) (.t 61)⟩),(6,⟨some 63,none,.mv (.t 62)⟩),(7,⟨some 64,(some (63,false)),.mv (.t 11)⟩),(8,⟨some 65,(some (63,false)),.lenS (.t 64)⟩),(9,⟨some 66,(some (63,false)),.mv (.t 9)⟩),(10,⟨some 67,(some (63,false)),.lenS (.t 66)⟩),(11,⟨some 68,(some (63,false)),.arith .lss (.t 65) (.t 67)⟩),(12,⟨some 69,none,.pick (.t 63) (.k (.d (.val (.bool true)))) (.t 68)⟩),(13,⟨some 70,none,.mv (.t 69)⟩),(14,⟨some 71,(some (70,false)),.mv (.t 9)⟩),(15,⟨some 72,(some (70,false)),.mv (.t 11)⟩),(16,⟨some 73,(some (70,false)),.mv (.t 9)⟩),(17,⟨some 74,(some (70,false)),.lenS (.t 73)⟩),(18,⟨some 75,(some (70,false)),.slS 1 (.t 72) none (some (.t 74))⟩),(19,⟨some 76,(some (70,false)),.call 35 [(.t 71),(.t 75)] none false⟩),(20,⟨some 77,(some (70,false)),.un .not (.t 76)⟩),(21,⟨some 78,none,.pick (.t 70) (.k (.d (.val (.bool true)))) (.t 77)⟩)] (some [1,9,11,78])) (.cond (.t 78) (.seq (.ops 1 [ (0,⟨some 8,none,.mv (.k (.d (.val (.bool false))))⟩)] (some [8])) .ret) .skip)) (.seq (.seq (.ops 6 [ (0,⟨some 79,none,.mv (.t 11)⟩),(1,⟨some 80,none,.mv (.t 9)⟩),(2,⟨some 81,none,.lenS (.t 80)⟩),(3,⟨some 82,none,.slS 1 (.t 79) (some (.t 81)) none⟩),(4,⟨some 83,none,.lenS (.t 82)⟩),(5,⟨some 84,none,.mv (.k (.d (.val (.int .i64 0))))⟩)] (some [1,82,83,84])) (.block 0 (.loop (.seq (.ops 1 [ (0,⟨some 85,none,.arith .lss (.t 84) (.t 83)⟩)] (some [1,82,83,84,85])) (.seq (.cond (.t 85) .skip (.exit 0)) (.seq (.block 1 (.seq (.ops 3 [ (0,⟨some 86,none,.idxS 1 (.t 82) (.t 84)⟩),(1,⟨some 87,none,.load none (.t 86)⟩),(2,⟨some 14,none,.mv (.t 87)⟩)] (some [1,14,82,83,84])) (.seq (.ops 4 [ (0,⟨some 88,none,.mv (.t 14)⟩),(1,⟨some 89,none,.mv (.t 1)⟩),(2,⟨some 90,none,.lenT (.t 89)⟩),(3,⟨some 91,none,.arith .leq (.t 88) (.t 90)⟩)] (some [1,82,83,84,91])) (.cond (.t 91) (.seq (.ops 1 [ (0,⟨some 8,none,.mv (.k (.d (.val (.bool false))))⟩)] (some [8])) .ret) .skip)))) (.ops 2 [ (0,⟨some 92,none,.arith .add (.t 84) (.k (.d (.val (.int .i64 1))))⟩),(1,⟨some 84,none,.mv (.t 92)⟩)] (some [1,82,83,84])))))))) (.seq (.ops 1 [ (0,⟨some 8,none,.mv (.k (.d (.val (.bool true))))⟩)] (some [8])) .ret)))))))
def md7 : FuncId→Option Nat × Bool
  | _=>(none,false)
def od7 : Nat→List (List Nat) × List Nat × Option (List Nat)
  | 0=>([],[],some [1,2,3,4])
  | 1=>([],[],some [1,2,3,4,39])
  | 2=>([],[],some [8])
  | 3=>([],[],some [1,2,3,4,9,10])
  | 4=>([],[],some [1,9,10,11,12])
  | 5=>([],[],some [1,9,11,78])
  | 6=>([],[],some [8])
  | 7=>([],[],some [1,82,83,84])
  | 8=>([],[],some [1,82,83,84,85])
  | 9=>([],[],some [1,14,82,83,84])
  | 10=>([],[],some [1,82,83,84,91])
  | 11=>([],[],some [8])
  | 12=>([],[],some [1,82,83,84])
  | 13=>([],[],some [8])
  | _=>([],[],none)
theorem b7 {ags : List AV} {row : Option (List DV)} {r : AV} {row' nw : Option (List DV)} (hal : ags.length≤93) (hrow : row'.isSome=true→row.isSome=true) (h : xwp Try.prog x7 (retK [.tmp 8] row.isSome r row' nw) (St.init ags row)) : Good Try.prog 7 ags row r row' nw :=
  good_of_body' (md:=md7) (od:=od7) Try.f7 (by kernel_rfl) (by kernel_rfl) (by kernel_rfl) (by kernel_rfl) (by kernel_rfl) hal hrow h

section
variable {P : Program} {Q : Cont} {fr : Fr} {C : Heap} {Z Z' : Frz} {nx : Nat} {base n d : Nat} {l : List (Nat × XO)} {kp : Option (List Nat)} {x i y s : X}
end
set_option maxRecDepth 100000
set_option maxHeartbeats 4000000
attribute [local irreducible] W E R KP thenK blockK retK Good xwp aRun
end Go.Sv
namespace Go.Sv
open Go Go.Proofs
def x9 : XC:=(.seq (.ops 2 [ (0,⟨some 2,none,.box (.t 0)⟩),(1,⟨some 4,none,.mv (.k (.d (.val (.bool false))))⟩)] (some [1,2])) (.seq (.ops 5 [ (0,⟨some 12,none,.load (some 8) (.t 2)⟩),(1,⟨some 13,none,.mkrow [(.int .i64 0),(.int .u64 0),(.int .u64 0),(.int .u64 0),(.int .u64 0),(.int .i64 0),(.int .i64 0),(.slice none 0 0)] 1 8 [(0,8,(.t 12))]⟩),(2,⟨some 14,none,.build [(.int .i64 0),(.int .u64 0),(.int .u64 0),(.int .u64 0),(.int .u64 0),(.int .i64 0),(.int .i64 0),(.slice none 0 0)] [(0,1,(.k (.d (.val (.int .i64 5))))),(6,1,(.k (.d (.val (.int .i64 (-1)))))),(7,1,(.t 13))]⟩),(3,⟨some 5,none,.alloc [(.int .i64 0),(.int .u64 0),(.int .u64 0),(.int .u64 0),(.int .u64 0),(.int .i64 0),(.int .i64 0),(.slice none 0 0)]⟩),(4,⟨none,none,.store 8 (.t 5) (.t 14)⟩)] (some [1,2,5])) (.seq (.ops 9 [ (0,⟨some 15,none,.build [(.int .i64 0),(.int .u64 0),(.int .u64 0),(.int .u64 0),(.int .u64 0),(.int .i64 0),(.int .i64 0),(.slice none 0 0)] [(0,1,(.k (.d (.val (.int .i64 1)))))]⟩),(1,⟨some 16,none,.load (some 8) (.t 2)⟩),(2,⟨some 17,none,.load (some 8) (.t 5)⟩),(3,⟨some 18,none,.mkrow [(.int .i64 0),(.int .u64 0),(.int .u64 0),(.int .u64 0),(.int .u64 0),(.int .i64 0),(.int .i64 0),(.slice none 0 0)] 2 8 [(0,8,(.t 16)),(8,8,(.t 17))]⟩),(4,⟨some 19,none,.build [(.int .i64 0),(.int .u64 0),(.int .u64 0),(.int .u64 0),(.int .u64 0),(.int .i64 0),(.int .i64 0),(.slice none 0 0)] [(0,1,(.k (.d (.val (.int .i64 3))))),(7,1,(.t 18))]⟩),(5,⟨some 20,none,.mkrow [(.int .i64 0),(.int .u64 0),(.int .u64 0),(.int .u64 0),(.int .u64 0),(.int .i64 0),(.int .i64 0),(.slice none 0 0)] 2 8 [(0,8,(.t 15)),(8,8,(.t 19))]⟩),(6,⟨some 21,none,.build [(.int .i64 0),(.int .u64 0),(.int .u64 0),(.int .u64 0),(.int .u64 0),(.int .i64 0),(.int .i64 0),(.slice none 0 0)] [(0,1,(.k (.d (.val (.int .i64 4))))),(7,1,(.t 20))]⟩),(7,⟨some 6,none,.alloc [(.int .i64 0),(.int .u64 0),(.int .u64 0),(.int .u64 0),(.int .u64 0),(.int .i64 0),(.int .i64 0),(.slice none 0 0)]⟩),(8,⟨none,none,.store 8 (.t 6) (.t 21)⟩)] (some [1,5,6])) (.seq (.seq (.ops 13 [ (0,⟨some 22,none,.call 29 [] none false⟩),(1,⟨some 23,none,.un .not (.t 22)⟩),(2,⟨some 24,none,.mv (.t 23)⟩),(3,⟨some 25,(some (24,false)),.load (some 8) (.t 6)⟩),(4,⟨some 26,(some (24,false)),.mv (.t 1)⟩),(5,⟨some 27,(some (24,false)),.call 30 [(.t 25),(.t 26)] none false⟩),(6,⟨some 28,(some (24,false)),.un .not (.t 27)⟩),(7,⟨some 29,none,.pick (.t 24) (.k (.d (.val (.bool true)))) (.t 28)⟩),(8,⟨some 30,none,.mv (.t 29)⟩),(9,⟨some 31,(some (30,false)),.load (some 8) (.t 6)⟩),(10,⟨some 32,(some (30,false)),.call 32 [(.t 31)] none false⟩),(11,⟨some 33,(some (30,false)),.un .not (.t 32)⟩),(12,⟨some 34,none,.pick (.t 30) (.k (.d (.val (.bool true)))) (.t 33)⟩)] (some [1,5,6,34])) (.cond (.t 34) (.seq (.ops 2 [ (0,⟨some 35,none,.call 29 [] none false⟩),(1,⟨some 4,none,.mv (.t 35)⟩)] (some [4])) .ret) .skip)) (.seq (.seq (.ops 4 [ (0,⟨some 36,none,.mv (.t 1)⟩),(1,⟨some 37,none,.lenT (.t 36)⟩),(2,⟨some 38,none,.arith .add (.t 37) (.k (.d (.val (.int .i64 1))))⟩),(3,⟨some 39,none,.mv (.k (.d (.val (.int .i64 0))))⟩)] (some [1,5,6,38,39])) (.block 0 (.loop (.seq (.ops 1 [ (0,⟨some 40,none,.arith .lss (.t 39) (.t 38)⟩)] (some [1,5,6,38,39,40])) (.seq (.cond (.t 40) .skip (.exit 0)) (.seq (.block 1 (.seq (.ops 2 [ (0,⟨some 41,none,.mv (.t 39)⟩),(1,⟨some 7,none,.mv (.t 41)⟩)] (some [1,5,6,7,38,39])) (.seq (.ops 9 [ (0,⟨some 43,none,.load (some 8) (.t 5)⟩),(1,⟨some 44,none,.mv (.t 1)⟩),(2,⟨some 45,none,.mv (.t 7)⟩),(3,⟨some 46,none,.call 31 [(.t 43),(.t 44),(.t 45)] none false⟩),(4,⟨some 42,none,.mv (.t 46)⟩),(5,⟨some 47,none,.ext (.t 42) 0⟩),(6,⟨some 48,none,.ext (.t 42) 1⟩),(7,⟨some 8,none,.mv (.t 47)⟩),(8,⟨some 9,none,.mv (.t 48)⟩)] (some [1,5,6,7,8,9,38,39])) (.seq (.ops 9 [ (0,⟨some 50,none,.load (some 8) (.t 6)⟩),(1,⟨some 51,none,.mv (.t 1)⟩),(2,⟨some 52,none,.mv (.t 7)⟩),(3,⟨some 53,none,.call 31 [(.t 50),(.t 51),(.t 52)] none false⟩),(4,⟨some 49,none,.mv (.t 53)⟩),(5,⟨some 54,none,.ext (.t 49) 0⟩),(6,⟨some 55,none,.ext (.t 49) 1⟩),(7,⟨some 10,none,.mv (.t 54)⟩),(8,⟨some 11,none,.mv (.t 55)⟩)] (some [1,5,6,7,8,9,10,11,38,39])) (.seq (.ops 24 [ (0,⟨some 56,none,.mv (.t 9)⟩),(1,⟨some 57,none,.arith .neq (.t 56) (.k (.d (.val (.int .i64 0))))⟩),(2,⟨some 58,none,.mv (.t 57)⟩),(3,⟨some 59,(some (58,false)),.mv (.t 11)⟩),(4,⟨some 60,(some (58,false)),.arith .neq (.t 59) (.k (.d (.val (.int .i64 0))))⟩),(5,⟨some 61,none,.pick (.t 58) (.k (.d (.val (.bool true)))) (.t 60)⟩),(6,⟨some 62,none,.mv (.t 61)⟩),(7,⟨some 63,(some (62,false)),.mv (.t 8)⟩),(8,⟨some 64,(some (62,false)),.mv (.t 10)⟩),(9,⟨some 65,(some (62,false)),.call 35 [(.t 63),(.t 64)] none false⟩),(10,⟨some 66,(some (62,false)),.un .not (.t 65)⟩),(11,⟨some 67,none,.pick (.t 62) (.k (.d (.val (.bool true)))) (.t 66)⟩),(12,⟨some 68,none,.mv (.t 67)⟩),(13,⟨some 69,(some (68,false)),.mv (.t 8)⟩),(14,⟨some 70,(some (68,false)),.lenS (.t 69)⟩),(15,⟨some 71,(some (68,false)),.arith .eql (.t 70) (.k (.d (.val (.int .i64 0))))⟩),(16,⟨some 72,none,.pick (.t 68) (.k (.d (.val (.bool true)))) (.t 71)⟩),(17,⟨some 73,none,.mv (.t 72)⟩),(18,⟨some 74,(some (73,false)),.mv (.t 8)⟩),(19,⟨some 75,(some (73,false)),.idxS 1 (.t 74) (.k (.d (.val (.int .i64 0))))⟩),(20,⟨some 76,(some (73,false)),.load none (.t 75)⟩),(21,⟨some 77,(some (73,false)),.mv (.t 7)⟩),(22,⟨some 78,(some (73,false)),.arith .neq (.t 76) (.t 77)⟩),(23,⟨some 79,none,.pick (.t 73) (.k (.d (.val (.bool true)))) (.t 78)⟩)] (some [1,5,6,38,39,79])) (.cond (.t 79) (.seq (.ops 1 [ (0,⟨some 4,none,.mv (.k (.d (.val (.bool false))))⟩)] (some [4])) .ret) .skip)))))) (.ops 2 [ (0,⟨some 80,none,.arith .add (.t 39) (.k (.d (.val (.int .i64 1))))⟩),(1,⟨some 39,none,.mv (.t 80)⟩)] (some [1,5,6,38,39])))))))) (.seq (.ops 1 [ (0,⟨some 4,none,.mv (.k (.d (.val (.bool true))))⟩)] (some [4])) .ret))))))
def md9 : FuncId→Option Nat × Bool
  | _=>(none,false)
def od9 : Nat→List (List Nat) × List Nat × Option (List Nat)
  | 0=>([],[],some [1,2])
  | 1=>([],[],some [1,2,5])
  | 2=>([],[],some [1,5,6])
  | 3=>([],[],some [1,5,6,34])
  | 4=>([],[],some [4])
  | 5=>([],[],some [1,5,6,38,39])
  | 6=>([],[],some [1,5,6,38,39,40])
  | 7=>([],[],some [1,5,6,7,38,39])
  | 8=>([],[],some [1,5,6,7,8,9,38,39])
  | 9=>([],[],some [1,5,6,7,8,9,10,11,38,39])
  | 10=>([],[],some [1,5,6,38,39,79])
  | 11=>([],[],some [4])
  | 12=>([],[],some [1,5,6,38,39])
  | 13=>([],[],some [4])
  | _=>([],[],none)
theorem b9 {ags : List AV} {row : Option (List DV)} {r : AV} {row' nw : Option (List DV)} (hal : ags.length≤81) (hrow : row'.isSome=true→row.isSome=true) (h : xwp Try.prog x9 (retK [.tmp 4] row.isSome r row' nw) (St.init ags row)) : Good Try.prog 9 ags row r row' nw :=
  good_of_body' (md:=md9) (od:=od9) Try.f9 (by kernel_rfl) (by kernel_rfl) (by kernel_rfl) (by kernel_rfl) (by kernel_rfl) hal hrow h

set_option maxRecDepth 100000
set_option maxHeartbeats 4000000
attribute [local irreducible] W E R KP thenK blockK retK Good xwp aRun
end Go.Sv
namespace Go.Sv
open Go
end Go.Sv
namespace Go.Sv
set_option linter.unusedVariables false
def dS (s : ByteArray) (t : T) (j : Nat) : Nat→Option T
  | 0=>some t
  | k + 1=>(dS s t j k).bind fun u=>if 4000 < (byT (byteN s (j + k)) u).cnt then none else some (byT (byteN s (j + k)) u)
def DOK (t : T) : Prop:=okT t∧sfT t∧t.cnt≤4000
theorem dS_step {s : ByteArray} {t u : T} {j k : Nat} (h : dS s t j k=some u) : dS s t j (k + 1)=if 4000 < (byT (byteN s (j + k)) u).cnt then none else some (byT (byteN s (j + k)) u):=by
  rw [dS,h];rfl
theorem DOK_by {t : T} {x : Nat} (h : DOK t) (hc : ¬ 4000 < (byT x t).cnt) : DOK (byT x t):=by
  obtain ⟨g1,g2,_,_⟩:=byT_ok x t h.1 h.2.1
  exact ⟨g1,g2,by omega⟩
theorem dS_ok {s : ByteArray} {t : T} {j : Nat} (h : DOK t) : ∀ (k : Nat) (u : T),dS s t j k=some u→DOK u∧∀ w,L u w↔L t (word s j (j + k)++w)
  | 0,u,hu=>by
    rw [dS] at hu
    cases hu
    exact ⟨h,fun w=>by rw [Nat.add_zero,word_nil];rfl⟩
  | k + 1,u,hu=>by
    rw [dS] at hu
    obtain ⟨v,hv,hu⟩:=Option.bind_eq_some_iff.1 hu
    obtain ⟨hd,hl⟩:=dS_ok h k v hv
    by_cases hc : 4000 < (byT (byteN s (j + k)) v).cnt
    · rw [if_pos hc] at hu;cases hu
    · rw [if_neg hc] at hu
      cases hu
      refine ⟨DOK_by hd hc,fun w=>?_⟩
      obtain ⟨_,_,g3,_⟩:=byT_ok (byteN s (j + k)) v hd.1 hd.2.1
      rw [g3,hl]
      have:=word_app s (i:=j) (j:=j + k) (k:=j + k + 1) (by omega) (by omega)
      rw [word_one] at this
      rw [show j + (k + 1)=j + k + 1 by omega,← this,List.append_assoc]
      rfl
theorem dS_add (s : ByteArray) (t : T) (j a : Nat) : ∀ b,dS s t j (a + b)=(dS s t j a).bind fun u=>dS s u (j + a) b
  | 0=>by
    rw [Nat.add_zero]
    cases dS s t j a<;>rfl
  | b + 1=>by
    rw [← Nat.add_assoc,dS,dS_add s t j a b]
    cases dS s t j a with
    | none=>rfl
    | some u=>simp only [Option.bind_some,dS,Nat.add_assoc]
theorem dS_congr {s r : ByteArray} {i j : Nat} (t : T) : ∀ k,(∀ n,n < k→byteN s (i + n)=byteN r (j + n))→dS s t i k=dS r t j k
  | 0,_=>rfl
  | k + 1,h=>by rw [dS,dS,dS_congr t k (fun n hn=>h n (by omega)),h k (by omega)]
theorem byteN_app_l (s r : ByteArray) {n : Nat} (h : n < s.size) : byteN (s++r) n=byteN s n:=by
  unfold byteN
  have h' : n < s.data.size:=h
  have e : (s++r).data=s.data++r.data:=by simp
  rw [e]
  simp only [Array.getD_eq_getD_getElem?,Array.getElem?_append,if_pos h']
theorem byteN_app_r (s r : ByteArray) (n : Nat) : byteN (s++r) (s.size + n)=byteN r n:=by
  unfold byteN
  have e : (s++r).data=s.data++r.data:=by simp
  have h' : ¬ s.size + n < s.data.size:=by show ¬ s.size + n < s.size;omega
  have h2 : s.size + n - s.data.size=n:=by show s.size + n - s.size=n;omega
  rw [e]
  simp only [Array.getD_eq_getD_getElem?,Array.getElem?_append,if_neg h',h2]
theorem dS_two (s r : ByteArray) (t : T) : dS (s++r) t 0 (s++r).size=(dS s t 0 s.size).bind fun u=>dS r u 0 r.size:=by
  rw [ByteArray.size_append,dS_add]
  have h1 : dS (s++r) t 0 s.size=dS s t 0 s.size:=dS_congr t _ fun n hn=>by rw [Nat.zero_add];exact byteN_app_l s r hn
  rw [h1]
  congr 1
  funext u
  exact dS_congr u _ fun n _=>by rw [Nat.zero_add,Nat.zero_add];exact byteN_app_r s r n
theorem DOK_sim {t : T} (ho : okT t) (hc : t.cnt≤4000) : DOK (simT t):=⟨simT_ok t ho,simT_sf t ho,by have:=simT_cnt t ho;omega⟩
end Go.Sv
namespace Go.Sv
open Go Go.Proofs
def x131 : XC:=(.seq (.ops 1 [ (0,⟨some 2,none,.mv (.k (.d (.val (.bool false))))⟩)] (some [0])) (.seq (.seq (.ops 4 [ (0,⟨some 5,none,.mv (.t 0)⟩),(1,⟨some 6,none,.nilck (.t 5)⟩),(2,⟨some 7,none,.fadd 0 (.t 6)⟩),(3,⟨some 8,none,.load none (.t 7)⟩)] (some [0,8])) (.block 0 (.seq (.ops 2 [ (0,⟨some 10,none,.arith .eql (.t 8) (.k (.d (.val (.int .i64 1))))⟩),(1,⟨some 9,none,.mv (.t 10)⟩)] (some [0,8,9])) (.cond (.t 9) (.seq (.ops 1 [ (0,⟨some 2,none,.mv (.k (.d (.val (.bool true))))⟩)] (some [2])) .ret) (.seq (.ops 2 [ (0,⟨some 12,none,.arith .eql (.t 8) (.k (.d (.val (.int .i64 3))))⟩),(1,⟨some 11,none,.mv (.t 12)⟩)] (some [0,8,11])) (.cond (.t 11) (.seq (.seq (.ops 6 [ (0,⟨some 13,none,.mv (.t 0)⟩),(1,⟨some 14,none,.nilck (.t 13)⟩),(2,⟨some 15,none,.fadd 7 (.t 14)⟩),(3,⟨some 16,none,.load none (.t 15)⟩),(4,⟨some 17,none,.lenS (.t 16)⟩),(5,⟨some 18,none,.mv (.k (.d (.val (.int .i64 0))))⟩)] (some [0,17,18])) (.block 1 (.loop (.seq (.ops 1 [ (0,⟨some 19,none,.arith .lss (.t 18) (.t 17)⟩)] (some [0,17,18,19])) (.seq (.cond (.t 19) .skip (.exit 1)) (.seq (.block 2 (.seq (.ops 2 [ (0,⟨some 20,none,.mv (.t 18)⟩),(1,⟨some 3,none,.mv (.t 20)⟩)] (some [0,3,17,18])) (.seq (.ops 8 [ (0,⟨some 21,none,.mv (.t 0)⟩),(1,⟨some 22,none,.nilck (.t 21)⟩),(2,⟨some 23,none,.fadd 7 (.t 22)⟩),(3,⟨some 24,none,.load none (.t 23)⟩),(4,⟨some 25,none,.mv (.t 3)⟩),(5,⟨some 26,none,.idxS 8 (.t 24) (.t 25)⟩),(6,⟨some 27,none,.call 131 [(.t 26)] none false⟩),(7,⟨some 28,none,.un .not (.t 27)⟩)] (some [0,17,18,28])) (.cond (.t 28) (.seq (.ops 1 [ (0,⟨some 2,none,.mv (.k (.d (.val (.bool false))))⟩)] (some [2])) .ret) .skip)))) (.ops 2 [ (0,⟨some 29,none,.arith .add (.t 18) (.k (.d (.val (.int .i64 1))))⟩),(1,⟨some 18,none,.mv (.t 29)⟩)] (some [0,17,18])))))))) (.seq (.ops 1 [ (0,⟨some 2,none,.mv (.k (.d (.val (.bool true))))⟩)] (some [2])) .ret)) (.seq (.ops 2 [ (0,⟨some 31,none,.arith .eql (.t 8) (.k (.d (.val (.int .i64 4))))⟩),(1,⟨some 30,none,.mv (.t 31)⟩)] (some [0,8,30])) (.cond (.t 30) (.seq (.ops 6 [ (0,⟨some 32,none,.mv (.t 0)⟩),(1,⟨some 33,none,.nilck (.t 32)⟩),(2,⟨some 34,none,.fadd 7 (.t 33)⟩),(3,⟨some 35,none,.load none (.t 34)⟩),(4,⟨some 36,none,.lenS (.t 35)⟩),(5,⟨some 37,none,.mv (.k (.d (.val (.int .i64 0))))⟩)] (some [0,36,37])) (.block 3 (.loop (.seq (.ops 1 [ (0,⟨some 38,none,.arith .lss (.t 37) (.t 36)⟩)] (some [0,36,37,38])) (.seq (.cond (.t 38) .skip (.exit 3)) (.seq (.block 4 (.seq (.ops 2 [ (0,⟨some 39,none,.mv (.t 37)⟩),(1,⟨some 4,none,.mv (.t 39)⟩)] (some [0,4,36,37])) (.seq (.ops 7 [ (0,⟨some 40,none,.mv (.t 0)⟩),(1,⟨some 41,none,.nilck (.t 40)⟩),(2,⟨some 42,none,.fadd 7 (.t 41)⟩),(3,⟨some 43,none,.load none (.t 42)⟩),(4,⟨some 44,none,.mv (.t 4)⟩),(5,⟨some 45,none,.idxS 8 (.t 43) (.t 44)⟩),(6,⟨some 46,none,.call 131 [(.t 45)] none false⟩)] (some [0,36,37,46])) (.cond (.t 46) (.seq (.ops 1 [ (0,⟨some 2,none,.mv (.k (.d (.val (.bool true))))⟩)] (some [2])) .ret) .skip)))) (.ops 2 [ (0,⟨some 47,none,.arith .add (.t 37) (.k (.d (.val (.int .i64 1))))⟩),(1,⟨some 37,none,.mv (.t 47)⟩)] (some [0,36,37])))))))) (.seq (.ops 2 [ (0,⟨some 49,none,.arith .eql (.t 8) (.k (.d (.val (.int .i64 5))))⟩),(1,⟨some 48,none,.mv (.t 49)⟩)] (some [0,48])) (.cond (.t 48) (.seq (.ops 14 [ (0,⟨some 50,none,.mv (.t 0)⟩),(1,⟨some 51,none,.nilck (.t 50)⟩),(2,⟨some 52,none,.fadd 5 (.t 51)⟩),(3,⟨some 53,none,.load none (.t 52)⟩),(4,⟨some 54,none,.arith .eql (.t 53) (.k (.d (.val (.int .i64 0))))⟩),(5,⟨some 55,none,.mv (.t 54)⟩),(6,⟨some 56,(some (55,false)),.mv (.t 0)⟩),(7,⟨some 57,(some (55,false)),.nilck (.t 56)⟩),(8,⟨some 58,(some (55,false)),.fadd 7 (.t 57)⟩),(9,⟨some 59,(some (55,false)),.load none (.t 58)⟩),(10,⟨some 60,(some (55,false)),.idxS 8 (.t 59) (.k (.d (.val (.int .i64 0))))⟩),(11,⟨some 61,(some (55,false)),.call 131 [(.t 60)] none false⟩),(12,⟨some 62,none,.pick (.t 55) (.k (.d (.val (.bool true)))) (.t 61)⟩),(13,⟨some 2,none,.mv (.t 62)⟩)] (some [2])) .ret) .skip)))))))))) (.seq (.ops 1 [ (0,⟨some 2,none,.mv (.k (.d (.val (.bool false))))⟩)] (some [2])) .ret)))
def md131 : FuncId→Option Nat × Bool
  | _=>(none,false)
def od131 : Nat→List (List Nat) × List Nat × Option (List Nat)
  | 0=>([],[],some [0])
  | 1=>([],[],some [0,8])
  | 2=>([],[],some [0,8,9])
  | 3=>([],[],some [2])
  | 4=>([],[],some [0,8,11])
  | 5=>([],[],some [0,17,18])
  | 6=>([],[],some [0,17,18,19])
  | 7=>([],[],some [0,3,17,18])
  | 8=>([],[],some [0,17,18,28])
  | 9=>([],[],some [2])
  | 10=>([],[],some [0,17,18])
  | 11=>([],[],some [2])
  | 12=>([],[],some [0,8,30])
  | 13=>([],[],some [0,36,37])
  | 14=>([],[],some [0,36,37,38])
  | 15=>([],[],some [0,4,36,37])
  | 16=>([],[],some [0,36,37,46])
  | 17=>([],[],some [2])
  | 18=>([],[],some [0,36,37])
  | 19=>([],[],some [0,48])
  | 20=>([],[],some [2])
  | 21=>([],[],some [2])
  | _=>([],[],none)
theorem b131 {ags : List AV} {row : Option (List DV)} {r : AV} {row' nw : Option (List DV)} (hal : ags.length≤63) (hrow : row'.isSome=true→row.isSome=true) (h : xwp Try.prog x131 (retK [.tmp 2] row.isSome r row' nw) (St.init ags row)) : Good Try.prog 131 ags row r row' nw :=
  good_of_body' (md:=md131) (od:=od131) Try.f131 (by kernel_rfl) (by kernel_rfl) (by kernel_rfl) (by kernel_rfl) (by kernel_rfl) hal hrow h

def x152 : XC:=(.seq (.ops 1 [ (0,⟨some 4,none,.mv (.k (.d (.val (.bool false))))⟩)] (some [0,1])) (.seq (.ops 12 [ (0,⟨some 5,none,.mv (.t 0)⟩),(1,⟨some 6,none,.mv (.t 1)⟩),(2,⟨some 7,none,.arith .shr (.t 6) (.k (.d (.val (.int .u64 6))))⟩),(3,⟨some 8,none,.nilck (.t 5)⟩),(4,⟨some 9,none,.idxP 4 1 (.t 8) (.t 7)⟩),(5,⟨some 10,none,.load none (.t 9)⟩),(6,⟨some 11,none,.mv (.t 1)⟩),(7,⟨some 12,none,.arith .and (.t 11) (.k (.d (.val (.int .u8 63))))⟩),(8,⟨some 13,none,.arith .shr (.t 10) (.t 12)⟩),(9,⟨some 14,none,.arith .and (.t 13) (.k (.d (.val (.int .u64 1))))⟩),(10,⟨some 15,none,.arith .eql (.t 14) (.k (.d (.val (.int .u64 1))))⟩),(11,⟨some 4,none,.mv (.t 15)⟩)] (some [4])) .ret))
def md152 : FuncId→Option Nat × Bool
  | _=>(none,false)
def od152 : Nat→List (List Nat) × List Nat × Option (List Nat)
  | 0=>([],[],some [0,1])
  | 1=>([],[],some [4])
  | _=>([],[],none)
theorem b152 {ags : List AV} {row : Option (List DV)} {r : AV} {row' nw : Option (List DV)} (hal : ags.length≤16) (hrow : row'.isSome=true→row.isSome=true) (h : xwp Try.prog x152 (retK [.tmp 4] row.isSome r row' nw) (St.init ags row)) : Good Try.prog 152 ags row r row' nw :=
  good_of_body' (md:=md152) (od:=od152) Try.f152 (by kernel_rfl) (by kernel_rfl) (by kernel_rfl) (by kernel_rfl) (by kernel_rfl) hal hrow h

def x154 : XC:=(.seq (.ops 1 [ (0,⟨some 4,none,.mv (.k (.d (.val (.int .i64 0))))⟩)] (some [0,1])) (.seq (.ops 3 [ (0,⟨some 6,none,.mv (.t 1)⟩),(1,⟨some 7,none,.arith .sub (.t 6) (.k (.d (.val (.int .i64 1))))⟩),(2,⟨some 1,none,.mv (.t 7)⟩)] (some [0,1])) (.seq (.seq (.ops 1 [ (0,⟨some 5,none,.mv (.k (.d (.val (.int .i64 0))))⟩)] (some [0,1,5])) (.block 0 (.loop (.seq (.seq (.ops 11 [ (0,⟨some 8,none,.mv (.t 5)⟩),(1,⟨some 9,none,.mv (.t 0)⟩),(2,⟨some 10,none,.nilck (.t 9)⟩),(3,⟨some 11,none,.fadd 7 (.t 10)⟩),(4,⟨some 12,none,.load none (.t 11)⟩),(5,⟨some 13,none,.lenS (.t 12)⟩),(6,⟨some 14,none,.arith .lss (.t 8) (.t 13)⟩),(7,⟨some 15,none,.mv (.t 14)⟩),(8,⟨some 16,(some (15,true)),.mv (.t 1)⟩),(9,⟨some 17,(some (15,true)),.arith .geq (.t 16) (.k (.d (.val (.int .i64 0))))⟩),(10,⟨some 18,none,.pick (.t 15) (.t 17) (.k (.d (.val (.bool false))))⟩)] (some [0,1,5,18])) (.cond (.t 18) .skip (.exit 0))) (.seq (.block 1 (.ops 9 [ (0,⟨some 21,none,.mv (.t 0)⟩),(1,⟨some 22,none,.nilck (.t 21)⟩),(2,⟨some 23,none,.fadd 7 (.t 22)⟩),(3,⟨some 24,none,.load none (.t 23)⟩),(4,⟨some 25,none,.mv (.t 5)⟩),(5,⟨some 26,none,.idxS 8 (.t 24) (.t 25)⟩),(6,⟨some 27,none,.mv (.t 1)⟩),(7,⟨some 28,none,.call 154 [(.t 26),(.t 27)] none false⟩),(8,⟨some 1,none,.mv (.t 28)⟩)] (some [0,1,5]))) (.ops 3 [ (0,⟨some 19,none,.mv (.t 5)⟩),(1,⟨some 20,none,.arith .add (.t 19) (.k (.d (.val (.int .i64 1))))⟩),(2,⟨some 5,none,.mv (.t 20)⟩)] (some [0,1,5]))))))) (.seq (.ops 2 [ (0,⟨some 29,none,.mv (.t 1)⟩),(1,⟨some 4,none,.mv (.t 29)⟩)] (some [4])) .ret))))
def md154 : FuncId→Option Nat × Bool
  | _=>(none,false)
def od154 : Nat→List (List Nat) × List Nat × Option (List Nat)
  | 0=>([],[],some [0,1])
  | 1=>([],[],some [0,1])
  | 2=>([],[],some [0,1,5])
  | 3=>([],[],some [0,1,5,18])
  | 4=>([],[],some [0,1,5])
  | 5=>([],[],some [0,1,5])
  | 6=>([],[],some [4])
  | _=>([],[],none)
theorem b154 {ags : List AV} {row : Option (List DV)} {r : AV} {row' nw : Option (List DV)} (hal : ags.length≤30) (hrow : row'.isSome=true→row.isSome=true) (h : xwp Try.prog x154 (retK [.tmp 4] row.isSome r row' nw) (St.init ags row)) : Good Try.prog 154 ags row r row' nw :=
  good_of_body' (md:=md154) (od:=od154) Try.f154 (by kernel_rfl) (by kernel_rfl) (by kernel_rfl) (by kernel_rfl) (by kernel_rfl) hal hrow h

theorem nlAll_drop (l : List T) (i : Nat) (h : i < l.length) : nlAll (l.drop i)=(nlT l[i] && nlAll (l.drop (i + 1))):=by
  rw [List.drop_eq_getElem_cons h,nlAll]
theorem nlAny_drop (l : List T) (i : Nat) (h : i < l.length) : nlAny (l.drop i)=(nlT l[i] || nlAny (l.drop (i + 1))):=by
  rw [List.drop_eq_getElem_cons h,nlAny]
set_option maxRecDepth 100000
set_option maxHeartbeats 4000000
attribute [local irreducible] W E R KP thenK blockK retK Good xwp aRun
theorem null131_good : ∀ (n : Nat) (t : T) (cs : List DV) (off : Nat),NodeAt cs off t→t.cnt≤n→n≤100000000→okT t→Good Try.prog 131 [.d (.ptr cs off)] none (.b (nlT t)) none none:=by
  intro n
  induction n with
  | zero=>intro t cs off _ ht;have:=cnt_pos t;omega
  | succ n ih =>
  intro t cs off hs ht hc hok
  obtain ⟨k,a,b,c,d,mn,mx,subs⟩:=t
  have hp:=okT_plain hok
  have hk:=(plainT_kind hp).1
  have hoks:=okT_subs hok
  have ih' : ∀ i (h : i < subs.length),Good Try.prog 131 [.d (.ptr (encL subs) (i * 8))] none (.b (nlT subs[i])) none none:=by
    intro i h
    refine ih _ _ _ (NodeAt.sub h) ?_ (by omega) (okL_get subs i h hoks)
    have:=cntL_get subs i h
    simp only [T.cnt] at ht
    omega
  have hlen : subs.length≤100000000:=by
    have:=cntL_len subs
    simp only [T.cnt] at ht
    omega
  clear ih ht hoks
  rcases hk with rfl | rfl | rfl | rfl | rfl
  · refine b131 (by simp) (by simp) (w_init ?_)
    unfold x131
    repeat' (first|(apply r_mvV;rfl)|(apply r_mvP;rfl)|(apply r_nckD;rfl)|(apply r_faddD;rfl)|(apply r_l;apply ld_kind;assumption;rfl)|(apply r_eql;rfl;rfl;(first|(apply dT;omega)|(apply dF;omega)|rfl))|(apply r_nilK)|(apply k_V;rfl)|(apply k_P;rfl)|(apply k_nil)|(apply e_ret (vs:=[.d (.val _)]);rfl)|(apply w_seq)|(apply w_ops;((conv=>lhs;simp only [Nat.reduceAdd])<;>rfl))|(apply w_condT;rfl)|(apply e_thenN)|(apply w_block)|(apply e_thenR)|(apply e_blkR)|(apply w_ret))
    exact retB (by simp [nlT])
  · refine b131 (by simp) (by simp) (w_init ?_)
    unfold x131
    repeat' (first|(apply r_mvV;rfl)|(apply r_mvP;rfl)|(apply r_nckD;rfl)|(apply r_faddD;rfl)|(apply r_l;apply ld_kind;assumption;rfl)|(apply r_eql;rfl;rfl;(first|(apply dT;omega)|(apply dF;omega)|rfl))|(apply r_nilK)|(apply k_V;rfl)|(apply k_P;rfl)|(apply k_nil)|(apply e_ret (vs:=[.d (.val _)]);rfl)|(apply w_seq)|(apply w_ops;((conv=>lhs;simp only [Nat.reduceAdd])<;>rfl))|(apply w_condF;rfl)|(apply e_thenN)|(apply w_block)|(apply e_blkN)|(apply w_ret)|(apply w_skip))
    exact retB (by simp [nlT])
  · have e : nlT (.node 3 a b c d mn mx subs)=nlAll subs:=by simp [nlT]
    rw [e]
    refine b131 (by simp) (by simp) (w_init ?_)
    unfold x131
    repeat' (first|(apply r_mvV;rfl)|(apply r_mvP;rfl)|(apply r_nckD;rfl)|(apply r_faddD;rfl)|(apply r_l;apply ld_kind;assumption;rfl)|(apply r_l;apply ld_subs;assumption;rfl)|(apply r_eql;rfl;rfl;(first|(apply dT;omega)|(apply dF;omega)|rfl))|(apply r_lenD;rfl)|(apply r_nilK)|(apply k_V;rfl)|(apply k_P;rfl)|(apply k_nil)|(apply w_seq)|(apply w_ops;((conv=>lhs;simp only [Nat.reduceAdd])<;>rfl))|(apply w_condT;rfl)|(apply w_condF;rfl)|(apply e_thenN)|(apply w_block))
    apply w_loopI (S:=fun i : Nat=>⟨((Fr.nil.put 0 (.d (.ptr cs off))).put 17 (.i subs.length)).put 18 (.i i),Heap.nil,Frz.lo 100,100⟩) (m:=fun i=>subs.length - i) (I:=fun i=>i≤subs.length∧nlAll subs=nlAll (subs.drop i)) (i0:=0)
    · exact ⟨Nat.zero_le _,rfl⟩
    · refine wk0 (by omega) ?_
      repeat' (first|exact FWk.nil|(apply FWk.i;rfl;(first|rfl|omega|(simp;done)))|(apply FWk.d;rfl;rfl))
    rintro i K ⟨hi,hq⟩ hK
    dsimp only
    rcases Nat.lt_or_ge i subs.length with hlt | hge
    · have hg:=ih' i hlt
      have hd:=nlAll_drop subs i hlt
      rcases Bool.eq_false_or_eq_true (nlT subs[i]) with hr | hr
      · rw [hr] at hg hd
        repeat' (first|(apply r_mvV;rfl)|(apply r_mvP;rfl)|(apply r_nckD;rfl)|(apply r_faddD;rfl)|(apply r_l;apply ld_subs;assumption;rfl)|(apply r_p;apply ix_sub;rfl;rfl;omega)|(apply r_callA;rfl;rfl;exact hg)|(apply r_lss;rfl;rfl;(first|(apply dT;omega)|(apply dF;omega)|rfl))|(apply r_add;rfl;rfl;rfl;omega)|(apply r_not;rfl;rfl)|(apply r_nilK)|(apply k_V;rfl)|(apply k_P;rfl)|(apply k_nil)|(apply w_seq)|(apply w_ops;((conv=>lhs;simp only [Nat.reduceAdd])<;>rfl))|(apply w_condT;rfl)|(apply w_condF;rfl)|(apply e_thenN)|(apply w_block)|(apply e_blkN)|(apply w_skip))
        apply e_thenK
        apply hK (i + 1)
        · exact ⟨by omega,by rw [hq,hd,Bool.true_and]⟩
        · omega
        · refine wk0 (by omega) ?_
          repeat' (first|exact FWk.nil|(apply FWk.i;rfl;(first|rfl|omega|(simp;done)))|(apply FWk.d;rfl;rfl))
      · rw [hr] at hg hd
        repeat' (first|(apply r_mvV;rfl)|(apply r_mvP;rfl)|(apply r_nckD;rfl)|(apply r_faddD;rfl)|(apply r_l;apply ld_subs;assumption;rfl)|(apply r_p;apply ix_sub;rfl;rfl;omega)|(apply r_callA;rfl;rfl;exact hg)|(apply r_lss;rfl;rfl;(first|(apply dT;omega)|(apply dF;omega)|rfl))|(apply r_not;rfl;rfl)|(apply r_nilK)|(apply k_V;rfl)|(apply k_P;rfl)|(apply k_nil)|(apply e_ret (vs:=[.d (.val _)]);rfl)|(apply w_seq)|(apply w_ops;((conv=>lhs;simp only [Nat.reduceAdd])<;>rfl))|(apply w_condT;rfl)|(apply e_thenN)|(apply w_block)|(apply e_thenR)|(apply e_blkR)|(apply w_ret)|(apply w_skip))
        exact retB (by rw [hq,hd,Bool.false_and])
    · have e : nlAll subs=true:=by rw [hq,List.drop_of_length_le hge,nlAll]
      rw [e]
      repeat' (first|(apply r_mvV;rfl)|(apply r_lss;rfl;rfl;(first|(apply dT;omega)|(apply dF;omega)|rfl))|(apply r_nilK)|(apply k_V;rfl)|(apply k_P;rfl)|(apply k_nil)|(apply e_ret (vs:=[.d (.val _)]);rfl)|(apply w_seq)|(apply w_ops;((conv=>lhs;simp only [Nat.reduceAdd])<;>rfl))|(apply w_condF;rfl)|(apply e_thenN)|(apply e_thenR)|(apply e_thenX)|(apply e_blkR)|(apply e_blkE)|(apply w_exit)|(apply w_ret))
      exact retB rfl
  · have e : nlT (.node 4 a b c d mn mx subs)=nlAny subs:=by simp [nlT]
    rw [e]
    refine b131 (by simp) (by simp) (w_init ?_)
    unfold x131
    repeat' (first|(apply r_mvV;rfl)|(apply r_mvP;rfl)|(apply r_nckD;rfl)|(apply r_faddD;rfl)|(apply r_l;apply ld_kind;assumption;rfl)|(apply r_l;apply ld_subs;assumption;rfl)|(apply r_eql;rfl;rfl;(first|(apply dT;omega)|(apply dF;omega)|rfl))|(apply r_lenD;rfl)|(apply r_nilK)|(apply k_V;rfl)|(apply k_P;rfl)|(apply k_nil)|(apply w_seq)|(apply w_ops;((conv=>lhs;simp only [Nat.reduceAdd])<;>rfl))|(apply w_condT;rfl)|(apply w_condF;rfl)|(apply e_thenN)|(apply w_block))
    apply w_loopI (S:=fun i : Nat=>⟨((Fr.nil.put 0 (.d (.ptr cs off))).put 36 (.i subs.length)).put 37 (.i i),Heap.nil,Frz.lo 100,100⟩) (m:=fun i=>subs.length - i) (I:=fun i=>i≤subs.length∧nlAny subs=nlAny (subs.drop i)) (i0:=0)
    · exact ⟨Nat.zero_le _,rfl⟩
    · refine wk0 (by omega) ?_
      repeat' (first|exact FWk.nil|(apply FWk.i;rfl;(first|rfl|omega|(simp;done)))|(apply FWk.d;rfl;rfl))
    rintro i K ⟨hi,hq⟩ hK
    dsimp only
    rcases Nat.lt_or_ge i subs.length with hlt | hge
    · have hg:=ih' i hlt
      have hd:=nlAny_drop subs i hlt
      rcases Bool.eq_false_or_eq_true (nlT subs[i]) with hr | hr
      · rw [hr] at hg hd
        repeat' (first|(apply r_mvV;rfl)|(apply r_mvP;rfl)|(apply r_nckD;rfl)|(apply r_faddD;rfl)|(apply r_l;apply ld_subs;assumption;rfl)|(apply r_p;apply ix_sub;rfl;rfl;omega)|(apply r_callA;rfl;rfl;exact hg)|(apply r_lss;rfl;rfl;(first|(apply dT;omega)|(apply dF;omega)|rfl))|(apply r_nilK)|(apply k_V;rfl)|(apply k_P;rfl)|(apply k_nil)|(apply e_ret (vs:=[.d (.val _)]);rfl)|(apply w_seq)|(apply w_ops;((conv=>lhs;simp only [Nat.reduceAdd])<;>rfl))|(apply w_condT;rfl)|(apply e_thenN)|(apply w_block)|(apply e_thenR)|(apply e_blkR)|(apply w_ret)|(apply w_skip))
        exact retB (by rw [hq,hd,Bool.true_or])
      · rw [hr] at hg hd
        repeat' (first|(apply r_mvV;rfl)|(apply r_mvP;rfl)|(apply r_nckD;rfl)|(apply r_faddD;rfl)|(apply r_l;apply ld_subs;assumption;rfl)|(apply r_p;apply ix_sub;rfl;rfl;omega)|(apply r_callA;rfl;rfl;exact hg)|(apply r_lss;rfl;rfl;(first|(apply dT;omega)|(apply dF;omega)|rfl))|(apply r_add;rfl;rfl;rfl;omega)|(apply r_nilK)|(apply k_V;rfl)|(apply k_P;rfl)|(apply k_nil)|(apply w_seq)|(apply w_ops;((conv=>lhs;simp only [Nat.reduceAdd])<;>rfl))|(apply w_condT;rfl)|(apply w_condF;rfl)|(apply e_thenN)|(apply w_block)|(apply e_blkN)|(apply w_skip))
        apply e_thenK
        apply hK (i + 1)
        · exact ⟨by omega,by rw [hq,hd,Bool.false_or]⟩
        · omega
        · refine wk0 (by omega) ?_
          repeat' (first|exact FWk.nil|(apply FWk.i;rfl;(first|rfl|omega|(simp;done)))|(apply FWk.d;rfl;rfl))
    · have e : nlAny subs=false:=by rw [hq,List.drop_of_length_le hge,nlAny]
      rw [e]
      repeat' (first|(apply r_mvV;rfl)|(apply r_lss;rfl;rfl;(first|(apply dT;omega)|(apply dF;omega)|rfl))|(apply r_nilK)|(apply k_V;rfl)|(apply k_P;rfl)|(apply k_nil)|(apply e_ret (vs:=[.d (.val _)]);rfl)|(apply w_seq)|(apply w_ops;((conv=>lhs;simp only [Nat.reduceAdd])<;>rfl))|(apply w_condF;rfl)|(apply e_thenN)|(apply e_thenX)|(apply e_blkN)|(apply e_blkE)|(apply w_exit)|(apply w_ret))
      exact retB rfl
  · obtain ⟨u,rfl⟩:=plainT_5 hp
    have hg:=ih' 0 (by simp)
    simp only [List.getElem_cons_zero] at hg
    have e : nlT (.node 5 a b c d mn mx [u])=(decide (mn=0) || nlT u):=by simp [nlT,nlFst]
    rw [e]
    by_cases hm : mn=0
    · refine b131 (by simp) (by simp) (w_init ?_)
      unfold x131
      repeat' (first|(apply r_mvV;rfl)|(apply r_mvP;rfl)|(apply r_nckD;rfl)|(apply r_faddD;rfl)|(apply r_l;apply ld_kind;assumption;rfl)|(apply r_l;apply ld_mn;assumption;rfl)|(apply r_eql;rfl;rfl;(first|(apply dT;omega)|(apply dF;omega)|rfl))|(apply r_pickT;rfl)|(apply r_gF';rfl;rfl)|(apply r_nilK)|(apply k_V;rfl)|(apply k_P;rfl)|(apply k_nil)|(apply e_ret (vs:=[.d (.val _)]);rfl)|(apply w_seq)|(apply w_ops;((conv=>lhs;simp only [Nat.reduceAdd])<;>rfl))|(apply w_condT;rfl)|(apply w_condF;rfl)|(apply e_thenN)|(apply w_block)|(apply e_thenR)|(apply e_blkR)|(apply w_ret))
      exact retB (by simp [hm])
    · refine b131 (by simp) (by simp) (w_init ?_)
      unfold x131
      repeat' (first|(apply r_mvV;rfl)|(apply r_mvP;rfl)|(apply r_nckD;rfl)|(apply r_faddD;rfl)|(apply r_l;apply ld_kind;assumption;rfl)|(apply r_l;apply ld_mn;assumption;rfl)|(apply r_l;apply ld_subs;assumption;rfl)|(apply r_p;apply ix_sub (j:=0);rfl;rfl;(simp))|(apply r_callA;rfl;rfl;exact hg)|(apply r_eql;rfl;rfl;(first|(apply dT;omega)|(apply dF;omega)|rfl))|(apply r_pickF;rfl)|(apply r_gT;rfl)|(apply r_nilK)|(apply k_V;rfl)|(apply k_P;rfl)|(apply k_nil)|(apply e_ret (vs:=[.d (.val _)]);rfl)|(apply w_seq)|(apply w_ops;((conv=>lhs;simp only [Nat.reduceAdd])<;>rfl))|(apply w_condT;rfl)|(apply w_condF;rfl)|(apply e_thenN)|(apply w_block)|(apply e_thenR)|(apply e_blkR)|(apply w_ret))
      rw [show decide (mn=0)=false from decide_eq_false hm,Bool.false_or]
      exact retB rfl
theorem has152_good {cs : List DV} {off : Nat} {a b c d : Int} (hs : SetAt cs off a b c d) (ha : okW a) (hb : okW b) (hc : okW c) (hd : okW d) {x : Nat} (hx : x < 256) : Good Try.prog 152 [.d (.ptr cs off),.d (.val (.int .u8 (x : Nat)))] none (.b (inG a b c d x)) none none:=by
  have hw : okW ([a,b,c,d].getD (x / 64) 0):=by
    have : x / 64 < 4:=by omega
    match x / 64,this with
    | 0,_=>exact ha
    | 1,_=>exact hb
    | 2,_=>exact hc
    | 3,_=>exact hd
  refine b152 (by simp) (by simp) (w_init ?_)
  unfold x152
  repeat' (first|(apply r_mvV;rfl)|(apply r_mvP;rfl)|(apply r_nckD;rfl)|(apply r_shr6;rfl;rfl)|(apply r_and63;rfl;rfl;exact hx)|(apply r_ixPD;rfl;rfl;omega)|(apply r_ldSet hs;rfl;omega)|(apply r_shrW;rfl;rfl;exact hw.1;omega)|(apply r_and1;rfl;rfl;exact okW_div hw _)|(apply r_eqlU;rfl;rfl;rfl)|(apply r_nilK)|(apply k_V;rfl)|(apply k_P;rfl)|(apply k_nil)|(apply e_ret (vs:=[.d (.val _)]);rfl)|(apply w_seq)|(apply w_ops;((conv=>lhs;simp only [Nat.reduceAdd])<;>rfl))|(apply e_thenN)|(apply w_ret))
  exact retB rfl
theorem great154_good : ∀ (n : Nat) (t : T) (cs : List DV) (off : Nat),NodeAt cs off t→t.cnt≤n→n≤100000000→∀ left : Int,0≤left→left≤100000000→Good Try.prog 154 [.d (.ptr cs off),.i left] none (.i (max (left - (t.cnt : Nat)) (-1))) none none:=by
  intro n
  induction n with
  | zero=>intro t cs off _ ht;have:=cnt_pos t;omega
  | succ n ih =>
  intro t cs off hs ht hc left h0 h1
  obtain ⟨k,a,b,c,d,mn,mx,subs⟩:=t
  have ih' : ∀ i (h : i < subs.length) (q : Int),0≤q→q≤100000000→Good Try.prog 154 [.d (.ptr (encL subs) (i * 8)),.i q] none (.i (max (q - (subs[i].cnt : Nat)) (-1))) none none:=by
    intro i h
    refine ih _ _ _ (NodeAt.sub h) ?_ (by omega)
    have:=cntL_get subs i h
    simp only [T.cnt] at ht
    omega
  have hlen : subs.length≤100000000:=by
    have:=cntL_len subs
    simp only [T.cnt] at ht
    omega
  have hle : ∀ i,cntL (subs.take i)≤cntL subs:=fun i=>cntL_take_le subs i
  have hstep : ∀ i (h : i < subs.length),cntL (subs.take (i + 1))=cntL (subs.take i) + subs[i].cnt:=fun i h=>cntL_take subs i h
  have hcs : cntL subs≤100000000:=by simp only [T.cnt] at ht;omega
  rw [T.cnt]
  clear ih ht
  refine b154 (by simp) (by simp) (w_init ?_)
  unfold x154
  repeat' (first|(apply r_mvV;rfl)|(apply r_sub;rfl;rfl;rfl;omega)|(apply r_nilK)|(apply k_V;rfl)|(apply k_P;rfl)|(apply k_nil)|(apply w_seq)|(apply w_ops;((conv=>lhs;simp only [Nat.reduceAdd])<;>rfl))|(apply e_thenN)|(apply w_block))
  apply w_loopI (ι:=Nat × Int) (S:=fun q=>⟨((Fr.nil.put 0 (.d (.ptr cs off))).put 1 (.i q.2)).put 5 (.i (q.1 : Nat)),Heap.nil,Frz.lo 100,100⟩) (m:=fun q=>subs.length - q.1) (I:=fun q=>q.1≤subs.length∧q.2=max (left - 1 - (cntL (subs.take q.1) : Nat)) (-1)) (i0:=(0,left - 1))
  · refine ⟨Nat.zero_le _,?_⟩
    simp only [List.take_zero,cntL]
    omega
  · refine wk0 (by omega) ?_
    repeat' (first|exact FWk.nil|(apply FWk.i;rfl;(first|rfl|omega|(simp;done)))|(apply FWk.d;rfl;rfl))
  rintro ⟨i,lf⟩ K ⟨hi,hq⟩ hK
  dsimp only at hi hq hK ⊢
  rcases Nat.lt_or_ge i subs.length with hlt | hge
  · by_cases hlf : 0≤lf
    · have hg:=ih' i hlt lf hlf (by omega)
      have h2:=hle (i + 1)
      have hs1:=hstep i hlt
      generalize subs[i].cnt=c1 at hg hs1
      repeat' (first|(apply r_mvV;rfl)|(apply r_mvP;rfl)|(apply r_nckD;rfl)|(apply r_faddD;rfl)|(apply r_l;apply ld_subs;assumption;rfl)|(apply r_p;apply ix_sub;rfl;rfl;omega)|(apply r_callA;rfl;rfl;exact hg)|(apply r_lss;rfl;rfl;(first|(apply dT;omega)|(apply dF;omega)|rfl))|(apply r_geq;rfl;rfl;(first|(apply dT;omega)|(apply dF;omega)|rfl))|(apply r_add;rfl;rfl;rfl;omega)|(apply r_pickT;rfl)|(apply r_lenD;rfl)|(apply r_gT;rfl)|(apply r_nilK)|(apply k_V;rfl)|(apply k_P;rfl)|(apply k_nil)|(apply w_seq)|(apply w_ops;((conv=>lhs;simp only [Nat.reduceAdd])<;>rfl))|(apply w_condT;rfl)|(apply e_thenN)|(apply w_block)|(apply e_blkN)|(apply w_skip))
      apply e_thenK
      apply hK (i + 1,max (lf - (c1 : Nat)) (-1))
      · refine ⟨by dsimp only;omega,?_⟩
        dsimp only
        rw [hs1,hq]
        omega
      · dsimp only;omega
      · dsimp only
        refine wk0 (by omega) ?_
        repeat' (first|exact FWk.nil|(apply FWk.i;rfl;(first|rfl|omega|(simp;done)))|(apply FWk.d;rfl;rfl))
    · have e : max (left - ((1 + cntL subs : Nat) : Int)) (-1)=lf:=by
        have:=hle i
        omega
      rw [e]
      repeat' (first|(apply r_mvV;rfl)|(apply r_mvP;rfl)|(apply r_nckD;rfl)|(apply r_faddD;rfl)|(apply r_l;apply ld_subs;assumption;rfl)|(apply r_lss;rfl;rfl;(first|(apply dT;omega)|(apply dF;omega)|rfl))|(apply r_geq;rfl;rfl;(first|(apply dT;omega)|(apply dF;omega)|rfl))|(apply r_pickT;rfl)|(apply r_lenD;rfl)|(apply r_gT;rfl)|(apply r_nilK)|(apply k_V;rfl)|(apply k_P;rfl)|(apply k_nil)|(apply e_ret (vs:=[.d (.val _)]);rfl)|(apply w_seq)|(apply w_ops;((conv=>lhs;simp only [Nat.reduceAdd])<;>rfl))|(apply w_condF;rfl)|(apply e_thenN)|(apply e_thenX)|(apply e_blkE)|(apply w_exit)|(apply w_ret))
      exact retI rfl
  · have e : max (left - ((1 + cntL subs : Nat) : Int)) (-1)=lf:=by
      rw [hq,List.take_of_length_le hge]
      omega
    rw [e]
    repeat' (first|(apply r_mvV;rfl)|(apply r_mvP;rfl)|(apply r_nckD;rfl)|(apply r_faddD;rfl)|(apply r_l;apply ld_subs;assumption;rfl)|(apply r_lss;rfl;rfl;(first|(apply dT;omega)|(apply dF;omega)|rfl))|(apply r_pickF;rfl)|(apply r_lenD;rfl)|(apply r_gF';rfl;rfl)|(apply r_nilK)|(apply k_V;rfl)|(apply k_P;rfl)|(apply k_nil)|(apply e_ret (vs:=[.d (.val _)]);rfl)|(apply w_seq)|(apply w_ops;((conv=>lhs;simp only [Nat.reduceAdd])<;>rfl))|(apply w_condF;rfl)|(apply e_thenN)|(apply e_thenX)|(apply e_blkE)|(apply w_exit)|(apply w_ret))
    exact retI rfl
end Go.Sv
