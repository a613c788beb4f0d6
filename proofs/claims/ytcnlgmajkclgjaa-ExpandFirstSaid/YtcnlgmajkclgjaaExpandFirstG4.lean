/- A part of the proof of the law ExpandFirst: that it answers true for every input, and that the input reads behind the call as before (no condition). -/
import Derived.Test.YtcnlgmajkclgjaaExpandFirstG3
import Derived.Test.YtcnlgmajkclgjaaProg
import Derived.Tactics
import Derived.Tactics2
import Derived.Laws.Pointers
set_option linter.all false
set_option linter.unusedSectionVars false
set_option linter.unusedVariables false
set_option linter.unusedSimpArgs false
namespace Go.Sv
open Go Go.Proofs
def x156 : XC:=(.seq (.ops 1 [ (0,⟨some 2,none,.mv (.k (.d (.val (.bool false))))⟩)] (some [0])) (.seq (.ops 7 [ (0,⟨some 7,none,.mv (.t 0)⟩),(1,⟨some 8,none,.nilck (.t 7)⟩),(2,⟨some 9,none,.fadd 1 (.t 8)⟩),(3,⟨some 10,none,.load (some 4) (.t 9)⟩),(4,⟨some 11,none,.build [(.int .u64 0),(.int .u64 0),(.int .u64 0),(.int .u64 0)] []⟩),(5,⟨some 12,none,.eqAgg 4 false (.t 10) (.t 11)⟩),(6,⟨some 3,none,.mv (.t 12)⟩)] (some [0,3])) (.seq (.ops 13 [ (0,⟨some 13,none,.mv (.t 0)⟩),(1,⟨some 14,none,.nilck (.t 13)⟩),(2,⟨some 15,none,.fadd 5 (.t 14)⟩),(3,⟨some 16,none,.load none (.t 15)⟩),(4,⟨some 17,none,.arith .eql (.t 16) (.k (.d (.val (.int .i64 0))))⟩),(5,⟨some 18,none,.mv (.t 17)⟩),(6,⟨some 19,(some (18,true)),.mv (.t 0)⟩),(7,⟨some 20,(some (18,true)),.nilck (.t 19)⟩),(8,⟨some 21,(some (18,true)),.fadd 6 (.t 20)⟩),(9,⟨some 22,(some (18,true)),.load none (.t 21)⟩),(10,⟨some 23,(some (18,true)),.arith .eql (.t 22) (.k (.d (.val (.int .i64 0))))⟩),(11,⟨some 24,none,.pick (.t 18) (.t 23) (.k (.d (.val (.bool false))))⟩),(12,⟨some 4,none,.mv (.t 24)⟩)] (some [0,3,4])) (.seq (.seq (.ops 4 [ (0,⟨some 25,none,.mv (.t 0)⟩),(1,⟨some 26,none,.nilck (.t 25)⟩),(2,⟨some 27,none,.fadd 0 (.t 26)⟩),(3,⟨some 28,none,.load none (.t 27)⟩)] (some [0,3,4,28])) (.block 0 (.seq (.ops 2 [ (0,⟨some 30,none,.arith .eql (.t 28) (.k (.d (.val (.int .i64 1))))⟩),(1,⟨some 29,none,.mv (.t 30)⟩)] (some [0,3,4,28,29])) (.cond (.t 29) (.seq (.ops 13 [ (0,⟨some 31,none,.mv (.t 3)⟩),(1,⟨some 32,none,.mv (.t 31)⟩),(2,⟨some 33,(some (32,true)),.mv (.t 4)⟩),(3,⟨some 34,none,.pick (.t 32) (.t 33) (.k (.d (.val (.bool false))))⟩),(4,⟨some 35,none,.mv (.t 34)⟩),(5,⟨some 36,(some (35,true)),.mv (.t 0)⟩),(6,⟨some 37,(some (35,true)),.nilck (.t 36)⟩),(7,⟨some 38,(some (35,true)),.fadd 7 (.t 37)⟩),(8,⟨some 39,(some (35,true)),.load none (.t 38)⟩),(9,⟨some 40,(some (35,true)),.lenS (.t 39)⟩),(10,⟨some 41,(some (35,true)),.arith .eql (.t 40) (.k (.d (.val (.int .i64 0))))⟩),(11,⟨some 42,none,.pick (.t 35) (.t 41) (.k (.d (.val (.bool false))))⟩),(12,⟨some 2,none,.mv (.t 42)⟩)] (some [2])) .ret) (.seq (.ops 2 [ (0,⟨some 44,none,.arith .eql (.t 28) (.k (.d (.val (.int .i64 2))))⟩),(1,⟨some 43,none,.mv (.t 44)⟩)] (some [0,3,4,28,43])) (.cond (.t 43) (.seq (.ops 10 [ (0,⟨some 45,none,.mv (.t 4)⟩),(1,⟨some 46,none,.mv (.t 45)⟩),(2,⟨some 47,(some (46,true)),.mv (.t 0)⟩),(3,⟨some 48,(some (46,true)),.nilck (.t 47)⟩),(4,⟨some 49,(some (46,true)),.fadd 7 (.t 48)⟩),(5,⟨some 50,(some (46,true)),.load none (.t 49)⟩),(6,⟨some 51,(some (46,true)),.lenS (.t 50)⟩),(7,⟨some 52,(some (46,true)),.arith .eql (.t 51) (.k (.d (.val (.int .i64 0))))⟩),(8,⟨some 53,none,.pick (.t 46) (.t 52) (.k (.d (.val (.bool false))))⟩),(9,⟨some 2,none,.mv (.t 53)⟩)] (some [2])) .ret) (.seq (.seq (.ops 2 [ (0,⟨some 55,none,.arith .eql (.t 28) (.k (.d (.val (.int .i64 3))))⟩),(1,⟨some 54,none,.mv (.t 55)⟩)] (some [0,3,4,28,54])) (.cond (.t 54) .skip (.ops 2 [ (0,⟨some 56,none,.arith .eql (.t 28) (.k (.d (.val (.int .i64 4))))⟩),(1,⟨some 54,none,.mv (.t 56)⟩)] (some [0,3,4,28,54])))) (.cond (.t 54) (.seq (.ops 13 [ (0,⟨some 57,none,.mv (.t 3)⟩),(1,⟨some 58,none,.mv (.t 57)⟩),(2,⟨some 59,(some (58,true)),.mv (.t 4)⟩),(3,⟨some 60,none,.pick (.t 58) (.t 59) (.k (.d (.val (.bool false))))⟩),(4,⟨some 61,none,.mv (.t 60)⟩),(5,⟨some 62,(some (61,true)),.mv (.t 0)⟩),(6,⟨some 63,(some (61,true)),.nilck (.t 62)⟩),(7,⟨some 64,(some (61,true)),.fadd 7 (.t 63)⟩),(8,⟨some 65,(some (61,true)),.load none (.t 64)⟩),(9,⟨some 66,(some (61,true)),.lenS (.t 65)⟩),(10,⟨some 67,(some (61,true)),.arith .geq (.t 66) (.k (.d (.val (.int .i64 2))))⟩),(11,⟨some 68,none,.pick (.t 61) (.t 67) (.k (.d (.val (.bool false))))⟩),(12,⟨some 2,none,.mv (.t 68)⟩)] (some [2])) .ret) (.seq (.ops 2 [ (0,⟨some 70,none,.arith .eql (.t 28) (.k (.d (.val (.int .i64 5))))⟩),(1,⟨some 69,none,.mv (.t 70)⟩)] (some [0,3,69])) (.cond (.t 69) (.seq (.ops 13 [ (0,⟨some 71,none,.mv (.t 0)⟩),(1,⟨some 72,none,.nilck (.t 71)⟩),(2,⟨some 73,none,.fadd 5 (.t 72)⟩),(3,⟨some 74,none,.load none (.t 73)⟩),(4,⟨some 75,none,.arith .geq (.t 74) (.k (.d (.val (.int .i64 0))))⟩),(5,⟨some 76,none,.mv (.t 75)⟩),(6,⟨some 77,(some (76,true)),.mv (.t 0)⟩),(7,⟨some 78,(some (76,true)),.nilck (.t 77)⟩),(8,⟨some 79,(some (76,true)),.fadd 5 (.t 78)⟩),(9,⟨some 80,(some (76,true)),.load none (.t 79)⟩),(10,⟨some 81,(some (76,true)),.arith .leq (.t 80) (.k (.d (.val (.int .i64 20))))⟩),(11,⟨some 82,none,.pick (.t 76) (.t 81) (.k (.d (.val (.bool false))))⟩),(12,⟨some 5,none,.mv (.t 82)⟩)] (some [0,3,5])) (.seq (.ops 24 [ (0,⟨some 83,none,.mv (.t 0)⟩),(1,⟨some 84,none,.nilck (.t 83)⟩),(2,⟨some 85,none,.fadd 6 (.t 84)⟩),(3,⟨some 86,none,.load none (.t 85)⟩),(4,⟨some 87,none,.arith .eql (.t 86) (.k (.d (.val (.int .i64 (-1)))))⟩),(5,⟨some 88,none,.mv (.t 87)⟩),(6,⟨some 89,(some (88,false)),.mv (.t 0)⟩),(7,⟨some 90,(some (88,false)),.nilck (.t 89)⟩),(8,⟨some 91,(some (88,false)),.fadd 6 (.t 90)⟩),(9,⟨some 92,(some (88,false)),.load none (.t 91)⟩),(10,⟨some 93,(some (88,false)),.mv (.t 0)⟩),(11,⟨some 94,(some (88,false)),.nilck (.t 93)⟩),(12,⟨some 95,(some (88,false)),.fadd 5 (.t 94)⟩),(13,⟨some 96,(some (88,false)),.load none (.t 95)⟩),(14,⟨some 97,(some (88,false)),.arith .geq (.t 92) (.t 96)⟩),(15,⟨some 98,(some (88,false)),.mv (.t 97)⟩),(16,⟨some 99,(some (98,true)),.mv (.t 0)⟩),(17,⟨some 100,(some (98,true)),.nilck (.t 99)⟩),(18,⟨some 101,(some (98,true)),.fadd 6 (.t 100)⟩),(19,⟨some 102,(some (98,true)),.load none (.t 101)⟩),(20,⟨some 103,(some (98,true)),.arith .leq (.t 102) (.k (.d (.val (.int .i64 20))))⟩),(21,⟨some 104,(some (88,false)),.pick (.t 98) (.t 103) (.k (.d (.val (.bool false))))⟩),(22,⟨some 105,none,.pick (.t 88) (.k (.d (.val (.bool true)))) (.t 104)⟩),(23,⟨some 6,none,.mv (.t 105)⟩)] (some [0,3,5,6])) (.seq (.ops 16 [ (0,⟨some 106,none,.mv (.t 3)⟩),(1,⟨some 107,none,.mv (.t 106)⟩),(2,⟨some 108,(some (107,true)),.mv (.t 5)⟩),(3,⟨some 109,none,.pick (.t 107) (.t 108) (.k (.d (.val (.bool false))))⟩),(4,⟨some 110,none,.mv (.t 109)⟩),(5,⟨some 111,(some (110,true)),.mv (.t 6)⟩),(6,⟨some 112,none,.pick (.t 110) (.t 111) (.k (.d (.val (.bool false))))⟩),(7,⟨some 113,none,.mv (.t 112)⟩),(8,⟨some 114,(some (113,true)),.mv (.t 0)⟩),(9,⟨some 115,(some (113,true)),.nilck (.t 114)⟩),(10,⟨some 116,(some (113,true)),.fadd 7 (.t 115)⟩),(11,⟨some 117,(some (113,true)),.load none (.t 116)⟩),(12,⟨some 118,(some (113,true)),.lenS (.t 117)⟩),(13,⟨some 119,(some (113,true)),.arith .eql (.t 118) (.k (.d (.val (.int .i64 1))))⟩),(14,⟨some 120,none,.pick (.t 113) (.t 119) (.k (.d (.val (.bool false))))⟩),(15,⟨some 2,none,.mv (.t 120)⟩)] (some [2])) .ret))) .skip)))))))))) (.seq (.ops 1 [ (0,⟨some 2,none,.mv (.k (.d (.val (.bool false))))⟩)] (some [2])) .ret)))))
def md156 : FuncId→Option Nat × Bool
  | _=>(none,false)
def od156 : Nat→List (List Nat) × List Nat × Option (List Nat)
  | 0=>([],[],some [0])
  | 1=>([],[],some [0,3])
  | 2=>([],[],some [0,3,4])
  | 3=>([],[],some [0,3,4,28])
  | 4=>([],[],some [0,3,4,28,29])
  | 5=>([],[],some [2])
  | 6=>([],[],some [0,3,4,28,43])
  | 7=>([],[],some [2])
  | 8=>([],[],some [0,3,4,28,54])
  | 9=>([],[],some [0,3,4,28,54])
  | 10=>([],[],some [2])
  | 11=>([],[],some [0,3,69])
  | 12=>([],[],some [0,3,5])
  | 13=>([[],[0],[0,1],[0,1,2],[0,1,2,3],[0,1,2,3,4],[0,1,2,3,4,5],[0,1,2,3,4,5,6],[0,1,2,3,4,5,6,7],[0,1,2,3,4,5,6,7,8],[0,1,2,3,4,5],[0,1,2,3,4,5,10],[0,1,2,3,4,5,10,11],[0,1,2,3,4,5,10,11,12],[0,1,2,3,4,5,6,7,8,9,10,11,12,13],[0,1,2,3,4,5,6,7,8,9,10,11,12,13,14],[0,1,2,3,4,5,6,7,8,9,10,11,12,13,14,15],[0,1,2,3,4,5,6,7,8,9,10,11,12,13,14,15,16],[0,1,2,3,4,5,6,7,8,9,10,11,12,13,14,15,16,17],[0,1,2,3,4,5,6,7,8,9,10,11,12,13,14,15,16,17,18],[0,1,2,3,4,5,6,7,8,9,10,11,12,13,14,15,16,17,18,19],[0,1,2,3,4,5,6,7,8,9,10,11,12,13,14,15,16,17,18,19,20],[0,1,2,3,4,5,6,7,8,9,10,11,12,13,14,15,16,17,18,19,20,21],[0,1,2,3,4,5,6,7,8,9,10,11,12,13,14,15,16,17,18,19,20,21,22]],[0,1,2,3,4,5,6,7,8,9,10,11,12,13,14,15,16,17,18,19,20,21,22,23],some [0,3,5,6])
  | 14=>([],[],some [2])
  | 15=>([],[],some [2])
  | _=>([],[],none)
theorem b156 {ags : List AV} {row : Option (List DV)} {r : AV} {row' nw : Option (List DV)} (hal : ags.length≤121) (hrow : row'.isSome=true→row.isSome=true) (h : xwp Try.prog x156 (retK [.tmp 2] row.isSome r row' nw) (St.init ags row)) : Good Try.prog 156 ags row r row' nw :=
  good_of_body' (md:=md156) (od:=od156) Try.f156 (by kernel_rfl) (by kernel_rfl) (by kernel_rfl) (by kernel_rfl) (by kernel_rfl) hal hrow h

def x157 : XC:=(.seq (.ops 1 [ (0,⟨some 4,none,.mv (.k (.d (.val (.bool false))))⟩)] (some [0,1])) (.seq (.seq (.ops 1 [ (0,⟨some 5,none,.mv (.t 0)⟩)] (some [1,5])) (.block 0 (.seq (.ops 2 [ (0,⟨some 7,none,.arith .eql (.t 5) (.k (.d (.val (.int .i64 3))))⟩),(1,⟨some 6,none,.mv (.t 7)⟩)] (some [1,5,6])) (.cond (.t 6) (.seq (.ops 11 [ (0,⟨some 8,none,.mv (.t 1)⟩),(1,⟨some 9,none,.arith .eql (.t 8) (.k (.d (.val (.int .i64 1))))⟩),(2,⟨some 10,none,.mv (.t 9)⟩),(3,⟨some 11,(some (10,false)),.mv (.t 1)⟩),(4,⟨some 12,(some (10,false)),.arith .eql (.t 11) (.k (.d (.val (.int .i64 3))))⟩),(5,⟨some 13,none,.pick (.t 10) (.k (.d (.val (.bool true)))) (.t 12)⟩),(6,⟨some 14,none,.mv (.t 13)⟩),(7,⟨some 15,(some (14,false)),.mv (.t 1)⟩),(8,⟨some 16,(some (14,false)),.arith .eql (.t 15) (.k (.d (.val (.int .i64 4))))⟩),(9,⟨some 17,none,.pick (.t 14) (.k (.d (.val (.bool true)))) (.t 16)⟩),(10,⟨some 4,none,.mv (.t 17)⟩)] (some [4])) .ret) (.seq (.ops 2 [ (0,⟨some 19,none,.arith .eql (.t 5) (.k (.d (.val (.int .i64 4))))⟩),(1,⟨some 18,none,.mv (.t 19)⟩)] (some [1,18])) (.cond (.t 18) (.seq (.ops 3 [ (0,⟨some 20,none,.mv (.t 1)⟩),(1,⟨some 21,none,.arith .eql (.t 20) (.k (.d (.val (.int .i64 4))))⟩),(2,⟨some 4,none,.mv (.t 21)⟩)] (some [4])) .ret) .skip)))))) (.seq (.ops 3 [ (0,⟨some 22,none,.mv (.t 1)⟩),(1,⟨some 23,none,.arith .neq (.t 22) (.k (.d (.val (.int .i64 2))))⟩),(2,⟨some 4,none,.mv (.t 23)⟩)] (some [4])) .ret)))
def md157 : FuncId→Option Nat × Bool
  | _=>(none,false)
def od157 : Nat→List (List Nat) × List Nat × Option (List Nat)
  | 0=>([],[],some [0,1])
  | 1=>([],[],some [1,5])
  | 2=>([],[],some [1,5,6])
  | 3=>([],[],some [4])
  | 4=>([],[],some [1,18])
  | 5=>([],[],some [4])
  | 6=>([],[],some [4])
  | _=>([],[],none)
theorem b157 {ags : List AV} {row : Option (List DV)} {r : AV} {row' nw : Option (List DV)} (hal : ags.length≤24) (hrow : row'.isSome=true→row.isSome=true) (h : xwp Try.prog x157 (retK [.tmp 4] row.isSome r row' nw) (St.init ags row)) : Good Try.prog 157 ags row r row' nw :=
  good_of_body' (md:=md157) (od:=od157) Try.f157 (by kernel_rfl) (by kernel_rfl) (by kernel_rfl) (by kernel_rfl) (by kernel_rfl) hal hrow h

def roundG (k s : Int) : Bool:=if k=3 then s == 1 || s == 3 || s == 4 else if k=4 then s == 4 else s != 2
def isZero (a b c d : Int) : Bool:=a == 0 && (b == 0 && (c == 0 && d == 0))
def plainT : T→Bool
  | .node k a b c d mn mx subs =>
    if k=1 then isZero a b c d && (mn == 0 && mx == 0) && subs.length == 0
    else if k=2 then mn == 0 && mx == 0 && subs.length == 0
    else if k=3 ∨ k=4 then isZero a b c d && (mn == 0 && mx == 0) && decide (2≤subs.length)
    else if k=5 then isZero a b c d && (decide (0≤mn) && decide (mn≤20)) && (mx == -1 || decide (mn≤mx) && decide (mx≤20)) && subs.length == 1
    else false
set_option maxRecDepth 100000
set_option maxHeartbeats 4000000
attribute [local irreducible] W E R thenK blockK retK Good xwp aRun
theorem round_good (k s : Int) : Good Try.prog 157 [.i k,.i s] none (.b (roundG k s)) none none:=by
  refine b157 (by simp) (by simp) (w_init ?_)
  unfold x157
  repeat' (first|(apply r_mvV;rfl)|(apply r_eql;rfl;rfl;(first|(apply dT;omega)|(apply dF;omega)|rfl))|(apply r_neq;rfl;rfl;(first|(apply dT;omega)|(apply dF;omega)|rfl))|(apply r_pickT;rfl)|(apply r_pickF;rfl)|(apply r_gT;rfl)|(apply r_gF';rfl;rfl)|((apply r_gS (o:=default);rfl)<;>(intro h;try simp only [decide_eq_true_eq,decide_eq_false_iff_not,Bool.not_eq_true,Bool.not_eq_false] at h))|(apply r_nilK)|(apply k_V;rfl)|(apply k_nil)|(apply e_ret (vs:=[.d (.val _)]);rfl)|(apply w_seq)|(apply w_ops;((conv=>lhs;simp only [Nat.reduceAdd])<;>rfl))|((apply w_condS;rfl)<;>(intro h;try simp only [decide_eq_true_eq,decide_eq_false_iff_not,Bool.not_eq_true,Bool.not_eq_false] at h))|(apply e_thenN)|(apply w_block)|(apply e_thenR)|(apply e_blkN)|(apply e_blkR)|(apply w_ret)|(apply w_skip))
  all_goals refine retB (Bool.eq_iff_iff.2 ?_)
  all_goals (simp [roundG, *]<;>omega)
theorem plain_good {cs : List DV} {off : Nat} {t : T} (h : NodeAt cs off t) : Good Try.prog 156 [.d (.ptr cs off)] none (.b (plainT t)) none none:=by
  obtain ⟨k,a,b,c,d,mn,mx,subs⟩:=t
  refine b156 (by simp) (by simp) (w_init ?_)
  unfold x156
  repeat' (first|(apply r_mvV;rfl)|(apply r_mvP;rfl)|(apply r_nckD;rfl)|(apply r_faddD;rfl)|(apply r_l;apply ld_kind;assumption;rfl)|(apply r_l;apply ld_mn;assumption;rfl)|(apply r_l;apply ld_mx;assumption;rfl)|(apply r_l;apply ld_subs;assumption;rfl)|(apply r_l;apply ld_set;assumption;rfl)|(apply r_eql;rfl;rfl;(first|(apply dT;omega)|(apply dF;omega)|rfl))|(apply r_leq;rfl;rfl;(first|(apply dT;omega)|(apply dF;omega)|rfl))|(apply r_geq;rfl;rfl;(first|(apply dT;omega)|(apply dF;omega)|rfl))|(apply r_pickT;rfl)|(apply r_pickF;rfl)|(apply r_lenD;rfl)|(apply r_gT;rfl)|(apply r_gF';rfl;rfl)|(apply r_gN';rfl)|((apply r_gS (o:=default);rfl)<;>(intro h;try simp only [decide_eq_true_eq,decide_eq_false_iff_not,Bool.not_eq_true,Bool.not_eq_false] at h))|(apply r_p;rfl)|(apply r_nilK)|(apply k_V;rfl)|(apply k_P;rfl)|(apply k_nil)|(apply e_ret (vs:=[.d (.val _)]);rfl)|(apply w_seq)|(apply w_ops;((conv=>lhs;simp only [Nat.reduceAdd])<;>rfl))|(apply w_condT;rfl)|((apply w_condS;rfl)<;>(intro h;try simp only [decide_eq_true_eq,decide_eq_false_iff_not,Bool.not_eq_true,Bool.not_eq_false] at h))|(apply e_thenN)|(apply w_block)|(apply e_thenR)|(apply e_blkN)|(apply e_blkR)|(apply w_ret)|(apply w_skip))

  all_goals refine retB (Bool.eq_iff_iff.2 ?_)
  all_goals (simp_all [plainT,isZero]<;>omega)
end Go.Sv
namespace Go.Sv
open Go Go.Proofs
def x132 : XC:=(.seq (.ops 1 [ (0,⟨some 4,none,.mv (.k (.d (.val (.bool false))))⟩)] (some [0,1])) (.seq (.seq (.ops 7 [ (0,⟨some 8,none,.mv (.t 1)⟩),(1,⟨some 9,none,.arith .lss (.t 8) (.k (.d (.val (.int .i64 0))))⟩),(2,⟨some 10,none,.mv (.t 9)⟩),(3,⟨some 11,(some (10,false)),.mv (.t 0)⟩),(4,⟨some 12,(some (10,false)),.call 156 [(.t 11)] none false⟩),(5,⟨some 13,(some (10,false)),.un .not (.t 12)⟩),(6,⟨some 14,none,.pick (.t 10) (.k (.d (.val (.bool true)))) (.t 13)⟩)] (some [0,1,14])) (.cond (.t 14) (.seq (.ops 1 [ (0,⟨some 4,none,.mv (.k (.d (.val (.bool false))))⟩)] (some [4])) .ret) .skip)) (.seq (.seq (.ops 6 [ (0,⟨some 15,none,.mv (.t 0)⟩),(1,⟨some 16,none,.nilck (.t 15)⟩),(2,⟨some 17,none,.fadd 7 (.t 16)⟩),(3,⟨some 18,none,.load none (.t 17)⟩),(4,⟨some 19,none,.lenS (.t 18)⟩),(5,⟨some 20,none,.mv (.k (.d (.val (.int .i64 0))))⟩)] (some [0,1,19,20])) (.block 0 (.loop (.seq (.ops 1 [ (0,⟨some 21,none,.arith .lss (.t 20) (.t 19)⟩)] (some [0,1,19,20,21])) (.seq (.cond (.t 21) .skip (.exit 0)) (.seq (.block 1 (.seq (.ops 2 [ (0,⟨some 22,none,.mv (.t 20)⟩),(1,⟨some 5,none,.mv (.t 22)⟩)] (some [0,1,5,19,20])) (.seq (.ops 7 [ (0,⟨some 23,none,.mv (.t 0)⟩),(1,⟨some 24,none,.nilck (.t 23)⟩),(2,⟨some 25,none,.fadd 7 (.t 24)⟩),(3,⟨some 26,none,.load none (.t 25)⟩),(4,⟨some 27,none,.mv (.t 5)⟩),(5,⟨some 28,none,.idxS 8 (.t 26) (.t 27)⟩),(6,⟨some 6,none,.mv (.t 28)⟩)] (some [0,1,6,19,20])) (.seq (.ops 2 [ (0,⟨some 29,none,.mv (.t 1)⟩),(1,⟨some 7,none,.mv (.t 29)⟩)] (some [0,1,6,7,19,20])) (.seq (.seq (.ops 9 [ (0,⟨some 30,none,.mv (.t 0)⟩),(1,⟨some 31,none,.nilck (.t 30)⟩),(2,⟨some 32,none,.fadd 0 (.t 31)⟩),(3,⟨some 33,none,.load none (.t 32)⟩),(4,⟨some 34,none,.mv (.t 6)⟩),(5,⟨some 35,none,.nilck (.t 34)⟩),(6,⟨some 36,none,.fadd 0 (.t 35)⟩),(7,⟨some 37,none,.load none (.t 36)⟩),(8,⟨some 38,none,.call 157 [(.t 33),(.t 37)] none false⟩)] (some [0,1,6,7,19,20,38])) (.cond (.t 38) (.ops 3 [ (0,⟨some 39,none,.mv (.t 7)⟩),(1,⟨some 40,none,.arith .sub (.t 39) (.k (.d (.val (.int .i64 1))))⟩),(2,⟨some 7,none,.mv (.t 40)⟩)] (some [0,1,6,7,19,20])) .skip)) (.seq (.ops 4 [ (0,⟨some 41,none,.mv (.t 6)⟩),(1,⟨some 42,none,.mv (.t 7)⟩),(2,⟨some 43,none,.call 132 [(.t 41),(.t 42)] none false⟩),(3,⟨some 44,none,.un .not (.t 43)⟩)] (some [0,1,19,20,44])) (.cond (.t 44) (.seq (.ops 1 [ (0,⟨some 4,none,.mv (.k (.d (.val (.bool false))))⟩)] (some [4])) .ret) .skip))))))) (.ops 2 [ (0,⟨some 45,none,.arith .add (.t 20) (.k (.d (.val (.int .i64 1))))⟩),(1,⟨some 20,none,.mv (.t 45)⟩)] (some [0,1,19,20])))))))) (.seq (.ops 1 [ (0,⟨some 4,none,.mv (.k (.d (.val (.bool true))))⟩)] (some [4])) .ret))))
def md132 : FuncId→Option Nat × Bool
  | _=>(none,false)
def od132 : Nat→List (List Nat) × List Nat × Option (List Nat)
  | 0=>([],[],some [0,1])
  | 1=>([],[],some [0,1,14])
  | 2=>([],[],some [4])
  | 3=>([],[],some [0,1,19,20])
  | 4=>([],[],some [0,1,19,20,21])
  | 5=>([],[],some [0,1,5,19,20])
  | 6=>([],[],some [0,1,6,19,20])
  | 7=>([],[],some [0,1,6,7,19,20])
  | 8=>([[],[0],[0,1],[0,1,2],[],[4],[4,5],[4,5,6],[0,1,2,3,4,5,6,7]],[0,1,2,3,4,5,6,7,8],some [0,1,6,7,19,20,38])
  | 9=>([],[],some [0,1,6,7,19,20])
  | 10=>([],[],some [0,1,19,20,44])
  | 11=>([],[],some [4])
  | 12=>([],[],some [0,1,19,20])
  | 13=>([],[],some [4])
  | _=>([],[],none)
theorem b132 {ags : List AV} {row : Option (List DV)} {r : AV} {row' nw : Option (List DV)} (hal : ags.length≤46) (hrow : row'.isSome=true→row.isSome=true) (h : xwp Try.prog x132 (retK [.tmp 4] row.isSome r row' nw) (St.init ags row)) : Good Try.prog 132 ags row r row' nw :=
  good_of_body' (md:=md132) (od:=od132) Try.f132 (by kernel_rfl) (by kernel_rfl) (by kernel_rfl) (by kernel_rfl) (by kernel_rfl) hal hrow h

mutual
def fitsT : T→Int→Bool
  | .node k a b c d mn mx subs,left=>decide (0≤left) && plainT (.node k a b c d mn mx subs) && fitsL k subs left
def fitsL (k : Int) : List T→Int→Bool
  | [],_=>true
  | t :: l,left=>fitsT t (if roundG k t.kind then left - 1 else left) && fitsL k l left
end
set_option maxRecDepth 100000
set_option maxHeartbeats 4000000
attribute [local irreducible] W E R KP thenK blockK retK Good xwp aRun
theorem fitsL_drop (k : Int) (l : List T) (left : Int) (i : Nat) (h : i < l.length) : fitsL k (l.drop i) left=(fitsT l[i] (if roundG k l[i].kind then left - 1 else left) && fitsL k (l.drop (i + 1)) left):=by
  rw [List.drop_eq_getElem_cons h,fitsL]
theorem fits_good : ∀ (n : Nat) (t : T),t.cnt≤n→n≤1000000→∀ (cs : List DV) (off : Nat) (left : Int),NodeAt cs off t→left < 9223372036854775808→Good Try.prog 132 [.d (.ptr cs off),.i left] none (.b (fitsT t left)) none none:=by
  intro n
  induction n with
  | zero=>intro t ht;have:=cnt_pos t;omega
  | succ n ih =>
  intro t ht hc cs off left hn hl
  obtain ⟨k,a,b,c,d,mn,mx,subs⟩:=t
  have ih' : ∀ i (h : i < subs.length) (left : Int),left < 9223372036854775808→Good Try.prog 132 [.d (.ptr (encL subs) (i * 8)),.i left] none (.b (fitsT subs[i] left)) none none:=by
    intro i h left hl
    refine ih _ ?_ (by omega) _ _ _ (NodeAt.sub h) hl
    have:=cntL_get subs i h
    simp only [T.cnt] at ht
    omega
  have hlen : subs.length≤1000000:=by
    have:=cntL_len subs
    simp only [T.cnt] at ht
    omega
  refine b132 (by simp) (by simp) (w_init ?_)
  unfold x132
  repeat' (first|(apply r_mvV;rfl)|(apply r_mvP;rfl)|(apply r_nckD;rfl)|(apply r_faddD;rfl)|(apply r_l;apply ld_subs;assumption;rfl)|(apply r_callD (ds:=[.ptr _ _]);rfl;rfl;apply plain_good;assumption)|(apply r_lss;rfl;rfl;(first|(apply dT;omega)|(apply dF;omega)|rfl))|(apply r_not;rfl;rfl)|(apply r_pickT;rfl)|(apply r_pickF;rfl)|(apply r_lenD;rfl)|(apply r_gT;rfl)|(apply r_gF';rfl;rfl)|((apply r_gS (o:=default);rfl)<;>(intro h;try simp only [decide_eq_true_eq,decide_eq_false_iff_not,Bool.not_eq_true,Bool.not_eq_false] at h))|(apply r_nilK)|(apply k_V;rfl)|(apply k_P;rfl)|(apply k_nil)|(apply e_ret (vs:=[.d (.val _)]);rfl)|(apply w_seq)|(apply w_ops;((conv=>lhs;simp only [Nat.reduceAdd])<;>rfl))|(apply w_condT;rfl)|((apply w_condS;rfl)<;>(intro h;try simp only [decide_eq_true_eq,decide_eq_false_iff_not,Bool.not_eq_true,Bool.not_eq_false] at h))|(apply e_thenN)|(apply w_block)|(apply e_thenR)|(apply w_ret)|(apply w_skip))
  · refine retB (Bool.eq_iff_iff.2 ?_)
    simp [fitsT];omega
  · refine retB ?_
    simp at h
    simp [fitsT,h]
  · simp at h
    apply w_loopI (S:=fun i : Nat=>⟨(((Fr.nil.put 0 (.d (.ptr cs off))).put 1 (.i left)).put 19 (.i subs.length)).put 20 (.i i),Heap.nil,Frz.lo 100,100⟩) (m:=fun i=>subs.length - i)
      (I:=fun i=>i≤subs.length∧fitsT (.node k a b c d mn mx subs) left=fitsL k (subs.drop i) left) (i0:=0)
    · refine ⟨Nat.zero_le _,?_⟩
      simp [fitsT,h];omega
    · exact wk0 (by omega) (FWk.i rfl rfl (FWk.i rfl rfl (FWk.i rfl rfl (FWk.d rfl rfl FWk.nil))))
    intro i K hi hK
    dsimp only
    rcases Nat.lt_or_ge i subs.length with hlt | hge
    · have hs:=NodeAt.sub hlt
      have hd:=fitsL_drop k subs left i hlt
      repeat' (first|(apply r_mvV;rfl)|(apply r_mvP;rfl)|(apply r_nckD;rfl)|(apply r_faddD;rfl)|(apply r_l;apply ld_kind;assumption;rfl)|(apply r_l;apply ld_subs;assumption;rfl)|(apply r_l;apply ld_kind';assumption;rfl)|(apply r_p;apply ix_sub;rfl;rfl;omega)|(apply r_callD (ds:=[.val _,.val _]);rfl;rfl;apply round_good)|(apply r_callD (ds:=[.ptr _ _,.val _]);rfl;rfl;apply ih' i hlt;omega)|(apply r_lss;rfl;rfl;(first|(apply dT;omega)|(apply dF;omega)|rfl))|(apply r_add;rfl;rfl;rfl;omega)|(apply r_sub;rfl;rfl;rfl;omega)|(apply r_not;rfl;rfl)|(apply r_nilK)|(apply k_V;rfl)|(apply k_P;rfl)|(apply k_nil)|(apply e_ret (vs:=[.d (.val _)]);rfl)|(apply w_seq)|(apply w_ops;((conv=>lhs;simp only [Nat.reduceAdd])<;>rfl))|(apply w_condT;rfl)|((apply w_condS;rfl)<;>(intro h;try simp only [decide_eq_true_eq,decide_eq_false_iff_not,Bool.not_eq_true,Bool.not_eq_false] at h))|(apply e_thenN)|(apply w_block)|(apply e_thenR)|(apply e_blkN)|(apply e_blkR)|(apply w_ret)|(apply w_skip))
      all_goals first
        | (refine retB ?_;simp_all;done)
        | (apply e_thenK;apply hK (i + 1);(refine ⟨by omega,?_⟩;simp_all);omega;exact wk0 (by omega) (FWk.i rfl (by omega) (FWk.i rfl rfl (FWk.i rfl rfl (FWk.d rfl rfl FWk.nil)))))
    · repeat' (first|(apply r_mvV;rfl)|(apply r_lss;rfl;rfl;(first|(apply dT;omega)|(apply dF;omega)|rfl))|(apply r_nilK)|(apply k_V;rfl)|(apply k_P;rfl)|(apply k_nil)|(apply e_ret (vs:=[.d (.val _)]);rfl)|(apply w_seq)|(apply w_ops;((conv=>lhs;simp only [Nat.reduceAdd])<;>rfl))|(apply w_condF;rfl)|(apply e_thenN)|(apply e_thenX)|(apply e_blkE)|(apply w_exit)|(apply w_ret))
      refine retB ?_
      rw [hi.2,show i=subs.length by omega,List.drop_length,fitsL]
end Go.Sv
namespace Go.Sv
open Go Go.Proofs
def x84 : XC:=(.seq (.ops 2 [ (0,⟨some 1,none,.box (.t 0)⟩),(1,⟨some 2,none,.mv (.k (.d (.val (.bool false))))⟩)] (some [1])) (.seq (.ops 2 [ (0,⟨some 3,none,.call 132 [(.t 1),(.k (.d (.val (.int .i64 12))))] none false⟩),(1,⟨some 2,none,.mv (.t 3)⟩)] (some [2])) .ret))
def md84 : FuncId→Option Nat × Bool
  | _=>(none,false)
def od84 : Nat→List (List Nat) × List Nat × Option (List Nat)
  | 0=>([],[],some [1])
  | 1=>([],[],some [2])
  | _=>([],[],none)
theorem b84 {ags : List AV} {row : Option (List DV)} {r : AV} {row' nw : Option (List DV)} (hal : ags.length≤4) (hrow : row'.isSome=true→row.isSome=true) (h : xwp Try.prog x84 (retK [.tmp 2] row.isSome r row' nw) (St.init ags row)) : Good Try.prog 84 ags row r row' nw :=
  good_of_body' (md:=md84) (od:=od84) Try.f84 (by kernel_rfl) (by kernel_rfl) (by kernel_rfl) (by kernel_rfl) (by kernel_rfl) hal hrow h

def x136 : XC:=(.seq (.ops 2 [ (0,⟨some 1,none,.box (.t 0)⟩),(1,⟨some 2,none,.mv (.k (.d (.val (.bool false))))⟩)] (some [1])) (.seq (.seq (.ops 2 [ (0,⟨some 3,none,.fadd 0 (.t 1)⟩),(1,⟨some 4,none,.load none (.t 3)⟩)] (some [1,4])) (.block 0 (.seq (.ops 2 [ (0,⟨some 6,none,.arith .eql (.t 4) (.k (.d (.val (.int .i64 1))))⟩),(1,⟨some 5,none,.mv (.t 6)⟩)] (some [1,4,5])) (.cond (.t 5) (.seq (.ops 21 [ (0,⟨some 7,none,.fadd 1 (.t 1)⟩),(1,⟨some 8,none,.load (some 4) (.t 7)⟩),(2,⟨some 9,none,.build [(.int .u64 0),(.int .u64 0),(.int .u64 0),(.int .u64 0)] []⟩),(3,⟨some 10,none,.eqAgg 4 false (.t 8) (.t 9)⟩),(4,⟨some 11,none,.mv (.t 10)⟩),(5,⟨some 12,(some (11,true)),.fadd 5 (.t 1)⟩),(6,⟨some 13,(some (11,true)),.load none (.t 12)⟩),(7,⟨some 14,(some (11,true)),.arith .eql (.t 13) (.k (.d (.val (.int .i64 0))))⟩),(8,⟨some 15,none,.pick (.t 11) (.t 14) (.k (.d (.val (.bool false))))⟩),(9,⟨some 16,none,.mv (.t 15)⟩),(10,⟨some 17,(some (16,true)),.fadd 6 (.t 1)⟩),(11,⟨some 18,(some (16,true)),.load none (.t 17)⟩),(12,⟨some 19,(some (16,true)),.arith .eql (.t 18) (.k (.d (.val (.int .i64 0))))⟩),(13,⟨some 20,none,.pick (.t 16) (.t 19) (.k (.d (.val (.bool false))))⟩),(14,⟨some 21,none,.mv (.t 20)⟩),(15,⟨some 22,(some (21,true)),.fadd 7 (.t 1)⟩),(16,⟨some 23,(some (21,true)),.load none (.t 22)⟩),(17,⟨some 24,(some (21,true)),.lenS (.t 23)⟩),(18,⟨some 25,(some (21,true)),.arith .eql (.t 24) (.k (.d (.val (.int .i64 0))))⟩),(19,⟨some 26,none,.pick (.t 21) (.t 25) (.k (.d (.val (.bool false))))⟩),(20,⟨some 2,none,.mv (.t 26)⟩)] (some [2])) .ret) (.seq (.ops 2 [ (0,⟨some 28,none,.arith .eql (.t 4) (.k (.d (.val (.int .i64 2))))⟩),(1,⟨some 27,none,.mv (.t 28)⟩)] (some [1,4,27])) (.cond (.t 27) (.seq (.ops 15 [ (0,⟨some 29,none,.fadd 5 (.t 1)⟩),(1,⟨some 30,none,.load none (.t 29)⟩),(2,⟨some 31,none,.arith .eql (.t 30) (.k (.d (.val (.int .i64 0))))⟩),(3,⟨some 32,none,.mv (.t 31)⟩),(4,⟨some 33,(some (32,true)),.fadd 6 (.t 1)⟩),(5,⟨some 34,(some (32,true)),.load none (.t 33)⟩),(6,⟨some 35,(some (32,true)),.arith .eql (.t 34) (.k (.d (.val (.int .i64 0))))⟩),(7,⟨some 36,none,.pick (.t 32) (.t 35) (.k (.d (.val (.bool false))))⟩),(8,⟨some 37,none,.mv (.t 36)⟩),(9,⟨some 38,(some (37,true)),.fadd 7 (.t 1)⟩),(10,⟨some 39,(some (37,true)),.load none (.t 38)⟩),(11,⟨some 40,(some (37,true)),.lenS (.t 39)⟩),(12,⟨some 41,(some (37,true)),.arith .eql (.t 40) (.k (.d (.val (.int .i64 0))))⟩),(13,⟨some 42,none,.pick (.t 37) (.t 41) (.k (.d (.val (.bool false))))⟩),(14,⟨some 2,none,.mv (.t 42)⟩)] (some [2])) .ret) (.seq (.seq (.ops 2 [ (0,⟨some 44,none,.arith .eql (.t 4) (.k (.d (.val (.int .i64 3))))⟩),(1,⟨some 43,none,.mv (.t 44)⟩)] (some [1,4,43])) (.cond (.t 43) .skip (.ops 2 [ (0,⟨some 45,none,.arith .eql (.t 4) (.k (.d (.val (.int .i64 4))))⟩),(1,⟨some 43,none,.mv (.t 45)⟩)] (some [1,4,43])))) (.cond (.t 43) (.seq (.ops 21 [ (0,⟨some 46,none,.fadd 1 (.t 1)⟩),(1,⟨some 47,none,.load (some 4) (.t 46)⟩),(2,⟨some 48,none,.build [(.int .u64 0),(.int .u64 0),(.int .u64 0),(.int .u64 0)] []⟩),(3,⟨some 49,none,.eqAgg 4 false (.t 47) (.t 48)⟩),(4,⟨some 50,none,.mv (.t 49)⟩),(5,⟨some 51,(some (50,true)),.fadd 5 (.t 1)⟩),(6,⟨some 52,(some (50,true)),.load none (.t 51)⟩),(7,⟨some 53,(some (50,true)),.arith .eql (.t 52) (.k (.d (.val (.int .i64 0))))⟩),(8,⟨some 54,none,.pick (.t 50) (.t 53) (.k (.d (.val (.bool false))))⟩),(9,⟨some 55,none,.mv (.t 54)⟩),(10,⟨some 56,(some (55,true)),.fadd 6 (.t 1)⟩),(11,⟨some 57,(some (55,true)),.load none (.t 56)⟩),(12,⟨some 58,(some (55,true)),.arith .eql (.t 57) (.k (.d (.val (.int .i64 0))))⟩),(13,⟨some 59,none,.pick (.t 55) (.t 58) (.k (.d (.val (.bool false))))⟩),(14,⟨some 60,none,.mv (.t 59)⟩),(15,⟨some 61,(some (60,true)),.fadd 7 (.t 1)⟩),(16,⟨some 62,(some (60,true)),.load none (.t 61)⟩),(17,⟨some 63,(some (60,true)),.lenS (.t 62)⟩),(18,⟨some 64,(some (60,true)),.arith .geq (.t 63) (.k (.d (.val (.int .i64 2))))⟩),(19,⟨some 65,none,.pick (.t 60) (.t 64) (.k (.d (.val (.bool false))))⟩),(20,⟨some 2,none,.mv (.t 65)⟩)] (some [2])) .ret) (.seq (.ops 2 [ (0,⟨some 67,none,.arith .eql (.t 4) (.k (.d (.val (.int .i64 5))))⟩),(1,⟨some 66,none,.mv (.t 67)⟩)] (some [1,66])) (.cond (.t 66) (.seq (.ops 38 [ (0,⟨some 68,none,.fadd 1 (.t 1)⟩),(1,⟨some 69,none,.load (some 4) (.t 68)⟩),(2,⟨some 70,none,.build [(.int .u64 0),(.int .u64 0),(.int .u64 0),(.int .u64 0)] []⟩),(3,⟨some 71,none,.eqAgg 4 false (.t 69) (.t 70)⟩),(4,⟨some 72,none,.mv (.t 71)⟩),(5,⟨some 73,(some (72,true)),.fadd 7 (.t 1)⟩),(6,⟨some 74,(some (72,true)),.load none (.t 73)⟩),(7,⟨some 75,(some (72,true)),.lenS (.t 74)⟩),(8,⟨some 76,(some (72,true)),.arith .eql (.t 75) (.k (.d (.val (.int .i64 1))))⟩),(9,⟨some 77,none,.pick (.t 72) (.t 76) (.k (.d (.val (.bool false))))⟩),(10,⟨some 78,none,.mv (.t 77)⟩),(11,⟨some 79,(some (78,true)),.fadd 5 (.t 1)⟩),(12,⟨some 80,(some (78,true)),.load none (.t 79)⟩),(13,⟨some 81,(some (78,true)),.arith .geq (.t 80) (.k (.d (.val (.int .i64 0))))⟩),(14,⟨some 82,none,.pick (.t 78) (.t 81) (.k (.d (.val (.bool false))))⟩),(15,⟨some 83,none,.mv (.t 82)⟩),(16,⟨some 84,(some (83,true)),.fadd 5 (.t 1)⟩),(17,⟨some 85,(some (83,true)),.load none (.t 84)⟩),(18,⟨some 86,(some (83,true)),.arith .leq (.t 85) (.k (.d (.val (.int .i64 20))))⟩),(19,⟨some 87,none,.pick (.t 83) (.t 86) (.k (.d (.val (.bool false))))⟩),(20,⟨some 88,none,.mv (.t 87)⟩),(21,⟨some 89,(some (88,true)),.fadd 6 (.t 1)⟩),(22,⟨some 90,(some (88,true)),.load none (.t 89)⟩),(23,⟨some 91,(some (88,true)),.arith .eql (.t 90) (.k (.d (.val (.int .i64 (-1)))))⟩),(24,⟨some 92,(some (88,true)),.mv (.t 91)⟩),(25,⟨some 93,(some (92,false)),.fadd 6 (.t 1)⟩),(26,⟨some 94,(some (92,false)),.load none (.t 93)⟩),(27,⟨some 95,(some (92,false)),.fadd 5 (.t 1)⟩),(28,⟨some 96,(some (92,false)),.load none (.t 95)⟩),(29,⟨some 97,(some (92,false)),.arith .geq (.t 94) (.t 96)⟩),(30,⟨some 98,(some (92,false)),.mv (.t 97)⟩),(31,⟨some 99,(some (98,true)),.fadd 6 (.t 1)⟩),(32,⟨some 100,(some (98,true)),.load none (.t 99)⟩),(33,⟨some 101,(some (98,true)),.arith .leq (.t 100) (.k (.d (.val (.int .i64 20))))⟩),(34,⟨some 102,(some (92,false)),.pick (.t 98) (.t 101) (.k (.d (.val (.bool false))))⟩),(35,⟨some 103,(some (88,true)),.pick (.t 92) (.k (.d (.val (.bool true)))) (.t 102)⟩),(36,⟨some 104,none,.pick (.t 88) (.t 103) (.k (.d (.val (.bool false))))⟩),(37,⟨some 2,none,.mv (.t 104)⟩)] (some [2])) .ret) .skip)))))))))) (.seq (.ops 1 [ (0,⟨some 2,none,.mv (.k (.d (.val (.bool false))))⟩)] (some [2])) .ret)))
def md136 : FuncId→Option Nat × Bool
  | _=>(none,false)
def od136 : Nat→List (List Nat) × List Nat × Option (List Nat)
  | 0=>([],[],some [1])
  | 1=>([],[],some [1,4])
  | 2=>([],[],some [1,4,5])
  | 3=>([],[],some [2])
  | 4=>([],[],some [1,4,27])
  | 5=>([],[],some [2])
  | 6=>([],[],some [1,4,43])
  | 7=>([],[],some [1,4,43])
  | 8=>([],[],some [2])
  | 9=>([],[],some [1,66])
  | 10=>([],[],some [2])
  | 11=>([],[],some [2])
  | _=>([],[],none)
theorem b136 {ags : List AV} {row : Option (List DV)} {r : AV} {row' nw : Option (List DV)} (hal : ags.length≤105) (hrow : row'.isSome=true→row.isSome=true) (h : xwp Try.prog x136 (retK [.tmp 2] row.isSome r row' nw) (St.init ags row)) : Good Try.prog 136 ags row r row' nw :=
  good_of_body' (md:=md136) (od:=od136) Try.f136 (by kernel_rfl) (by kernel_rfl) (by kernel_rfl) (by kernel_rfl) (by kernel_rfl) hal hrow h

def x101 : XC:=(.seq (.ops 3 [ (0,⟨some 2,none,.box (.t 0)⟩),(1,⟨some 3,none,.box (.t 1)⟩),(2,⟨some 4,none,.mv (.k (.d (.val (.bool false))))⟩)] (some [2,3])) (.seq (.seq (.ops 2 [ (0,⟨some 5,none,.fadd 0 (.t 2)⟩),(1,⟨some 6,none,.load none (.t 5)⟩)] (some [3,6])) (.block 0 (.seq (.ops 2 [ (0,⟨some 8,none,.arith .eql (.t 6) (.k (.d (.val (.int .i64 3))))⟩),(1,⟨some 7,none,.mv (.t 8)⟩)] (some [3,6,7])) (.cond (.t 7) (.seq (.ops 14 [ (0,⟨some 9,none,.fadd 0 (.t 3)⟩),(1,⟨some 10,none,.load none (.t 9)⟩),(2,⟨some 11,none,.arith .eql (.t 10) (.k (.d (.val (.int .i64 1))))⟩),(3,⟨some 12,none,.mv (.t 11)⟩),(4,⟨some 13,(some (12,false)),.fadd 0 (.t 3)⟩),(5,⟨some 14,(some (12,false)),.load none (.t 13)⟩),(6,⟨some 15,(some (12,false)),.arith .eql (.t 14) (.k (.d (.val (.int .i64 3))))⟩),(7,⟨some 16,none,.pick (.t 12) (.k (.d (.val (.bool true)))) (.t 15)⟩),(8,⟨some 17,none,.mv (.t 16)⟩),(9,⟨some 18,(some (17,false)),.fadd 0 (.t 3)⟩),(10,⟨some 19,(some (17,false)),.load none (.t 18)⟩),(11,⟨some 20,(some (17,false)),.arith .eql (.t 19) (.k (.d (.val (.int .i64 4))))⟩),(12,⟨some 21,none,.pick (.t 17) (.k (.d (.val (.bool true)))) (.t 20)⟩),(13,⟨some 4,none,.mv (.t 21)⟩)] (some [4])) .ret) (.seq (.ops 2 [ (0,⟨some 23,none,.arith .eql (.t 6) (.k (.d (.val (.int .i64 4))))⟩),(1,⟨some 22,none,.mv (.t 23)⟩)] (some [3,22])) (.cond (.t 22) (.seq (.ops 4 [ (0,⟨some 24,none,.fadd 0 (.t 3)⟩),(1,⟨some 25,none,.load none (.t 24)⟩),(2,⟨some 26,none,.arith .eql (.t 25) (.k (.d (.val (.int .i64 4))))⟩),(3,⟨some 4,none,.mv (.t 26)⟩)] (some [4])) .ret) .skip)))))) (.seq (.ops 4 [ (0,⟨some 27,none,.fadd 0 (.t 3)⟩),(1,⟨some 28,none,.load none (.t 27)⟩),(2,⟨some 29,none,.arith .neq (.t 28) (.k (.d (.val (.int .i64 2))))⟩),(3,⟨some 4,none,.mv (.t 29)⟩)] (some [4])) .ret)))
def md101 : FuncId→Option Nat × Bool
  | _=>(none,false)
def od101 : Nat→List (List Nat) × List Nat × Option (List Nat)
  | 0=>([],[],some [2,3])
  | 1=>([],[],some [3,6])
  | 2=>([],[],some [3,6,7])
  | 3=>([],[],some [4])
  | 4=>([],[],some [3,22])
  | 5=>([],[],some [4])
  | 6=>([],[],some [4])
  | _=>([],[],none)
theorem b101 {ags : List AV} {row : Option (List DV)} {r : AV} {row' nw : Option (List DV)} (hal : ags.length≤30) (hrow : row'.isSome=true→row.isSome=true) (h : xwp Try.prog x101 (retK [.tmp 4] row.isSome r row' nw) (St.init ags row)) : Good Try.prog 101 ags row r row' nw :=
  good_of_body' (md:=md101) (od:=od101) Try.f101 (by kernel_rfl) (by kernel_rfl) (by kernel_rfl) (by kernel_rfl) (by kernel_rfl) hal hrow h

def x87 : XC:=(.seq (.ops 2 [ (0,⟨some 1,none,.box (.t 0)⟩),(1,⟨some 2,none,.mv (.k (.d (.val (.int .i64 0))))⟩)] (some [1])) (.seq (.seq (.ops 3 [ (0,⟨some 6,none,.load (some 8) (.t 1)⟩),(1,⟨some 7,none,.call 136 [(.t 6)] none false⟩),(2,⟨some 8,none,.un .not (.t 7)⟩)] (some [1,8])) (.cond (.t 8) (.seq (.ops 1 [ (0,⟨some 2,none,.mv (.k (.d (.val (.int .i64 (-1)))))⟩)] (some [2])) .ret) .skip)) (.seq (.ops 1 [ (0,⟨some 3,none,.mv (.k (.d (.val (.int .i64 0))))⟩)] (some [1,3])) (.seq (.seq (.ops 1 [ (0,⟨some 4,none,.mv (.k (.d (.val (.int .i64 0))))⟩)] (some [1,3,4])) (.block 0 (.loop (.seq (.seq (.ops 5 [ (0,⟨some 9,none,.mv (.t 4)⟩),(1,⟨some 10,none,.fadd 7 (.t 1)⟩),(2,⟨some 11,none,.load none (.t 10)⟩),(3,⟨some 12,none,.lenS (.t 11)⟩),(4,⟨some 13,none,.arith .lss (.t 9) (.t 12)⟩)] (some [1,3,4,13])) (.cond (.t 13) .skip (.exit 0))) (.seq (.block 1 (.seq (.ops 7 [ (0,⟨some 16,none,.fadd 7 (.t 1)⟩),(1,⟨some 17,none,.load none (.t 16)⟩),(2,⟨some 18,none,.mv (.t 4)⟩),(3,⟨some 19,none,.idxS 8 (.t 17) (.t 18)⟩),(4,⟨some 20,none,.load (some 8) (.t 19)⟩),(5,⟨some 21,none,.call 87 [(.t 20)] none false⟩),(6,⟨some 5,none,.mv (.t 21)⟩)] (some [1,3,4,5])) (.seq (.seq (.ops 2 [ (0,⟨some 22,none,.mv (.t 5)⟩),(1,⟨some 23,none,.arith .lss (.t 22) (.k (.d (.val (.int .i64 0))))⟩)] (some [1,3,4,5,23])) (.cond (.t 23) (.seq (.ops 1 [ (0,⟨some 2,none,.mv (.k (.d (.val (.int .i64 (-1)))))⟩)] (some [2])) .ret) .skip)) (.seq (.seq (.ops 7 [ (0,⟨some 24,none,.load (some 8) (.t 1)⟩),(1,⟨some 25,none,.fadd 7 (.t 1)⟩),(2,⟨some 26,none,.load none (.t 25)⟩),(3,⟨some 27,none,.mv (.t 4)⟩),(4,⟨some 28,none,.idxS 8 (.t 26) (.t 27)⟩),(5,⟨some 29,none,.load (some 8) (.t 28)⟩),(6,⟨some 30,none,.call 101 [(.t 24),(.t 29)] none false⟩)] (some [1,3,4,5,30])) (.cond (.t 30) (.ops 3 [ (0,⟨some 31,none,.mv (.t 5)⟩),(1,⟨some 32,none,.arith .add (.t 31) (.k (.d (.val (.int .i64 1))))⟩),(2,⟨some 5,none,.mv (.t 32)⟩)] (some [1,3,4,5])) .skip)) (.ops 4 [ (0,⟨some 33,none,.mv (.t 3)⟩),(1,⟨some 34,none,.mv (.t 5)⟩),(2,⟨some 35,none,.max [(.t 33),(.t 34)]⟩),(3,⟨some 3,none,.mv (.t 35)⟩)] (some [1,3,4])))))) (.ops 3 [ (0,⟨some 14,none,.mv (.t 4)⟩),(1,⟨some 15,none,.arith .add (.t 14) (.k (.d (.val (.int .i64 1))))⟩),(2,⟨some 4,none,.mv (.t 15)⟩)] (some [1,3,4]))))))) (.seq (.ops 2 [ (0,⟨some 36,none,.mv (.t 3)⟩),(1,⟨some 2,none,.mv (.t 36)⟩)] (some [2])) .ret)))))
def md87 : FuncId→Option Nat × Bool
  | _=>(none,false)
def od87 : Nat→List (List Nat) × List Nat × Option (List Nat)
  | 0=>([],[],some [1])
  | 1=>([],[],some [1,8])
  | 2=>([],[],some [2])
  | 3=>([],[],some [1,3])
  | 4=>([],[],some [1,3,4])
  | 5=>([],[],some [1,3,4,13])
  | 6=>([],[],some [1,3,4])
  | 7=>([],[],some [1,3,4,5])
  | 8=>([],[],some [1,3,4,5,23])
  | 9=>([],[],some [2])
  | 10=>([[],[],[1],[],[1,2,3],[1,2,3,4],[0,1,2,3,4,5]],[0,1,2,3,4,5,6],some [1,3,4,5,30])
  | 11=>([],[],some [1,3,4,5])
  | 12=>([],[],some [1,3,4])
  | 13=>([],[],some [2])
  | _=>([],[],none)
theorem b87 {ags : List AV} {row : Option (List DV)} {r : AV} {row' nw : Option (List DV)} (hal : ags.length≤37) (hrow : row'.isSome=true→row.isSome=true) (h : xwp Try.prog x87 (retK [.tmp 2] row.isSome r row' nw) (St.init ags row)) : Good Try.prog 87 ags row r row' nw :=
  good_of_body' (md:=md87) (od:=od87) Try.f87 (by kernel_rfl) (by kernel_rfl) (by kernel_rfl) (by kernel_rfl) (by kernel_rfl) hal hrow h

def x32 : XC:=(.seq (.ops 2 [ (0,⟨some 1,none,.box (.t 0)⟩),(1,⟨some 2,none,.mv (.k (.d (.val (.bool false))))⟩)] (some [1])) (.seq (.ops 3 [ (0,⟨some 4,none,.load (some 8) (.t 1)⟩),(1,⟨some 5,none,.call 87 [(.t 4)] none false⟩),(2,⟨some 3,none,.mv (.t 5)⟩)] (some [3])) (.seq (.ops 7 [ (0,⟨some 6,none,.mv (.t 3)⟩),(1,⟨some 7,none,.arith .geq (.t 6) (.k (.d (.val (.int .i64 0))))⟩),(2,⟨some 8,none,.mv (.t 7)⟩),(3,⟨some 9,(some (8,true)),.mv (.t 3)⟩),(4,⟨some 10,(some (8,true)),.arith .leq (.t 9) (.k (.d (.val (.int .i64 12))))⟩),(5,⟨some 11,none,.pick (.t 8) (.t 10) (.k (.d (.val (.bool false))))⟩),(6,⟨some 2,none,.mv (.t 11)⟩)] (some [2])) .ret)))
def md32 : FuncId→Option Nat × Bool
  | _=>(none,false)
def od32 : Nat→List (List Nat) × List Nat × Option (List Nat)
  | 0=>([],[],some [1])
  | 1=>([],[],some [3])
  | 2=>([],[],some [2])
  | _=>([],[],none)
theorem b32 {ags : List AV} {row : Option (List DV)} {r : AV} {row' nw : Option (List DV)} (hal : ags.length≤12) (hrow : row'.isSome=true→row.isSome=true) (h : xwp Try.prog x32 (retK [.tmp 2] row.isSome r row' nw) (St.init ags row)) : Good Try.prog 32 ags row r row' nw :=
  good_of_body' (md:=md32) (od:=od32) Try.f32 (by kernel_rfl) (by kernel_rfl) (by kernel_rfl) (by kernel_rfl) (by kernel_rfl) hal hrow h

set_option maxRecDepth 100000
set_option maxHeartbeats 4000000
attribute [local irreducible] W E R KP thenK blockK retK Good xwp aRun
theorem bare_good (t : T) : Good Try.prog 136 [nodeA t] none (.b (plainT t)) none none:=by
  obtain ⟨k,a,b,c,d,mn,mx,subs⟩:=t
  simp only [nodeA,encN,List.map]
  refine b136 (by simp) (by simp) (w_init ?_)
  unfold x136
  repeat' (first|(apply r_mvV;rfl)|(apply r_faddL;rfl)|(apply r_ldL;rfl;rfl;rfl)|(apply r_eql;rfl;rfl;(first|(apply dT;omega)|(apply dF;omega)|rfl))|(apply r_leq;rfl;rfl;(first|(apply dT;omega)|(apply dF;omega)|rfl))|(apply r_geq;rfl;rfl;(first|(apply dT;omega)|(apply dF;omega)|rfl))|(apply r_pickT;rfl)|(apply r_pickF;rfl)|(apply r_lenD;rfl)|(apply r_gT;rfl)|(apply r_gF';rfl;rfl)|(apply r_gN';rfl)|((apply r_gS (o:=default);rfl)<;>(intro h;try simp only [decide_eq_true_eq,decide_eq_false_iff_not,Bool.not_eq_true,Bool.not_eq_false] at h))|(apply r_box;((conv=>lhs;simp only [Nat.reduceAdd])<;>rfl);rfl;rfl;rfl)|(apply r_p;rfl)|(apply r_nilK)|(apply k_V;rfl)|(apply k_PL;rfl)|(apply k_nil)|(apply e_ret (vs:=[.d (.val _)]);rfl)|(apply w_seq)|(apply w_ops;((conv=>lhs;simp only [Nat.reduceAdd])<;>rfl))|(apply w_condT;rfl)|((apply w_condS;rfl)<;>(intro h;try simp only [decide_eq_true_eq,decide_eq_false_iff_not,Bool.not_eq_true,Bool.not_eq_false] at h))|(apply e_thenN)|(apply w_block)|(apply e_thenR)|(apply e_blkN)|(apply e_blkR)|(apply w_ret)|(apply w_skip))
  all_goals refine retB (Bool.eq_iff_iff.2 ?_)
  all_goals (simp_all [plainT,isZero]<;>omega)
theorem round8_good (t u : T) : Good Try.prog 101 [nodeA t,nodeA u] none (.b (roundG t.kind u.kind)) none none:=by
  obtain ⟨k,a,b,c,d,mn,mx,subs⟩:=t
  obtain ⟨k',a',b',c',d',mn',mx',subs'⟩:=u
  simp only [nodeA,encN,List.map,T.kind]
  refine b101 (by simp) (by simp) (w_init ?_)
  unfold x101
  repeat' (first|(apply r_mvV;rfl)|(apply r_faddL;rfl)|(apply r_ldL;rfl;rfl;rfl)|(apply r_eql;rfl;rfl;(first|(apply dT;omega)|(apply dF;omega)|rfl))|(apply r_neq;rfl;rfl;(first|(apply dT;omega)|(apply dF;omega)|rfl))|(apply r_pickT;rfl)|(apply r_pickF;rfl)|(apply r_gT;rfl)|(apply r_gF';rfl;rfl)|((apply r_gS (o:=default);rfl)<;>(intro h;try simp only [decide_eq_true_eq,decide_eq_false_iff_not,Bool.not_eq_true,Bool.not_eq_false] at h))|(apply r_box;((conv=>lhs;simp only [Nat.reduceAdd])<;>rfl);rfl;rfl;rfl)|(apply r_nilK)|(apply k_V;rfl)|(apply k_PL;rfl)|(apply k_nil)|(apply e_ret (vs:=[.d (.val _)]);rfl)|(apply w_seq)|(apply w_ops;((conv=>lhs;simp only [Nat.reduceAdd])<;>rfl))|((apply w_condS;rfl)<;>(intro h;try simp only [decide_eq_true_eq,decide_eq_false_iff_not,Bool.not_eq_true,Bool.not_eq_false] at h))|(apply e_thenN)|(apply w_block)|(apply e_thenR)|(apply e_blkN)|(apply e_blkR)|(apply w_ret)|(apply w_skip))
  all_goals refine retB (Bool.eq_iff_iff.2 ?_)
  all_goals (simp [roundG, *]<;>omega)
mutual
def openT : T→Int
  | .node k a b c d mn mx subs=>if plainT (.node k a b c d mn mx subs)=true then openL k subs 0 else -1
def openL (k : Int) : List T→Int→Int
  | [],m=>m
  | t :: l,m=>if openT t < 0 then -1 else openL k l (max m (if roundG k t.kind=true then openT t + 1 else openT t))
end
mutual
theorem openT_cnt : ∀ t : T,openT t≤t.cnt
  | .node k a b c d mn mx subs=>by
    have:=openL_cnt k subs 0
    simp only [openT,T.cnt]
    split<;>omega
theorem openL_cnt (k : Int) : ∀ (l : List T) (m : Int),openL k l m≤max m (cntL l + 1)
  | [],m=>by simp [openL];omega
  | t :: l,m=>by
    have h1:=openT_cnt t
    simp only [openL,cntL]
    split
    · omega
    · refine Int.le_trans (openL_cnt k l _) ?_
      have:=cnt_pos t
      split<;>omega
end
theorem openL_drop (k : Int) (l : List T) (m : Int) (i : Nat) (h : i < l.length) : openL k (l.drop i) m=if openT l[i] < 0 then -1 else openL k (l.drop (i + 1)) (max m (if roundG k l[i].kind=true then openT l[i] + 1 else openT l[i])):=by
  rw [List.drop_eq_getElem_cons h,openL]
theorem open_good : ∀ (n : Nat) (t : T),t.cnt≤n→n≤1000000→Good Try.prog 87 [nodeA t] none (.i (openT t)) none none:=by
  intro n
  induction n with
  | zero=>intro t ht;have:=cnt_pos t;omega
  | succ n ih =>
  intro t ht hc
  obtain ⟨k,a,b,c,d,mn,mx,subs⟩:=t
  have ih' : ∀ i (h : i < subs.length),Good Try.prog 87 [nodeA subs[i]] none (.i (openT subs[i])) none none:=by
    intro i h
    refine ih _ ?_ (by omega)
    have:=cntL_get subs i h
    simp only [T.cnt] at ht
    omega
  have hlen : subs.length≤1000000:=by
    have:=cntL_len subs
    simp only [T.cnt] at ht
    omega
  have hcnt : ∀ i (h : i < subs.length),openT subs[i]≤1000000:=by
    intro i h
    have:=cntL_get subs i h
    have:=openT_cnt subs[i]
    simp only [T.cnt] at ht
    omega
  have e0 : nodeA (.node k a b c d mn mx subs)=.agg [.i k,.d (.val (.int .u64 a)),.d (.val (.int .u64 b)),.d (.val (.int .u64 c)),.d (.val (.int .u64 d)),.i mn,.i mx,.d (.sl (encL subs) subs.length)]:=rfl
  rw [e0]
  refine b87 (by simp) (by simp) (w_init ?_)
  unfold x87
  repeat' (first|(apply r_mvV;rfl)|(apply r_callA;rfl;rfl;apply bare_good (t:=.node k a b c d mn mx subs))|(apply r_ldL;rfl;rfl;rfl)|(apply r_not;rfl;rfl)|(apply r_box;((conv=>lhs;simp only [Nat.reduceAdd])<;>rfl);rfl;rfl;rfl)|(apply r_nilK)|(apply k_V;rfl)|(apply k_PL;rfl)|(apply k_nil)|(apply e_ret (vs:=[.d (.val _)]);rfl)|(apply w_seq)|(apply w_ops;((conv=>lhs;simp only [Nat.reduceAdd])<;>rfl))|((apply w_condS;rfl)<;>(intro h;try simp only [decide_eq_true_eq,decide_eq_false_iff_not,Bool.not_eq_true,Bool.not_eq_false] at h))|(apply e_thenN)|(apply w_block)|(apply e_thenR)|(apply w_ret)|(apply w_skip))
  · refine retI ?_
    simp at h
    simp [openT,h]
  · simp at h
    apply w_loopI (ι:=Nat × Int) (S:=fun p=>⟨((Fr.nil.put 1 (.ptrL 1 0)).put 3 (.i p.2)).put 4 (.i p.1),Heap.nil.put 1 [.i k,.d (.val (.int .u64 a)),.d (.val (.int .u64 b)),.d (.val (.int .u64 c)),.d (.val (.int .u64 d)),.i mn,.i mx,.d (.sl (encL subs) subs.length)],Frz.but 100 1,100⟩) (m:=fun p=>subs.length - p.1)
      (I:=fun p=>p.1≤subs.length∧0≤p.2∧p.2≤1000001∧openT (.node k a b c d mn mx subs)=openL k (subs.drop p.1) p.2) (i0:=(0,0))
    · refine ⟨Nat.zero_le _,by simp,by simp,?_⟩
      simp [openT,h]
    · exact wk1D (by omega) (by omega) rfl rfl rfl (FWk.i rfl rfl (FWk.i rfl rfl (FWk.ptr rfl rfl rfl (by omega) rfl FWk.nil)))
    rintro ⟨i,m⟩ K hi hK
    dsimp only at hi hK ⊢
    rcases Nat.lt_or_ge i subs.length with hlt | hge
    · have hs:=NodeAt.sub hlt
      have hd:=openL_drop k subs m i hlt
      have hq:=hcnt i hlt
      repeat' (first|(apply r_mvV;rfl)|(apply r_faddL;rfl)|(apply r_l;apply ld_node';assumption;rfl)|(apply r_p;apply ix_sub;rfl;rfl;omega)|(apply r_callA (ags:=[nodeA subs[i]]);rfl;simp [nodeA_nrm];apply ih' i hlt)|(apply r_callA (ags:=[nodeA (.node k a b c d mn mx subs),nodeA subs[i]]);rfl;simp [nodeA_nrm];apply round8_good)|(apply r_ldL;rfl;rfl;rfl)|(apply r_lss;rfl;rfl;(first|(apply dT;omega)|(apply dF;omega)|rfl))|(apply r_add;rfl;rfl;rfl;omega)|(apply r_max2;rfl;rfl;rfl)|(apply r_lenD;rfl)|(apply r_nilK)|(apply k_V;rfl)|(apply k_PL;rfl)|(apply k_nil)|(apply e_ret (vs:=[.d (.val _)]);rfl)|(apply w_seq)|(apply w_ops;((conv=>lhs;simp only [Nat.reduceAdd])<;>rfl))|(apply w_condT;rfl)|((apply w_condS;rfl)<;>(intro h;try simp only [decide_eq_true_eq,decide_eq_false_iff_not,Bool.not_eq_true,Bool.not_eq_false] at h))|(apply e_thenN)|(apply w_block)|(apply e_thenR)|(apply e_blkN)|(apply e_blkR)|(apply w_ret)|(apply w_skip))
      · refine retI ?_
        rw [hi.2.2.2,hd,if_pos h]
      all_goals rename_i h1
      all_goals rw [if_neg h1] at hd
      all_goals apply e_thenK
      · rw [show roundG k subs[i].kind=true from h] at hd
        apply hK (i + 1,max m (openT subs[i] + 1))
        · refine ⟨by omega,by omega,by omega,?_⟩
          rw [hi.2.2.2,hd];rfl
        · dsimp only;omega
        · exact wk1D (by omega) (by omega) rfl rfl rfl (FWk.i rfl (by omega) (FWk.i rfl rfl (FWk.ptr rfl rfl rfl (by omega) rfl FWk.nil)))
      · rw [show roundG k subs[i].kind=false from h] at hd
        apply hK (i + 1,max m (openT subs[i]))
        · refine ⟨by omega,by omega,by omega,?_⟩
          rw [hi.2.2.2,hd];rfl
        · dsimp only;omega
        · exact wk1D (by omega) (by omega) rfl rfl rfl (FWk.i rfl (by omega) (FWk.i rfl rfl (FWk.ptr rfl rfl rfl (by omega) rfl FWk.nil)))
    · repeat' (first|(apply r_mvV;rfl)|(apply r_faddL;rfl)|(apply r_ldL;rfl;rfl;rfl)|(apply r_lss;rfl;rfl;(first|(apply dT;omega)|(apply dF;omega)|rfl))|(apply r_lenD;rfl)|(apply r_nilK)|(apply k_V;rfl)|(apply k_PL;rfl)|(apply k_nil)|(apply e_ret (vs:=[.d (.val _)]);rfl)|(apply w_seq)|(apply w_ops;((conv=>lhs;simp only [Nat.reduceAdd])<;>rfl))|(apply w_condF;rfl)|(apply e_thenN)|(apply e_thenX)|(apply e_blkE)|(apply w_exit)|(apply w_ret))
      refine retI ?_
      rw [hi.2.2.2,show i=subs.length by omega,List.drop_length,openL]
def rightT (t : T) : Bool:=decide (0≤openT t) && decide (openT t≤12)
theorem right8_good (t : T) (h : t.cnt≤1000000) : Good Try.prog 32 [nodeA t] none (.b (rightT t)) none none:=by
  have:=open_good 1000000 t h (by omega)
  obtain ⟨k,a,b,c,d,mn,mx,subs⟩:=t
  have e0 : nodeA (.node k a b c d mn mx subs)=.agg [.i k,.d (.val (.int .u64 a)),.d (.val (.int .u64 b)),.d (.val (.int .u64 c)),.d (.val (.int .u64 d)),.i mn,.i mx,.d (.sl (encL subs) subs.length)]:=rfl
  rw [e0]
  refine b32 (by simp) (by simp) (w_init ?_)
  unfold x32
  repeat' (first|(apply r_mvV;rfl)|(apply r_callA;rfl;rfl;exact this)|(apply r_ldL;rfl;rfl;rfl)|(apply r_leq;rfl;rfl;(first|(apply dT;omega)|(apply dF;omega)|rfl))|(apply r_geq;rfl;rfl;(first|(apply dT;omega)|(apply dF;omega)|rfl))|(apply r_pickT;rfl)|(apply r_pickF;rfl)|(apply r_gT;rfl)|(apply r_gF';rfl;rfl)|((apply r_gS (o:=default);rfl)<;>(intro h;try simp only [decide_eq_true_eq,decide_eq_false_iff_not,Bool.not_eq_true,Bool.not_eq_false] at h))|(apply r_box;((conv=>lhs;simp only [Nat.reduceAdd])<;>rfl);rfl;rfl;rfl)|(apply r_nilK)|(apply k_V;rfl)|(apply k_PL;rfl)|(apply k_nil)|(apply e_ret (vs:=[.d (.val _)]);rfl)|(apply w_seq)|(apply w_ops;((conv=>lhs;simp only [Nat.reduceAdd])<;>rfl))|(apply e_thenN)|(apply w_ret))
  all_goals refine retB (Bool.eq_iff_iff.2 ?_)
  all_goals (simp_all [rightT]<;>omega)
theorem right_good (t : T) (h : t.cnt≤1000000) : Good Try.prog 84 [nodeA t] none (.b (fitsT t 12)) none none:=by
  obtain ⟨k,a,b,c,d,mn,mx,subs⟩:=t
  have e0 : nodeA (.node k a b c d mn mx subs)=.agg [.i k,.d (.val (.int .u64 a)),.d (.val (.int .u64 b)),.d (.val (.int .u64 c)),.d (.val (.int .u64 d)),.i mn,.i mx,.d (.sl (encL subs) subs.length)]:=rfl
  rw [e0]
  refine b84 (by simp) (by simp) (w_init ?_)
  unfold x84
  repeat' (first|(apply r_mvV;rfl)|(apply r_call (bs:=[.d (.ptr (encN (.node k a b c d mn mx subs)) 0),.i 12]) (us:=[1]);rfl;rfl;exact fits_good 1000000 _ h (by omega) _ _ _ (NodeAt.self _) (by omega);rfl)|(apply r_box;((conv=>lhs;simp only [Nat.reduceAdd])<;>rfl);rfl;rfl;rfl)|(apply r_nilK)|(apply k_V;rfl)|(apply k_PL;rfl)|(apply k_nil)|(apply e_ret (vs:=[.d (.val _)]);rfl)|(apply w_seq)|(apply w_ops;((conv=>lhs;simp only [Nat.reduceAdd])<;>rfl))|(apply e_thenN)|(apply w_ret))
  exact retB rfl
end Go.Sv
namespace Go.Sv
open Go Go.Proofs
set_option maxRecDepth 100000
set_option maxHeartbeats 4000000
attribute [local irreducible] W E R KP thenK blockK retK Good xwp aRun
end Go.Sv
namespace Go.Sv
open Go Go.Proofs
set_option maxRecDepth 100000
set_option maxHeartbeats 4000000
attribute [local irreducible] W E R KP thenK blockK retK Good xwp aRun
def okW (w : Int) : Prop:=0≤w∧w < 18446744073709551616
end Go.Sv
namespace Go.Sv
open Go Go.Proofs
section
variable {P : Program} {Q : Cont} {fr : Fr} {C : Heap} {Z : Frz} {nx : Nat} {base n d : Nat} {l : List (Nat × XO)} {kp : Option (List Nat)}
end
def okN : T→Prop
  | .node k a b c d mn mx subs=>okW a∧okW b∧okW c∧okW d∧plainT (.node k a b c d mn mx subs)=true
mutual
def okT : T→Prop
  | .node k a b c d mn mx subs=>okN (.node k a b c d mn mx subs)∧okL subs
def okL : List T→Prop
  | []=>True
  | t :: l=>okT t∧okL l
end
theorem okL_get : ∀ (l : List T) (i : Nat) (h : i < l.length),okL l→okT l[i]
  | t :: l,0,_,h=>by simp only [okL] at h;exact h.1
  | t :: l,i + 1,h,h2=>by simp only [okL] at h2;exact okL_get l i (by simpa using h) h2.2
end Go.Sv
namespace Go.Sv
open Go Go.Proofs
set_option maxRecDepth 100000
set_option maxHeartbeats 4000000
attribute [local irreducible] W E R KP thenK blockK retK Good xwp aRun
theorem ix_sub0 {fr : Fr} {x i : X} {l : List T} (hx : x.ev fr=.d (.sl (encL l) l.length)) (hi : i.ev fr=.i 0) (hj : 0 < l.length) : xp fr (.idxS 8 x i)=some (.d (.ptr (encL l) 0)):=by
  have:=ix_sub (j:=0) hx hi hj
  simpa using this
end Go.Sv
namespace Go.Sv
open Go Go.Proofs
set_option maxRecDepth 100000
set_option maxHeartbeats 4000000
attribute [local irreducible] W E R KP thenK blockK retK Good xwp aRun
theorem retSD {C : Heap} {Z : Frz} {live : Bool} {p p' : List Bool} {m : Nat} (h : p=p') : RetOK C Z (tupOf [.d (.sl (encB p) m)]) live (.d (.sl (encB p') m)) none none:=.data _ (by subst h;rfl)
end Go.Sv
namespace Go.Sv
open Go Go.Proofs
set_option maxRecDepth 100000
set_option maxHeartbeats 4000000
attribute [local irreducible] W E R KP thenK blockK retK Good xwp aRun
end Go.Sv
namespace Go.Sv
open Go Go.Proofs
section
variable {P : Program} {Q : Cont} {fr : Fr} {C : Heap} {Z : Frz} {nx : Nat} {base n d : Nat} {l : List (Nat × XO)} {kp : Option (List Nat)} {x i y s : X}
theorem r_ixI {L : List Int} {m j : Nat} {e : Int} (hx : x.ev fr=.d (.sl (encI L) m)) (hi : i.ev fr=.i e) (he : e=(j : Nat)) (hm : L.length=m) (hj : j < m) (k : R P l base kp Q nx (fr.put d (.d (.ptr (encI L) j))) C Z) : R P ((n,⟨some d,none,.idxS 1 x i⟩) :: l) base kp Q nx fr C Z:=by
  subst hm he
  refine r_p ?_ k
  have hne : encI L ≠ []:=fun h=>by
    have:=congrArg List.length h
    rw [encI_len,List.length_nil] at this;omega
  simp [xp,hx,hi,hne,intIn,hj]
theorem r_ldI {L : List Int} {j : Nat} {v : Int} (hx : x.ev fr=.d (.ptr (encI L) j)) (hb : L[j]?=some v) (k : R P l base kp Q nx (fr.put d (.i v)) C Z) : R P ((n,⟨some d,none,.load none x⟩) :: l) base kp Q nx fr C Z:=by
  refine r_l ?_ k
  simp [xl,hx,rowOf,subA,encI,hb]
end
set_option maxRecDepth 100000
set_option maxHeartbeats 4000000
attribute [local irreducible] W E R KP thenK blockK retK Good xwp aRun
end Go.Sv
namespace Go.Sv
open Go Go.Proofs
set_option maxRecDepth 100000
def xa118 : XC:=(.ops 3 [ (0,⟨some 2,none,.alloc [(.int .i64 0),(.int .u64 0),(.int .u64 0),(.int .u64 0),(.int .u64 0),(.int .i64 0),(.int .i64 0),(.slice none 0 0)]⟩),(1,⟨some 3,none,.alloc [(.int .i64 0)]⟩),(2,⟨some 4,none,.alloc [(.int .i64 0)]⟩)] (some [0,2,3,4]))
def xb118 : XC:=(.seq (.ops 4 [ (0,⟨some 7,none,.mv (.t 0)⟩),(1,⟨some 8,none,.build [(.string ⟨#[]⟩),(.int .i64 0),(.int .i64 0)] [(0,1,(.t 7))]⟩),(2,⟨some 9,none,.box (.t 8)⟩),(3,⟨some 5,none,.mv (.t 9)⟩)] (some [0,2,3,4,5])) (.seq (.ops 3 [ (0,⟨some 10,none,.mv (.t 5)⟩),(1,⟨some 11,none,.call 149 [(.t 10)] (some 0) false⟩),(2,⟨none,none,.store 8 (.t 2) (.t 11)⟩)] (some [0,2,3,4,5])) (.seq (.ops 13 [ (0,⟨some 12,none,.mv (.t 5)⟩),(1,⟨some 13,none,.mv (.t 5)⟩),(2,⟨some 14,none,.nilck (.t 13)⟩),(3,⟨some 15,none,.fadd 1 (.t 14)⟩),(4,⟨some 16,none,.load none (.t 15)⟩),(5,⟨some 17,none,.mv (.t 0)⟩),(6,⟨some 18,none,.lenT (.t 17)⟩),(7,⟨some 19,none,.arith .eql (.t 16) (.t 18)⟩),(8,⟨some 20,none,.mv (.t 5)⟩),(9,⟨some 21,none,.nilck (.t 20)⟩),(10,⟨some 22,none,.fadd 1 (.t 21)⟩),(11,⟨some 23,none,.load none (.t 22)⟩),(12,⟨some 24,none,.call 150 [(.t 12),(.t 19),(.t 23)] none false⟩)] (some [2,3,4])) (.seq (.ops 4 [ (0,⟨some 25,none,.load (some 8) (.t 2)⟩),(1,⟨none,none,.store 8 (.t 2) (.t 25)⟩),(2,⟨none,none,.store 1 (.t 3) (.k (.d (.val (.int .i64 0))))⟩),(3,⟨none,none,.store 1 (.t 4) (.k (.d (.val (.int .i64 0))))⟩)] (some [2,3,4])) .ret))))
def md118 : FuncId→Option Nat × Bool
  | 149=>(some 0,false)
  | _=>(none,false)
def od118 : Nat→List (List Nat) × List Nat × Option (List Nat)
  | 0=>([],[],some [0,2,3,4])
  | 2=>([],[],some [0,2,3,4,5])
  | 3=>([],[],some [0,2,3,4,5])
  | 4=>([[],[],[1],[1,2],[1,2,3],[],[5],[1,2,3,4,5,6],[],[8],[8,9],[8,9,10],[0,1,2,3,4,5,6,7,8,9,10,11]],[0,1,2,3,4,5,6,7,8,9,10,11,12],some [2,3,4])
  | 5=>([],[],some [2,3,4])
  | _=>([],[],none)
def rs118 : List XRes:=[.cell 2 (some 8),.cell 3 none,.cell 4 none]
theorem run_nilnil (w : World) : (binOp BinOp.eql 20 Value.nilIface Value.nilIface).run Try.prog w=.ok (.bool true) w:=by
  kernel_rfl
theorem catch_idle (v0 v1 v2 : Value) (w : World) : CallsD Try.prog 148 #[v0,v1,v2] .returning w fun e u' w'=>e=.returned (.tuple #[])∧u'=.returning∧w'=w:=by
  refine callsD_of_wpS Try.func148 rfl fun c₀ cs hu=>?_
  apply wpS_seq
  apply wpS_region
  simp [wpOpsS,go_sem,recoverD,hu,Try.ntmps148,Exit.thenS]
  refine wpS_of_wp (wp_block (wp_seq (wp_region ?_)))
  simp [wpOps,go_sem,run_nilnil,Exit.then]
  refine Or.inl ?_
  refine wp_cond (t:=true) ?_ ?_
  · simp [Act.eval]
  simp only [if_true]
  refine wp_region ?_
  simp [wpOps,go_sem,Exit.inBlock,bodyPostS,results,Try.results148]
  refine Or.inl ?_
  cases c₀
  simp_all
theorem p118 : ∃ r0 rest o0 o1,Try.f118.body=some (.seq r0 (.seq (.region 1 #[o0,o1] false) rest))∧compC Try.prog md118 od118 26 r0=some xa118∧compC Try.prog md118 od118 26 rest=some xb118 ∧
    o0.op=.makeFunc (.func 148) #[] #[.tmp 2,.tmp 3,.tmp 4]∧o0.dst=some 6∧o0.guard=none∧o1.op=.defer { callee:=.value (.tmp 6),args:=#[],argTypes:=#[] }∧o1.dst=none∧o1.guard=none :=
  ⟨_,_,_,_,rfl,by kernel_rfl,by kernel_rfl,rfl,rfl,rfl,rfl,rfl,rfl⟩
theorem parse_of {ags : List AV} {r : AV} (hal : ags.length≤26)
    (h : xwp Try.prog xa118 (fun e st=>e=.normal∧st.fr 6=.dead∧xwp Try.prog xb118 (retK rs118 false r none none) st) (St.init ags none)) : Good Try.prog 118 ags none r none none:=by
  obtain ⟨r0,rest,o0,o1,hb,h0,h1,g1,g2,g3,g4,g5,g6⟩:=p118
  refine good_of_wp (nt:=26) (rs:=rs118) Try.func118 hb (by kernel_rfl) (by kernel_rfl) (by kernel_rfl) hal (by simp) fun w0 S Wr pb a w R hS hsim hR=>?_
  refine wp_seq (xwp_sound (D:=[]) hS h0 h hsim ?_)
  rintro e st a w ⟨rfl,h6,hx⟩ hs
  show (Code.seq _ rest).wp _ _ _ _
  have hd:=hs.defers
  have hsz:=hs.size
  refine wp_seq (wp_region ?_)
  have hl : List.range (#[o0,o1] : Array Oper).size=[0,1]:=rfl
  rw [hl]
  let fv : Value:=.func (.func 148) #[] #[a.tmps.getD 2 undef,a.tmps.getD 3 undef,a.tmps.getD 4 undef]
  let a1 : Act:={ tmps:=a.tmps.setIfInBounds 6 fv,defers:=a.defers }
  let dd : Deferred:={ target:=.fn (.func 148) #[a.tmps.getD 2 undef,a.tmps.getD 3 undef,a.tmps.getD 4 undef],args:=#[] }
  have e0 : (execOp a.eval o0).run Try.prog w=.ok (.value fv) w:=by
    simp [execOp,g1,Instr.makeFunc,Act.eval,fv]
  have ev6 : a1.eval (.tmp 6)=fv:=by
    simp [Act.eval,a1,Array.getD,hsz]
  have e1 : (execOp a1.eval o1).run Try.prog w=.ok (.defer dd) w:=by
    simp [execOp,g4,resolve,ev6,Deferred.ofValue,fv,dd]
  have w0' : Region.wanted o0 (yielded #[o0,o1] a.tmps)=true:=by simp [Region.wanted,g3]
  have w1' : Region.wanted o1 (yielded #[o0,o1] a1.tmps)=true:=by simp [Region.wanted,g6]
  have hp0 : a.put o0.dst fv=a1:=by rw [g2];rfl
  let a2 : Act:={ tmps:=a1.tmps,defers:=[dd] }
  suffices hq : rest.wp Try.prog (bodyPostD Try.prog Try.f118 R) a2 w by
    show (if Region.wanted o0 (yielded #[o0,o1] a.tmps)=true then _ else _)
    rw [if_pos w0']
    refine Or.inl ?_
    show Oper.upon Try.prog o0 a _ _ ((execOp a.eval o0).run Try.prog w)
    rw [e0,Oper.upon_value,hp0]
    show (if Region.wanted o1 (yielded #[o0,o1] a1.tmps)=true then _ else _)
    rw [if_pos w1']
    refine Or.inl ?_
    show Oper.upon Try.prog o1 a1 _ _ ((execOp a1.eval o1).run Try.prog w)
    rw [e1,Oper.upon_defer,g5]
    show rest.wp Try.prog (bodyPostD Try.prog Try.f118 R) { tmps:=a1.tmps,defers:=dd :: a.defers } w
    rw [hd]
    exact hq
  have hs2 : Sim [dd] pb w0 S Wr 26 (fun b=>b < st.nx) st.fr st.C st.Z a2 w:=by
    obtain ⟨⟨μ,U,k1,k2,k3,k4⟩,k5,k6⟩:=hs
    refine ⟨⟨μ,U,k1,fun s=>?_,k3,k4⟩,by simp [a2,a1,k5],rfl⟩
    by_cases h : s=6
    · subst h;rw [h6];exact .dead _
    · have : a2.tmps.getD s undef=a.tmps.getD s undef:=by
        simp only [a2,a1,Array.getD_eq_getD_getElem?]
        rw [Array.getElem?_setIfInBounds_ne (Ne.symm h)]
      rw [this];exact k2 s
  refine xwp_sound (D:=[dd]) hS h1 hx hs2 ?_
  intro e st3 a3 w3 hq hs3
  have hd3:=hs3.defers
  have key : (∃ vs,resVals st3.fr st3.C rs118=some vs∧RetOK st3.C st3.Z (tupOf vs) (none : Option (List DV)).isSome r none none)→Leaves Try.prog Try.f118 a3.tmps R a3.defers .returning w3:=by
    intro hv
    rw [hd3]
    refine leaves_cons (f:=148) (args:=#[a.tmps.getD 2 undef,a.tmps.getD 3 undef,a.tmps.getD 4 undef]) (by simp) ?_ ((catch_idle _ _ _ w3).mono ?_)
    · have:=run_callFunc (P:=Try.prog) (f:=148) ⟨Try.f148,Try.func148,by kernel_rfl,by kernel_rfl⟩ #[a.tmps.getD 2 undef,a.tmps.getD 3 undef,a.tmps.getD 4 undef] w3
      simpa [invoke] using this
    · rintro e u' w' ⟨rfl,rfl,rfl⟩
      exact hR [dd] st3 a3 w' hv hs3
  cases e with
  | normal=>exact key hq
  | ret=>exact key hq
  | _=>exact hq.elim
end Go.Sv
namespace Go.Sv
open Go Go.Proofs
def x140 : XC:=(.seq (.ops 2 [ (0,⟨some 2,none,.box (.t 0)⟩),(1,⟨some 4,none,.mv (.k (.d (.val (.int .i64 0))))⟩)] (some [1,2])) (.seq (.ops 1 [ (0,⟨some 5,none,.mv (.k (.d (.val (.int .i64 1))))⟩)] (some [1,2,5])) (.seq (.seq (.ops 1 [ (0,⟨some 6,none,.mv (.k (.d (.val (.int .i64 0))))⟩)] (some [1,2,5,6])) (.block 0 (.loop (.seq (.seq (.ops 10 [ (0,⟨some 7,none,.mv (.t 6)⟩),(1,⟨some 8,none,.fadd 7 (.t 2)⟩),(2,⟨some 9,none,.load none (.t 8)⟩),(3,⟨some 10,none,.lenS (.t 9)⟩),(4,⟨some 11,none,.arith .lss (.t 7) (.t 10)⟩),(5,⟨some 12,none,.mv (.t 11)⟩),(6,⟨some 13,(some (12,true)),.mv (.t 5)⟩),(7,⟨some 14,(some (12,true)),.mv (.t 1)⟩),(8,⟨some 15,(some (12,true)),.arith .lss (.t 13) (.t 14)⟩),(9,⟨some 16,none,.pick (.t 12) (.t 15) (.k (.d (.val (.bool false))))⟩)] (some [1,2,5,6,16])) (.cond (.t 16) .skip (.exit 0))) (.seq (.block 1 (.ops 12 [ (0,⟨some 19,none,.mv (.t 5)⟩),(1,⟨some 20,none,.fadd 7 (.t 2)⟩),(2,⟨some 21,none,.load none (.t 20)⟩),(3,⟨some 22,none,.mv (.t 6)⟩),(4,⟨some 23,none,.idxS 8 (.t 21) (.t 22)⟩),(5,⟨some 24,none,.load (some 8) (.t 23)⟩),(6,⟨some 25,none,.mv (.t 1)⟩),(7,⟨some 26,none,.mv (.t 5)⟩),(8,⟨some 27,none,.arith .sub (.t 25) (.t 26)⟩),(9,⟨some 28,none,.call 140 [(.t 24),(.t 27)] none false⟩),(10,⟨some 29,none,.arith .add (.t 19) (.t 28)⟩),(11,⟨some 5,none,.mv (.t 29)⟩)] (some [1,2,5,6]))) (.ops 3 [ (0,⟨some 17,none,.mv (.t 6)⟩),(1,⟨some 18,none,.arith .add (.t 17) (.k (.d (.val (.int .i64 1))))⟩),(2,⟨some 6,none,.mv (.t 18)⟩)] (some [1,2,5,6]))))))) (.seq (.ops 2 [ (0,⟨some 30,none,.mv (.t 5)⟩),(1,⟨some 4,none,.mv (.t 30)⟩)] (some [4])) .ret))))
def md140 : FuncId→Option Nat × Bool
  | _=>(none,false)
def od140 : Nat→List (List Nat) × List Nat × Option (List Nat)
  | 0=>([],[],some [1,2])
  | 1=>([],[],some [1,2,5])
  | 2=>([],[],some [1,2,5,6])
  | 3=>([],[],some [1,2,5,6,16])
  | 4=>([],[],some [1,2,5,6])
  | 5=>([],[],some [1,2,5,6])
  | 6=>([],[],some [4])
  | _=>([],[],none)
theorem b140 {ags : List AV} {row : Option (List DV)} {r : AV} {row' nw : Option (List DV)} (hal : ags.length≤31) (hrow : row'.isSome=true→row.isSome=true) (h : xwp Try.prog x140 (retK [.tmp 4] row.isSome r row' nw) (St.init ags row)) : Good Try.prog 140 ags row r row' nw :=
  good_of_body' (md:=md140) (od:=od140) Try.f140 (by kernel_rfl) (by kernel_rfl) (by kernel_rfl) (by kernel_rfl) (by kernel_rfl) hal hrow h

def x96 : XC:=(.seq (.ops 2 [ (0,⟨some 1,none,.box (.t 0)⟩),(1,⟨some 2,none,.mv (.k (.d (.val (.int .i64 0))))⟩)] (some [1])) (.seq (.ops 3 [ (0,⟨some 3,none,.load (some 8) (.t 1)⟩),(1,⟨some 4,none,.call 140 [(.t 3),(.k (.d (.val (.int .i64 601))))] none false⟩),(2,⟨some 2,none,.mv (.t 4)⟩)] (some [2])) .ret))
def md96 : FuncId→Option Nat × Bool
  | _=>(none,false)
def od96 : Nat→List (List Nat) × List Nat × Option (List Nat)
  | 0=>([],[],some [1])
  | 1=>([],[],some [2])
  | _=>([],[],none)
theorem b96 {ags : List AV} {row : Option (List DV)} {r : AV} {row' nw : Option (List DV)} (hal : ags.length≤5) (hrow : row'.isSome=true→row.isSome=true) (h : xwp Try.prog x96 (retK [.tmp 2] row.isSome r row' nw) (St.init ags row)) : Good Try.prog 96 ags row r row' nw :=
  good_of_body' (md:=md96) (od:=od96) Try.f96 (by kernel_rfl) (by kernel_rfl) (by kernel_rfl) (by kernel_rfl) (by kernel_rfl) hal hrow h

def x45 : XC:=(.seq (.ops 2 [ (0,⟨some 1,none,.box (.t 0)⟩),(1,⟨some 2,none,.mv (.k (.d (.val (.bool false))))⟩)] (some [1])) (.seq (.ops 4 [ (0,⟨some 3,none,.load (some 8) (.t 1)⟩),(1,⟨some 4,none,.call 96 [(.t 3)] none false⟩),(2,⟨some 5,none,.arith .leq (.t 4) (.k (.d (.val (.int .i64 200))))⟩),(3,⟨some 2,none,.mv (.t 5)⟩)] (some [2])) .ret))
def md45 : FuncId→Option Nat × Bool
  | _=>(none,false)
def od45 : Nat→List (List Nat) × List Nat × Option (List Nat)
  | 0=>([],[],some [1])
  | 1=>([],[],some [2])
  | _=>([],[],none)
theorem b45 {ags : List AV} {row : Option (List DV)} {r : AV} {row' nw : Option (List DV)} (hal : ags.length≤6) (hrow : row'.isSome=true→row.isSome=true) (h : xwp Try.prog x45 (retK [.tmp 2] row.isSome r row' nw) (St.init ags row)) : Good Try.prog 45 ags row r row' nw :=
  good_of_body' (md:=md45) (od:=od45) Try.f45 (by kernel_rfl) (by kernel_rfl) (by kernel_rfl) (by kernel_rfl) (by kernel_rfl) hal hrow h

set_option maxRecDepth 100000
set_option maxHeartbeats 4000000
attribute [local irreducible] W E R KP thenK blockK retK Good xwp aRun
mutual
def sizeT : T→Int→Int
  | .node _ _ _ _ _ _ _ subs,most=>sizeL subs most 1
def sizeL : List T→Int→Int→Int
  | [],_,k=>k
  | t :: l,most,k=>if k < most then sizeL l most (k + sizeT t (most - k)) else k
end
mutual
theorem sizeT_le : ∀ (t : T) (most : Int),1≤sizeT t most∧sizeT t most≤max 1 most
  | .node _ _ _ _ _ _ _ subs,most=>by
    have:=sizeL_le subs most 1
    simp only [sizeT];omega
theorem sizeL_le : ∀ (l : List T) (most k : Int),k≤sizeL l most k∧sizeL l most k≤max k most
  | [],most,k=>by simp only [sizeL];omega
  | t :: l,most,k=>by
    simp only [sizeL]
    split
    · have h1:=sizeT_le t (most - k)
      have h2:=sizeL_le l most (k + sizeT t (most - k))
      omega
    · omega
end
theorem sizeL_drop (l : List T) (most k : Int) (i : Nat) (h : i < l.length) : sizeL (l.drop i) most k=if k < most then sizeL (l.drop (i + 1)) most (k + sizeT l[i] (most - k)) else k:=by
  rw [List.drop_eq_getElem_cons h,sizeL]
theorem nrm_TI (t : T) (m : Int) : [nodeA t,AV.i m].all AV.nrm=true:=by
  have h2 : AV.nrm (AV.i m)=true:=rfl
  simp only [List.all_cons,List.all_nil,nodeA_nrm,h2,Bool.and_self]
theorem size_good : ∀ (n : Nat) (t : T),t.cnt≤n→∀ most : Int,most≤601→Good Try.prog 140 [nodeA t,.i most] none (.i (sizeT t most)) none none:=by
  intro n
  induction n with
  | zero=>intro t ht;have:=cnt_pos t;omega
  | succ n ih =>
  intro t ht most hmost
  obtain ⟨k,a,b,c,d,mn,mx,subs⟩:=t
  have ih' : ∀ i (h : i < subs.length) (m : Int),m≤601→Good Try.prog 140 [nodeA subs[i],.i m] none (.i (sizeT subs[i] m)) none none:=by
    intro i h m hm
    refine ih _ ?_ m hm
    have:=cntL_get subs i h
    simp only [T.cnt] at ht
    omega
  have e0 : nodeA (.node k a b c d mn mx subs)=.agg [.i k,.d (.val (.int .u64 a)),.d (.val (.int .u64 b)),.d (.val (.int .u64 c)),.d (.val (.int .u64 d)),.i mn,.i mx,.d (.sl (encL subs) subs.length)]:=rfl
  rw [e0]
  refine b140 (by simp) (by simp) (w_init ?_)
  unfold x140
  repeat' (first|(apply r_mvV;rfl)|(apply r_box;((conv=>lhs;simp only [Nat.reduceAdd])<;>rfl);rfl;rfl;rfl)|(apply r_nilK)|(apply k_V;rfl)|(apply k_PL;rfl)|(apply k_nil)|(apply w_seq)|(apply w_ops;((conv=>lhs;simp only [Nat.reduceAdd])<;>rfl))|(apply e_thenN)|(apply w_block))
  apply w_loopI (ι:=Nat × Int) (S:=fun p=>⟨(((Fr.nil.put 1 (.i most)).put 2 (.ptrL 1 0)).put 5 (.i p.2)).put 6 (.i p.1),Heap.nil.put 1 [.i k,.d (.val (.int .u64 a)),.d (.val (.int .u64 b)),.d (.val (.int .u64 c)),.d (.val (.int .u64 d)),.i mn,.i mx,.d (.sl (encL subs) subs.length)],Frz.but 100 1,100⟩) (m:=fun p=>subs.length - p.1)
    (I:=fun p=>p.1≤subs.length∧(p.1 : Int) + 1≤p.2∧p.2≤max 1 most∧sizeT (.node k a b c d mn mx subs) most=sizeL (subs.drop p.1) most p.2) (i0:=(0,1))
  · refine ⟨Nat.zero_le _,by simp,by dsimp only;omega,?_⟩
    simp [sizeT]
  · exact wk1D (by omega) (by omega) rfl rfl rfl (FWk.i rfl rfl (FWk.i rfl rfl (FWk.ptr rfl rfl rfl (by omega) rfl (FWk.i rfl rfl FWk.nil))))
  rintro ⟨i,q⟩ K hi hK
  dsimp only at hi hK ⊢
  rcases Nat.lt_or_ge i subs.length with hlt | hge
  · have hs:=NodeAt.sub hlt
    have hd:=sizeL_drop subs most q i hlt
    have hb:=sizeT_le subs[i] (most - q)
    by_cases hq : q < most
    · rw [if_pos hq] at hd
      repeat' (first|(apply r_mvV;rfl)|(apply r_faddL;rfl)|(apply r_l;apply ld_node';assumption;rfl)|(apply r_p;apply ix_sub;rfl;rfl;omega)|(apply r_callA (ags:=[nodeA subs[i],.i (most - q)]);rfl;apply nrm_TI;apply ih' i hlt;omega)|(apply r_ldL;rfl;rfl;rfl)|(apply r_lss;rfl;rfl;(first|(apply dT;omega)|(apply dF;omega)|rfl))|(apply r_add;rfl;rfl;rfl;omega)|(apply r_sub;rfl;rfl;rfl;omega)|(apply r_pickT;rfl)|(apply r_lenD;rfl)|(apply r_gT;rfl)|(apply r_nilK)|(apply k_V;rfl)|(apply k_PL;rfl)|(apply k_nil)|(apply w_seq)|(apply w_ops;((conv=>lhs;simp only [Nat.reduceAdd])<;>rfl))|(apply w_condT;rfl)|(apply e_thenN)|(apply w_block)|(apply e_blkN)|(apply w_skip))
      apply e_thenK
      apply hK (i + 1,q + sizeT subs[i] (most - q))
      · refine ⟨by omega,by dsimp only;omega,by dsimp only;omega,?_⟩
        rw [hi.2.2.2,hd]
      · dsimp only;omega
      · exact wk1D (by omega) (by omega) rfl rfl rfl (FWk.i rfl (by simp) (FWk.i rfl rfl (FWk.ptr rfl rfl rfl (by omega) rfl (FWk.i rfl rfl FWk.nil))))
    · rw [if_neg hq] at hd
      repeat' (first|(apply r_mvV;rfl)|(apply r_faddL;rfl)|(apply r_ldL;rfl;rfl;rfl)|(apply r_lss;rfl;rfl;(first|(apply dT;omega)|(apply dF;omega)|rfl))|(apply r_pickT;rfl)|(apply r_lenD;rfl)|(apply r_gT;rfl)|(apply r_nilK)|(apply k_V;rfl)|(apply k_PL;rfl)|(apply k_nil)|(apply e_ret (vs:=[.d (.val _)]);rfl)|(apply w_seq)|(apply w_ops;((conv=>lhs;simp only [Nat.reduceAdd])<;>rfl))|(apply w_condF;rfl)|(apply e_thenN)|(apply e_thenX)|(apply e_blkE)|(apply w_exit)|(apply w_ret))
      refine retI ?_
      rw [hi.2.2.2,hd]
  · repeat' (first|(apply r_mvV;rfl)|(apply r_faddL;rfl)|(apply r_ldL;rfl;rfl;rfl)|(apply r_lss;rfl;rfl;(first|(apply dT;omega)|(apply dF;omega)|rfl))|(apply r_pickF;rfl)|(apply r_lenD;rfl)|(apply r_gF';rfl;rfl)|(apply r_nilK)|(apply k_V;rfl)|(apply k_PL;rfl)|(apply k_nil)|(apply e_ret (vs:=[.d (.val _)]);rfl)|(apply w_seq)|(apply w_ops;((conv=>lhs;simp only [Nat.reduceAdd])<;>rfl))|(apply w_condF;rfl)|(apply e_thenN)|(apply e_thenX)|(apply e_blkE)|(apply w_exit)|(apply w_ret))
    refine retI ?_
    rw [hi.2.2.2,List.drop_of_length_le (by omega),sizeL]
theorem size96_good (t : T) : Good Try.prog 96 [nodeA t] none (.i (sizeT t 601)) none none:=by
  have:=size_good _ t (Nat.le_refl _) 601 (by omega)
  obtain ⟨k,a,b,c,d,mn,mx,subs⟩:=t
  have e0 : nodeA (.node k a b c d mn mx subs)=.agg [.i k,.d (.val (.int .u64 a)),.d (.val (.int .u64 b)),.d (.val (.int .u64 c)),.d (.val (.int .u64 d)),.i mn,.i mx,.d (.sl (encL subs) subs.length)]:=rfl
  rw [e0] at this ⊢
  refine b96 (by simp) (by simp) (w_init ?_)
  unfold x96
  repeat' (first|(apply r_mvV;rfl)|(apply r_callA;rfl;rfl;exact this)|(apply r_ldL;rfl;rfl;rfl)|(apply r_box;((conv=>lhs;simp only [Nat.reduceAdd])<;>rfl);rfl;rfl;rfl)|(apply r_nilK)|(apply k_V;rfl)|(apply k_PL;rfl)|(apply k_nil)|(apply e_ret (vs:=[.d (.val _)]);rfl)|(apply w_seq)|(apply w_ops;((conv=>lhs;simp only [Nat.reduceAdd])<;>rfl))|(apply e_thenN)|(apply w_ret))
  exact retI rfl
theorem few_good (t : T) : Good Try.prog 45 [nodeA t] none (.b (decide (sizeT t 601≤200))) none none:=by
  have:=size96_good t
  obtain ⟨k,a,b,c,d,mn,mx,subs⟩:=t
  have e0 : nodeA (.node k a b c d mn mx subs)=.agg [.i k,.d (.val (.int .u64 a)),.d (.val (.int .u64 b)),.d (.val (.int .u64 c)),.d (.val (.int .u64 d)),.i mn,.i mx,.d (.sl (encL subs) subs.length)]:=rfl
  rw [e0] at this ⊢
  refine b45 (by simp) (by simp) (w_init ?_)
  unfold x45
  repeat' (first|(apply r_mvV;rfl)|(apply r_callA;rfl;rfl;exact this)|(apply r_ldL;rfl;rfl;rfl)|(apply r_leq;rfl;rfl;(first|(apply dT;omega)|(apply dF;omega)|rfl))|(apply r_box;((conv=>lhs;simp only [Nat.reduceAdd])<;>rfl);rfl;rfl;rfl)|(apply r_nilK)|(apply k_V;rfl)|(apply k_PL;rfl)|(apply k_nil)|(apply e_ret (vs:=[.d (.val _)]);rfl)|(apply w_seq)|(apply w_ops;((conv=>lhs;simp only [Nat.reduceAdd])<;>rfl))|(apply e_thenN)|(apply w_ret))
  all_goals (refine retB ?_;first | rfl | (simp;omega))
mutual
theorem sizeT_cnt : ∀ (t : T) (most : Int),sizeT t most < most→sizeT t most=t.cnt
  | .node _ _ _ _ _ _ _ subs,most,h=>by
    simp only [sizeT] at h ⊢
    rw [sizeL_cnt subs most 1 h,T.cnt];omega
theorem sizeL_cnt : ∀ (l : List T) (most k : Int),sizeL l most k < most→sizeL l most k=k + cntL l
  | [],most,k,h=>by simp [sizeL,cntL]
  | t :: l,most,k,h=>by
    simp only [sizeL] at h ⊢
    split at h
    · rename_i hk
      rw [if_pos hk]
      have h2:=sizeL_le l most (k + sizeT t (most - k))
      rw [sizeL_cnt l most _ h,sizeT_cnt t (most - k) (by omega),cntL]
      omega
    · omega
end
end Go.Sv
namespace Go.Sv
open Go Go.Proofs
section
variable {P : Program} {Q : Cont} {fr : Fr} {C : Heap} {Z : Frz} {nx : Nat} {base n d : Nat} {l : List (Nat × XO)} {kp : Option (List Nat)} {x i y s : X}
theorem r_mul {a b c : Int} (hx : x.ev fr=.i a) (hy : y.ev fr=.i b) (hc : a * b=c) (hr : -9223372036854775808≤c∧c < 9223372036854775808) (k : R P l base kp Q nx (fr.put d (.i c)) C Z) : R P ((n,⟨some d,none,.arith .mul x y⟩) :: l) base kp Q nx fr C Z :=
  s_p (by simp [xp,hx,hy,arith,hc,wrap_in hr]) k
theorem mul_in {a b u v : Int} (ha : 0≤a∧a≤u) (hb : 0≤b∧b≤v) : 0≤a * b∧a * b≤u * v :=
  ⟨Int.mul_nonneg ha.1 hb.1,Int.mul_le_mul ha.2 hb.2 hb.1 (Int.le_trans ha.1 ha.2)⟩
end
set_option maxRecDepth 100000
set_option maxHeartbeats 4000000
attribute [local irreducible] W E R KP thenK blockK retK Good xwp aRun
def wideQ (k mn mx q : Int) : Int:=if k=5 then (if mx=-1 then q * (mn + 1) + 1 else (q + 2) * mx) else q
mutual
def wideT : T→Int
  | .node k _ _ _ _ mn mx subs=>wideL k mn mx subs 1
def wideL (k mn mx : Int) : List T→Int→Int
  | [],w=>w
  | t :: l,w=>wideL k mn mx l (min (w + wideQ k mn mx (wideT t)) 1073741824)
end
theorem wideL_drop (k mn mx : Int) (l : List T) (w : Int) (i : Nat) (h : i < l.length) : wideL k mn mx (l.drop i) w=wideL k mn mx (l.drop (i + 1)) (min (w + wideQ k mn mx (wideT l[i])) 1073741824):=by
  rw [List.drop_eq_getElem_cons h,wideL]
def okR (k mn mx : Int) : Prop:=k=5→(0≤mn∧mn≤20)∧(mx=-1 ∨ (mn≤mx∧mx≤20))
theorem okT_R {k a b c d mn mx : Int} {subs : List T} (h : okT (.node k a b c d mn mx subs)) : okR k mn mx:=by
  intro hk
  simp only [okT,okN] at h
  have hpl:=h.1.2.2.2.2
  simp [plainT,hk] at hpl
  omega
theorem wideQ_in {k mn mx q : Int} (h : okR k mn mx) (hq : 0≤q∧q≤1073741824) : 0≤wideQ k mn mx q∧wideQ k mn mx q≤30000000000:=by
  unfold wideQ
  split
  · rename_i hk
    have:=h hk
    split
    · have:=mul_in hq (show 0≤mn + 1∧mn + 1≤21 by omega)
      omega
    · have:=mul_in (show 0≤q + 2∧q + 2≤1073741826 by omega) (show 0≤mx∧mx≤20 by omega)
      omega
  · omega
mutual
theorem wideT_in : ∀ t : T,okT t→1≤wideT t∧wideT t≤1073741824
  | .node k a b c d mn mx subs,h=>by
    have h1:=okT_R h
    simp only [okT] at h
    have:=wideL_in k mn mx h1 subs 1 h.2 (by omega)
    simp only [wideT];omega
theorem wideL_in (k mn mx : Int) (hr : okR k mn mx) : ∀ (l : List T) (w : Int),okL l→(1≤w∧w≤1073741824)→w≤wideL k mn mx l w∧wideL k mn mx l w≤1073741824
  | [],w,_,h=>by simp only [wideL];omega
  | t :: l,w,h,hw=>by
    simp only [okL] at h
    have h1:=wideT_in t h.1
    have h2:=wideQ_in hr (q:=wideT t) (by omega)
    have h3:=wideL_in k mn mx hr l (min (w + wideQ k mn mx (wideT t)) 1073741824) h.2 (by omega)
    simp only [wideL];omega
end
end Go.Sv
namespace Go.Sv
open Go Go.Proofs
set_option maxRecDepth 100000
def x83 : XC:=(.seq (.ops 1 [ (0,⟨some 2,none,.alloc [(.int .i64 0),(.int .u64 0),(.int .u64 0),(.int .u64 0),(.int .u64 0),(.int .i64 0),(.int .i64 0),(.slice none 0 0)]⟩)] (some [0,2])) (.seq (.ops 10 [ (0,⟨some 7,none,.mv (.t 0)⟩),(1,⟨some 8,none,.call 118 [(.t 7)] none false⟩),(2,⟨some 6,none,.mv (.t 8)⟩),(3,⟨some 9,none,.ext (.t 6) 0⟩),(4,⟨some 10,none,.ext (.t 6) 1⟩),(5,⟨some 11,none,.ext (.t 6) 2⟩),(6,⟨some 3,none,.alloc [(.int .i64 0),(.int .u64 0),(.int .u64 0),(.int .u64 0),(.int .u64 0),(.int .i64 0),(.int .i64 0),(.slice none 0 0)]⟩),(7,⟨none,none,.store 8 (.t 3) (.t 9)⟩),(8,⟨some 4,none,.mv (.t 10)⟩),(9,⟨some 5,none,.mv (.t 11)⟩)] (some [2,3])) (.seq (.ops 2 [ (0,⟨some 12,none,.load (some 8) (.t 3)⟩),(1,⟨none,none,.store 8 (.t 2) (.t 12)⟩)] (some [2])) .ret)))
def md83 : FuncId→Option Nat × Bool
  | _=>(none,false)
def od83 : Nat→List (List Nat) × List Nat × Option (List Nat)
  | 0=>([],[],some [0,2])
  | 1=>([],[],some [2,3])
  | 2=>([],[],some [2])
  | _=>([],[],none)
theorem b83 {ags : List AV} {row : Option (List DV)} {r : AV} {row' nw : Option (List DV)} (hal : ags.length≤13) (hrow : row'.isSome=true→row.isSome=true) (h : xwp Try.prog x83 (retK [.cell 2 (some 8)] row.isSome r row' nw) (St.init ags row)) : Good Try.prog 83 ags row r row' nw :=
  good_of_body' (md:=md83) (od:=od83) Try.f83 (by kernel_rfl) (by kernel_rfl) (by kernel_rfl) (by kernel_rfl) (by kernel_rfl) hal hrow h

def x119 : XC:=(.seq (.ops 1 [ (0,⟨some 4,none,.alloc [(.int .u64 0),(.int .u64 0),(.int .u64 0),(.int .u64 0)]⟩)] (some [0,1,4])) (.seq (.seq (.ops 3 [ (0,⟨some 6,none,.mv (.t 0)⟩),(1,⟨some 7,none,.conv .i64 (.t 6)⟩),(2,⟨some 5,none,.mv (.t 7)⟩)] (some [1,4,5])) (.block 0 (.loop (.seq (.seq (.ops 4 [ (0,⟨some 8,none,.mv (.t 5)⟩),(1,⟨some 9,none,.mv (.t 1)⟩),(2,⟨some 10,none,.conv .i64 (.t 9)⟩),(3,⟨some 11,none,.arith .leq (.t 8) (.t 10)⟩)] (some [1,4,5,11])) (.cond (.t 11) .skip (.exit 0))) (.seq (.block 1 (.ops 10 [ (0,⟨some 14,none,.mv (.t 5)⟩),(1,⟨some 15,none,.arith .quo (.t 14) (.k (.d (.val (.int .i64 64))))⟩),(2,⟨some 16,none,.idxP 4 1 (.t 4) (.t 15)⟩),(3,⟨some 17,none,.load none (.t 16)⟩),(4,⟨some 18,none,.mv (.t 5)⟩),(5,⟨some 19,none,.arith .rem (.t 18) (.k (.d (.val (.int .i64 64))))⟩),(6,⟨some 20,none,.arith .shl (.k (.d (.val (.int .u64 1)))) (.t 19)⟩),(7,⟨some 21,none,.arith .or (.t 17) (.t 20)⟩),(8,⟨some 22,none,.idxP 4 1 (.t 4) (.t 15)⟩),(9,⟨none,none,.store 1 (.t 22) (.t 21)⟩)] (some [1,4,5]))) (.ops 3 [ (0,⟨some 12,none,.mv (.t 5)⟩),(1,⟨some 13,none,.arith .add (.t 12) (.k (.d (.val (.int .i64 1))))⟩),(2,⟨some 5,none,.mv (.t 13)⟩)] (some [1,4,5]))))))) (.seq (.ops 2 [ (0,⟨some 23,none,.load (some 4) (.t 4)⟩),(1,⟨none,none,.store 4 (.t 4) (.t 23)⟩)] (some [4])) .ret)))
def md119 : FuncId→Option Nat × Bool
  | _=>(none,false)
def od119 : Nat→List (List Nat) × List Nat × Option (List Nat)
  | 0=>([],[],some [0,1,4])
  | 1=>([],[],some [1,4,5])
  | 2=>([],[],some [1,4,5,11])
  | 3=>([],[],some [1,4,5])
  | 4=>([[],[0],[0,1],[0,1,2],[],[4],[4,5],[0,1,2,3,4,5,6],[0,1,2,3,4,5,6,7],[0,1,2,3,4,5,6,7,8]],[0,1,2,3,4,5,6,7,8,9],some [1,4,5])
  | 5=>([],[],some [4])
  | _=>([],[],none)
theorem b119 {ags : List AV} {row : Option (List DV)} {r : AV} {row' nw : Option (List DV)} (hal : ags.length≤24) (hrow : row'.isSome=true→row.isSome=true) (h : xwp Try.prog x119 (retK [.cell 4 (some 4)] row.isSome r row' nw) (St.init ags row)) : Good Try.prog 119 ags row r row' nw :=
  good_of_body' (md:=md119) (od:=od119) Try.f119 (by kernel_rfl) (by kernel_rfl) (by kernel_rfl) (by kernel_rfl) (by kernel_rfl) hal hrow h

def x149 : XC:=(.seq (.ops 1 [ (0,⟨some 2,none,.alloc [(.int .i64 0),(.int .u64 0),(.int .u64 0),(.int .u64 0),(.int .u64 0),(.int .i64 0),(.int .i64 0),(.slice none 0 0)]⟩)] (some [0,2])) (.seq (.ops 4 [ (0,⟨some 4,none,.mv (.t 0)⟩),(1,⟨some 5,none,.call 162 [(.t 4)] (some 0) false⟩),(2,⟨some 6,none,.mkrow [(.int .i64 0),(.int .u64 0),(.int .u64 0),(.int .u64 0),(.int .u64 0),(.int .i64 0),(.int .i64 0),(.slice none 0 0)] 1 8 [(0,8,(.t 5))]⟩),(3,⟨some 3,none,.mv (.t 6)⟩)] (some [0,2,3])) (.seq (.block 0 (.loop (.seq (.seq (.ops 2 [ (0,⟨some 7,none,.mv (.t 0)⟩),(1,⟨some 8,none,.call 163 [(.t 7),(.k (.d (.val (.int .u8 124))))] (some 0) false⟩)] (some [0,2,3,8])) (.cond (.t 8) .skip (.exit 0))) (.block 1 (.ops 6 [ (0,⟨some 9,none,.mv (.t 3)⟩),(1,⟨some 10,none,.mv (.t 0)⟩),(2,⟨some 11,none,.call 162 [(.t 10)] (some 0) false⟩),(3,⟨some 12,none,.mkrow [(.int .i64 0),(.int .u64 0),(.int .u64 0),(.int .u64 0),(.int .u64 0),(.int .i64 0),(.int .i64 0),(.slice none 0 0)] 1 8 [(0,8,(.t 11))]⟩),(4,⟨some 13,none,.app [(.int .i64 0),(.int .u64 0),(.int .u64 0),(.int .u64 0),(.int .u64 0),(.int .i64 0),(.int .i64 0),(.slice none 0 0)] 80 (.t 9) (.t 12)⟩),(5,⟨some 3,none,.mv (.t 13)⟩)] (some [0,2,3])))))) (.seq (.ops 3 [ (0,⟨some 14,none,.mv (.t 3)⟩),(1,⟨some 15,none,.call 164 [(.k (.d (.val (.int .i64 4)))),(.t 14)] none false⟩),(2,⟨none,none,.store 8 (.t 2) (.t 15)⟩)] (some [2])) .ret))))
def md149 : FuncId→Option Nat × Bool
  | 162=>(some 0,false)
  | 163=>(some 0,false)
  | _=>(none,false)
def od149 : Nat→List (List Nat) × List Nat × Option (List Nat)
  | 0=>([],[],some [0,2])
  | 1=>([],[],some [0,2,3])
  | 2=>([],[],some [0,2,3,8])
  | 3=>([],[],some [0,2,3])
  | 4=>([],[],some [2])
  | _=>([],[],none)
theorem b149 {ags : List AV} {row : Option (List DV)} {r : AV} {row' nw : Option (List DV)} (hal : ags.length≤16) (hrow : row'.isSome=true→row.isSome=true) (h : xwp Try.prog x149 (retK [.cell 2 (some 8)] row.isSome r row' nw) (St.init ags row)) : Good Try.prog 149 ags row r row' nw :=
  good_of_body' (md:=md149) (od:=od149) Try.f149 (by kernel_rfl) (by kernel_rfl) (by kernel_rfl) (by kernel_rfl) (by kernel_rfl) hal hrow h

def x150 : XC:=(.seq (.ops 2 [ (0,⟨some 6,none,.mv (.t 1)⟩),(1,⟨some 7,none,.un .not (.t 6)⟩)] (some [2,7])) (.cond (.t 7) (.ops 3 [ (0,⟨some 8,none,.mv (.t 2)⟩),(1,⟨some 9,none,.bad⟩),(2,⟨none,none,.bad⟩)] (some [])) .skip))
def md150 : FuncId→Option Nat × Bool
  | _=>(none,false)
def od150 : Nat→List (List Nat) × List Nat × Option (List Nat)
  | 0=>([],[],some [2,7])
  | 1=>([],[],some [])
  | _=>([],[],none)
theorem b150 {ags : List AV} {row : Option (List DV)} {r : AV} {row' nw : Option (List DV)} (hal : ags.length≤10) (hrow : row'.isSome=true→row.isSome=true) (h : xwp Try.prog x150 (retK [] row.isSome r row' nw) (St.init ags row)) : Good Try.prog 150 ags row r row' nw :=
  good_of_body' (md:=md150) (od:=od150) Try.f150 (by kernel_rfl) (by kernel_rfl) (by kernel_rfl) (by kernel_rfl) (by kernel_rfl) hal hrow h

def x162 : XC:=(.seq (.ops 1 [ (0,⟨some 2,none,.alloc [(.int .i64 0),(.int .u64 0),(.int .u64 0),(.int .u64 0),(.int .u64 0),(.int .i64 0),(.int .i64 0),(.slice none 0 0)]⟩)] (some [0,2])) (.seq (.ops 1 [ (0,⟨some 3,none,.mv (.k (.d (.val (.slice none 0 0))))⟩)] (some [0,2,3])) (.seq (.block 0 (.loop (.seq (.seq (.ops 3 [ (0,⟨some 4,none,.mv (.t 0)⟩),(1,⟨some 5,none,.call 170 [(.t 4)] none false⟩),(2,⟨some 6,none,.un .not (.t 5)⟩)] (some [0,2,3,6])) (.cond (.t 6) .skip (.exit 0))) (.block 1 (.ops 6 [ (0,⟨some 7,none,.mv (.t 3)⟩),(1,⟨some 8,none,.mv (.t 0)⟩),(2,⟨some 9,none,.call 171 [(.t 8)] (some 0) false⟩),(3,⟨some 10,none,.mkrow [(.int .i64 0),(.int .u64 0),(.int .u64 0),(.int .u64 0),(.int .u64 0),(.int .i64 0),(.int .i64 0),(.slice none 0 0)] 1 8 [(0,8,(.t 9))]⟩),(4,⟨some 11,none,.app [(.int .i64 0),(.int .u64 0),(.int .u64 0),(.int .u64 0),(.int .u64 0),(.int .i64 0),(.int .i64 0),(.slice none 0 0)] 80 (.t 7) (.t 10)⟩),(5,⟨some 3,none,.mv (.t 11)⟩)] (some [0,2,3])))))) (.seq (.ops 3 [ (0,⟨some 12,none,.mv (.t 3)⟩),(1,⟨some 13,none,.call 164 [(.k (.d (.val (.int .i64 3)))),(.t 12)] none false⟩),(2,⟨none,none,.store 8 (.t 2) (.t 13)⟩)] (some [2])) .ret))))
def md162 : FuncId→Option Nat × Bool
  | 171=>(some 0,false)
  | _=>(none,false)
def od162 : Nat→List (List Nat) × List Nat × Option (List Nat)
  | 0=>([],[],some [0,2])
  | 1=>([],[],some [0,2,3])
  | 2=>([],[],some [0,2,3,6])
  | 3=>([],[],some [0,2,3])
  | 4=>([],[],some [2])
  | _=>([],[],none)
theorem b162 {ags : List AV} {row : Option (List DV)} {r : AV} {row' nw : Option (List DV)} (hal : ags.length≤14) (hrow : row'.isSome=true→row.isSome=true) (h : xwp Try.prog x162 (retK [.cell 2 (some 8)] row.isSome r row' nw) (St.init ags row)) : Good Try.prog 162 ags row r row' nw :=
  good_of_body' (md:=md162) (od:=od162) Try.f162 (by kernel_rfl) (by kernel_rfl) (by kernel_rfl) (by kernel_rfl) (by kernel_rfl) hal hrow h

def x163 : XC:=(.seq (.ops 1 [ (0,⟨some 4,none,.mv (.k (.d (.val (.bool false))))⟩)] (some [0,1])) (.seq (.seq (.ops 5 [ (0,⟨some 5,none,.mv (.t 0)⟩),(1,⟨some 6,none,.call 172 [(.t 5)] none false⟩),(2,⟨some 7,none,.mv (.t 1)⟩),(3,⟨some 8,none,.conv .i64 (.t 7)⟩),(4,⟨some 9,none,.arith .neq (.t 6) (.t 8)⟩)] (some [0,9])) (.cond (.t 9) (.seq (.ops 1 [ (0,⟨some 4,none,.mv (.k (.d (.val (.bool false))))⟩)] (some [4])) .ret) .skip)) (.seq (.ops 8 [ (0,⟨some 10,none,.mv (.t 0)⟩),(1,⟨some 11,none,.nilck (.t 10)⟩),(2,⟨some 12,none,.fadd 1 (.t 11)⟩),(3,⟨some 13,none,.load none (.t 12)⟩),(4,⟨some 14,none,.arith .add (.t 13) (.k (.d (.val (.int .i64 1))))⟩),(5,⟨some 15,none,.nilck (.t 10)⟩),(6,⟨some 16,none,.fadd 1 (.t 15)⟩),(7,⟨none,none,.store 1 (.t 16) (.t 14)⟩)] (some [])) (.seq (.ops 1 [ (0,⟨some 4,none,.mv (.k (.d (.val (.bool true))))⟩)] (some [4])) .ret))))
def md163 : FuncId→Option Nat × Bool
  | _=>(none,false)
def od163 : Nat→List (List Nat) × List Nat × Option (List Nat)
  | 0=>([],[],some [0,1])
  | 1=>([],[],some [0,9])
  | 2=>([],[],some [4])
  | 3=>([],[],some [])
  | 4=>([],[],some [4])
  | _=>([],[],none)
theorem b163 {ags : List AV} {row : Option (List DV)} {r : AV} {row' nw : Option (List DV)} (hal : ags.length≤17) (hrow : row'.isSome=true→row.isSome=true) (h : xwp Try.prog x163 (retK [.tmp 4] row.isSome r row' nw) (St.init ags row)) : Good Try.prog 163 ags row r row' nw :=
  good_of_body' (md:=md163) (od:=od163) Try.f163 (by kernel_rfl) (by kernel_rfl) (by kernel_rfl) (by kernel_rfl) (by kernel_rfl) hal hrow h

def x164 : XC:=(.seq (.ops 1 [ (0,⟨some 4,none,.alloc [(.int .i64 0),(.int .u64 0),(.int .u64 0),(.int .u64 0),(.int .u64 0),(.int .i64 0),(.int .i64 0),(.slice none 0 0)]⟩)] (some [0,1,4])) (.seq (.block 0 (.seq (.ops 4 [ (0,⟨some 6,none,.mv (.t 1)⟩),(1,⟨some 7,none,.lenS (.t 6)⟩),(2,⟨some 8,none,.arith .eql (.t 7) (.k (.d (.val (.int .i64 0))))⟩),(3,⟨some 5,none,.mv (.t 8)⟩)] (some [0,1,4,5])) (.cond (.t 5) (.seq (.ops 2 [ (0,⟨some 9,none,.build [(.int .i64 0),(.int .u64 0),(.int .u64 0),(.int .u64 0),(.int .u64 0),(.int .i64 0),(.int .i64 0),(.slice none 0 0)] [(0,1,(.k (.d (.val (.int .i64 1)))))]⟩),(1,⟨none,none,.store 8 (.t 4) (.t 9)⟩)] (some [4])) .ret) (.seq (.ops 4 [ (0,⟨some 11,none,.mv (.t 1)⟩),(1,⟨some 12,none,.lenS (.t 11)⟩),(2,⟨some 13,none,.arith .eql (.t 12) (.k (.d (.val (.int .i64 1))))⟩),(3,⟨some 10,none,.mv (.t 13)⟩)] (some [0,1,4,10])) (.cond (.t 10) (.seq (.ops 4 [ (0,⟨some 14,none,.mv (.t 1)⟩),(1,⟨some 15,none,.idxS 8 (.t 14) (.k (.d (.val (.int .i64 0))))⟩),(2,⟨some 16,none,.load (some 8) (.t 15)⟩),(3,⟨none,none,.store 8 (.t 4) (.t 16)⟩)] (some [4])) .ret) .skip))))) (.seq (.ops 4 [ (0,⟨some 17,none,.mv (.t 0)⟩),(1,⟨some 18,none,.mv (.t 1)⟩),(2,⟨some 19,none,.build [(.int .i64 0),(.int .u64 0),(.int .u64 0),(.int .u64 0),(.int .u64 0),(.int .i64 0),(.int .i64 0),(.slice none 0 0)] [(0,1,(.t 17)),(7,1,(.t 18))]⟩),(3,⟨none,none,.store 8 (.t 4) (.t 19)⟩)] (some [4])) .ret)))
def md164 : FuncId→Option Nat × Bool
  | _=>(none,false)
def od164 : Nat→List (List Nat) × List Nat × Option (List Nat)
  | 0=>([],[],some [0,1,4])
  | 1=>([],[],some [0,1,4,5])
  | 2=>([],[],some [4])
  | 3=>([],[],some [0,1,4,10])
  | 4=>([],[],some [4])
  | 5=>([],[],some [4])
  | _=>([],[],none)
theorem b164 {ags : List AV} {row : Option (List DV)} {r : AV} {row' nw : Option (List DV)} (hal : ags.length≤20) (hrow : row'.isSome=true→row.isSome=true) (h : xwp Try.prog x164 (retK [.cell 4 (some 8)] row.isSome r row' nw) (St.init ags row)) : Good Try.prog 164 ags row r row' nw :=
  good_of_body' (md:=md164) (od:=od164) Try.f164 (by kernel_rfl) (by kernel_rfl) (by kernel_rfl) (by kernel_rfl) (by kernel_rfl) hal hrow h

def x170 : XC:=(.seq (.ops 1 [ (0,⟨some 2,none,.mv (.k (.d (.val (.bool false))))⟩)] (some [0])) (.seq (.ops 3 [ (0,⟨some 4,none,.mv (.t 0)⟩),(1,⟨some 5,none,.call 172 [(.t 4)] none false⟩),(2,⟨some 3,none,.mv (.t 5)⟩)] (some [3])) (.seq (.ops 11 [ (0,⟨some 6,none,.mv (.t 3)⟩),(1,⟨some 7,none,.arith .lss (.t 6) (.k (.d (.val (.int .i64 0))))⟩),(2,⟨some 8,none,.mv (.t 7)⟩),(3,⟨some 9,(some (8,false)),.mv (.t 3)⟩),(4,⟨some 10,(some (8,false)),.arith .eql (.t 9) (.k (.d (.val (.int .i64 124))))⟩),(5,⟨some 11,none,.pick (.t 8) (.k (.d (.val (.bool true)))) (.t 10)⟩),(6,⟨some 12,none,.mv (.t 11)⟩),(7,⟨some 13,(some (12,false)),.mv (.t 3)⟩),(8,⟨some 14,(some (12,false)),.arith .eql (.t 13) (.k (.d (.val (.int .i64 41))))⟩),(9,⟨some 15,none,.pick (.t 12) (.k (.d (.val (.bool true)))) (.t 14)⟩),(10,⟨some 2,none,.mv (.t 15)⟩)] (some [2])) .ret)))
def md170 : FuncId→Option Nat × Bool
  | _=>(none,false)
def od170 : Nat→List (List Nat) × List Nat × Option (List Nat)
  | 0=>([],[],some [0])
  | 1=>([],[],some [3])
  | 2=>([],[],some [2])
  | _=>([],[],none)
theorem b170 {ags : List AV} {row : Option (List DV)} {r : AV} {row' nw : Option (List DV)} (hal : ags.length≤16) (hrow : row'.isSome=true→row.isSome=true) (h : xwp Try.prog x170 (retK [.tmp 2] row.isSome r row' nw) (St.init ags row)) : Good Try.prog 170 ags row r row' nw :=
  good_of_body' (md:=md170) (od:=od170) Try.f170 (by kernel_rfl) (by kernel_rfl) (by kernel_rfl) (by kernel_rfl) (by kernel_rfl) hal hrow h

def x171 : XC:=(.seq (.ops 1 [ (0,⟨some 2,none,.alloc [(.int .i64 0),(.int .u64 0),(.int .u64 0),(.int .u64 0),(.int .u64 0),(.int .i64 0),(.int .i64 0),(.slice none 0 0)]⟩)] (some [0,2])) (.seq (.ops 4 [ (0,⟨some 5,none,.mv (.t 0)⟩),(1,⟨some 6,none,.call 176 [(.t 5)] (some 0) false⟩),(2,⟨some 3,none,.alloc [(.int .i64 0),(.int .u64 0),(.int .u64 0),(.int .u64 0),(.int .u64 0),(.int .i64 0),(.int .i64 0),(.slice none 0 0)]⟩),(3,⟨none,none,.store 8 (.t 3) (.t 6)⟩)] (some [0,2,3])) (.seq (.ops 5 [ (0,⟨some 7,none,.load (some 8) (.t 3)⟩),(1,⟨some 8,none,.mkrow [(.int .i64 0),(.int .u64 0),(.int .u64 0),(.int .u64 0),(.int .u64 0),(.int .i64 0),(.int .i64 0),(.slice none 0 0)] 1 8 [(0,8,(.t 7))]⟩),(2,⟨some 9,none,.build [(.int .i64 0),(.int .u64 0),(.int .u64 0),(.int .u64 0),(.int .u64 0),(.int .i64 0),(.int .i64 0),(.slice none 0 0)] [(0,1,(.k (.d (.val (.int .i64 5))))),(6,1,(.k (.d (.val (.int .i64 (-1)))))),(7,1,(.t 8))]⟩),(3,⟨some 4,none,.alloc [(.int .i64 0),(.int .u64 0),(.int .u64 0),(.int .u64 0),(.int .u64 0),(.int .i64 0),(.int .i64 0),(.slice none 0 0)]⟩),(4,⟨none,none,.store 8 (.t 4) (.t 9)⟩)] (some [0,2,3,4])) (.seq (.block 0 (.seq (.ops 3 [ (0,⟨some 12,none,.mv (.t 0)⟩),(1,⟨some 13,none,.call 163 [(.t 12),(.k (.d (.val (.int .u8 42))))] (some 0) false⟩),(2,⟨some 11,none,.mv (.t 13)⟩)] (some [0,2,3,4,11])) (.cond (.t 11) .skip (.seq (.ops 3 [ (0,⟨some 15,none,.mv (.t 0)⟩),(1,⟨some 16,none,.call 163 [(.t 15),(.k (.d (.val (.int .u8 43))))] (some 0) false⟩),(2,⟨some 14,none,.mv (.t 16)⟩)] (some [0,2,3,4,14])) (.cond (.t 14) (.ops 2 [ (0,⟨some 17,none,.fadd 5 (.t 4)⟩),(1,⟨none,none,.store 1 (.t 17) (.k (.d (.val (.int .i64 1))))⟩)] (some [2,4])) (.seq (.ops 3 [ (0,⟨some 19,none,.mv (.t 0)⟩),(1,⟨some 20,none,.call 163 [(.t 19),(.k (.d (.val (.int .u8 63))))] (some 0) false⟩),(2,⟨some 18,none,.mv (.t 20)⟩)] (some [0,2,3,4,18])) (.cond (.t 18) (.ops 2 [ (0,⟨some 21,none,.fadd 6 (.t 4)⟩),(1,⟨none,none,.store 1 (.t 21) (.k (.d (.val (.int .i64 1))))⟩)] (some [2,4])) (.seq (.ops 3 [ (0,⟨some 23,none,.mv (.t 0)⟩),(1,⟨some 24,none,.call 163 [(.t 23),(.k (.d (.val (.int .u8 123))))] (some 0) false⟩),(2,⟨some 22,none,.mv (.t 24)⟩)] (some [0,2,3,4,22])) (.cond (.t 22) (.ops 9 [ (0,⟨some 26,none,.mv (.t 0)⟩),(1,⟨some 27,none,.call 177 [(.t 26)] (some 0) false⟩),(2,⟨some 25,none,.mv (.t 27)⟩),(3,⟨some 28,none,.ext (.t 25) 0⟩),(4,⟨some 29,none,.ext (.t 25) 1⟩),(5,⟨some 30,none,.fadd 5 (.t 4)⟩),(6,⟨none,none,.store 1 (.t 30) (.t 28)⟩),(7,⟨some 31,none,.fadd 6 (.t 4)⟩),(8,⟨none,none,.store 1 (.t 31) (.t 29)⟩)] (some [2,4])) (.seq (.ops 2 [ (0,⟨some 10,none,.load (some 8) (.t 3)⟩),(1,⟨none,none,.store 8 (.t 2) (.t 10)⟩)] (some [2])) .ret)))))))))) (.seq (.ops 2 [ (0,⟨some 32,none,.load (some 8) (.t 4)⟩),(1,⟨none,none,.store 8 (.t 2) (.t 32)⟩)] (some [2])) .ret)))))
def md171 : FuncId→Option Nat × Bool
  | 163=>(some 0,false)
  | 176=>(some 0,false)
  | 177=>(some 0,false)
  | _=>(none,false)
def od171 : Nat→List (List Nat) × List Nat × Option (List Nat)
  | 0=>([],[],some [0,2])
  | 1=>([],[],some [0,2,3])
  | 2=>([],[],some [0,2,3,4])
  | 3=>([],[],some [2])
  | 4=>([],[],some [0,2,3,4,11])
  | 5=>([],[],some [0,2,3,4,14])
  | 6=>([],[],some [2,4])
  | 7=>([],[],some [0,2,3,4,18])
  | 8=>([],[],some [2,4])
  | 9=>([],[],some [0,2,3,4,22])
  | 10=>([],[],some [2,4])
  | 11=>([],[],some [2])
  | _=>([],[],none)
theorem b171 {ags : List AV} {row : Option (List DV)} {r : AV} {row' nw : Option (List DV)} (hal : ags.length≤33) (hrow : row'.isSome=true→row.isSome=true) (h : xwp Try.prog x171 (retK [.cell 2 (some 8)] row.isSome r row' nw) (St.init ags row)) : Good Try.prog 171 ags row r row' nw :=
  good_of_body' (md:=md171) (od:=od171) Try.f171 (by kernel_rfl) (by kernel_rfl) (by kernel_rfl) (by kernel_rfl) (by kernel_rfl) hal hrow h

def x172 : XC:=(.seq (.ops 1 [ (0,⟨some 2,none,.mv (.k (.d (.val (.int .i64 0))))⟩)] (some [0])) (.seq (.seq (.ops 10 [ (0,⟨some 3,none,.mv (.t 0)⟩),(1,⟨some 4,none,.nilck (.t 3)⟩),(2,⟨some 5,none,.fadd 1 (.t 4)⟩),(3,⟨some 6,none,.load none (.t 5)⟩),(4,⟨some 7,none,.mv (.t 0)⟩),(5,⟨some 8,none,.nilck (.t 7)⟩),(6,⟨some 9,none,.fadd 0 (.t 8)⟩),(7,⟨some 10,none,.load none (.t 9)⟩),(8,⟨some 11,none,.lenT (.t 10)⟩),(9,⟨some 12,none,.arith .geq (.t 6) (.t 11)⟩)] (some [0,12])) (.cond (.t 12) (.seq (.ops 1 [ (0,⟨some 2,none,.mv (.k (.d (.val (.int .i64 (-1)))))⟩)] (some [2])) .ret) .skip)) (.seq (.ops 11 [ (0,⟨some 13,none,.mv (.t 0)⟩),(1,⟨some 14,none,.nilck (.t 13)⟩),(2,⟨some 15,none,.fadd 0 (.t 14)⟩),(3,⟨some 16,none,.load none (.t 15)⟩),(4,⟨some 17,none,.mv (.t 0)⟩),(5,⟨some 18,none,.nilck (.t 17)⟩),(6,⟨some 19,none,.fadd 1 (.t 18)⟩),(7,⟨some 20,none,.load none (.t 19)⟩),(8,⟨some 21,none,.idxT (.t 16) (.t 20)⟩),(9,⟨some 22,none,.conv .i64 (.t 21)⟩),(10,⟨some 2,none,.mv (.t 22)⟩)] (some [2])) .ret)))
def md172 : FuncId→Option Nat × Bool
  | _=>(none,false)
def od172 : Nat→List (List Nat) × List Nat × Option (List Nat)
  | 0=>([],[],some [0])
  | 1=>([[],[0],[0,1],[0,1,2],[],[4],[4,5],[4,5,6],[4,5,6,7],[0,1,2,3,4,5,6,7,8]],[0,1,2,3,4,5,6,7,8,9],some [0,12])
  | 2=>([],[],some [2])
  | 3=>([[],[0],[0,1],[0,1,2],[],[4],[4,5],[4,5,6],[0,1,2,3,4,5,6,7],[0,1,2,3,4,5,6,7,8],[0,1,2,3,4,5,6,7,8,9]],[0,1,2,3,4,5,6,7,8,9,10],some [2])
  | _=>([],[],none)
theorem b172 {ags : List AV} {row : Option (List DV)} {r : AV} {row' nw : Option (List DV)} (hal : ags.length≤23) (hrow : row'.isSome=true→row.isSome=true) (h : xwp Try.prog x172 (retK [.tmp 2] row.isSome r row' nw) (St.init ags row)) : Good Try.prog 172 ags row r row' nw :=
  good_of_body' (md:=md172) (od:=od172) Try.f172 (by kernel_rfl) (by kernel_rfl) (by kernel_rfl) (by kernel_rfl) (by kernel_rfl) hal hrow h

def x176 : XC:=(.seq (.ops 1 [ (0,⟨some 2,none,.alloc [(.int .i64 0),(.int .u64 0),(.int .u64 0),(.int .u64 0),(.int .u64 0),(.int .i64 0),(.int .i64 0),(.slice none 0 0)]⟩)] (some [0,2])) (.seq (.block 0 (.seq (.ops 4 [ (0,⟨some 5,none,.mv (.t 0)⟩),(1,⟨some 6,none,.call 172 [(.t 5)] none false⟩),(2,⟨some 7,none,.arith .eql (.t 6) (.k (.d (.val (.int .i64 40))))⟩),(3,⟨some 4,none,.mv (.t 7)⟩)] (some [0,2,4])) (.cond (.t 4) (.seq (.ops 11 [ (0,⟨some 8,none,.mv (.t 0)⟩),(1,⟨some 9,none,.mv (.t 0)⟩),(2,⟨some 10,none,.nilck (.t 9)⟩),(3,⟨some 11,none,.fadd 2 (.t 10)⟩),(4,⟨some 12,none,.load none (.t 11)⟩),(5,⟨some 13,none,.arith .lss (.t 12) (.k (.d (.val (.int .i64 12))))⟩),(6,⟨some 14,none,.mv (.t 0)⟩),(7,⟨some 15,none,.nilck (.t 14)⟩),(8,⟨some 16,none,.fadd 1 (.t 15)⟩),(9,⟨some 17,none,.load none (.t 16)⟩),(10,⟨some 18,none,.call 150 [(.t 8),(.t 13),(.t 17)] none false⟩)] (some [0,2])) (.seq (.ops 8 [ (0,⟨some 19,none,.mv (.t 0)⟩),(1,⟨some 20,none,.nilck (.t 19)⟩),(2,⟨some 21,none,.fadd 1 (.t 20)⟩),(3,⟨some 22,none,.load none (.t 21)⟩),(4,⟨some 23,none,.arith .add (.t 22) (.k (.d (.val (.int .i64 1))))⟩),(5,⟨some 24,none,.nilck (.t 19)⟩),(6,⟨some 25,none,.fadd 1 (.t 24)⟩),(7,⟨none,none,.store 1 (.t 25) (.t 23)⟩)] (some [0,2])) (.seq (.ops 8 [ (0,⟨some 26,none,.mv (.t 0)⟩),(1,⟨some 27,none,.nilck (.t 26)⟩),(2,⟨some 28,none,.fadd 2 (.t 27)⟩),(3,⟨some 29,none,.load none (.t 28)⟩),(4,⟨some 30,none,.arith .add (.t 29) (.k (.d (.val (.int .i64 1))))⟩),(5,⟨some 31,none,.nilck (.t 26)⟩),(6,⟨some 32,none,.fadd 2 (.t 31)⟩),(7,⟨none,none,.store 1 (.t 32) (.t 30)⟩)] (some [0,2])) (.seq (.ops 4 [ (0,⟨some 33,none,.mv (.t 0)⟩),(1,⟨some 34,none,.call 149 [(.t 33)] (some 0) false⟩),(2,⟨some 3,none,.alloc [(.int .i64 0),(.int .u64 0),(.int .u64 0),(.int .u64 0),(.int .u64 0),(.int .i64 0),(.int .i64 0),(.slice none 0 0)]⟩),(3,⟨none,none,.store 8 (.t 3) (.t 34)⟩)] (some [0,2,3])) (.seq (.ops 8 [ (0,⟨some 35,none,.mv (.t 0)⟩),(1,⟨some 36,none,.nilck (.t 35)⟩),(2,⟨some 37,none,.fadd 2 (.t 36)⟩),(3,⟨some 38,none,.load none (.t 37)⟩),(4,⟨some 39,none,.arith .sub (.t 38) (.k (.d (.val (.int .i64 1))))⟩),(5,⟨some 40,none,.nilck (.t 35)⟩),(6,⟨some 41,none,.fadd 2 (.t 40)⟩),(7,⟨none,none,.store 1 (.t 41) (.t 39)⟩)] (some [0,2,3])) (.seq (.ops 2 [ (0,⟨some 42,none,.mv (.t 0)⟩),(1,⟨some 43,none,.call 178 [(.t 42),(.k (.d (.val (.int .u8 41))))] (some 0) false⟩)] (some [2,3])) (.seq (.ops 2 [ (0,⟨some 44,none,.load (some 8) (.t 3)⟩),(1,⟨none,none,.store 8 (.t 2) (.t 44)⟩)] (some [2])) .ret))))))) (.seq (.ops 3 [ (0,⟨some 46,none,.mv (.t 0)⟩),(1,⟨some 47,none,.call 163 [(.t 46),(.k (.d (.val (.int .u8 46))))] (some 0) false⟩),(2,⟨some 45,none,.mv (.t 47)⟩)] (some [0,2,45])) (.cond (.t 45) (.seq (.ops 3 [ (0,⟨some 48,none,.call 119 [(.k (.d (.val (.int .u8 0)))),(.k (.d (.val (.int .u8 255))))] none false⟩),(1,⟨some 49,none,.build [(.int .i64 0),(.int .u64 0),(.int .u64 0),(.int .u64 0),(.int .u64 0),(.int .i64 0),(.int .i64 0),(.slice none 0 0)] [(0,1,(.k (.d (.val (.int .i64 2))))),(1,4,(.t 48))]⟩),(2,⟨none,none,.store 8 (.t 2) (.t 49)⟩)] (some [2])) .ret) (.seq (.ops 3 [ (0,⟨some 51,none,.mv (.t 0)⟩),(1,⟨some 52,none,.call 163 [(.t 51),(.k (.d (.val (.int .u8 91))))] (some 0) false⟩),(2,⟨some 50,none,.mv (.t 52)⟩)] (some [0,2,50])) (.cond (.t 50) (.seq (.ops 4 [ (0,⟨some 53,none,.mv (.t 0)⟩),(1,⟨some 54,none,.call 179 [(.t 53)] (some 0) false⟩),(2,⟨some 55,none,.build [(.int .i64 0),(.int .u64 0),(.int .u64 0),(.int .u64 0),(.int .u64 0),(.int .i64 0),(.int .i64 0),(.slice none 0 0)] [(0,1,(.k (.d (.val (.int .i64 2))))),(1,4,(.t 54))]⟩),(3,⟨none,none,.store 8 (.t 2) (.t 55)⟩)] (some [2])) .ret) .skip))))))) (.seq (.ops 5 [ (0,⟨some 56,none,.mv (.t 0)⟩),(1,⟨some 57,none,.call 181 [(.t 56)] (some 0) false⟩),(2,⟨some 58,none,.call 180 [(.t 57)] none false⟩),(3,⟨some 59,none,.build [(.int .i64 0),(.int .u64 0),(.int .u64 0),(.int .u64 0),(.int .u64 0),(.int .i64 0),(.int .i64 0),(.slice none 0 0)] [(0,1,(.k (.d (.val (.int .i64 2))))),(1,4,(.t 58))]⟩),(4,⟨none,none,.store 8 (.t 2) (.t 59)⟩)] (some [2])) .ret)))
def md176 : FuncId→Option Nat × Bool
  | 149=>(some 0,false)
  | 163=>(some 0,false)
  | 178=>(some 0,false)
  | 179=>(some 0,false)
  | 181=>(some 0,false)
  | _=>(none,false)
def od176 : Nat→List (List Nat) × List Nat × Option (List Nat)
  | 0=>([],[],some [0,2])
  | 1=>([],[],some [0,2,4])
  | 2=>([[],[],[1],[1,2],[1,2,3],[1,2,3,4],[],[6],[6,7],[6,7,8],[0,1,2,3,4,5,6,7,8,9]],[0,1,2,3,4,5,6,7,8,9,10],some [0,2])
  | 3=>([],[],some [0,2])
  | 4=>([],[],some [0,2])
  | 5=>([],[],some [0,2,3])
  | 6=>([],[],some [0,2,3])
  | 7=>([],[],some [2,3])
  | 8=>([],[],some [2])
  | 9=>([],[],some [0,2,45])
  | 10=>([],[],some [2])
  | 11=>([],[],some [0,2,50])
  | 12=>([],[],some [2])
  | 13=>([],[],some [2])
  | _=>([],[],none)
theorem b176 {ags : List AV} {row : Option (List DV)} {r : AV} {row' nw : Option (List DV)} (hal : ags.length≤60) (hrow : row'.isSome=true→row.isSome=true) (h : xwp Try.prog x176 (retK [.cell 2 (some 8)] row.isSome r row' nw) (St.init ags row)) : Good Try.prog 176 ags row r row' nw :=
  good_of_body' (md:=md176) (od:=od176) Try.f176 (by kernel_rfl) (by kernel_rfl) (by kernel_rfl) (by kernel_rfl) (by kernel_rfl) hal hrow h

def x177 : XC:=(.seq (.ops 2 [ (0,⟨some 2,none,.mv (.k (.d (.val (.int .i64 0))))⟩),(1,⟨some 3,none,.mv (.k (.d (.val (.int .i64 0))))⟩)] (some [0])) (.seq (.ops 3 [ (0,⟨some 5,none,.mv (.t 0)⟩),(1,⟨some 6,none,.call 182 [(.t 5)] (some 0) false⟩),(2,⟨some 2,none,.mv (.t 6)⟩)] (some [0,2])) (.seq (.ops 2 [ (0,⟨some 7,none,.mv (.t 2)⟩),(1,⟨some 3,none,.mv (.t 7)⟩)] (some [0,2,3])) (.seq (.seq (.ops 2 [ (0,⟨some 8,none,.mv (.t 0)⟩),(1,⟨some 9,none,.call 163 [(.t 8),(.k (.d (.val (.int .u8 44))))] (some 0) false⟩)] (some [0,2,3,9])) (.cond (.t 9) (.seq (.ops 1 [ (0,⟨some 3,none,.mv (.k (.d (.val (.int .i64 (-1)))))⟩)] (some [0,2,3])) (.seq (.ops 3 [ (0,⟨some 10,none,.mv (.t 0)⟩),(1,⟨some 11,none,.call 172 [(.t 10)] none false⟩),(2,⟨some 12,none,.arith .neq (.t 11) (.k (.d (.val (.int .i64 125))))⟩)] (some [0,2,3,12])) (.cond (.t 12) (.seq (.ops 5 [ (0,⟨some 13,none,.mv (.t 0)⟩),(1,⟨some 14,none,.nilck (.t 13)⟩),(2,⟨some 15,none,.fadd 1 (.t 14)⟩),(3,⟨some 16,none,.load none (.t 15)⟩),(4,⟨some 4,none,.mv (.t 16)⟩)] (some [0,2,4])) (.seq (.ops 3 [ (0,⟨some 17,none,.mv (.t 0)⟩),(1,⟨some 18,none,.call 182 [(.t 17)] (some 0) false⟩),(2,⟨some 3,none,.mv (.t 18)⟩)] (some [0,2,3,4])) (.ops 6 [ (0,⟨some 19,none,.mv (.t 0)⟩),(1,⟨some 20,none,.mv (.t 3)⟩),(2,⟨some 21,none,.mv (.t 2)⟩),(3,⟨some 22,none,.arith .geq (.t 20) (.t 21)⟩),(4,⟨some 23,none,.mv (.t 4)⟩),(5,⟨some 24,none,.call 150 [(.t 19),(.t 22),(.t 23)] none false⟩)] (some [0,2,3])))) .skip))) .skip)) (.seq (.ops 2 [ (0,⟨some 25,none,.mv (.t 0)⟩),(1,⟨some 26,none,.call 178 [(.t 25),(.k (.d (.val (.int .u8 125))))] (some 0) false⟩)] (some [2,3])) (.seq (.ops 4 [ (0,⟨some 27,none,.mv (.t 2)⟩),(1,⟨some 28,none,.mv (.t 3)⟩),(2,⟨some 2,none,.mv (.t 27)⟩),(3,⟨some 3,none,.mv (.t 28)⟩)] (some [2,3])) .ret))))))
def md177 : FuncId→Option Nat × Bool
  | 163=>(some 0,false)
  | 178=>(some 0,false)
  | 182=>(some 0,false)
  | _=>(none,false)
def od177 : Nat→List (List Nat) × List Nat × Option (List Nat)
  | 0=>([],[],some [0])
  | 1=>([],[],some [0,2])
  | 2=>([],[],some [0,2,3])
  | 3=>([],[],some [0,2,3,9])
  | 4=>([],[],some [0,2,3])
  | 5=>([],[],some [0,2,3,12])
  | 6=>([],[],some [0,2,4])
  | 7=>([],[],some [0,2,3,4])
  | 8=>([],[],some [0,2,3])
  | 9=>([],[],some [2,3])
  | 10=>([],[],some [2,3])
  | _=>([],[],none)
theorem b177 {ags : List AV} {row : Option (List DV)} {r : AV} {row' nw : Option (List DV)} (hal : ags.length≤29) (hrow : row'.isSome=true→row.isSome=true) (h : xwp Try.prog x177 (retK [.tmp 2,.tmp 3] row.isSome r row' nw) (St.init ags row)) : Good Try.prog 177 ags row r row' nw :=
  good_of_body' (md:=md177) (od:=od177) Try.f177 (by kernel_rfl) (by kernel_rfl) (by kernel_rfl) (by kernel_rfl) (by kernel_rfl) hal hrow h

def x178 : XC:=(.seq (.ops 4 [ (0,⟨some 5,none,.mv (.t 0)⟩),(1,⟨some 6,none,.mv (.t 1)⟩),(2,⟨some 7,none,.call 163 [(.t 5),(.t 6)] (some 0) false⟩),(3,⟨some 4,none,.mv (.t 7)⟩)] (some [0,4])) (.ops 7 [ (0,⟨some 8,none,.mv (.t 0)⟩),(1,⟨some 9,none,.mv (.t 4)⟩),(2,⟨some 10,none,.mv (.t 0)⟩),(3,⟨some 11,none,.nilck (.t 10)⟩),(4,⟨some 12,none,.fadd 1 (.t 11)⟩),(5,⟨some 13,none,.load none (.t 12)⟩),(6,⟨some 14,none,.call 150 [(.t 8),(.t 9),(.t 13)] none false⟩)] (some [])))
def md178 : FuncId→Option Nat × Bool
  | 163=>(some 0,false)
  | _=>(none,false)
def od178 : Nat→List (List Nat) × List Nat × Option (List Nat)
  | 0=>([],[],some [0,4])
  | 1=>([],[],some [])
  | _=>([],[],none)
theorem b178 {ags : List AV} {row : Option (List DV)} {r : AV} {row' nw : Option (List DV)} (hal : ags.length≤15) (hrow : row'.isSome=true→row.isSome=true) (h : xwp Try.prog x178 (retK [] row.isSome r row' nw) (St.init ags row)) : Good Try.prog 178 ags row r row' nw :=
  good_of_body' (md:=md178) (od:=od178) Try.f178 (by kernel_rfl) (by kernel_rfl) (by kernel_rfl) (by kernel_rfl) (by kernel_rfl) hal hrow h

def x179 : XC:=(.seq (.ops 1 [ (0,⟨some 2,none,.alloc [(.int .u64 0),(.int .u64 0),(.int .u64 0),(.int .u64 0)]⟩)] (some [0,2])) (.seq (.ops 3 [ (0,⟨some 4,none,.mv (.t 0)⟩),(1,⟨some 5,none,.call 163 [(.t 4),(.k (.d (.val (.int .u8 94))))] (some 0) false⟩),(2,⟨some 3,none,.mv (.t 5)⟩)] (some [0,2,3])) (.seq (.block 0 (.loop (.seq (.seq (.ops 3 [ (0,⟨some 6,none,.mv (.t 0)⟩),(1,⟨some 7,none,.call 172 [(.t 6)] none false⟩),(2,⟨some 8,none,.arith .neq (.t 7) (.k (.d (.val (.int .i64 93))))⟩)] (some [0,2,3,8])) (.cond (.t 8) .skip (.exit 0))) (.block 1 (.ops 5 [ (0,⟨some 9,none,.load (some 4) (.t 2)⟩),(1,⟨some 10,none,.mv (.t 0)⟩),(2,⟨some 11,none,.callA 183 [(.t 10)] 0 [2]⟩),(3,⟨some 12,none,.call 73 [(.t 9),(.t 11)] none false⟩),(4,⟨none,none,.store 4 (.t 2) (.t 12)⟩)] (some [0,2,3])))))) (.seq (.ops 2 [ (0,⟨some 13,none,.mv (.t 0)⟩),(1,⟨some 14,none,.call 178 [(.t 13),(.k (.d (.val (.int .u8 93))))] (some 0) false⟩)] (some [2,3])) (.seq (.seq (.ops 1 [ (0,⟨some 15,none,.mv (.t 3)⟩)] (some [2,15])) (.cond (.t 15) (.ops 3 [ (0,⟨some 16,none,.load (some 4) (.t 2)⟩),(1,⟨some 17,none,.call 184 [(.t 16)] none false⟩),(2,⟨none,none,.store 4 (.t 2) (.t 17)⟩)] (some [2])) .skip)) (.seq (.ops 2 [ (0,⟨some 18,none,.load (some 4) (.t 2)⟩),(1,⟨none,none,.store 4 (.t 2) (.t 18)⟩)] (some [2])) .ret))))))
def md179 : FuncId→Option Nat × Bool
  | 163=>(some 0,false)
  | 178=>(some 0,false)
  | 183=>(some 0,false)
  | _=>(none,false)
def od179 : Nat→List (List Nat) × List Nat × Option (List Nat)
  | 0=>([],[],some [0,2])
  | 1=>([],[],some [0,2,3])
  | 2=>([],[],some [0,2,3,8])
  | 3=>([[],[],[1],[0,1,2],[0,1,2,3]],[0,1,2,3,4],some [0,2,3])
  | 4=>([],[],some [2,3])
  | 5=>([],[],some [2,15])
  | 6=>([],[],some [2])
  | 7=>([],[],some [2])
  | _=>([],[],none)
theorem b179 {ags : List AV} {row : Option (List DV)} {r : AV} {row' nw : Option (List DV)} (hal : ags.length≤19) (hrow : row'.isSome=true→row.isSome=true) (h : xwp Try.prog x179 (retK [.cell 2 (some 4)] row.isSome r row' nw) (St.init ags row)) : Good Try.prog 179 ags row r row' nw :=
  good_of_body' (md:=md179) (od:=od179) Try.f179 (by kernel_rfl) (by kernel_rfl) (by kernel_rfl) (by kernel_rfl) (by kernel_rfl) hal hrow h

def x180 : XC:=(.seq (.ops 1 [ (0,⟨some 2,none,.alloc [(.int .u64 0),(.int .u64 0),(.int .u64 0),(.int .u64 0)]⟩)] (some [0,2])) (.seq (.ops 7 [ (0,⟨some 3,none,.mv (.t 0)⟩),(1,⟨some 4,none,.arith .quo (.t 3) (.k (.d (.val (.int .u8 64))))⟩),(2,⟨some 5,none,.mv (.t 0)⟩),(3,⟨some 6,none,.arith .rem (.t 5) (.k (.d (.val (.int .u8 64))))⟩),(4,⟨some 7,none,.arith .shl (.k (.d (.val (.int .u64 1)))) (.t 6)⟩),(5,⟨some 8,none,.idxP 4 1 (.t 2) (.t 4)⟩),(6,⟨none,none,.store 1 (.t 8) (.t 7)⟩)] (some [2])) (.seq (.ops 2 [ (0,⟨some 9,none,.load (some 4) (.t 2)⟩),(1,⟨none,none,.store 4 (.t 2) (.t 9)⟩)] (some [2])) .ret)))
def md180 : FuncId→Option Nat × Bool
  | _=>(none,false)
def od180 : Nat→List (List Nat) × List Nat × Option (List Nat)
  | 0=>([],[],some [0,2])
  | 1=>([],[],some [2])
  | 2=>([],[],some [2])
  | _=>([],[],none)
theorem b180 {ags : List AV} {row : Option (List DV)} {r : AV} {row' nw : Option (List DV)} (hal : ags.length≤10) (hrow : row'.isSome=true→row.isSome=true) (h : xwp Try.prog x180 (retK [.cell 2 (some 4)] row.isSome r row' nw) (St.init ags row)) : Good Try.prog 180 ags row r row' nw :=
  good_of_body' (md:=md180) (od:=od180) Try.f180 (by kernel_rfl) (by kernel_rfl) (by kernel_rfl) (by kernel_rfl) (by kernel_rfl) hal hrow h

def x181 : XC:=(.seq (.ops 1 [ (0,⟨some 2,none,.mv (.k (.d (.val (.int .u8 0))))⟩)] (some [0])) (.seq (.ops 3 [ (0,⟨some 4,none,.mv (.t 0)⟩),(1,⟨some 5,none,.call 172 [(.t 4)] none false⟩),(2,⟨some 3,none,.mv (.t 5)⟩)] (some [0,3])) (.seq (.seq (.ops 2 [ (0,⟨some 6,none,.mv (.t 0)⟩),(1,⟨some 7,none,.call 163 [(.t 6),(.k (.d (.val (.int .u8 92))))] (some 0) false⟩)] (some [0,3,7])) (.cond (.t 7) (.seq (.ops 3 [ (0,⟨some 8,none,.mv (.t 0)⟩),(1,⟨some 9,none,.call 185 [(.t 8)] (some 0) false⟩),(2,⟨some 2,none,.mv (.t 9)⟩)] (some [2])) .ret) .skip)) (.seq (.ops 15 [ (0,⟨some 10,none,.mv (.t 0)⟩),(1,⟨some 11,none,.mv (.t 3)⟩),(2,⟨some 12,none,.arith .geq (.t 11) (.k (.d (.val (.int .i64 0))))⟩),(3,⟨some 13,none,.mv (.t 12)⟩),(4,⟨some 14,(some (13,true)),.mv (.t 3)⟩),(5,⟨some 15,(some (13,true)),.conv .u8 (.t 14)⟩),(6,⟨some 16,(some (13,true)),.call 186 [(.t 15)] none false⟩),(7,⟨some 17,(some (13,true)),.lenT (.t 16)⟩),(8,⟨some 18,(some (13,true)),.arith .eql (.t 17) (.k (.d (.val (.int .i64 1))))⟩),(9,⟨some 19,none,.pick (.t 13) (.t 18) (.k (.d (.val (.bool false))))⟩),(10,⟨some 20,none,.mv (.t 0)⟩),(11,⟨some 21,none,.nilck (.t 20)⟩),(12,⟨some 22,none,.fadd 1 (.t 21)⟩),(13,⟨some 23,none,.load none (.t 22)⟩),(14,⟨some 24,none,.call 150 [(.t 10),(.t 19),(.t 23)] none false⟩)] (some [0,3])) (.seq (.ops 8 [ (0,⟨some 25,none,.mv (.t 0)⟩),(1,⟨some 26,none,.nilck (.t 25)⟩),(2,⟨some 27,none,.fadd 1 (.t 26)⟩),(3,⟨some 28,none,.load none (.t 27)⟩),(4,⟨some 29,none,.arith .add (.t 28) (.k (.d (.val (.int .i64 1))))⟩),(5,⟨some 30,none,.nilck (.t 25)⟩),(6,⟨some 31,none,.fadd 1 (.t 30)⟩),(7,⟨none,none,.store 1 (.t 31) (.t 29)⟩)] (some [3])) (.seq (.ops 3 [ (0,⟨some 32,none,.mv (.t 3)⟩),(1,⟨some 33,none,.conv .u8 (.t 32)⟩),(2,⟨some 2,none,.mv (.t 33)⟩)] (some [2])) .ret))))))
def md181 : FuncId→Option Nat × Bool
  | 163=>(some 0,false)
  | 185=>(some 0,false)
  | _=>(none,false)
def od181 : Nat→List (List Nat) × List Nat × Option (List Nat)
  | 0=>([],[],some [0])
  | 1=>([],[],some [0,3])
  | 2=>([],[],some [0,3,7])
  | 3=>([],[],some [2])
  | 4=>([[],[],[1],[1,2],[1,2,3],[1,2,3,4],[1,2,3,4,5],[1,2,3,4,5,6],[1,2,3,4,5,6,7],[1,2,3,4,5,6,7,8],[],[10],[10,11],[10,11,12],[0,1,2,3,4,5,6,7,8,9,10,11,12,13]],[0,1,2,3,4,5,6,7,8,9,10,11,12,13,14],some [0,3])
  | 5=>([],[],some [3])
  | 6=>([],[],some [2])
  | _=>([],[],none)
theorem b181 {ags : List AV} {row : Option (List DV)} {r : AV} {row' nw : Option (List DV)} (hal : ags.length≤34) (hrow : row'.isSome=true→row.isSome=true) (h : xwp Try.prog x181 (retK [.tmp 2] row.isSome r row' nw) (St.init ags row)) : Good Try.prog 181 ags row r row' nw :=
  good_of_body' (md:=md181) (od:=od181) Try.f181 (by kernel_rfl) (by kernel_rfl) (by kernel_rfl) (by kernel_rfl) (by kernel_rfl) hal hrow h

def x182 : XC:=(.seq (.ops 1 [ (0,⟨some 2,none,.mv (.k (.d (.val (.int .i64 0))))⟩)] (some [0,2])) (.seq (.ops 5 [ (0,⟨some 5,none,.mv (.t 0)⟩),(1,⟨some 6,none,.nilck (.t 5)⟩),(2,⟨some 7,none,.fadd 1 (.t 6)⟩),(3,⟨some 8,none,.load none (.t 7)⟩),(4,⟨some 3,none,.mv (.t 8)⟩)] (some [0,2,3])) (.seq (.seq (.ops 3 [ (0,⟨some 9,none,.mv (.t 0)⟩),(1,⟨some 10,none,.call 172 [(.t 9)] none false⟩),(2,⟨some 4,none,.mv (.t 10)⟩)] (some [0,2,3,4])) (.block 0 (.loop (.seq (.seq (.ops 15 [ (0,⟨some 11,none,.mv (.t 4)⟩),(1,⟨some 12,none,.arith .geq (.t 11) (.k (.d (.val (.int .i64 48))))⟩),(2,⟨some 13,none,.mv (.t 12)⟩),(3,⟨some 14,(some (13,true)),.mv (.t 4)⟩),(4,⟨some 15,(some (13,true)),.arith .leq (.t 14) (.k (.d (.val (.int .i64 57))))⟩),(5,⟨some 16,none,.pick (.t 13) (.t 15) (.k (.d (.val (.bool false))))⟩),(6,⟨some 17,none,.mv (.t 16)⟩),(7,⟨some 18,(some (17,true)),.mv (.t 0)⟩),(8,⟨some 19,(some (17,true)),.nilck (.t 18)⟩),(9,⟨some 20,(some (17,true)),.fadd 1 (.t 19)⟩),(10,⟨some 21,(some (17,true)),.load none (.t 20)⟩),(11,⟨some 22,(some (17,true)),.mv (.t 3)⟩),(12,⟨some 23,(some (17,true)),.arith .sub (.t 21) (.t 22)⟩),(13,⟨some 24,(some (17,true)),.arith .lss (.t 23) (.k (.d (.val (.int .i64 2))))⟩),(14,⟨some 25,none,.pick (.t 17) (.t 24) (.k (.d (.val (.bool false))))⟩)] (some [0,2,3,4,25])) (.cond (.t 25) .skip (.exit 0))) (.seq (.block 1 (.seq (.ops 6 [ (0,⟨some 28,none,.mv (.t 2)⟩),(1,⟨some 29,none,.arith .mul (.k (.d (.val (.int .i64 10)))) (.t 28)⟩),(2,⟨some 30,none,.mv (.t 4)⟩),(3,⟨some 31,none,.arith .add (.t 29) (.t 30)⟩),(4,⟨some 32,none,.arith .sub (.t 31) (.k (.d (.val (.int .i64 48))))⟩),(5,⟨some 2,none,.mv (.t 32)⟩)] (some [0,2,3])) (.ops 8 [ (0,⟨some 33,none,.mv (.t 0)⟩),(1,⟨some 34,none,.nilck (.t 33)⟩),(2,⟨some 35,none,.fadd 1 (.t 34)⟩),(3,⟨some 36,none,.load none (.t 35)⟩),(4,⟨some 37,none,.arith .add (.t 36) (.k (.d (.val (.int .i64 1))))⟩),(5,⟨some 38,none,.nilck (.t 33)⟩),(6,⟨some 39,none,.fadd 1 (.t 38)⟩),(7,⟨none,none,.store 1 (.t 39) (.t 37)⟩)] (some [0,2,3])))) (.ops 3 [ (0,⟨some 26,none,.mv (.t 0)⟩),(1,⟨some 27,none,.call 172 [(.t 26)] none false⟩),(2,⟨some 4,none,.mv (.t 27)⟩)] (some [0,2,3,4]))))))) (.seq (.ops 13 [ (0,⟨some 40,none,.mv (.t 0)⟩),(1,⟨some 41,none,.mv (.t 0)⟩),(2,⟨some 42,none,.nilck (.t 41)⟩),(3,⟨some 43,none,.fadd 1 (.t 42)⟩),(4,⟨some 44,none,.load none (.t 43)⟩),(5,⟨some 45,none,.mv (.t 3)⟩),(6,⟨some 46,none,.arith .gtr (.t 44) (.t 45)⟩),(7,⟨some 47,none,.mv (.t 46)⟩),(8,⟨some 48,(some (47,true)),.mv (.t 2)⟩),(9,⟨some 49,(some (47,true)),.arith .leq (.t 48) (.k (.d (.val (.int .i64 20))))⟩),(10,⟨some 50,none,.pick (.t 47) (.t 49) (.k (.d (.val (.bool false))))⟩),(11,⟨some 51,none,.mv (.t 3)⟩),(12,⟨some 52,none,.call 150 [(.t 40),(.t 50),(.t 51)] none false⟩)] (some [2])) (.seq (.ops 2 [ (0,⟨some 53,none,.mv (.t 2)⟩),(1,⟨some 2,none,.mv (.t 53)⟩)] (some [2])) .ret)))))
def md182 : FuncId→Option Nat × Bool
  | _=>(none,false)
def od182 : Nat→List (List Nat) × List Nat × Option (List Nat)
  | 0=>([],[],some [0,2])
  | 1=>([],[],some [0,2,3])
  | 2=>([],[],some [0,2,3,4])
  | 3=>([],[],some [0,2,3,4,25])
  | 4=>([],[],some [0,2,3,4])
  | 5=>([],[],some [0,2,3])
  | 6=>([],[],some [0,2,3])
  | 7=>([],[],some [2])
  | 8=>([],[],some [2])
  | _=>([],[],none)
theorem b182 {ags : List AV} {row : Option (List DV)} {r : AV} {row' nw : Option (List DV)} (hal : ags.length≤54) (hrow : row'.isSome=true→row.isSome=true) (h : xwp Try.prog x182 (retK [.tmp 2] row.isSome r row' nw) (St.init ags row)) : Good Try.prog 182 ags row r row' nw :=
  good_of_body' (md:=md182) (od:=od182) Try.f182 (by kernel_rfl) (by kernel_rfl) (by kernel_rfl) (by kernel_rfl) (by kernel_rfl) hal hrow h

def x183 : XC:=(.seq (.ops 1 [ (0,⟨some 2,none,.alloc [(.int .u64 0),(.int .u64 0),(.int .u64 0),(.int .u64 0)]⟩)] (some [0,2])) (.seq (.ops 3 [ (0,⟨some 6,none,.mv (.t 0)⟩),(1,⟨some 7,none,.call 181 [(.t 6)] (some 0) false⟩),(2,⟨some 3,none,.mv (.t 7)⟩)] (some [0,2,3])) (.seq (.seq (.ops 3 [ (0,⟨some 8,none,.mv (.t 0)⟩),(1,⟨some 9,none,.call 163 [(.t 8),(.k (.d (.val (.int .u8 45))))] (some 0) false⟩),(2,⟨some 10,none,.un .not (.t 9)⟩)] (some [0,2,3,10])) (.cond (.t 10) (.seq (.ops 3 [ (0,⟨some 11,none,.mv (.t 3)⟩),(1,⟨some 12,none,.call 180 [(.t 11)] none false⟩),(2,⟨none,none,.store 4 (.t 2) (.t 12)⟩)] (some [2])) .ret) .skip)) (.seq (.ops 5 [ (0,⟨some 13,none,.mv (.t 0)⟩),(1,⟨some 14,none,.nilck (.t 13)⟩),(2,⟨some 15,none,.fadd 1 (.t 14)⟩),(3,⟨some 16,none,.load none (.t 15)⟩),(4,⟨some 4,none,.mv (.t 16)⟩)] (some [0,2,3,4])) (.seq (.ops 3 [ (0,⟨some 17,none,.mv (.t 0)⟩),(1,⟨some 18,none,.call 181 [(.t 17)] (some 0) false⟩),(2,⟨some 5,none,.mv (.t 18)⟩)] (some [0,2,3,4,5])) (.seq (.ops 6 [ (0,⟨some 19,none,.mv (.t 0)⟩),(1,⟨some 20,none,.mv (.t 5)⟩),(2,⟨some 21,none,.mv (.t 3)⟩),(3,⟨some 22,none,.arith .geq (.t 20) (.t 21)⟩),(4,⟨some 23,none,.mv (.t 4)⟩),(5,⟨some 24,none,.call 150 [(.t 19),(.t 22),(.t 23)] none false⟩)] (some [2,3,5])) (.seq (.ops 4 [ (0,⟨some 25,none,.mv (.t 3)⟩),(1,⟨some 26,none,.mv (.t 5)⟩),(2,⟨some 27,none,.call 119 [(.t 25),(.t 26)] none false⟩),(3,⟨none,none,.store 4 (.t 2) (.t 27)⟩)] (some [2])) .ret)))))))
def md183 : FuncId→Option Nat × Bool
  | 163=>(some 0,false)
  | 181=>(some 0,false)
  | _=>(none,false)
def od183 : Nat→List (List Nat) × List Nat × Option (List Nat)
  | 0=>([],[],some [0,2])
  | 1=>([],[],some [0,2,3])
  | 2=>([],[],some [0,2,3,10])
  | 3=>([],[],some [2])
  | 4=>([],[],some [0,2,3,4])
  | 5=>([],[],some [0,2,3,4,5])
  | 6=>([],[],some [2,3,5])
  | 7=>([],[],some [2])
  | _=>([],[],none)
theorem b183 {ags : List AV} {row : Option (List DV)} {r : AV} {row' nw : Option (List DV)} (hal : ags.length≤28) (hrow : row'.isSome=true→row.isSome=true) (h : xwp Try.prog x183 (retK [.cell 2 (some 4)] row.isSome r row' nw) (St.init ags row)) : Good Try.prog 183 ags row r row' nw :=
  good_of_body' (md:=md183) (od:=od183) Try.f183 (by kernel_rfl) (by kernel_rfl) (by kernel_rfl) (by kernel_rfl) (by kernel_rfl) hal hrow h

def x184 : XC:=(.seq (.ops 2 [ (0,⟨some 1,none,.box (.t 0)⟩),(1,⟨some 2,none,.alloc [(.int .u64 0),(.int .u64 0),(.int .u64 0),(.int .u64 0)]⟩)] (some [1,2])) (.seq (.seq (.ops 1 [ (0,⟨some 4,none,.mv (.k (.d (.val (.int .i64 0))))⟩)] (some [1,2,4])) (.block 0 (.loop (.seq (.ops 1 [ (0,⟨some 5,none,.arith .lss (.t 4) (.k (.d (.val (.int .i64 4))))⟩)] (some [1,2,4,5])) (.seq (.cond (.t 5) .skip (.exit 0)) (.seq (.block 1 (.seq (.ops 2 [ (0,⟨some 6,none,.mv (.t 4)⟩),(1,⟨some 3,none,.mv (.t 6)⟩)] (some [1,2,3,4])) (.ops 7 [ (0,⟨some 7,none,.mv (.t 3)⟩),(1,⟨some 8,none,.mv (.t 3)⟩),(2,⟨some 9,none,.idxP 4 1 (.t 1) (.t 8)⟩),(3,⟨some 10,none,.load none (.t 9)⟩),(4,⟨some 11,none,.un .xor (.t 10)⟩),(5,⟨some 12,none,.idxP 4 1 (.t 1) (.t 7)⟩),(6,⟨none,none,.store 1 (.t 12) (.t 11)⟩)] (some [1,2,4])))) (.ops 2 [ (0,⟨some 13,none,.arith .add (.t 4) (.k (.d (.val (.int .i64 1))))⟩),(1,⟨some 4,none,.mv (.t 13)⟩)] (some [1,2,4])))))))) (.seq (.ops 2 [ (0,⟨some 14,none,.load (some 4) (.t 1)⟩),(1,⟨none,none,.store 4 (.t 2) (.t 14)⟩)] (some [2])) .ret)))
def md184 : FuncId→Option Nat × Bool
  | _=>(none,false)
def od184 : Nat→List (List Nat) × List Nat × Option (List Nat)
  | 0=>([],[],some [1,2])
  | 1=>([],[],some [1,2,4])
  | 2=>([],[],some [1,2,4,5])
  | 3=>([],[],some [1,2,3,4])
  | 4=>([],[],some [1,2,4])
  | 5=>([],[],some [1,2,4])
  | 6=>([],[],some [2])
  | _=>([],[],none)
theorem b184 {ags : List AV} {row : Option (List DV)} {r : AV} {row' nw : Option (List DV)} (hal : ags.length≤15) (hrow : row'.isSome=true→row.isSome=true) (h : xwp Try.prog x184 (retK [.cell 2 (some 4)] row.isSome r row' nw) (St.init ags row)) : Good Try.prog 184 ags row r row' nw :=
  good_of_body' (md:=md184) (od:=od184) Try.f184 (by kernel_rfl) (by kernel_rfl) (by kernel_rfl) (by kernel_rfl) (by kernel_rfl) hal hrow h

def x185 : XC:=(.seq (.ops 1 [ (0,⟨some 2,none,.mv (.k (.d (.val (.int .u8 0))))⟩)] (some [0])) (.seq (.ops 3 [ (0,⟨some 5,none,.mv (.t 0)⟩),(1,⟨some 6,none,.call 172 [(.t 5)] none false⟩),(2,⟨some 3,none,.mv (.t 6)⟩)] (some [0,3])) (.seq (.ops 8 [ (0,⟨some 7,none,.mv (.t 0)⟩),(1,⟨some 8,none,.mv (.t 3)⟩),(2,⟨some 9,none,.arith .geq (.t 8) (.k (.d (.val (.int .i64 0))))⟩),(3,⟨some 10,none,.mv (.t 0)⟩),(4,⟨some 11,none,.nilck (.t 10)⟩),(5,⟨some 12,none,.fadd 1 (.t 11)⟩),(6,⟨some 13,none,.load none (.t 12)⟩),(7,⟨some 14,none,.call 150 [(.t 7),(.t 9),(.t 13)] none false⟩)] (some [0,3])) (.seq (.ops 8 [ (0,⟨some 15,none,.mv (.t 0)⟩),(1,⟨some 16,none,.nilck (.t 15)⟩),(2,⟨some 17,none,.fadd 1 (.t 16)⟩),(3,⟨some 18,none,.load none (.t 17)⟩),(4,⟨some 19,none,.arith .add (.t 18) (.k (.d (.val (.int .i64 1))))⟩),(5,⟨some 20,none,.nilck (.t 15)⟩),(6,⟨some 21,none,.fadd 1 (.t 20)⟩),(7,⟨none,none,.store 1 (.t 21) (.t 19)⟩)] (some [0,3])) (.seq (.seq (.ops 1 [ (0,⟨some 22,none,.mv (.t 3)⟩)] (some [0,3,22])) (.block 0 (.seq (.ops 2 [ (0,⟨some 24,none,.arith .eql (.t 22) (.k (.d (.val (.int .i64 120))))⟩),(1,⟨some 23,none,.mv (.t 24)⟩)] (some [0,3,22,23])) (.cond (.t 23) (.seq (.ops 4 [ (0,⟨some 25,none,.mv (.t 0)⟩),(1,⟨some 26,none,.call 187 [(.t 25)] (some 0) false⟩),(2,⟨some 27,none,.arith .shl (.t 26) (.k (.d (.val (.int .u64 4))))⟩),(3,⟨some 4,none,.mv (.t 27)⟩)] (some [0,4])) (.seq (.ops 6 [ (0,⟨some 28,none,.mv (.t 4)⟩),(1,⟨some 29,none,.mv (.t 0)⟩),(2,⟨some 30,none,.call 187 [(.t 29)] (some 0) false⟩),(3,⟨some 31,none,.arith .or (.t 28) (.t 30)⟩),(4,⟨some 32,none,.conv .u8 (.t 31)⟩),(5,⟨some 2,none,.mv (.t 32)⟩)] (some [2])) .ret)) (.seq (.ops 2 [ (0,⟨some 34,none,.arith .eql (.t 22) (.k (.d (.val (.int .i64 110))))⟩),(1,⟨some 33,none,.mv (.t 34)⟩)] (some [0,3,22,33])) (.cond (.t 33) (.seq (.ops 1 [ (0,⟨some 2,none,.mv (.k (.d (.val (.int .u8 10))))⟩)] (some [2])) .ret) (.seq (.ops 2 [ (0,⟨some 36,none,.arith .eql (.t 22) (.k (.d (.val (.int .i64 116))))⟩),(1,⟨some 35,none,.mv (.t 36)⟩)] (some [0,3,35])) (.cond (.t 35) (.seq (.ops 1 [ (0,⟨some 2,none,.mv (.k (.d (.val (.int .u8 9))))⟩)] (some [2])) .ret) .skip)))))))) (.seq (.ops 11 [ (0,⟨some 37,none,.mv (.t 0)⟩),(1,⟨some 38,none,.mv (.t 3)⟩),(2,⟨some 39,none,.conv .u8 (.t 38)⟩),(3,⟨some 40,none,.call 188 [(.k (.d (.val (.string ⟨#[124,42,43,63,40,41,91,93,123,125,46,92,94,36,45]⟩)))),(.t 39)] none false⟩),(4,⟨some 41,none,.arith .geq (.t 40) (.k (.d (.val (.int .i64 0))))⟩),(5,⟨some 42,none,.mv (.t 0)⟩),(6,⟨some 43,none,.nilck (.t 42)⟩),(7,⟨some 44,none,.fadd 1 (.t 43)⟩),(8,⟨some 45,none,.load none (.t 44)⟩),(9,⟨some 46,none,.arith .sub (.t 45) (.k (.d (.val (.int .i64 1))))⟩),(10,⟨some 47,none,.call 150 [(.t 37),(.t 41),(.t 46)] none false⟩)] (some [3])) (.seq (.ops 3 [ (0,⟨some 48,none,.mv (.t 3)⟩),(1,⟨some 49,none,.conv .u8 (.t 48)⟩),(2,⟨some 2,none,.mv (.t 49)⟩)] (some [2])) .ret)))))))
def md185 : FuncId→Option Nat × Bool
  | 187=>(some 0,false)
  | _=>(none,false)
def od185 : Nat→List (List Nat) × List Nat × Option (List Nat)
  | 0=>([],[],some [0])
  | 1=>([],[],some [0,3])
  | 2=>([],[],some [0,3])
  | 3=>([],[],some [0,3])
  | 4=>([],[],some [0,3,22])
  | 5=>([],[],some [0,3,22,23])
  | 6=>([],[],some [0,4])
  | 7=>([],[],some [2])
  | 8=>([],[],some [0,3,22,33])
  | 9=>([],[],some [2])
  | 10=>([],[],some [0,3,35])
  | 11=>([],[],some [2])
  | 12=>([[],[],[1],[1,2],[1,2,3],[],[5],[5,6],[5,6,7],[5,6,7,8],[0,1,2,3,4,5,6,7,8,9]],[0,1,2,3,4,5,6,7,8,9,10],some [3])
  | 13=>([],[],some [2])
  | _=>([],[],none)
theorem b185 {ags : List AV} {row : Option (List DV)} {r : AV} {row' nw : Option (List DV)} (hal : ags.length≤50) (hrow : row'.isSome=true→row.isSome=true) (h : xwp Try.prog x185 (retK [.tmp 2] row.isSome r row' nw) (St.init ags row)) : Good Try.prog 185 ags row r row' nw :=
  good_of_body' (md:=md185) (od:=od185) Try.f185 (by kernel_rfl) (by kernel_rfl) (by kernel_rfl) (by kernel_rfl) (by kernel_rfl) hal hrow h

def x186 : XC:=(.seq (.ops 1 [ (0,⟨some 2,none,.mv (.k (.d (.val (.string ⟨#[]⟩))))⟩)] (some [0])) (.seq (.seq (.ops 2 [ (0,⟨some 3,none,.mv (.t 0)⟩),(1,⟨some 4,none,.call 189 [(.t 3)] none false⟩)] (some [0,4])) (.cond (.t 4) (.seq (.ops 4 [ (0,⟨some 5,none,.mv (.t 0)⟩),(1,⟨some 6,none,.mkrow [(.int .u8 0)] 1 1 [(0,1,(.t 5))]⟩),(2,⟨some 7,none,.strB (.t 6)⟩),(3,⟨some 2,none,.mv (.t 7)⟩)] (some [2])) .ret) .skip)) (.seq (.ops 15 [ (0,⟨some 8,none,.mv (.t 0)⟩),(1,⟨some 9,none,.arith .shr (.t 8) (.k (.d (.val (.int .u64 4))))⟩),(2,⟨some 10,none,.mv (.t 0)⟩),(3,⟨some 11,none,.arith .shr (.t 10) (.k (.d (.val (.int .u64 4))))⟩),(4,⟨some 12,none,.arith .add (.t 11) (.k (.d (.val (.int .u8 1))))⟩),(5,⟨some 13,none,.slT (.k (.d (.val (.string ⟨#[48,49,50,51,52,53,54,55,56,57,97,98,99,100,101,102]⟩)))) (some (.t 9)) (some (.t 12))⟩),(6,⟨some 14,none,.arith .add (.k (.d (.val (.string ⟨#[92,120]⟩)))) (.t 13)⟩),(7,⟨some 15,none,.mv (.t 0)⟩),(8,⟨some 16,none,.arith .and (.t 15) (.k (.d (.val (.int .u8 15))))⟩),(9,⟨some 17,none,.mv (.t 0)⟩),(10,⟨some 18,none,.arith .and (.t 17) (.k (.d (.val (.int .u8 15))))⟩),(11,⟨some 19,none,.arith .add (.t 18) (.k (.d (.val (.int .u8 1))))⟩),(12,⟨some 20,none,.slT (.k (.d (.val (.string ⟨#[48,49,50,51,52,53,54,55,56,57,97,98,99,100,101,102]⟩)))) (some (.t 16)) (some (.t 19))⟩),(13,⟨some 21,none,.arith .add (.t 14) (.t 20)⟩),(14,⟨some 2,none,.mv (.t 21)⟩)] (some [2])) .ret)))
def md186 : FuncId→Option Nat × Bool
  | _=>(none,false)
def od186 : Nat→List (List Nat) × List Nat × Option (List Nat)
  | 0=>([],[],some [0])
  | 1=>([],[],some [0,4])
  | 2=>([],[],some [2])
  | 3=>([[],[0],[],[2],[2,3],[0,1,2,3,4],[0,1,2,3,4,5],[],[7],[],[9],[9,10],[7,8,9,10,11],[0,1,2,3,4,5,6,7,8,9,10,11,12],[0,1,2,3,4,5,6,7,8,9,10,11,12,13]],[0,1,2,3,4,5,6,7,8,9,10,11,12,13,14],some [2])
  | _=>([],[],none)
theorem b186 {ags : List AV} {row : Option (List DV)} {r : AV} {row' nw : Option (List DV)} (hal : ags.length≤22) (hrow : row'.isSome=true→row.isSome=true) (h : xwp Try.prog x186 (retK [.tmp 2] row.isSome r row' nw) (St.init ags row)) : Good Try.prog 186 ags row r row' nw :=
  good_of_body' (md:=md186) (od:=od186) Try.f186 (by kernel_rfl) (by kernel_rfl) (by kernel_rfl) (by kernel_rfl) (by kernel_rfl) hal hrow h

def x187 : XC:=(.seq (.ops 1 [ (0,⟨some 2,none,.mv (.k (.d (.val (.int .i64 0))))⟩)] (some [0])) (.seq (.ops 3 [ (0,⟨some 5,none,.mv (.t 0)⟩),(1,⟨some 6,none,.call 172 [(.t 5)] none false⟩),(2,⟨some 3,none,.mv (.t 6)⟩)] (some [0,3])) (.seq (.ops 1 [ (0,⟨some 4,none,.mv (.k (.d (.val (.int .i64 (-1)))))⟩)] (some [0,3,4])) (.seq (.seq (.ops 2 [ (0,⟨some 7,none,.mv (.t 3)⟩),(1,⟨some 8,none,.arith .geq (.t 7) (.k (.d (.val (.int .i64 0))))⟩)] (some [0,3,4,8])) (.cond (.t 8) (.ops 4 [ (0,⟨some 9,none,.mv (.t 3)⟩),(1,⟨some 10,none,.conv .u8 (.t 9)⟩),(2,⟨some 11,none,.call 188 [(.k (.d (.val (.string ⟨#[48,49,50,51,52,53,54,55,56,57,97,98,99,100,101,102]⟩)))),(.t 10)] none false⟩),(3,⟨some 4,none,.mv (.t 11)⟩)] (some [0,4])) .skip)) (.seq (.ops 8 [ (0,⟨some 12,none,.mv (.t 0)⟩),(1,⟨some 13,none,.mv (.t 4)⟩),(2,⟨some 14,none,.arith .geq (.t 13) (.k (.d (.val (.int .i64 0))))⟩),(3,⟨some 15,none,.mv (.t 0)⟩),(4,⟨some 16,none,.nilck (.t 15)⟩),(5,⟨some 17,none,.fadd 1 (.t 16)⟩),(6,⟨some 18,none,.load none (.t 17)⟩),(7,⟨some 19,none,.call 150 [(.t 12),(.t 14),(.t 18)] none false⟩)] (some [0,4])) (.seq (.ops 8 [ (0,⟨some 20,none,.mv (.t 0)⟩),(1,⟨some 21,none,.nilck (.t 20)⟩),(2,⟨some 22,none,.fadd 1 (.t 21)⟩),(3,⟨some 23,none,.load none (.t 22)⟩),(4,⟨some 24,none,.arith .add (.t 23) (.k (.d (.val (.int .i64 1))))⟩),(5,⟨some 25,none,.nilck (.t 20)⟩),(6,⟨some 26,none,.fadd 1 (.t 25)⟩),(7,⟨none,none,.store 1 (.t 26) (.t 24)⟩)] (some [4])) (.seq (.ops 2 [ (0,⟨some 27,none,.mv (.t 4)⟩),(1,⟨some 2,none,.mv (.t 27)⟩)] (some [2])) .ret)))))))
def md187 : FuncId→Option Nat × Bool
  | _=>(none,false)
def od187 : Nat→List (List Nat) × List Nat × Option (List Nat)
  | 0=>([],[],some [0])
  | 1=>([],[],some [0,3])
  | 2=>([],[],some [0,3,4])
  | 3=>([],[],some [0,3,4,8])
  | 4=>([],[],some [0,4])
  | 5=>([],[],some [0,4])
  | 6=>([],[],some [4])
  | 7=>([],[],some [2])
  | _=>([],[],none)
theorem b187 {ags : List AV} {row : Option (List DV)} {r : AV} {row' nw : Option (List DV)} (hal : ags.length≤28) (hrow : row'.isSome=true→row.isSome=true) (h : xwp Try.prog x187 (retK [.tmp 2] row.isSome r row' nw) (St.init ags row)) : Good Try.prog 187 ags row r row' nw :=
  good_of_body' (md:=md187) (od:=od187) Try.f187 (by kernel_rfl) (by kernel_rfl) (by kernel_rfl) (by kernel_rfl) (by kernel_rfl) hal hrow h

def x188 : XC:=(.seq (.ops 1 [ (0,⟨some 4,none,.mv (.k (.d (.val (.int .i64 0))))⟩)] (some [0,1])) (.seq (.ops 4 [ (0,⟨some 5,none,.mv (.t 0)⟩),(1,⟨some 6,none,.mv (.t 1)⟩),(2,⟨some 7,none,.call 190 [(.t 5),(.t 6)] none false⟩),(3,⟨some 4,none,.mv (.t 7)⟩)] (some [4])) .ret))
def md188 : FuncId→Option Nat × Bool
  | _=>(none,false)
def od188 : Nat→List (List Nat) × List Nat × Option (List Nat)
  | 0=>([],[],some [0,1])
  | 1=>([],[],some [4])
  | _=>([],[],none)
theorem b188 {ags : List AV} {row : Option (List DV)} {r : AV} {row' nw : Option (List DV)} (hal : ags.length≤8) (hrow : row'.isSome=true→row.isSome=true) (h : xwp Try.prog x188 (retK [.tmp 4] row.isSome r row' nw) (St.init ags row)) : Good Try.prog 188 ags row r row' nw :=
  good_of_body' (md:=md188) (od:=od188) Try.f188 (by kernel_rfl) (by kernel_rfl) (by kernel_rfl) (by kernel_rfl) (by kernel_rfl) hal hrow h

def x189 : XC:=(.seq (.ops 1 [ (0,⟨some 2,none,.mv (.k (.d (.val (.bool false))))⟩)] (some [0])) (.seq (.ops 22 [ (0,⟨some 3,none,.mv (.t 0)⟩),(1,⟨some 4,none,.arith .or (.t 3) (.k (.d (.val (.int .u8 32))))⟩),(2,⟨some 5,none,.arith .geq (.t 4) (.k (.d (.val (.int .u8 97))))⟩),(3,⟨some 6,none,.mv (.t 5)⟩),(4,⟨some 7,(some (6,true)),.mv (.t 0)⟩),(5,⟨some 8,(some (6,true)),.arith .or (.t 7) (.k (.d (.val (.int .u8 32))))⟩),(6,⟨some 9,(some (6,true)),.arith .leq (.t 8) (.k (.d (.val (.int .u8 122))))⟩),(7,⟨some 10,none,.pick (.t 6) (.t 9) (.k (.d (.val (.bool false))))⟩),(8,⟨some 11,none,.mv (.t 10)⟩),(9,⟨some 12,(some (11,false)),.mv (.t 0)⟩),(10,⟨some 13,(some (11,false)),.arith .geq (.t 12) (.k (.d (.val (.int .u8 48))))⟩),(11,⟨some 14,(some (11,false)),.mv (.t 13)⟩),(12,⟨some 15,(some (14,true)),.mv (.t 0)⟩),(13,⟨some 16,(some (14,true)),.arith .leq (.t 15) (.k (.d (.val (.int .u8 57))))⟩),(14,⟨some 17,(some (11,false)),.pick (.t 14) (.t 16) (.k (.d (.val (.bool false))))⟩),(15,⟨some 18,none,.pick (.t 11) (.k (.d (.val (.bool true)))) (.t 17)⟩),(16,⟨some 19,none,.mv (.t 18)⟩),(17,⟨some 20,(some (19,false)),.mv (.t 0)⟩),(18,⟨some 21,(some (19,false)),.call 188 [(.k (.d (.val (.string ⟨#[32,33,34,35,37,38,39,44,47,58,59,60,61,62,64,95,96,126]⟩)))),(.t 20)] none false⟩),(19,⟨some 22,(some (19,false)),.arith .geq (.t 21) (.k (.d (.val (.int .i64 0))))⟩),(20,⟨some 23,none,.pick (.t 19) (.k (.d (.val (.bool true)))) (.t 22)⟩),(21,⟨some 2,none,.mv (.t 23)⟩)] (some [2])) .ret))
def md189 : FuncId→Option Nat × Bool
  | _=>(none,false)
def od189 : Nat→List (List Nat) × List Nat × Option (List Nat)
  | 0=>([],[],some [0])
  | 1=>([],[],some [2])
  | _=>([],[],none)
theorem b189 {ags : List AV} {row : Option (List DV)} {r : AV} {row' nw : Option (List DV)} (hal : ags.length≤24) (hrow : row'.isSome=true→row.isSome=true) (h : xwp Try.prog x189 (retK [.tmp 2] row.isSome r row' nw) (St.init ags row)) : Good Try.prog 189 ags row r row' nw :=
  good_of_body' (md:=md189) (od:=od189) Try.f189 (by kernel_rfl) (by kernel_rfl) (by kernel_rfl) (by kernel_rfl) (by kernel_rfl) hal hrow h

def x190 : XC:=(.seq (.ops 1 [ (0,⟨some 4,none,.mv (.k (.d (.val (.int .i64 0))))⟩)] (some [0,1])) (.seq (.ops 4 [ (0,⟨some 5,none,.mv (.t 0)⟩),(1,⟨some 6,none,.mv (.t 1)⟩),(2,⟨some 7,none,.call 191 [(.t 5),(.t 6)] none false⟩),(3,⟨some 4,none,.mv (.t 7)⟩)] (some [4])) .ret))
def md190 : FuncId→Option Nat × Bool
  | _=>(none,false)
def od190 : Nat→List (List Nat) × List Nat × Option (List Nat)
  | 0=>([],[],some [0,1])
  | 1=>([],[],some [4])
  | _=>([],[],none)
theorem b190 {ags : List AV} {row : Option (List DV)} {r : AV} {row' nw : Option (List DV)} (hal : ags.length≤8) (hrow : row'.isSome=true→row.isSome=true) (h : xwp Try.prog x190 (retK [.tmp 4] row.isSome r row' nw) (St.init ags row)) : Good Try.prog 190 ags row r row' nw :=
  good_of_body' (md:=md190) (od:=od190) Try.f190 (by kernel_rfl) (by kernel_rfl) (by kernel_rfl) (by kernel_rfl) (by kernel_rfl) hal hrow h

def x73 : XC:=(.seq (.ops 3 [ (0,⟨some 2,none,.box (.t 0)⟩),(1,⟨some 3,none,.box (.t 1)⟩),(2,⟨some 4,none,.alloc [(.int .u64 0),(.int .u64 0),(.int .u64 0),(.int .u64 0)]⟩)] (some [2,3,4])) (.seq (.seq (.ops 1 [ (0,⟨some 6,none,.mv (.k (.d (.val (.int .i64 0))))⟩)] (some [2,3,4,6])) (.block 0 (.loop (.seq (.ops 1 [ (0,⟨some 7,none,.arith .lss (.t 6) (.k (.d (.val (.int .i64 4))))⟩)] (some [2,3,4,6,7])) (.seq (.cond (.t 7) .skip (.exit 0)) (.seq (.block 1 (.seq (.ops 2 [ (0,⟨some 8,none,.mv (.t 6)⟩),(1,⟨some 5,none,.mv (.t 8)⟩)] (some [2,3,4,5,6])) (.ops 9 [ (0,⟨some 9,none,.mv (.t 5)⟩),(1,⟨some 10,none,.idxP 4 1 (.t 2) (.t 9)⟩),(2,⟨some 11,none,.load none (.t 10)⟩),(3,⟨some 12,none,.mv (.t 5)⟩),(4,⟨some 13,none,.idxP 4 1 (.t 3) (.t 12)⟩),(5,⟨some 14,none,.load none (.t 13)⟩),(6,⟨some 15,none,.arith .or (.t 11) (.t 14)⟩),(7,⟨some 16,none,.idxP 4 1 (.t 2) (.t 9)⟩),(8,⟨none,none,.store 1 (.t 16) (.t 15)⟩)] (some [2,3,4,6])))) (.ops 2 [ (0,⟨some 17,none,.arith .add (.t 6) (.k (.d (.val (.int .i64 1))))⟩),(1,⟨some 6,none,.mv (.t 17)⟩)] (some [2,3,4,6])))))))) (.seq (.ops 2 [ (0,⟨some 18,none,.load (some 4) (.t 2)⟩),(1,⟨none,none,.store 4 (.t 4) (.t 18)⟩)] (some [4])) .ret)))
def md73 : FuncId→Option Nat × Bool
  | _=>(none,false)
def od73 : Nat→List (List Nat) × List Nat × Option (List Nat)
  | 0=>([],[],some [2,3,4])
  | 1=>([],[],some [2,3,4,6])
  | 2=>([],[],some [2,3,4,6,7])
  | 3=>([],[],some [2,3,4,5,6])
  | 4=>([[],[0],[0,1],[],[3],[3,4],[0,1,2,3,4,5],[0,1,2,3,4,5,6],[0,1,2,3,4,5,6,7]],[0,1,2,3,4,5,6,7,8],some [2,3,4,6])
  | 5=>([],[],some [2,3,4,6])
  | 6=>([],[],some [4])
  | _=>([],[],none)
theorem b73 {ags : List AV} {row : Option (List DV)} {r : AV} {row' nw : Option (List DV)} (hal : ags.length≤19) (hrow : row'.isSome=true→row.isSome=true) (h : xwp Try.prog x73 (retK [.cell 4 (some 4)] row.isSome r row' nw) (St.init ags row)) : Good Try.prog 73 ags row r row' nw :=
  good_of_body' (md:=md73) (od:=od73) Try.f73 (by kernel_rfl) (by kernel_rfl) (by kernel_rfl) (by kernel_rfl) (by kernel_rfl) hal hrow h

def spP (n : Nat) : CallF→CallF:=fun cf f ags row =>
  if f=118∧row.isNone=true∧ags.length≤26 then
    match evC cf n xa118 (LS.init ags none) with
    | some (.normal,s1)=>match frOf s1.fr 6 with
      | .dead=>match evC cf n xb118 s1 with
        | some (.normal,s)=>(resVals (frOf s.fr) (heapOf s.C) rs118).bind fun vs=>evRet (heapOf s.C) (zOf s.Z) (tupOf vs) false false
        | some (.ret,s)=>(resVals (frOf s.fr) (heapOf s.C) rs118).bind fun vs=>evRet (heapOf s.C) (zOf s.Z) (tupOf vs) false false
        | _=>none
      | _=>none
    | _=>none
  else none
theorem evRet_data {C : Heap} {Z : Frz} {v : AV} {r : AV} {row' nr : Option (List DV)} (h : evRet C Z v false false=some (r,row',nr)) : row'=none∧nr=none:=by
  simp only [evRet,Bool.false_eq_true,if_false] at h
  obtain ⟨r',_,h3⟩:=Option.map_eq_some_iff.1 h
  cases h3;exact ⟨rfl,rfl⟩
theorem spP_ok (n : Nat) (cf : CallF) (hcf : ∀ f ags row r row' nw,cf f ags row=some (r,row',nw)→Good Try.prog f ags row r row' nw) (f : FuncId) (ags : List AV) (row : Option (List DV)) (r : AV) (row' nw : Option (List DV)) (h : spP n cf f ags row=some (r,row',nw)) : Good Try.prog f ags row r row' nw:=by
  unfold spP at h
  split at h
  case isFalse=>cases h
  rename_i hc
  obtain ⟨rfl,hr,hal⟩:=hc
  have hr' : row=none:=by cases row<;>simp_all
  subst hr'
  split at h
  case h_2=>cases h
  rename_i s1 h1
  split at h
  case h_2=>cases h
  rename_i h6
  have fin : ∀ e s,evC cf n xb118 s1=some (e,s)→(e=.normal ∨ e=.ret)→((resVals (frOf s.fr) (heapOf s.C) rs118).bind fun vs=>evRet (heapOf s.C) (zOf s.Z) (tupOf vs) false false)=some (r,row',nw)→Good Try.prog 118 ags none r row' nw:=by
    intro e s h2 he h3
    obtain ⟨vs,h4,h5⟩:=Option.bind_eq_some_iff.1 h3
    obtain ⟨rfl,rfl⟩:=evRet_data h5
    refine parse_of hal ?_
    rw [← LS.init_eq]
    refine evC_sound hcf n _ _ _ _ h1 _ ⟨rfl,h6,?_⟩
    refine evC_sound hcf n _ _ _ _ h2 _ ?_
    rcases he with rfl | rfl
    · exact ⟨vs,h4,evRet_sound h5⟩
    · exact ⟨vs,h4,evRet_sound h5⟩
  split at h
  · rename_i s h2;exact fin _ _ h2 (.inl rfl) h
  · rename_i s h2;exact fin _ _ h2 (.inr rfl) h
  · cases h
end Go.Sv
namespace Go.Sv
open Go Go.Proofs
set_option maxRecDepth 100000
def x56 : XC:=(.seq (.ops 1 [ (0,⟨some 0,none,.mv (.k (.d (.val (.bool false))))⟩)] (some [])) (.seq (.ops 8 [ (0,⟨some 10,none,.call 114 [(.k (.d (.val (.string ⟨#[97,123,49,44,50,125]⟩))))] none false⟩),(1,⟨some 11,none,.call 57 [(.t 10),(.k (.d (.val (.int .i64 100))))] none false⟩),(2,⟨some 9,none,.mv (.t 11)⟩),(3,⟨some 12,none,.ext (.t 9) 0⟩),(4,⟨some 13,none,.ext (.t 9) 1⟩),(5,⟨some 1,none,.alloc [(.int .i64 0),(.int .u64 0),(.int .u64 0),(.int .u64 0),(.int .u64 0),(.int .i64 0),(.int .i64 0),(.slice none 0 0)]⟩),(6,⟨none,none,.store 8 (.t 1) (.t 12)⟩),(7,⟨some 2,none,.mv (.t 13)⟩)] (some [1,2])) (.seq (.ops 8 [ (0,⟨some 15,none,.call 114 [(.k (.d (.val (.string ⟨#[97,123,50,44,125]⟩))))] none false⟩),(1,⟨some 16,none,.call 57 [(.t 15),(.k (.d (.val (.int .i64 100))))] none false⟩),(2,⟨some 14,none,.mv (.t 16)⟩),(3,⟨some 17,none,.ext (.t 14) 0⟩),(4,⟨some 18,none,.ext (.t 14) 1⟩),(5,⟨some 3,none,.alloc [(.int .i64 0),(.int .u64 0),(.int .u64 0),(.int .u64 0),(.int .u64 0),(.int .i64 0),(.int .i64 0),(.slice none 0 0)]⟩),(6,⟨none,none,.store 8 (.t 3) (.t 17)⟩),(7,⟨some 4,none,.mv (.t 18)⟩)] (some [1,2,3])) (.seq (.ops 8 [ (0,⟨some 20,none,.call 114 [(.k (.d (.val (.string ⟨#[97,123,50,48,125]⟩))))] none false⟩),(1,⟨some 21,none,.call 57 [(.t 20),(.k (.d (.val (.int .i64 20))))] none false⟩),(2,⟨some 19,none,.mv (.t 21)⟩),(3,⟨some 22,none,.ext (.t 19) 0⟩),(4,⟨some 23,none,.ext (.t 19) 1⟩),(5,⟨some 5,none,.alloc [(.int .i64 0),(.int .u64 0),(.int .u64 0),(.int .u64 0),(.int .u64 0),(.int .i64 0),(.int .i64 0),(.slice none 0 0)]⟩),(6,⟨none,none,.store 8 (.t 5) (.t 22)⟩),(7,⟨some 6,none,.mv (.t 23)⟩)] (some [1,2,3,6])) (.seq (.ops 8 [ (0,⟨some 25,none,.build [(.int .i64 0),(.int .u64 0),(.int .u64 0),(.int .u64 0),(.int .u64 0),(.int .i64 0),(.int .i64 0),(.slice none 0 0)] []⟩),(1,⟨some 26,none,.call 57 [(.t 25),(.k (.d (.val (.int .i64 100))))] none false⟩),(2,⟨some 24,none,.mv (.t 26)⟩),(3,⟨some 27,none,.ext (.t 24) 0⟩),(4,⟨some 28,none,.ext (.t 24) 1⟩),(5,⟨some 7,none,.alloc [(.int .i64 0),(.int .u64 0),(.int .u64 0),(.int .u64 0),(.int .u64 0),(.int .i64 0),(.int .i64 0),(.slice none 0 0)]⟩),(6,⟨none,none,.store 8 (.t 7) (.t 27)⟩),(7,⟨some 8,none,.mv (.t 28)⟩)] (some [1,2,3,6,8])) (.seq (.ops 30 [ (0,⟨some 29,none,.load (some 8) (.t 1)⟩),(1,⟨some 30,none,.call 114 [(.k (.d (.val (.string ⟨#[97,40,97,124,41]⟩))))] none false⟩),(2,⟨some 31,none,.call 47 [(.t 29),(.t 30)] none false⟩),(3,⟨some 32,none,.mv (.t 31)⟩),(4,⟨some 33,(some (32,true)),.mv (.t 2)⟩),(5,⟨some 34,(some (32,true)),.arith .eql (.t 33) (.k (.d (.val (.int .i64 0))))⟩),(6,⟨some 35,none,.pick (.t 32) (.t 34) (.k (.d (.val (.bool false))))⟩),(7,⟨some 36,none,.mv (.t 35)⟩),(8,⟨some 37,(some (36,true)),.load (some 8) (.t 3)⟩),(9,⟨some 38,(some (36,true)),.call 114 [(.k (.d (.val (.string ⟨#[97,97,97,42]⟩))))] none false⟩),(10,⟨some 39,(some (36,true)),.call 47 [(.t 37),(.t 38)] none false⟩),(11,⟨some 40,none,.pick (.t 36) (.t 39) (.k (.d (.val (.bool false))))⟩),(12,⟨some 41,none,.mv (.t 40)⟩),(13,⟨some 42,(some (41,true)),.mv (.t 6)⟩),(14,⟨some 43,(some (41,true)),.arith .eql (.t 42) (.k (.d (.val (.int .i64 11))))⟩),(15,⟨some 44,none,.pick (.t 41) (.t 43) (.k (.d (.val (.bool false))))⟩),(16,⟨some 45,none,.mv (.t 44)⟩),(17,⟨some 46,(some (45,true)),.mv (.t 8)⟩),(18,⟨some 47,(some (45,true)),.arith .eql (.t 46) (.k (.d (.val (.int .i64 1))))⟩),(19,⟨some 48,none,.pick (.t 45) (.t 47) (.k (.d (.val (.bool false))))⟩),(20,⟨some 49,none,.mv (.t 48)⟩),(21,⟨some 50,(some (49,true)),.load (some 8) (.t 1)⟩),(22,⟨some 51,(some (49,true)),.call 60 [(.t 50)] none false⟩),(23,⟨some 52,none,.pick (.t 49) (.t 51) (.k (.d (.val (.bool false))))⟩),(24,⟨some 53,none,.mv (.t 52)⟩),(25,⟨some 54,(some (53,true)),.call 114 [(.k (.d (.val (.string ⟨#[97,63]⟩))))] none false⟩),(26,⟨some 55,(some (53,true)),.call 60 [(.t 54)] none false⟩),(27,⟨some 56,(some (53,true)),.un .not (.t 55)⟩),(28,⟨some 57,none,.pick (.t 53) (.t 56) (.k (.d (.val (.bool false))))⟩),(29,⟨some 0,none,.mv (.t 57)⟩)] (some [0])) .ret))))))
def md56 : FuncId→Option Nat × Bool
  | _=>(none,false)
def od56 : Nat→List (List Nat) × List Nat × Option (List Nat)
  | 0=>([],[],some [])
  | 1=>([],[],some [1,2])
  | 2=>([],[],some [1,2,3])
  | 3=>([],[],some [1,2,3,6])
  | 4=>([],[],some [1,2,3,6,8])
  | 5=>([[],[],[0,1],[0,1,2],[0,1,2,3],[0,1,2,3,4],[0,1,2,3,4,5],[0,1,2,3,4,5,6],[0,1,2,3,4,5,6,7],[0,1,2,3,4,5,6,7],[0,1,2,3,4,5,6,7,8,9],[0,1,2,3,4,5,6,7,8,9,10],[0,1,2,3,4,5,6,7,8,9,10,11],[0,1,2,3,4,5,6,7,8,9,10,11,12],[0,1,2,3,4,5,6,7,8,9,10,11,12,13],[0,1,2,3,4,5,6,7,8,9,10,11,12,13,14],[0,1,2,3,4,5,6,7,8,9,10,11,12,13,14,15],[0,1,2,3,4,5,6,7,8,9,10,11,12,13,14,15,16],[0,1,2,3,4,5,6,7,8,9,10,11,12,13,14,15,16,17],[0,1,2,3,4,5,6,7,8,9,10,11,12,13,14,15,16,17,18],[0,1,2,3,4,5,6,7,8,9,10,11,12,13,14,15,16,17,18,19],[0,1,2,3,4,5,6,7,8,9,10,11,12,13,14,15,16,17,18,19,20],[0,1,2,3,4,5,6,7,8,9,10,11,12,13,14,15,16,17,18,19,20,21],[0,1,2,3,4,5,6,7,8,9,10,11,12,13,14,15,16,17,18,19,20,21,22],[0,1,2,3,4,5,6,7,8,9,10,11,12,13,14,15,16,17,18,19,20,21,22,23],[0,1,2,3,4,5,6,7,8,9,10,11,12,13,14,15,16,17,18,19,20,21,22,23,24],[0,1,2,3,4,5,6,7,8,9,10,11,12,13,14,15,16,17,18,19,20,21,22,23,24,25],[0,1,2,3,4,5,6,7,8,9,10,11,12,13,14,15,16,17,18,19,20,21,22,23,24,25,26],[0,1,2,3,4,5,6,7,8,9,10,11,12,13,14,15,16,17,18,19,20,21,22,23,24,25,26,27],[0,1,2,3,4,5,6,7,8,9,10,11,12,13,14,15,16,17,18,19,20,21,22,23,24,25,26,27,28]],[0,1,2,3,4,5,6,7,8,9,10,11,12,13,14,15,16,17,18,19,20,21,22,23,24,25,26,27,28,29],some [0])
  | _=>([],[],none)
theorem b56 {ags : List AV} {row : Option (List DV)} {r : AV} {row' nw : Option (List DV)} (hal : ags.length≤58) (hrow : row'.isSome=true→row.isSome=true) (h : xwp Try.prog x56 (retK [.tmp 0] row.isSome r row' nw) (St.init ags row)) : Good Try.prog 56 ags row r row' nw :=
  good_of_body' (md:=md56) (od:=od56) Try.f56 (by kernel_rfl) (by kernel_rfl) (by kernel_rfl) (by kernel_rfl) (by kernel_rfl) hal hrow h

def x114 : XC:=(.seq (.ops 1 [ (0,⟨some 2,none,.alloc [(.int .i64 0),(.int .u64 0),(.int .u64 0),(.int .u64 0),(.int .u64 0),(.int .i64 0),(.int .i64 0),(.slice none 0 0)]⟩)] (some [0,2])) (.seq (.ops 10 [ (0,⟨some 7,none,.mv (.t 0)⟩),(1,⟨some 8,none,.call 118 [(.t 7)] none false⟩),(2,⟨some 6,none,.mv (.t 8)⟩),(3,⟨some 9,none,.ext (.t 6) 0⟩),(4,⟨some 10,none,.ext (.t 6) 1⟩),(5,⟨some 11,none,.ext (.t 6) 2⟩),(6,⟨some 3,none,.alloc [(.int .i64 0),(.int .u64 0),(.int .u64 0),(.int .u64 0),(.int .u64 0),(.int .i64 0),(.int .i64 0),(.slice none 0 0)]⟩),(7,⟨none,none,.store 8 (.t 3) (.t 9)⟩),(8,⟨some 4,none,.mv (.t 10)⟩),(9,⟨some 5,none,.mv (.t 11)⟩)] (some [2,3])) (.seq (.ops 2 [ (0,⟨some 12,none,.load (some 8) (.t 3)⟩),(1,⟨none,none,.store 8 (.t 2) (.t 12)⟩)] (some [2])) .ret)))
def md114 : FuncId→Option Nat × Bool
  | _=>(none,false)
def od114 : Nat→List (List Nat) × List Nat × Option (List Nat)
  | 0=>([],[],some [0,2])
  | 1=>([],[],some [2,3])
  | 2=>([],[],some [2])
  | _=>([],[],none)
theorem b114 {ags : List AV} {row : Option (List DV)} {r : AV} {row' nw : Option (List DV)} (hal : ags.length≤13) (hrow : row'.isSome=true→row.isSome=true) (h : xwp Try.prog x114 (retK [.cell 2 (some 8)] row.isSome r row' nw) (St.init ags row)) : Good Try.prog 114 ags row r row' nw :=
  good_of_body' (md:=md114) (od:=od114) Try.f114 (by kernel_rfl) (by kernel_rfl) (by kernel_rfl) (by kernel_rfl) (by kernel_rfl) hal hrow h

def x47 : XC:=(.seq (.ops 3 [ (0,⟨some 2,none,.box (.t 0)⟩),(1,⟨some 3,none,.box (.t 1)⟩),(2,⟨some 4,none,.mv (.k (.d (.val (.bool false))))⟩)] (some [2,3])) (.seq (.seq (.ops 35 [ (0,⟨some 6,none,.fadd 0 (.t 2)⟩),(1,⟨some 7,none,.load none (.t 6)⟩),(2,⟨some 8,none,.fadd 0 (.t 3)⟩),(3,⟨some 9,none,.load none (.t 8)⟩),(4,⟨some 10,none,.arith .neq (.t 7) (.t 9)⟩),(5,⟨some 11,none,.mv (.t 10)⟩),(6,⟨some 12,(some (11,false)),.fadd 1 (.t 2)⟩),(7,⟨some 13,(some (11,false)),.load (some 4) (.t 12)⟩),(8,⟨some 14,(some (11,false)),.fadd 1 (.t 3)⟩),(9,⟨some 15,(some (11,false)),.load (some 4) (.t 14)⟩),(10,⟨some 16,(some (11,false)),.eqAgg 4 true (.t 13) (.t 15)⟩),(11,⟨some 17,none,.pick (.t 11) (.k (.d (.val (.bool true)))) (.t 16)⟩),(12,⟨some 18,none,.mv (.t 17)⟩),(13,⟨some 19,(some (18,false)),.fadd 5 (.t 2)⟩),(14,⟨some 20,(some (18,false)),.load none (.t 19)⟩),(15,⟨some 21,(some (18,false)),.fadd 5 (.t 3)⟩),(16,⟨some 22,(some (18,false)),.load none (.t 21)⟩),(17,⟨some 23,(some (18,false)),.arith .neq (.t 20) (.t 22)⟩),(18,⟨some 24,none,.pick (.t 18) (.k (.d (.val (.bool true)))) (.t 23)⟩),(19,⟨some 25,none,.mv (.t 24)⟩),(20,⟨some 26,(some (25,false)),.fadd 6 (.t 2)⟩),(21,⟨some 27,(some (25,false)),.load none (.t 26)⟩),(22,⟨some 28,(some (25,false)),.fadd 6 (.t 3)⟩),(23,⟨some 29,(some (25,false)),.load none (.t 28)⟩),(24,⟨some 30,(some (25,false)),.arith .neq (.t 27) (.t 29)⟩),(25,⟨some 31,none,.pick (.t 25) (.k (.d (.val (.bool true)))) (.t 30)⟩),(26,⟨some 32,none,.mv (.t 31)⟩),(27,⟨some 33,(some (32,false)),.fadd 7 (.t 2)⟩),(28,⟨some 34,(some (32,false)),.load none (.t 33)⟩),(29,⟨some 35,(some (32,false)),.lenS (.t 34)⟩),(30,⟨some 36,(some (32,false)),.fadd 7 (.t 3)⟩),(31,⟨some 37,(some (32,false)),.load none (.t 36)⟩),(32,⟨some 38,(some (32,false)),.lenS (.t 37)⟩),(33,⟨some 39,(some (32,false)),.arith .neq (.t 35) (.t 38)⟩),(34,⟨some 40,none,.pick (.t 32) (.k (.d (.val (.bool true)))) (.t 39)⟩)] (some [2,3,40])) (.cond (.t 40) (.seq (.ops 1 [ (0,⟨some 4,none,.mv (.k (.d (.val (.bool false))))⟩)] (some [4])) .ret) .skip)) (.seq (.seq (.ops 1 [ (0,⟨some 5,none,.mv (.k (.d (.val (.int .i64 0))))⟩)] (some [2,3,5])) (.block 0 (.loop (.seq (.seq (.ops 5 [ (0,⟨some 41,none,.mv (.t 5)⟩),(1,⟨some 42,none,.fadd 7 (.t 2)⟩),(2,⟨some 43,none,.load none (.t 42)⟩),(3,⟨some 44,none,.lenS (.t 43)⟩),(4,⟨some 45,none,.arith .lss (.t 41) (.t 44)⟩)] (some [2,3,5,45])) (.cond (.t 45) .skip (.exit 0))) (.seq (.block 1 (.seq (.ops 12 [ (0,⟨some 48,none,.fadd 7 (.t 2)⟩),(1,⟨some 49,none,.load none (.t 48)⟩),(2,⟨some 50,none,.mv (.t 5)⟩),(3,⟨some 51,none,.idxS 8 (.t 49) (.t 50)⟩),(4,⟨some 52,none,.load (some 8) (.t 51)⟩),(5,⟨some 53,none,.fadd 7 (.t 3)⟩),(6,⟨some 54,none,.load none (.t 53)⟩),(7,⟨some 55,none,.mv (.t 5)⟩),(8,⟨some 56,none,.idxS 8 (.t 54) (.t 55)⟩),(9,⟨some 57,none,.load (some 8) (.t 56)⟩),(10,⟨some 58,none,.call 47 [(.t 52),(.t 57)] none false⟩),(11,⟨some 59,none,.un .not (.t 58)⟩)] (some [2,3,5,59])) (.cond (.t 59) (.seq (.ops 1 [ (0,⟨some 4,none,.mv (.k (.d (.val (.bool false))))⟩)] (some [4])) .ret) .skip))) (.ops 3 [ (0,⟨some 46,none,.mv (.t 5)⟩),(1,⟨some 47,none,.arith .add (.t 46) (.k (.d (.val (.int .i64 1))))⟩),(2,⟨some 5,none,.mv (.t 47)⟩)] (some [2,3,5]))))))) (.seq (.ops 1 [ (0,⟨some 4,none,.mv (.k (.d (.val (.bool true))))⟩)] (some [4])) .ret))))
def md47 : FuncId→Option Nat × Bool
  | _=>(none,false)
def od47 : Nat→List (List Nat) × List Nat × Option (List Nat)
  | 0=>([],[],some [2,3])
  | 1=>([],[],some [2,3,40])
  | 2=>([],[],some [4])
  | 3=>([],[],some [2,3,5])
  | 4=>([],[],some [2,3,5,45])
  | 5=>([],[],some [2,3,5])
  | 6=>([[],[0],[],[0,1,2],[0,1,2,3],[],[5],[],[5,6,7],[5,6,7,8],[0,1,2,3,4,5,6,7,8,9],[0,1,2,3,4,5,6,7,8,9,10]],[0,1,2,3,4,5,6,7,8,9,10,11],some [2,3,5,59])
  | 7=>([],[],some [4])
  | 8=>([],[],some [4])
  | _=>([],[],none)
theorem b47 {ags : List AV} {row : Option (List DV)} {r : AV} {row' nw : Option (List DV)} (hal : ags.length≤60) (hrow : row'.isSome=true→row.isSome=true) (h : xwp Try.prog x47 (retK [.tmp 4] row.isSome r row' nw) (St.init ags row)) : Good Try.prog 47 ags row r row' nw :=
  good_of_body' (md:=md47) (od:=od47) Try.f47 (by kernel_rfl) (by kernel_rfl) (by kernel_rfl) (by kernel_rfl) (by kernel_rfl) hal hrow h

def x57 : XC:=(.seq (.ops 3 [ (0,⟨some 2,none,.box (.t 0)⟩),(1,⟨some 4,none,.alloc [(.int .i64 0),(.int .u64 0),(.int .u64 0),(.int .u64 0),(.int .u64 0),(.int .i64 0),(.int .i64 0),(.slice none 0 0)]⟩),(2,⟨some 5,none,.mv (.k (.d (.val (.int .i64 0))))⟩)] (some [1,2,4])) (.seq (.block 0 (.seq (.ops 4 [ (0,⟨some 7,none,.load (some 8) (.t 2)⟩),(1,⟨some 8,none,.call 84 [(.t 7)] none false⟩),(2,⟨some 9,none,.un .not (.t 8)⟩),(3,⟨some 6,none,.mv (.t 9)⟩)] (some [1,2,4,6])) (.cond (.t 6) (.seq (.ops 3 [ (0,⟨some 10,none,.build [(.int .i64 0),(.int .u64 0),(.int .u64 0),(.int .u64 0),(.int .u64 0),(.int .i64 0),(.int .i64 0),(.slice none 0 0)] []⟩),(1,⟨none,none,.store 8 (.t 4) (.t 10)⟩),(2,⟨some 5,none,.mv (.k (.d (.val (.int .i64 1))))⟩)] (some [4,5])) .ret) (.seq (.ops 6 [ (0,⟨some 12,none,.load (some 8) (.t 2)⟩),(1,⟨some 13,none,.call 68 [(.t 12)] none false⟩),(2,⟨some 14,none,.mv (.t 1)⟩),(3,⟨some 15,none,.min [(.t 14),(.k (.d (.val (.int .i64 400))))]⟩),(4,⟨some 16,none,.arith .gtr (.t 13) (.t 15)⟩),(5,⟨some 11,none,.mv (.t 16)⟩)] (some [2,4,11])) (.cond (.t 11) (.seq (.ops 3 [ (0,⟨some 17,none,.build [(.int .i64 0),(.int .u64 0),(.int .u64 0),(.int .u64 0),(.int .u64 0),(.int .i64 0),(.int .i64 0),(.slice none 0 0)] []⟩),(1,⟨none,none,.store 8 (.t 4) (.t 17)⟩),(2,⟨some 5,none,.mv (.k (.d (.val (.int .i64 11))))⟩)] (some [4,5])) .ret) .skip))))) (.seq (.ops 4 [ (0,⟨some 18,none,.load (some 8) (.t 2)⟩),(1,⟨some 19,none,.call 115 [(.t 18)] none false⟩),(2,⟨none,none,.store 8 (.t 4) (.t 19)⟩),(3,⟨some 5,none,.mv (.k (.d (.val (.int .i64 0))))⟩)] (some [4,5])) .ret)))
def md57 : FuncId→Option Nat × Bool
  | _=>(none,false)
def od57 : Nat→List (List Nat) × List Nat × Option (List Nat)
  | 0=>([],[],some [1,2,4])
  | 1=>([],[],some [1,2,4,6])
  | 2=>([],[],some [4,5])
  | 3=>([],[],some [2,4,11])
  | 4=>([],[],some [4,5])
  | 5=>([],[],some [4,5])
  | _=>([],[],none)
theorem b57 {ags : List AV} {row : Option (List DV)} {r : AV} {row' nw : Option (List DV)} (hal : ags.length≤20) (hrow : row'.isSome=true→row.isSome=true) (h : xwp Try.prog x57 (retK [.cell 4 (some 8),.tmp 5] row.isSome r row' nw) (St.init ags row)) : Good Try.prog 57 ags row r row' nw :=
  good_of_body' (md:=md57) (od:=od57) Try.f57 (by kernel_rfl) (by kernel_rfl) (by kernel_rfl) (by kernel_rfl) (by kernel_rfl) hal hrow h

def x60 : XC:=(.seq (.ops 2 [ (0,⟨some 1,none,.box (.t 0)⟩),(1,⟨some 2,none,.mv (.k (.d (.val (.bool false))))⟩)] (some [1])) (.seq (.ops 8 [ (0,⟨some 3,none,.call 116 [(.t 1)] none false⟩),(1,⟨some 4,none,.mv (.t 3)⟩),(2,⟨some 5,(some (4,true)),.fadd 7 (.t 1)⟩),(3,⟨some 6,(some (4,true)),.load none (.t 5)⟩),(4,⟨some 7,(some (4,true)),.call 104 [(.t 6),(.k (.d (.fn 117 [])))] none false⟩),(5,⟨some 8,(some (4,true)),.un .not (.t 7)⟩),(6,⟨some 9,none,.pick (.t 4) (.t 8) (.k (.d (.val (.bool false))))⟩),(7,⟨some 2,none,.mv (.t 9)⟩)] (some [2])) .ret))
def md60 : FuncId→Option Nat × Bool
  | _=>(none,false)
def od60 : Nat→List (List Nat) × List Nat × Option (List Nat)
  | 0=>([],[],some [1])
  | 1=>([],[],some [2])
  | _=>([],[],none)
theorem b60 {ags : List AV} {row : Option (List DV)} {r : AV} {row' nw : Option (List DV)} (hal : ags.length≤10) (hrow : row'.isSome=true→row.isSome=true) (h : xwp Try.prog x60 (retK [.tmp 2] row.isSome r row' nw) (St.init ags row)) : Good Try.prog 60 ags row r row' nw :=
  good_of_body' (md:=md60) (od:=od60) Try.f60 (by kernel_rfl) (by kernel_rfl) (by kernel_rfl) (by kernel_rfl) (by kernel_rfl) hal hrow h

def x68 : XC:=(.seq (.ops 2 [ (0,⟨some 1,none,.box (.t 0)⟩),(1,⟨some 2,none,.mv (.k (.d (.val (.int .i64 0))))⟩)] (some [1])) (.seq (.seq (.ops 3 [ (0,⟨some 3,none,.load (some 8) (.t 1)⟩),(1,⟨some 4,none,.call 84 [(.t 3)] none false⟩),(2,⟨some 5,none,.un .not (.t 4)⟩)] (some [1,5])) (.cond (.t 5) (.seq (.ops 1 [ (0,⟨some 2,none,.mv (.k (.d (.val (.int .i64 0))))⟩)] (some [2])) .ret) .skip)) (.seq (.ops 2 [ (0,⟨some 6,none,.call 123 [(.t 1)] none false⟩),(1,⟨some 2,none,.mv (.t 6)⟩)] (some [2])) .ret)))
def md68 : FuncId→Option Nat × Bool
  | _=>(none,false)
def od68 : Nat→List (List Nat) × List Nat × Option (List Nat)
  | 0=>([],[],some [1])
  | 1=>([],[],some [1,5])
  | 2=>([],[],some [2])
  | 3=>([],[],some [2])
  | _=>([],[],none)
theorem b68 {ags : List AV} {row : Option (List DV)} {r : AV} {row' nw : Option (List DV)} (hal : ags.length≤7) (hrow : row'.isSome=true→row.isSome=true) (h : xwp Try.prog x68 (retK [.tmp 2] row.isSome r row' nw) (St.init ags row)) : Good Try.prog 68 ags row r row' nw :=
  good_of_body' (md:=md68) (od:=od68) Try.f68 (by kernel_rfl) (by kernel_rfl) (by kernel_rfl) (by kernel_rfl) (by kernel_rfl) hal hrow h

def x104 : XC:=(.seq (.ops 1 [ (0,⟨some 4,none,.mv (.k (.d (.val (.bool false))))⟩)] (some [0,1])) (.seq (.ops 5 [ (0,⟨some 5,none,.mv (.t 0)⟩),(1,⟨some 6,none,.mv (.t 1)⟩),(2,⟨some 7,none,.call 145 [(.t 5),(.t 6)] none false⟩),(3,⟨some 8,none,.arith .geq (.t 7) (.k (.d (.val (.int .i64 0))))⟩),(4,⟨some 4,none,.mv (.t 8)⟩)] (some [4])) .ret))
def md104 : FuncId→Option Nat × Bool
  | _=>(none,false)
def od104 : Nat→List (List Nat) × List Nat × Option (List Nat)
  | 0=>([],[],some [0,1])
  | 1=>([],[],some [4])
  | _=>([],[],none)
theorem b104 {ags : List AV} {row : Option (List DV)} {r : AV} {row' nw : Option (List DV)} (hal : ags.length≤9) (hrow : row'.isSome=true→row.isSome=true) (h : xwp Try.prog x104 (retK [.tmp 4] row.isSome r row' nw) (St.init ags row)) : Good Try.prog 104 ags row r row' nw :=
  good_of_body' (md:=md104) (od:=od104) Try.f104 (by kernel_rfl) (by kernel_rfl) (by kernel_rfl) (by kernel_rfl) (by kernel_rfl) hal hrow h

def x115 : XC:=(.seq (.ops 2 [ (0,⟨some 1,none,.box (.t 0)⟩),(1,⟨some 2,none,.alloc [(.int .i64 0),(.int .u64 0),(.int .u64 0),(.int .u64 0),(.int .u64 0),(.int .i64 0),(.int .i64 0),(.slice none 0 0)]⟩)] (some [1,2])) (.seq (.seq (.ops 2 [ (0,⟨some 6,none,.fadd 0 (.t 1)⟩),(1,⟨some 7,none,.load none (.t 6)⟩)] (some [1,2,7])) (.block 0 (.seq (.ops 2 [ (0,⟨some 9,none,.arith .eql (.t 7) (.k (.d (.val (.int .i64 5))))⟩),(1,⟨some 8,none,.mv (.t 9)⟩)] (some [1,2,7,8])) (.cond (.t 8) (.seq (.ops 11 [ (0,⟨some 10,none,.fadd 7 (.t 1)⟩),(1,⟨some 11,none,.load none (.t 10)⟩),(2,⟨some 12,none,.idxS 8 (.t 11) (.k (.d (.val (.int .i64 0))))⟩),(3,⟨some 13,none,.load (some 8) (.t 12)⟩),(4,⟨some 14,none,.call 115 [(.t 13)] none false⟩),(5,⟨some 15,none,.fadd 5 (.t 1)⟩),(6,⟨some 16,none,.load none (.t 15)⟩),(7,⟨some 17,none,.fadd 6 (.t 1)⟩),(8,⟨some 18,none,.load none (.t 17)⟩),(9,⟨some 19,none,.call 147 [(.t 14),(.t 16),(.t 18)] none false⟩),(10,⟨none,none,.store 8 (.t 2) (.t 19)⟩)] (some [2])) .ret) (.seq (.seq (.ops 2 [ (0,⟨some 21,none,.arith .eql (.t 7) (.k (.d (.val (.int .i64 3))))⟩),(1,⟨some 20,none,.mv (.t 21)⟩)] (some [1,2,7,20])) (.cond (.t 20) .skip (.ops 2 [ (0,⟨some 22,none,.arith .eql (.t 7) (.k (.d (.val (.int .i64 4))))⟩),(1,⟨some 20,none,.mv (.t 22)⟩)] (some [1,2,20])))) (.cond (.t 20) (.seq (.ops 5 [ (0,⟨some 23,none,.fadd 0 (.t 1)⟩),(1,⟨some 24,none,.load none (.t 23)⟩),(2,⟨some 25,none,.build [(.int .i64 0),(.int .u64 0),(.int .u64 0),(.int .u64 0),(.int .u64 0),(.int .i64 0),(.int .i64 0),(.slice none 0 0)] [(0,1,(.t 24))]⟩),(3,⟨some 3,none,.alloc [(.int .i64 0),(.int .u64 0),(.int .u64 0),(.int .u64 0),(.int .u64 0),(.int .i64 0),(.int .i64 0),(.slice none 0 0)]⟩),(4,⟨none,none,.store 8 (.t 3) (.t 25)⟩)] (some [1,2,3])) (.seq (.seq (.ops 4 [ (0,⟨some 26,none,.fadd 7 (.t 1)⟩),(1,⟨some 27,none,.load none (.t 26)⟩),(2,⟨some 28,none,.lenS (.t 27)⟩),(3,⟨some 29,none,.mv (.k (.d (.val (.int .i64 0))))⟩)] (some [2,3,27,28,29])) (.block 1 (.loop (.seq (.ops 1 [ (0,⟨some 30,none,.arith .lss (.t 29) (.t 28)⟩)] (some [2,3,27,28,29,30])) (.seq (.cond (.t 30) .skip (.exit 1)) (.seq (.block 2 (.seq (.ops 4 [ (0,⟨some 31,none,.idxS 8 (.t 27) (.t 29)⟩),(1,⟨some 32,none,.load (some 8) (.t 31)⟩),(2,⟨some 5,none,.alloc [(.int .i64 0),(.int .u64 0),(.int .u64 0),(.int .u64 0),(.int .u64 0),(.int .i64 0),(.int .i64 0),(.slice none 0 0)]⟩),(3,⟨none,none,.store 8 (.t 5) (.t 32)⟩)] (some [2,3,5,27,28,29])) (.ops 8 [ (0,⟨some 33,none,.fadd 7 (.t 3)⟩),(1,⟨some 34,none,.load none (.t 33)⟩),(2,⟨some 35,none,.load (some 8) (.t 5)⟩),(3,⟨some 36,none,.call 115 [(.t 35)] none false⟩),(4,⟨some 37,none,.mkrow [(.int .i64 0),(.int .u64 0),(.int .u64 0),(.int .u64 0),(.int .u64 0),(.int .i64 0),(.int .i64 0),(.slice none 0 0)] 1 8 [(0,8,(.t 36))]⟩),(5,⟨some 38,none,.app [(.int .i64 0),(.int .u64 0),(.int .u64 0),(.int .u64 0),(.int .u64 0),(.int .i64 0),(.int .i64 0),(.slice none 0 0)] 80 (.t 34) (.t 37)⟩),(6,⟨some 39,none,.fadd 7 (.t 3)⟩),(7,⟨none,none,.store 1 (.t 39) (.t 38)⟩)] (some [2,3,27,28,29])))) (.ops 2 [ (0,⟨some 40,none,.arith .add (.t 29) (.k (.d (.val (.int .i64 1))))⟩),(1,⟨some 29,none,.mv (.t 40)⟩)] (some [2,3,27,28,29])))))))) (.seq (.ops 2 [ (0,⟨some 41,none,.load (some 8) (.t 3)⟩),(1,⟨none,none,.store 8 (.t 2) (.t 41)⟩)] (some [2])) .ret))) .skip)))))) (.seq (.ops 2 [ (0,⟨some 42,none,.load (some 8) (.t 1)⟩),(1,⟨none,none,.store 8 (.t 2) (.t 42)⟩)] (some [2])) .ret)))
def md115 : FuncId→Option Nat × Bool
  | _=>(none,false)
def od115 : Nat→List (List Nat) × List Nat × Option (List Nat)
  | 0=>([],[],some [1,2])
  | 1=>([],[],some [1,2,7])
  | 2=>([],[],some [1,2,7,8])
  | 3=>([[],[0],[0,1],[0,1,2],[0,1,2,3],[],[5],[],[7],[0,1,2,3,4,5,6,7,8],[0,1,2,3,4,5,6,7,8,9]],[0,1,2,3,4,5,6,7,8,9,10],some [2])
  | 4=>([],[],some [1,2,7,20])
  | 5=>([],[],some [1,2,20])
  | 6=>([],[],some [1,2,3])
  | 7=>([],[],some [2,3,27,28,29])
  | 8=>([],[],some [2,3,27,28,29,30])
  | 9=>([],[],some [2,3,5,27,28,29])
  | 10=>([[],[0],[],[2],[2,3],[0,1,2,3,4],[0,1,2,3,4,5],[0,1,2,3,4,5,6]],[0,1,2,3,4,5,6,7],some [2,3,27,28,29])
  | 11=>([],[],some [2,3,27,28,29])
  | 12=>([],[],some [2])
  | 13=>([],[],some [2])
  | _=>([],[],none)
theorem b115 {ags : List AV} {row : Option (List DV)} {r : AV} {row' nw : Option (List DV)} (hal : ags.length≤43) (hrow : row'.isSome=true→row.isSome=true) (h : xwp Try.prog x115 (retK [.cell 2 (some 8)] row.isSome r row' nw) (St.init ags row)) : Good Try.prog 115 ags row r row' nw :=
  good_of_body' (md:=md115) (od:=od115) Try.f115 (by kernel_rfl) (by kernel_rfl) (by kernel_rfl) (by kernel_rfl) (by kernel_rfl) hal hrow h

def x116 : XC:=(.seq (.ops 1 [ (0,⟨some 2,none,.mv (.k (.d (.val (.bool false))))⟩)] (some [0])) (.seq (.ops 7 [ (0,⟨some 5,none,.mv (.t 0)⟩),(1,⟨some 6,none,.nilck (.t 5)⟩),(2,⟨some 7,none,.fadd 1 (.t 6)⟩),(3,⟨some 8,none,.load (some 4) (.t 7)⟩),(4,⟨some 9,none,.build [(.int .u64 0),(.int .u64 0),(.int .u64 0),(.int .u64 0)] []⟩),(5,⟨some 10,none,.eqAgg 4 false (.t 8) (.t 9)⟩),(6,⟨some 3,none,.mv (.t 10)⟩)] (some [0,3])) (.seq (.ops 13 [ (0,⟨some 11,none,.mv (.t 0)⟩),(1,⟨some 12,none,.nilck (.t 11)⟩),(2,⟨some 13,none,.fadd 5 (.t 12)⟩),(3,⟨some 14,none,.load none (.t 13)⟩),(4,⟨some 15,none,.arith .eql (.t 14) (.k (.d (.val (.int .i64 0))))⟩),(5,⟨some 16,none,.mv (.t 15)⟩),(6,⟨some 17,(some (16,true)),.mv (.t 0)⟩),(7,⟨some 18,(some (16,true)),.nilck (.t 17)⟩),(8,⟨some 19,(some (16,true)),.fadd 6 (.t 18)⟩),(9,⟨some 20,(some (16,true)),.load none (.t 19)⟩),(10,⟨some 21,(some (16,true)),.arith .eql (.t 20) (.k (.d (.val (.int .i64 0))))⟩),(11,⟨some 22,none,.pick (.t 16) (.t 21) (.k (.d (.val (.bool false))))⟩),(12,⟨some 4,none,.mv (.t 22)⟩)] (some [0,3,4])) (.seq (.seq (.ops 4 [ (0,⟨some 23,none,.mv (.t 0)⟩),(1,⟨some 24,none,.nilck (.t 23)⟩),(2,⟨some 25,none,.fadd 0 (.t 24)⟩),(3,⟨some 26,none,.load none (.t 25)⟩)] (some [0,3,4,26])) (.block 0 (.seq (.ops 2 [ (0,⟨some 28,none,.arith .eql (.t 26) (.k (.d (.val (.int .i64 1))))⟩),(1,⟨some 27,none,.mv (.t 28)⟩)] (some [0,3,4,26,27])) (.cond (.t 27) (.seq (.ops 13 [ (0,⟨some 29,none,.mv (.t 3)⟩),(1,⟨some 30,none,.mv (.t 29)⟩),(2,⟨some 31,(some (30,true)),.mv (.t 4)⟩),(3,⟨some 32,none,.pick (.t 30) (.t 31) (.k (.d (.val (.bool false))))⟩),(4,⟨some 33,none,.mv (.t 32)⟩),(5,⟨some 34,(some (33,true)),.mv (.t 0)⟩),(6,⟨some 35,(some (33,true)),.nilck (.t 34)⟩),(7,⟨some 36,(some (33,true)),.fadd 7 (.t 35)⟩),(8,⟨some 37,(some (33,true)),.load none (.t 36)⟩),(9,⟨some 38,(some (33,true)),.lenS (.t 37)⟩),(10,⟨some 39,(some (33,true)),.arith .eql (.t 38) (.k (.d (.val (.int .i64 0))))⟩),(11,⟨some 40,none,.pick (.t 33) (.t 39) (.k (.d (.val (.bool false))))⟩),(12,⟨some 2,none,.mv (.t 40)⟩)] (some [2])) .ret) (.seq (.ops 2 [ (0,⟨some 42,none,.arith .eql (.t 26) (.k (.d (.val (.int .i64 2))))⟩),(1,⟨some 41,none,.mv (.t 42)⟩)] (some [0,3,4,26,41])) (.cond (.t 41) (.seq (.ops 10 [ (0,⟨some 43,none,.mv (.t 4)⟩),(1,⟨some 44,none,.mv (.t 43)⟩),(2,⟨some 45,(some (44,true)),.mv (.t 0)⟩),(3,⟨some 46,(some (44,true)),.nilck (.t 45)⟩),(4,⟨some 47,(some (44,true)),.fadd 7 (.t 46)⟩),(5,⟨some 48,(some (44,true)),.load none (.t 47)⟩),(6,⟨some 49,(some (44,true)),.lenS (.t 48)⟩),(7,⟨some 50,(some (44,true)),.arith .eql (.t 49) (.k (.d (.val (.int .i64 0))))⟩),(8,⟨some 51,none,.pick (.t 44) (.t 50) (.k (.d (.val (.bool false))))⟩),(9,⟨some 2,none,.mv (.t 51)⟩)] (some [2])) .ret) (.seq (.seq (.ops 2 [ (0,⟨some 53,none,.arith .eql (.t 26) (.k (.d (.val (.int .i64 3))))⟩),(1,⟨some 52,none,.mv (.t 53)⟩)] (some [0,3,4,26,52])) (.cond (.t 52) .skip (.ops 2 [ (0,⟨some 54,none,.arith .eql (.t 26) (.k (.d (.val (.int .i64 4))))⟩),(1,⟨some 52,none,.mv (.t 54)⟩)] (some [0,3,4,26,52])))) (.cond (.t 52) (.seq (.ops 13 [ (0,⟨some 55,none,.mv (.t 3)⟩),(1,⟨some 56,none,.mv (.t 55)⟩),(2,⟨some 57,(some (56,true)),.mv (.t 4)⟩),(3,⟨some 58,none,.pick (.t 56) (.t 57) (.k (.d (.val (.bool false))))⟩),(4,⟨some 59,none,.mv (.t 58)⟩),(5,⟨some 60,(some (59,true)),.mv (.t 0)⟩),(6,⟨some 61,(some (59,true)),.nilck (.t 60)⟩),(7,⟨some 62,(some (59,true)),.fadd 7 (.t 61)⟩),(8,⟨some 63,(some (59,true)),.load none (.t 62)⟩),(9,⟨some 64,(some (59,true)),.lenS (.t 63)⟩),(10,⟨some 65,(some (59,true)),.arith .geq (.t 64) (.k (.d (.val (.int .i64 2))))⟩),(11,⟨some 66,none,.pick (.t 59) (.t 65) (.k (.d (.val (.bool false))))⟩),(12,⟨some 2,none,.mv (.t 66)⟩)] (some [2])) .ret) (.seq (.ops 2 [ (0,⟨some 68,none,.arith .eql (.t 26) (.k (.d (.val (.int .i64 5))))⟩),(1,⟨some 67,none,.mv (.t 68)⟩)] (some [0,3,67])) (.cond (.t 67) (.seq (.ops 24 [ (0,⟨some 69,none,.mv (.t 3)⟩),(1,⟨some 70,none,.mv (.t 69)⟩),(2,⟨some 71,(some (70,true)),.mv (.t 0)⟩),(3,⟨some 72,(some (70,true)),.nilck (.t 71)⟩),(4,⟨some 73,(some (70,true)),.fadd 5 (.t 72)⟩),(5,⟨some 74,(some (70,true)),.load none (.t 73)⟩),(6,⟨some 75,(some (70,true)),.arith .eql (.t 74) (.k (.d (.val (.int .i64 0))))⟩),(7,⟨some 76,none,.pick (.t 70) (.t 75) (.k (.d (.val (.bool false))))⟩),(8,⟨some 77,none,.mv (.t 76)⟩),(9,⟨some 78,(some (77,true)),.mv (.t 0)⟩),(10,⟨some 79,(some (77,true)),.nilck (.t 78)⟩),(11,⟨some 80,(some (77,true)),.fadd 6 (.t 79)⟩),(12,⟨some 81,(some (77,true)),.load none (.t 80)⟩),(13,⟨some 82,(some (77,true)),.arith .eql (.t 81) (.k (.d (.val (.int .i64 (-1)))))⟩),(14,⟨some 83,none,.pick (.t 77) (.t 82) (.k (.d (.val (.bool false))))⟩),(15,⟨some 84,none,.mv (.t 83)⟩),(16,⟨some 85,(some (84,true)),.mv (.t 0)⟩),(17,⟨some 86,(some (84,true)),.nilck (.t 85)⟩),(18,⟨some 87,(some (84,true)),.fadd 7 (.t 86)⟩),(19,⟨some 88,(some (84,true)),.load none (.t 87)⟩),(20,⟨some 89,(some (84,true)),.lenS (.t 88)⟩),(21,⟨some 90,(some (84,true)),.arith .eql (.t 89) (.k (.d (.val (.int .i64 1))))⟩),(22,⟨some 91,none,.pick (.t 84) (.t 90) (.k (.d (.val (.bool false))))⟩),(23,⟨some 2,none,.mv (.t 91)⟩)] (some [2])) .ret) .skip)))))))))) (.seq (.ops 1 [ (0,⟨some 2,none,.mv (.k (.d (.val (.bool false))))⟩)] (some [2])) .ret)))))
def md116 : FuncId→Option Nat × Bool
  | _=>(none,false)
def od116 : Nat→List (List Nat) × List Nat × Option (List Nat)
  | 0=>([],[],some [0])
  | 1=>([],[],some [0,3])
  | 2=>([],[],some [0,3,4])
  | 3=>([],[],some [0,3,4,26])
  | 4=>([],[],some [0,3,4,26,27])
  | 5=>([],[],some [2])
  | 6=>([],[],some [0,3,4,26,41])
  | 7=>([],[],some [2])
  | 8=>([],[],some [0,3,4,26,52])
  | 9=>([],[],some [0,3,4,26,52])
  | 10=>([],[],some [2])
  | 11=>([],[],some [0,3,67])
  | 12=>([],[],some [2])
  | 13=>([],[],some [2])
  | _=>([],[],none)
theorem b116 {ags : List AV} {row : Option (List DV)} {r : AV} {row' nw : Option (List DV)} (hal : ags.length≤92) (hrow : row'.isSome=true→row.isSome=true) (h : xwp Try.prog x116 (retK [.tmp 2] row.isSome r row' nw) (St.init ags row)) : Good Try.prog 116 ags row r row' nw :=
  good_of_body' (md:=md116) (od:=od116) Try.f116 (by kernel_rfl) (by kernel_rfl) (by kernel_rfl) (by kernel_rfl) (by kernel_rfl) hal hrow h

def x117 : XC:=(.seq (.ops 2 [ (0,⟨some 1,none,.box (.t 0)⟩),(1,⟨some 2,none,.mv (.k (.d (.val (.bool false))))⟩)] (some [1])) (.seq (.ops 4 [ (0,⟨some 3,none,.load (some 8) (.t 1)⟩),(1,⟨some 4,none,.call 60 [(.t 3)] none false⟩),(2,⟨some 5,none,.un .not (.t 4)⟩),(3,⟨some 2,none,.mv (.t 5)⟩)] (some [2])) .ret))
def md117 : FuncId→Option Nat × Bool
  | _=>(none,false)
def od117 : Nat→List (List Nat) × List Nat × Option (List Nat)
  | 0=>([],[],some [1])
  | 1=>([],[],some [2])
  | _=>([],[],none)
theorem b117 {ags : List AV} {row : Option (List DV)} {r : AV} {row' nw : Option (List DV)} (hal : ags.length≤6) (hrow : row'.isSome=true→row.isSome=true) (h : xwp Try.prog x117 (retK [.tmp 2] row.isSome r row' nw) (St.init ags row)) : Good Try.prog 117 ags row r row' nw :=
  good_of_body' (md:=md117) (od:=od117) Try.f117 (by kernel_rfl) (by kernel_rfl) (by kernel_rfl) (by kernel_rfl) (by kernel_rfl) hal hrow h

def x123 : XC:=(.seq (.ops 1 [ (0,⟨some 2,none,.mv (.k (.d (.val (.int .i64 0))))⟩)] (some [0])) (.seq (.ops 1 [ (0,⟨some 3,none,.mv (.k (.d (.val (.int .i64 1))))⟩)] (some [0,3])) (.seq (.seq (.ops 6 [ (0,⟨some 6,none,.mv (.t 0)⟩),(1,⟨some 7,none,.nilck (.t 6)⟩),(2,⟨some 8,none,.fadd 7 (.t 7)⟩),(3,⟨some 9,none,.load none (.t 8)⟩),(4,⟨some 10,none,.lenS (.t 9)⟩),(5,⟨some 11,none,.mv (.k (.d (.val (.int .i64 0))))⟩)] (some [0,3,10,11])) (.block 0 (.loop (.seq (.ops 1 [ (0,⟨some 12,none,.arith .lss (.t 11) (.t 10)⟩)] (some [0,3,10,11,12])) (.seq (.cond (.t 12) .skip (.exit 0)) (.seq (.block 1 (.seq (.ops 2 [ (0,⟨some 13,none,.mv (.t 11)⟩),(1,⟨some 4,none,.mv (.t 13)⟩)] (some [0,3,4,10,11])) (.seq (.ops 8 [ (0,⟨some 14,none,.mv (.t 0)⟩),(1,⟨some 15,none,.nilck (.t 14)⟩),(2,⟨some 16,none,.fadd 7 (.t 15)⟩),(3,⟨some 17,none,.load none (.t 16)⟩),(4,⟨some 18,none,.mv (.t 4)⟩),(5,⟨some 19,none,.idxS 8 (.t 17) (.t 18)⟩),(6,⟨some 20,none,.call 123 [(.t 19)] none false⟩),(7,⟨some 5,none,.mv (.t 20)⟩)] (some [0,3,5,10,11])) (.seq (.block 2 (.seq (.ops 6 [ (0,⟨some 29,none,.mv (.t 0)⟩),(1,⟨some 30,none,.nilck (.t 29)⟩),(2,⟨some 31,none,.fadd 0 (.t 30)⟩),(3,⟨some 32,none,.load none (.t 31)⟩),(4,⟨some 33,none,.arith .neq (.t 32) (.k (.d (.val (.int .i64 5))))⟩),(5,⟨some 28,none,.mv (.t 33)⟩)] (some [0,3,5,10,11,28])) (.cond (.t 28) .skip (.seq (.ops 6 [ (0,⟨some 35,none,.mv (.t 0)⟩),(1,⟨some 36,none,.nilck (.t 35)⟩),(2,⟨some 37,none,.fadd 6 (.t 36)⟩),(3,⟨some 38,none,.load none (.t 37)⟩),(4,⟨some 39,none,.arith .eql (.t 38) (.k (.d (.val (.int .i64 (-1)))))⟩),(5,⟨some 34,none,.mv (.t 39)⟩)] (some [0,3,5,10,11,34])) (.cond (.t 34) (.ops 9 [ (0,⟨some 40,none,.mv (.t 5)⟩),(1,⟨some 41,none,.mv (.t 0)⟩),(2,⟨some 42,none,.nilck (.t 41)⟩),(3,⟨some 43,none,.fadd 5 (.t 42)⟩),(4,⟨some 44,none,.load none (.t 43)⟩),(5,⟨some 45,none,.arith .add (.t 44) (.k (.d (.val (.int .i64 1))))⟩),(6,⟨some 46,none,.arith .mul (.t 40) (.t 45)⟩),(7,⟨some 47,none,.arith .add (.t 46) (.k (.d (.val (.int .i64 1))))⟩),(8,⟨some 5,none,.mv (.t 47)⟩)] (some [0,3,5,10,11])) (.ops 8 [ (0,⟨some 21,none,.mv (.t 5)⟩),(1,⟨some 22,none,.arith .add (.t 21) (.k (.d (.val (.int .i64 2))))⟩),(2,⟨some 23,none,.mv (.t 0)⟩),(3,⟨some 24,none,.nilck (.t 23)⟩),(4,⟨some 25,none,.fadd 6 (.t 24)⟩),(5,⟨some 26,none,.load none (.t 25)⟩),(6,⟨some 27,none,.arith .mul (.t 22) (.t 26)⟩),(7,⟨some 5,none,.mv (.t 27)⟩)] (some [0,3,5,10,11]))))))) (.ops 5 [ (0,⟨some 48,none,.mv (.t 3)⟩),(1,⟨some 49,none,.mv (.t 5)⟩),(2,⟨some 50,none,.arith .add (.t 48) (.t 49)⟩),(3,⟨some 51,none,.min [(.t 50),(.k (.d (.val (.int .i64 1073741824))))]⟩),(4,⟨some 3,none,.mv (.t 51)⟩)] (some [0,3,10,11])))))) (.ops 2 [ (0,⟨some 52,none,.arith .add (.t 11) (.k (.d (.val (.int .i64 1))))⟩),(1,⟨some 11,none,.mv (.t 52)⟩)] (some [0,3,10,11])))))))) (.seq (.ops 2 [ (0,⟨some 53,none,.mv (.t 3)⟩),(1,⟨some 2,none,.mv (.t 53)⟩)] (some [2])) .ret))))
def md123 : FuncId→Option Nat × Bool
  | _=>(none,false)
def od123 : Nat→List (List Nat) × List Nat × Option (List Nat)
  | 0=>([],[],some [0])
  | 1=>([],[],some [0,3])
  | 2=>([],[],some [0,3,10,11])
  | 3=>([],[],some [0,3,10,11,12])
  | 4=>([],[],some [0,3,4,10,11])
  | 5=>([],[],some [0,3,5,10,11])
  | 6=>([],[],some [0,3,5,10,11])
  | 7=>([],[],some [0,3,5,10,11,28])
  | 8=>([],[],some [0,3,5,10,11,34])
  | 9=>([],[],some [0,3,5,10,11])
  | 10=>([],[],some [0,3,10,11])
  | 11=>([],[],some [0,3,10,11])
  | 12=>([],[],some [2])
  | _=>([],[],none)
theorem b123 {ags : List AV} {row : Option (List DV)} {r : AV} {row' nw : Option (List DV)} (hal : ags.length≤54) (hrow : row'.isSome=true→row.isSome=true) (h : xwp Try.prog x123 (retK [.tmp 2] row.isSome r row' nw) (St.init ags row)) : Good Try.prog 123 ags row r row' nw :=
  good_of_body' (md:=md123) (od:=od123) Try.f123 (by kernel_rfl) (by kernel_rfl) (by kernel_rfl) (by kernel_rfl) (by kernel_rfl) hal hrow h

def x145 : XC:=(.seq (.ops 1 [ (0,⟨some 4,none,.mv (.k (.d (.val (.int .i64 0))))⟩)] (some [0,1])) (.seq (.seq (.ops 3 [ (0,⟨some 6,none,.mv (.t 0)⟩),(1,⟨some 7,none,.lenS (.t 6)⟩),(2,⟨some 8,none,.mv (.k (.d (.val (.int .i64 0))))⟩)] (some [0,1,7,8])) (.block 0 (.loop (.seq (.ops 1 [ (0,⟨some 9,none,.arith .lss (.t 8) (.t 7)⟩)] (some [0,1,7,8,9])) (.seq (.cond (.t 9) .skip (.exit 0)) (.seq (.block 1 (.seq (.ops 2 [ (0,⟨some 10,none,.mv (.t 8)⟩),(1,⟨some 5,none,.mv (.t 10)⟩)] (some [0,1,5,7,8])) (.seq (.ops 6 [ (0,⟨some 11,none,.mv (.t 1)⟩),(1,⟨some 12,none,.mv (.t 0)⟩),(2,⟨some 13,none,.mv (.t 5)⟩),(3,⟨some 14,none,.idxS 8 (.t 12) (.t 13)⟩),(4,⟨some 15,none,.load (some 8) (.t 14)⟩),(5,⟨some 16,none,.callv (.t 11) [(.t 15)]⟩)] (some [0,1,5,7,8,16])) (.cond (.t 16) (.seq (.ops 2 [ (0,⟨some 17,none,.mv (.t 5)⟩),(1,⟨some 4,none,.mv (.t 17)⟩)] (some [4])) .ret) .skip)))) (.ops 2 [ (0,⟨some 18,none,.arith .add (.t 8) (.k (.d (.val (.int .i64 1))))⟩),(1,⟨some 8,none,.mv (.t 18)⟩)] (some [0,1,7,8])))))))) (.seq (.ops 1 [ (0,⟨some 4,none,.mv (.k (.d (.val (.int .i64 (-1)))))⟩)] (some [4])) .ret)))
def md145 : FuncId→Option Nat × Bool
  | _=>(none,false)
def od145 : Nat→List (List Nat) × List Nat × Option (List Nat)
  | 0=>([],[],some [0,1])
  | 1=>([],[],some [0,1,7,8])
  | 2=>([],[],some [0,1,7,8,9])
  | 3=>([],[],some [0,1,5,7,8])
  | 4=>([],[],some [0,1,5,7,8,16])
  | 5=>([],[],some [4])
  | 6=>([],[],some [0,1,7,8])
  | 7=>([],[],some [4])
  | _=>([],[],none)
theorem b145 {ags : List AV} {row : Option (List DV)} {r : AV} {row' nw : Option (List DV)} (hal : ags.length≤19) (hrow : row'.isSome=true→row.isSome=true) (h : xwp Try.prog x145 (retK [.tmp 4] row.isSome r row' nw) (St.init ags row)) : Good Try.prog 145 ags row r row' nw :=
  good_of_body' (md:=md145) (od:=od145) Try.f145 (by kernel_rfl) (by kernel_rfl) (by kernel_rfl) (by kernel_rfl) (by kernel_rfl) hal hrow h

def x147 : XC:=(.seq (.ops 2 [ (0,⟨some 3,none,.box (.t 0)⟩),(1,⟨some 6,none,.alloc [(.int .i64 0),(.int .u64 0),(.int .u64 0),(.int .u64 0),(.int .u64 0),(.int .i64 0),(.int .i64 0),(.slice none 0 0)]⟩)] (some [1,2,3,6])) (.seq (.ops 5 [ (0,⟨some 9,none,.load (some 8) (.t 3)⟩),(1,⟨some 10,none,.mkrow [(.int .i64 0),(.int .u64 0),(.int .u64 0),(.int .u64 0),(.int .u64 0),(.int .i64 0),(.int .i64 0),(.slice none 0 0)] 1 8 [(0,8,(.t 9))]⟩),(2,⟨some 11,none,.mv (.t 1)⟩),(3,⟨some 12,none,.call 161 [(.t 10),(.t 11)] none true⟩),(4,⟨some 7,none,.mv (.t 12)⟩)] (some [1,2,3,6,7])) (.seq (.block 0 (.seq (.ops 3 [ (0,⟨some 14,none,.mv (.t 2)⟩),(1,⟨some 15,none,.arith .lss (.t 14) (.k (.d (.val (.int .i64 0))))⟩),(2,⟨some 13,none,.mv (.t 15)⟩)] (some [1,2,3,6,7,13])) (.cond (.t 13) (.ops 7 [ (0,⟨some 16,none,.mv (.t 7)⟩),(1,⟨some 17,none,.load (some 8) (.t 3)⟩),(2,⟨some 18,none,.mkrow [(.int .i64 0),(.int .u64 0),(.int .u64 0),(.int .u64 0),(.int .u64 0),(.int .i64 0),(.int .i64 0),(.slice none 0 0)] 1 8 [(0,8,(.t 17))]⟩),(3,⟨some 19,none,.build [(.int .i64 0),(.int .u64 0),(.int .u64 0),(.int .u64 0),(.int .u64 0),(.int .i64 0),(.int .i64 0),(.slice none 0 0)] [(0,1,(.k (.d (.val (.int .i64 5))))),(6,1,(.k (.d (.val (.int .i64 (-1)))))),(7,1,(.t 18))]⟩),(4,⟨some 20,none,.mkrow [(.int .i64 0),(.int .u64 0),(.int .u64 0),(.int .u64 0),(.int .u64 0),(.int .i64 0),(.int .i64 0),(.slice none 0 0)] 1 8 [(0,8,(.t 19))]⟩),(5,⟨some 21,none,.app [(.int .i64 0),(.int .u64 0),(.int .u64 0),(.int .u64 0),(.int .u64 0),(.int .i64 0),(.int .i64 0),(.slice none 0 0)] 80 (.t 16) (.t 20)⟩),(6,⟨some 7,none,.mv (.t 21)⟩)] (some [6,7])) (.seq (.ops 4 [ (0,⟨some 23,none,.mv (.t 2)⟩),(1,⟨some 24,none,.mv (.t 1)⟩),(2,⟨some 25,none,.arith .gtr (.t 23) (.t 24)⟩),(3,⟨some 22,none,.mv (.t 25)⟩)] (some [1,2,3,6,7,22])) (.cond (.t 22) (.seq (.ops 6 [ (0,⟨some 26,none,.load (some 8) (.t 3)⟩),(1,⟨some 27,none,.build [(.int .i64 0),(.int .u64 0),(.int .u64 0),(.int .u64 0),(.int .u64 0),(.int .i64 0),(.int .i64 0),(.slice none 0 0)] [(0,1,(.k (.d (.val (.int .i64 1)))))]⟩),(2,⟨some 28,none,.mkrow [(.int .i64 0),(.int .u64 0),(.int .u64 0),(.int .u64 0),(.int .u64 0),(.int .i64 0),(.int .i64 0),(.slice none 0 0)] 2 8 [(0,8,(.t 26)),(8,8,(.t 27))]⟩),(3,⟨some 29,none,.build [(.int .i64 0),(.int .u64 0),(.int .u64 0),(.int .u64 0),(.int .u64 0),(.int .i64 0),(.int .i64 0),(.slice none 0 0)] [(0,1,(.k (.d (.val (.int .i64 4))))),(7,1,(.t 28))]⟩),(4,⟨some 8,none,.alloc [(.int .i64 0),(.int .u64 0),(.int .u64 0),(.int .u64 0),(.int .u64 0),(.int .i64 0),(.int .i64 0),(.slice none 0 0)]⟩),(5,⟨none,none,.store 8 (.t 8) (.t 29)⟩)] (some [1,2,6,7,8])) (.ops 9 [ (0,⟨some 30,none,.mv (.t 7)⟩),(1,⟨some 31,none,.load (some 8) (.t 8)⟩),(2,⟨some 32,none,.mkrow [(.int .i64 0),(.int .u64 0),(.int .u64 0),(.int .u64 0),(.int .u64 0),(.int .i64 0),(.int .i64 0),(.slice none 0 0)] 1 8 [(0,8,(.t 31))]⟩),(3,⟨some 33,none,.mv (.t 2)⟩),(4,⟨some 34,none,.mv (.t 1)⟩),(5,⟨some 35,none,.arith .sub (.t 33) (.t 34)⟩),(6,⟨some 36,none,.call 161 [(.t 32),(.t 35)] none true⟩),(7,⟨some 37,none,.app [(.int .i64 0),(.int .u64 0),(.int .u64 0),(.int .u64 0),(.int .u64 0),(.int .i64 0),(.int .i64 0),(.slice none 0 0)] 80 (.t 30) (.t 36)⟩),(8,⟨some 7,none,.mv (.t 37)⟩)] (some [6,7]))) .skip))))) (.seq (.seq (.ops 2 [ (0,⟨some 38,none,.mv (.t 7)⟩),(1,⟨some 39,none,.lenS (.t 38)⟩)] (some [6,7,39])) (.block 1 (.seq (.ops 2 [ (0,⟨some 41,none,.arith .eql (.t 39) (.k (.d (.val (.int .i64 0))))⟩),(1,⟨some 40,none,.mv (.t 41)⟩)] (some [6,7,39,40])) (.cond (.t 40) (.seq (.ops 2 [ (0,⟨some 42,none,.build [(.int .i64 0),(.int .u64 0),(.int .u64 0),(.int .u64 0),(.int .u64 0),(.int .i64 0),(.int .i64 0),(.slice none 0 0)] [(0,1,(.k (.d (.val (.int .i64 1)))))]⟩),(1,⟨none,none,.store 8 (.t 6) (.t 42)⟩)] (some [6])) .ret) (.seq (.ops 2 [ (0,⟨some 44,none,.arith .eql (.t 39) (.k (.d (.val (.int .i64 1))))⟩),(1,⟨some 43,none,.mv (.t 44)⟩)] (some [6,7,43])) (.cond (.t 43) (.seq (.ops 4 [ (0,⟨some 45,none,.mv (.t 7)⟩),(1,⟨some 46,none,.idxS 8 (.t 45) (.k (.d (.val (.int .i64 0))))⟩),(2,⟨some 47,none,.load (some 8) (.t 46)⟩),(3,⟨none,none,.store 8 (.t 6) (.t 47)⟩)] (some [6])) .ret) .skip)))))) (.seq (.ops 3 [ (0,⟨some 48,none,.mv (.t 7)⟩),(1,⟨some 49,none,.build [(.int .i64 0),(.int .u64 0),(.int .u64 0),(.int .u64 0),(.int .u64 0),(.int .i64 0),(.int .i64 0),(.slice none 0 0)] [(0,1,(.k (.d (.val (.int .i64 3))))),(7,1,(.t 48))]⟩),(2,⟨none,none,.store 8 (.t 6) (.t 49)⟩)] (some [6])) .ret)))))
def md147 : FuncId→Option Nat × Bool
  | 161=>(none,true)
  | _=>(none,false)
def od147 : Nat→List (List Nat) × List Nat × Option (List Nat)
  | 0=>([],[],some [1,2,3,6])
  | 1=>([],[],some [1,2,3,6,7])
  | 2=>([],[],some [1,2,3,6,7,13])
  | 3=>([],[],some [6,7])
  | 4=>([],[],some [1,2,3,6,7,22])
  | 5=>([],[],some [1,2,6,7,8])
  | 6=>([],[],some [6,7])
  | 7=>([],[],some [6,7,39])
  | 8=>([],[],some [6,7,39,40])
  | 9=>([],[],some [6])
  | 10=>([],[],some [6,7,43])
  | 11=>([],[],some [6])
  | 12=>([],[],some [6])
  | _=>([],[],none)
theorem b147 {ags : List AV} {row : Option (List DV)} {r : AV} {row' nw : Option (List DV)} (hal : ags.length≤50) (hrow : row'.isSome=true→row.isSome=true) (h : xwp Try.prog x147 (retK [.cell 6 (some 8)] row.isSome r row' nw) (St.init ags row)) : Good Try.prog 147 ags row r row' nw :=
  good_of_body' (md:=md147) (od:=od147) Try.f147 (by kernel_rfl) (by kernel_rfl) (by kernel_rfl) (by kernel_rfl) (by kernel_rfl) hal hrow h

def x161 : XC:=(.seq (.ops 1 [ (0,⟨some 4,none,.mv (.k (.d (.val (.slice none 0 0))))⟩)] (some [0,1])) (.seq (.seq (.ops 2 [ (0,⟨some 9,none,.mv (.t 1)⟩),(1,⟨some 10,none,.arith .lss (.t 9) (.k (.d (.val (.int .i64 0))))⟩)] (some [0,1,10])) (.cond (.t 10) (.ops 2 [ (0,⟨some 11,none,.bad⟩),(1,⟨none,none,.bad⟩)] (some [0,1])) .skip)) (.seq (.ops 11 [ (0,⟨some 13,none,.mv (.t 0)⟩),(1,⟨some 14,none,.lenS (.t 13)⟩),(2,⟨some 15,none,.conv .u64 (.t 14)⟩),(3,⟨some 16,none,.mv (.t 1)⟩),(4,⟨some 17,none,.conv .u64 (.t 16)⟩),(5,⟨some 18,none,.call 169 [(.t 15),(.t 17)] none false⟩),(6,⟨some 12,none,.mv (.t 18)⟩),(7,⟨some 19,none,.ext (.t 12) 0⟩),(8,⟨some 20,none,.ext (.t 12) 1⟩),(9,⟨some 5,none,.mv (.t 19)⟩),(10,⟨some 6,none,.mv (.t 20)⟩)] (some [0,5,6])) (.seq (.seq (.ops 6 [ (0,⟨some 21,none,.mv (.t 5)⟩),(1,⟨some 22,none,.arith .gtr (.t 21) (.k (.d (.val (.int .u64 0))))⟩),(2,⟨some 23,none,.mv (.t 22)⟩),(3,⟨some 24,(some (23,false)),.mv (.t 6)⟩),(4,⟨some 25,(some (23,false)),.arith .gtr (.t 24) (.k (.d (.val (.int .u64 9223372036854775807))))⟩),(5,⟨some 26,none,.pick (.t 23) (.k (.d (.val (.bool true)))) (.t 25)⟩)] (some [0,6,26])) (.cond (.t 26) (.ops 2 [ (0,⟨some 27,none,.bad⟩),(1,⟨none,none,.bad⟩)] (some [0,6])) .skip)) (.seq (.ops 4 [ (0,⟨some 28,none,.mv (.t 6)⟩),(1,⟨some 29,none,.conv .i64 (.t 28)⟩),(2,⟨some 30,none,.mks [(.int .i64 0),(.int .u64 0),(.int .u64 0),(.int .u64 0),(.int .u64 0),(.int .i64 0),(.int .i64 0),(.slice none 0 0)] 80 (.t 29) (.t 29)⟩),(3,⟨some 7,none,.mv (.t 30)⟩)] (some [0,7])) (.seq (.ops 4 [ (0,⟨some 31,none,.mv (.t 7)⟩),(1,⟨some 32,none,.mv (.t 0)⟩),(2,⟨some 33,none,.cpy 8 (.t 31) (.t 32)⟩),(3,⟨some 8,none,.mv (.t 33)⟩)] (some [7,8])) (.seq (.block 0 (.loop (.seq (.seq (.ops 4 [ (0,⟨some 34,none,.mv (.t 8)⟩),(1,⟨some 35,none,.mv (.t 7)⟩),(2,⟨some 36,none,.lenS (.t 35)⟩),(3,⟨some 37,none,.arith .lss (.t 34) (.t 36)⟩)] (some [7,8,37])) (.cond (.t 37) .skip (.exit 0))) (.block 1 (.ops 10 [ (0,⟨some 38,none,.mv (.t 8)⟩),(1,⟨some 39,none,.mv (.t 7)⟩),(2,⟨some 40,none,.mv (.t 8)⟩),(3,⟨some 41,none,.slS 8 (.t 39) (some (.t 40)) none⟩),(4,⟨some 42,none,.mv (.t 7)⟩),(5,⟨some 43,none,.mv (.t 8)⟩),(6,⟨some 44,none,.slS 8 (.t 42) none (some (.t 43))⟩),(7,⟨some 45,none,.cpy 8 (.t 41) (.t 44)⟩),(8,⟨some 46,none,.arith .add (.t 38) (.t 45)⟩),(9,⟨some 8,none,.mv (.t 46)⟩)] (some [7,8])))))) (.seq (.ops 2 [ (0,⟨some 47,none,.mv (.t 7)⟩),(1,⟨some 4,none,.mv (.t 47)⟩)] (some [4])) .ret))))))))
def md161 : FuncId→Option Nat × Bool
  | _=>(none,false)
def od161 : Nat→List (List Nat) × List Nat × Option (List Nat)
  | 0=>([],[],some [0,1])
  | 1=>([],[],some [0,1,10])
  | 2=>([],[],some [0,1])
  | 3=>([],[],some [0,5,6])
  | 4=>([],[],some [0,6,26])
  | 5=>([],[],some [0,6])
  | 6=>([],[],some [0,7])
  | 7=>([],[],some [7,8])
  | 8=>([],[],some [7,8,37])
  | 9=>([[],[],[],[1,2],[],[],[4,5],[1,2,3,4,5,6],[0,1,2,3,4,5,6,7],[0,1,2,3,4,5,6,7,8]],[0,1,2,3,4,5,6,7,8,9],some [7,8])
  | 10=>([],[],some [4])
  | _=>([],[],none)
theorem b161 {ags : List AV} {row : Option (List DV)} {r : AV} {row' nw : Option (List DV)} (hal : ags.length≤48) (hrow : row'.isSome=true→row.isSome=true) (h : xwp Try.prog x161 (retK [.tmp 4] row.isSome r row' nw) (St.init ags row)) : Good Try.prog 161 ags row r row' nw :=
  good_of_body' (md:=md161) (od:=od161) Try.f161 (by kernel_rfl) (by kernel_rfl) (by kernel_rfl) (by kernel_rfl) (by kernel_rfl) hal hrow h

def x169 : XC:=(.seq (.ops 2 [ (0,⟨some 4,none,.mv (.k (.d (.val (.int .u64 0))))⟩),(1,⟨some 5,none,.mv (.k (.d (.val (.int .u64 0))))⟩)] (some [0,1])) (.seq (.cond (.k (.d (.val (.bool false)))) (.seq (.ops 10 [ (0,⟨some 11,none,.mv (.t 0)⟩),(1,⟨some 12,none,.conv .u32 (.t 11)⟩),(2,⟨some 13,none,.mv (.t 1)⟩),(3,⟨some 14,none,.conv .u32 (.t 13)⟩),(4,⟨some 15,none,.call 174 [(.t 12),(.t 14)] none false⟩),(5,⟨some 10,none,.mv (.t 15)⟩),(6,⟨some 16,none,.ext (.t 10) 0⟩),(7,⟨some 17,none,.ext (.t 10) 1⟩),(8,⟨some 6,none,.mv (.t 16)⟩),(9,⟨some 7,none,.mv (.t 17)⟩)] (some [6,7])) (.seq (.ops 6 [ (0,⟨some 18,none,.mv (.t 6)⟩),(1,⟨some 19,none,.conv .u64 (.t 18)⟩),(2,⟨some 20,none,.mv (.t 7)⟩),(3,⟨some 21,none,.conv .u64 (.t 20)⟩),(4,⟨some 4,none,.mv (.t 19)⟩),(5,⟨some 5,none,.mv (.t 21)⟩)] (some [4,5])) .ret)) .skip) (.seq (.ops 8 [ (0,⟨some 23,none,.mv (.t 0)⟩),(1,⟨some 24,none,.mv (.t 1)⟩),(2,⟨some 25,none,.call 175 [(.t 23),(.t 24)] none false⟩),(3,⟨some 22,none,.mv (.t 25)⟩),(4,⟨some 26,none,.ext (.t 22) 0⟩),(5,⟨some 27,none,.ext (.t 22) 1⟩),(6,⟨some 8,none,.mv (.t 26)⟩),(7,⟨some 9,none,.mv (.t 27)⟩)] (some [8,9])) (.seq (.ops 4 [ (0,⟨some 28,none,.mv (.t 8)⟩),(1,⟨some 29,none,.mv (.t 9)⟩),(2,⟨some 4,none,.mv (.t 28)⟩),(3,⟨some 5,none,.mv (.t 29)⟩)] (some [4,5])) .ret))))
def md169 : FuncId→Option Nat × Bool
  | _=>(none,false)
def od169 : Nat→List (List Nat) × List Nat × Option (List Nat)
  | 0=>([],[],some [0,1])
  | 1=>([],[],some [6,7])
  | 2=>([],[],some [4,5])
  | 3=>([],[],some [8,9])
  | 4=>([],[],some [4,5])
  | _=>([],[],none)
theorem b169 {ags : List AV} {row : Option (List DV)} {r : AV} {row' nw : Option (List DV)} (hal : ags.length≤30) (hrow : row'.isSome=true→row.isSome=true) (h : xwp Try.prog x169 (retK [.tmp 4,.tmp 5] row.isSome r row' nw) (St.init ags row)) : Good Try.prog 169 ags row r row' nw :=
  good_of_body' (md:=md169) (od:=od169) Try.f169 (by kernel_rfl) (by kernel_rfl) (by kernel_rfl) (by kernel_rfl) (by kernel_rfl) hal hrow h

def x174 : XC:=(.seq (.ops 2 [ (0,⟨some 4,none,.mv (.k (.d (.val (.int .u32 0))))⟩),(1,⟨some 5,none,.mv (.k (.d (.val (.int .u32 0))))⟩)] (some [0,1])) (.seq (.ops 6 [ (0,⟨some 7,none,.mv (.t 0)⟩),(1,⟨some 8,none,.conv .u64 (.t 7)⟩),(2,⟨some 9,none,.mv (.t 1)⟩),(3,⟨some 10,none,.conv .u64 (.t 9)⟩),(4,⟨some 11,none,.arith .mul (.t 8) (.t 10)⟩),(5,⟨some 6,none,.mv (.t 11)⟩)] (some [6])) (.seq (.ops 7 [ (0,⟨some 12,none,.mv (.t 6)⟩),(1,⟨some 13,none,.arith .shr (.t 12) (.k (.d (.val (.int .u64 32))))⟩),(2,⟨some 14,none,.conv .u32 (.t 13)⟩),(3,⟨some 15,none,.mv (.t 6)⟩),(4,⟨some 16,none,.conv .u32 (.t 15)⟩),(5,⟨some 4,none,.mv (.t 14)⟩),(6,⟨some 5,none,.mv (.t 16)⟩)] (some [4,5])) .ret)))
def md174 : FuncId→Option Nat × Bool
  | _=>(none,false)
def od174 : Nat→List (List Nat) × List Nat × Option (List Nat)
  | 0=>([],[],some [0,1])
  | 1=>([],[],some [6])
  | 2=>([],[],some [4,5])
  | _=>([],[],none)
theorem b174 {ags : List AV} {row : Option (List DV)} {r : AV} {row' nw : Option (List DV)} (hal : ags.length≤17) (hrow : row'.isSome=true→row.isSome=true) (h : xwp Try.prog x174 (retK [.tmp 4,.tmp 5] row.isSome r row' nw) (St.init ags row)) : Good Try.prog 174 ags row r row' nw :=
  good_of_body' (md:=md174) (od:=od174) Try.f174 (by kernel_rfl) (by kernel_rfl) (by kernel_rfl) (by kernel_rfl) (by kernel_rfl) hal hrow h

def x175 : XC:=(.seq (.ops 2 [ (0,⟨some 4,none,.mv (.k (.d (.val (.int .u64 0))))⟩),(1,⟨some 5,none,.mv (.k (.d (.val (.int .u64 0))))⟩)] (some [0,1])) (.seq (.ops 3 [ (0,⟨some 14,none,.mv (.t 0)⟩),(1,⟨some 15,none,.arith .and (.t 14) (.k (.d (.val (.int .u64 4294967295))))⟩),(2,⟨some 6,none,.mv (.t 15)⟩)] (some [0,1,6])) (.seq (.ops 3 [ (0,⟨some 16,none,.mv (.t 0)⟩),(1,⟨some 17,none,.arith .shr (.t 16) (.k (.d (.val (.int .u64 32))))⟩),(2,⟨some 7,none,.mv (.t 17)⟩)] (some [0,1,6,7])) (.seq (.ops 3 [ (0,⟨some 18,none,.mv (.t 1)⟩),(1,⟨some 19,none,.arith .and (.t 18) (.k (.d (.val (.int .u64 4294967295))))⟩),(2,⟨some 8,none,.mv (.t 19)⟩)] (some [0,1,6,7,8])) (.seq (.ops 3 [ (0,⟨some 20,none,.mv (.t 1)⟩),(1,⟨some 21,none,.arith .shr (.t 20) (.k (.d (.val (.int .u64 32))))⟩),(2,⟨some 9,none,.mv (.t 21)⟩)] (some [0,1,6,7,8,9])) (.seq (.ops 4 [ (0,⟨some 22,none,.mv (.t 6)⟩),(1,⟨some 23,none,.mv (.t 8)⟩),(2,⟨some 24,none,.arith .mul (.t 22) (.t 23)⟩),(3,⟨some 10,none,.mv (.t 24)⟩)] (some [0,1,6,7,8,9,10])) (.seq (.ops 7 [ (0,⟨some 25,none,.mv (.t 7)⟩),(1,⟨some 26,none,.mv (.t 8)⟩),(2,⟨some 27,none,.arith .mul (.t 25) (.t 26)⟩),(3,⟨some 28,none,.mv (.t 10)⟩),(4,⟨some 29,none,.arith .shr (.t 28) (.k (.d (.val (.int .u64 32))))⟩),(5,⟨some 30,none,.arith .add (.t 27) (.t 29)⟩),(6,⟨some 11,none,.mv (.t 30)⟩)] (some [0,1,6,7,9,11])) (.seq (.ops 3 [ (0,⟨some 31,none,.mv (.t 11)⟩),(1,⟨some 32,none,.arith .and (.t 31) (.k (.d (.val (.int .u64 4294967295))))⟩),(2,⟨some 12,none,.mv (.t 32)⟩)] (some [0,1,6,7,9,11,12])) (.seq (.ops 3 [ (0,⟨some 33,none,.mv (.t 11)⟩),(1,⟨some 34,none,.arith .shr (.t 33) (.k (.d (.val (.int .u64 32))))⟩),(2,⟨some 13,none,.mv (.t 34)⟩)] (some [0,1,6,7,9,12,13])) (.seq (.ops 6 [ (0,⟨some 35,none,.mv (.t 12)⟩),(1,⟨some 36,none,.mv (.t 6)⟩),(2,⟨some 37,none,.mv (.t 9)⟩),(3,⟨some 38,none,.arith .mul (.t 36) (.t 37)⟩),(4,⟨some 39,none,.arith .add (.t 35) (.t 38)⟩),(5,⟨some 12,none,.mv (.t 39)⟩)] (some [0,1,7,9,12,13])) (.seq (.ops 9 [ (0,⟨some 40,none,.mv (.t 7)⟩),(1,⟨some 41,none,.mv (.t 9)⟩),(2,⟨some 42,none,.arith .mul (.t 40) (.t 41)⟩),(3,⟨some 43,none,.mv (.t 13)⟩),(4,⟨some 44,none,.arith .add (.t 42) (.t 43)⟩),(5,⟨some 45,none,.mv (.t 12)⟩),(6,⟨some 46,none,.arith .shr (.t 45) (.k (.d (.val (.int .u64 32))))⟩),(7,⟨some 47,none,.arith .add (.t 44) (.t 46)⟩),(8,⟨some 4,none,.mv (.t 47)⟩)] (some [0,1,4])) (.seq (.ops 4 [ (0,⟨some 48,none,.mv (.t 0)⟩),(1,⟨some 49,none,.mv (.t 1)⟩),(2,⟨some 50,none,.arith .mul (.t 48) (.t 49)⟩),(3,⟨some 5,none,.mv (.t 50)⟩)] (some [4,5])) .ret))))))))))))
def md175 : FuncId→Option Nat × Bool
  | _=>(none,false)
def od175 : Nat→List (List Nat) × List Nat × Option (List Nat)
  | 0=>([],[],some [0,1])
  | 1=>([],[],some [0,1,6])
  | 2=>([],[],some [0,1,6,7])
  | 3=>([],[],some [0,1,6,7,8])
  | 4=>([],[],some [0,1,6,7,8,9])
  | 5=>([],[],some [0,1,6,7,8,9,10])
  | 6=>([],[],some [0,1,6,7,9,11])
  | 7=>([],[],some [0,1,6,7,9,11,12])
  | 8=>([],[],some [0,1,6,7,9,12,13])
  | 9=>([],[],some [0,1,7,9,12,13])
  | 10=>([],[],some [0,1,4])
  | 11=>([],[],some [4,5])
  | _=>([],[],none)
theorem b175 {ags : List AV} {row : Option (List DV)} {r : AV} {row' nw : Option (List DV)} (hal : ags.length≤51) (hrow : row'.isSome=true→row.isSome=true) (h : xwp Try.prog x175 (retK [.tmp 4,.tmp 5] row.isSome r row' nw) (St.init ags row)) : Good Try.prog 175 ags row r row' nw :=
  good_of_body' (md:=md175) (od:=od175) Try.f175 (by kernel_rfl) (by kernel_rfl) (by kernel_rfl) (by kernel_rfl) (by kernel_rfl) hal hrow h

def tabC : Tab
  | 56=>some ⟨x56,[.tmp 0],58,false,8⟩
  | 114=>some ⟨x114,[.cell 2 (some 8)],13,false,8⟩
  | 47=>some ⟨x47,[.tmp 4],60,false,8⟩
  | 57=>some ⟨x57,[.cell 4 (some 8),.tmp 5],20,false,8⟩
  | 60=>some ⟨x60,[.tmp 2],10,false,8⟩
  | 68=>some ⟨x68,[.tmp 2],7,false,8⟩
  | 104=>some ⟨x104,[.tmp 4],9,false,8⟩
  | 115=>some ⟨x115,[.cell 2 (some 8)],43,false,8⟩
  | 116=>some ⟨x116,[.tmp 2],92,false,8⟩
  | 117=>some ⟨x117,[.tmp 2],6,false,8⟩
  | 123=>some ⟨x123,[.tmp 2],54,false,8⟩
  | 145=>some ⟨x145,[.tmp 4],19,false,8⟩
  | 147=>some ⟨x147,[.cell 6 (some 8)],50,false,8⟩
  | 161=>some ⟨x161,[.tmp 4],48,true,8⟩
  | 169=>some ⟨x169,[.tmp 4,.tmp 5],30,false,8⟩
  | 174=>some ⟨x174,[.tmp 4,.tmp 5],17,false,8⟩
  | 175=>some ⟨x175,[.tmp 4,.tmp 5],51,false,8⟩
  | 84=>some ⟨x84,[.tmp 2],4,false,8⟩
  | 132=>some ⟨x132,[.tmp 4],46,false,8⟩
  | 156=>some ⟨x156,[.tmp 2],121,false,8⟩
  | 157=>some ⟨x157,[.tmp 4],24,false,8⟩
  | 83=>some ⟨x83,[.cell 2 (some 8)],13,false,8⟩
  | 119=>some ⟨x119,[.cell 4 (some 4)],24,false,8⟩
  | 149=>some ⟨x149,[.cell 2 (some 8)],16,false,8⟩
  | 150=>some ⟨x150,[],10,false,8⟩
  | 162=>some ⟨x162,[.cell 2 (some 8)],14,false,8⟩
  | 163=>some ⟨x163,[.tmp 4],17,false,8⟩
  | 164=>some ⟨x164,[.cell 4 (some 8)],20,false,8⟩
  | 170=>some ⟨x170,[.tmp 2],16,false,8⟩
  | 171=>some ⟨x171,[.cell 2 (some 8)],33,false,8⟩
  | 172=>some ⟨x172,[.tmp 2],23,false,8⟩
  | 176=>some ⟨x176,[.cell 2 (some 8)],60,false,8⟩
  | 177=>some ⟨x177,[.tmp 2,.tmp 3],29,false,8⟩
  | 178=>some ⟨x178,[],15,false,8⟩
  | 179=>some ⟨x179,[.cell 2 (some 4)],19,false,8⟩
  | 180=>some ⟨x180,[.cell 2 (some 4)],10,false,8⟩
  | 181=>some ⟨x181,[.tmp 2],34,false,8⟩
  | 182=>some ⟨x182,[.tmp 2],54,false,8⟩
  | 183=>some ⟨x183,[.cell 2 (some 4)],28,false,8⟩
  | 184=>some ⟨x184,[.cell 2 (some 4)],15,false,8⟩
  | 185=>some ⟨x185,[.tmp 2],50,false,8⟩
  | 186=>some ⟨x186,[.tmp 2],22,false,8⟩
  | 187=>some ⟨x187,[.tmp 2],28,false,8⟩
  | 188=>some ⟨x188,[.tmp 4],8,false,8⟩
  | 189=>some ⟨x189,[.tmp 2],24,false,8⟩
  | 190=>some ⟨x190,[.tmp 4],8,false,8⟩
  | 73=>some ⟨x73,[.cell 4 (some 4)],19,false,8⟩
  | _=>none
theorem tabC_ok : TabOK Try.prog tabC:=by
  intro f t h ags row r row' nw hal hrow hx
  unfold tabC at h
  split at h
  · cases h;exact b56 hal hrow hx
  · cases h;exact b114 hal hrow hx
  · cases h;exact b47 hal hrow hx
  · cases h;exact b57 hal hrow hx
  · cases h;exact b60 hal hrow hx
  · cases h;exact b68 hal hrow hx
  · cases h;exact b104 hal hrow hx
  · cases h;exact b115 hal hrow hx
  · cases h;exact b116 hal hrow hx
  · cases h;exact b117 hal hrow hx
  · cases h;exact b123 hal hrow hx
  · cases h;exact b145 hal hrow hx
  · cases h;exact b147 hal hrow hx
  · cases h;exact b161 hal hrow hx
  · cases h;exact b169 hal hrow hx
  · cases h;exact b174 hal hrow hx
  · cases h;exact b175 hal hrow hx
  · cases h;exact b84 hal hrow hx
  · cases h;exact b132 hal hrow hx
  · cases h;exact b156 hal hrow hx
  · cases h;exact b157 hal hrow hx
  · cases h;exact b83 hal hrow hx
  · cases h;exact b119 hal hrow hx
  · cases h;exact b149 hal hrow hx
  · cases h;exact b150 hal hrow hx
  · cases h;exact b162 hal hrow hx
  · cases h;exact b163 hal hrow hx
  · cases h;exact b164 hal hrow hx
  · cases h;exact b170 hal hrow hx
  · cases h;exact b171 hal hrow hx
  · cases h;exact b172 hal hrow hx
  · cases h;exact b176 hal hrow hx
  · cases h;exact b177 hal hrow hx
  · cases h;exact b178 hal hrow hx
  · cases h;exact b179 hal hrow hx
  · cases h;exact b180 hal hrow hx
  · cases h;exact b181 hal hrow hx
  · cases h;exact b182 hal hrow hx
  · cases h;exact b183 hal hrow hx
  · cases h;exact b184 hal hrow hx
  · cases h;exact b185 hal hrow hx
  · cases h;exact b186 hal hrow hx
  · cases h;exact b187 hal hrow hx
  · cases h;exact b188 hal hrow hx
  · cases h;exact b189 hal hrow hx
  · cases h;exact b190 hal hrow hx
  · cases h;exact b73 hal hrow hx
  · cases h

end Go.Sv
