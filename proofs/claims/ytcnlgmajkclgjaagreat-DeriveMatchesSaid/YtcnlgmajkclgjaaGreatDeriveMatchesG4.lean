/- A part of the proof of the law DeriveMatches: that it answers true for every input, and that the input reads behind the call as before (no condition). -/
import Derived.Test.YtcnlgmajkclgjaaGreatDeriveMatchesG3
import Derived.Test.YtcnlgmajkclgjaaGreatProg
import Derived.Tactics
import Derived.Tactics2
import Derived.Laws.Pointers
set_option linter.all false
set_option linter.unusedSectionVars false
set_option linter.unusedVariables false
set_option linter.unusedSimpArgs false
namespace Go.Sv
open Go Go.Proofs
def x156 : XC:=(.seq (.ops 1 [ (0,⟨some 2,none,.mv (.k (.d (.val (.bool false))))⟩)] (some [0])) (.seq (.ops 7 [ (0,⟨some 7,none,.mv (.t 0)⟩),(1,⟨some 8,none,.nilck (.t 7)⟩),(2,⟨some 9,none,.fadd 1 (.t 8)⟩),(3,⟨some 10,none,.load (some 4) (.t 9)⟩),(4,⟨some 11,none,.build [(.int .u64 0),(.int .u64 0),(.int .u64 0),(.int .u64 0)] []⟩),(5,⟨some 12,none,.eqAgg 4 false (.t 10) (.t 11)⟩),(6,⟨some 3,none,.mv (.t 12)⟩)] (some [0,3])) (.seq (.ops 13 [ (0,⟨some 13,none,.mv (.t 0)⟩),(1,⟨some 14,none,.nilck (.t 13)⟩),(2,⟨some 15,none,.fadd 5 (.t 14)⟩),(3,⟨some 16,none,.load none (.t 15)⟩),(4,⟨some 17,none,.arith .eql (.t 16) (.k (.d (.val (.int .i64 0))))⟩),(5,⟨some 18,none,.mv (.t 17)⟩),(6,⟨some 19,(some (18,true)),.mv (.t 0)⟩),(7,⟨some 20,(some (18,true)),.nilck (.t 19)⟩),(8,⟨some 21,(some (18,true)),.fadd 6 (.t 20)⟩),(9,⟨some 22,(some (18,true)),.load none (.t 21)⟩),(10,⟨some 23,(some (18,true)),.arith .eql (.t 22) (.k (.d (.val (.int .i64 0))))⟩),(11,⟨some 24,none,.pick (.t 18) (.t 23) (.k (.d (.val (.bool false))))⟩),(12,⟨some 4,none,.mv (.t 24)⟩)] (some [0,3,4])) (.seq (.seq (.ops 4 [ (0,⟨some 25,none,.mv (.t 0)⟩),(1,⟨some 26,none,.nilck (.t 25)⟩),(2,⟨some 27,none,.fadd 0 (.t 26)⟩),(3,⟨some 28,none,.load none (.t 27)⟩)] (some [0,3,4,28])) (.block 0 (.seq (.ops 2 [ (0,⟨some 30,none,.arith .eql (.t 28) (.k (.d (.val (.int .i64 1))))⟩),(1,⟨some 29,none,.mv (.t 30)⟩)] (some [0,3,4,28,29])) (.cond (.t 29) (.seq (.ops 13 [ (0,⟨some 31,none,.mv (.t 3)⟩),(1,⟨some 32,none,.mv (.t 31)⟩),(2,⟨some 33,(some (32,true)),.mv (.t 4)⟩),(3,⟨some 34,none,.pick (.t 32) (.t 33) (.k (.d (.val (.bool false))))⟩),(4,⟨some 35,none,.mv (.t 34)⟩),(5,⟨some 36,(some (35,true)),.mv (.t 0)⟩),(6,⟨some 37,(some (35,true)),.nilck (.t 36)⟩),(7,⟨some 38,(some (35,true)),.fadd 7 (.t 37)⟩),(8,⟨some 39,(some (35,true)),.load none (.t 38)⟩),(9,⟨some 40,(some (35,true)),.lenS (.t 39)⟩),(10,⟨some 41,(some (35,true)),.arith .eql (.t 40) (.k (.d (.val (.int .i64 0))))⟩),(11,⟨some 42,none,.pick (.t 35) (.t 41) (.k (.d (.val (.bool false))))⟩),(12,⟨some 2,none,.mv (.t 42)⟩)] (some [2])) .ret) (.seq (.ops 2 [ (0,⟨some 44,none,.arith .eql (.t 28) (.k (.d (.val (.int .i64 2))))⟩),(1,⟨some 43,none,.mv (.t 44)⟩)] (some [0,3,4,28,43])) (.cond (.t 43) (.seq (.ops 10 [ (0,⟨some 45,none,.mv (.t 4)⟩),(1,⟨some 46,none,.mv (.t 45)⟩),(2,⟨some 47,(some (46,true)),.mv (.t 0)⟩),(3,⟨some 48,(some (46,true)),.nilck (.t 47)⟩),(4,⟨some 49,(some (46,true)),.fadd 7 (.t 48)⟩),(5,⟨some 50,(some (46,true)),.load none (.t 49)⟩),(6,⟨some 51,(some (46,true)),.lenS (.t 50)⟩),(7,⟨some 52,(some (46,true)),.arith .eql (.t 51) (.k (.d (.val (.int .i64 0))))⟩),(8,⟨some 53,none,.pick (.t 46) (.t 52) (.k (.d (.val (.bool false))))⟩),(9,⟨some 2,none,.mv (.t 53)⟩)] (some [2])) .ret) (.seq (.seq (.ops 2 [ (0,⟨some 55,none,.arith .eql (.t 28) (.k (.d (.val (.int .i64 3))))⟩),(1,⟨some 54,none,.mv (.t 55)⟩)] (some [0,3,4,28,54])) (.cond (.t 54) .skip (.ops 2 [ (0,⟨some 56,none,.arith .eql (.t 28) (.k (.d (.val (.int .i64 4))))⟩),(1,⟨some 54,none,.mv (.t 56)⟩)] (some [0,3,4,28,54])))) (.cond (.t 54) (.seq (.ops 13 [ (0,⟨some 57,none,.mv (.t 3)⟩),(1,⟨some 58,none,.mv (.t 57)⟩),(2,⟨some 59,(some (58,true)),.mv (.t 4)⟩),(3,⟨some 60,none,.pick (.t 58) (.t 59) (.k (.d (.val (.bool false))))⟩),(4,⟨some 61,none,.mv (.t 60)⟩),(5,⟨some 62,(some (61,true)),.mv (.t 0)⟩),(6,⟨some 63,(some (61,true)),.nilck (.t 62)⟩),(7,⟨some 64,(some (61,true)),.fadd 7 (.t 63)⟩),(8,⟨some 65,(some (61,true)),.load none (.t 64)⟩),(9,⟨some 66,(some (61,true)),.lenS (.t 65)⟩),(10,⟨some 67,(some (61,true)),.arith .geq (.t 66) (.k (.d (.val (.int .i64 2))))⟩),(11,⟨some 68,none,.pick (.t 61) (.t 67) (.k (.d (.val (.bool false))))⟩),(12,⟨some 2,none,.mv (.t 68)⟩)] (some [2])) .ret) (.seq (.ops 2 [ (0,⟨some 70,none,.arith .eql (.t 28) (.k (.d (.val (.int .i64 5))))⟩),(1,⟨some 69,none,.mv (.t 70)⟩)] (some [0,3,69])) (.cond (.t 69) (.seq (.ops 13 [ (0,⟨some 71,none,.mv (.t 0)⟩),(1,⟨some 72,none,.nilck (.t 71)⟩),(2,⟨some 73,none,.fadd 5 (.t 72)⟩),(3,⟨some 74,none,.load none (.t 73)⟩),(4,⟨some 75,none,.arith .geq (.t 74) (.k (.d (.val (.int .i64 0))))⟩),(5,⟨some 76,none,.mv (.t 75)⟩),(6,⟨some 77,(some (76,true)),.mv (.t 0)⟩),(7,⟨some 78,(some (76,true)),.nilck (.t 77)⟩),(8,⟨some 79,(some (76,true)),.fadd 5 (.t 78)⟩),(9,⟨some 80,(some (76,true)),.load none (.t 79)⟩),(10,⟨some 81,(some (76,true)),.arith .leq (.t 80) (.k (.d (.val (.int .i64 20))))⟩),(11,⟨some 82,none,.pick (.t 76) (.t 81) (.k (.d (.val (.bool false))))⟩),(12,⟨some 5,none,.mv (.t 82)⟩)] (some [0,3,5])) (.seq (.ops 24 [ (0,⟨some 83,none,.mv (.t 0)⟩),(1,⟨some 84,none,.nilck (.t 83)⟩),(2,⟨some 85,none,.fadd 6 (.t 84)⟩),(3,⟨some 86,none,.load none (.t 85)⟩),(4,⟨some 87,none,.arith .eql (.t 86) (.k (.d (.val (.int .i64 (-1)))))⟩),(5,⟨some 88,none,.mv (.t 87)⟩),(6,⟨some 89,(some (88,false)),.mv (.t 0)⟩),(7,⟨some 90,(some (88,false)),.nilck (.t 89)⟩),(8,⟨some 91,(some (88,false)),.fadd 6 (.t 90)⟩),(9,⟨some 92,(some (88,false)),.load none (.t 91)⟩),(10,⟨some 93,(some (88,false)),.mv (.t 0)⟩),(11,⟨some 94,(some (88,false)),.nilck (.t 93)⟩),(12,⟨some 95,(some (88,false)),.fadd 5 (.t 94)⟩),(13,⟨some 96,(some (88,false)),.load none (.t 95)⟩),(14,⟨some 97,(some (88,false)),.arith .geq (.t 92) (.t 96)⟩),(15,⟨some 98,(some (88,false)),.mv (.t 97)⟩),(16,⟨some 99,(some (98,true)),.mv (.t 0)⟩),(17,⟨some 100,(some (98,true)),.nilck (.t 99)⟩),(18,⟨some 101,(some (98,true)),.fadd 6 (.t 100)⟩),(19,⟨some 102,(some (98,true)),.load none (.t 101)⟩),(20,⟨some 103,(some (98,true)),.arith .leq (.t 102) (.k (.d (.val (.int .i64 20))))⟩),(21,⟨some 104,(some (88,false)),.pick (.t 98) (.t 103) (.k (.d (.val (.bool false))))⟩),(22,⟨some 105,none,.pick (.t 88) (.k (.d (.val (.bool true)))) (.t 104)⟩),(23,⟨some 6,none,.mv (.t 105)⟩)] (some [0,3,5,6])) (.seq (.ops 16 [ (0,⟨some 106,none,.mv (.t 3)⟩),(1,⟨some 107,none,.mv (.t 106)⟩),(2,⟨some 108,(some (107,true)),.mv (.t 5)⟩),(3,⟨some 109,none,.pick (.t 107) (.t 108) (.k (.d (.val (.bool false))))⟩),(4,⟨some 110,none,.mv (.t 109)⟩),(5,⟨some 111,(some (110,true)),.mv (.t 6)⟩),(6,⟨some 112,none,.pick (.t 110) (.t 111) (.k (.d (.val (.bool false))))⟩),(7,⟨some 113,none,.mv (.t 112)⟩),(8,⟨some 114,(some (113,true)),.mv (.t 0)⟩),(9,⟨some 115,(some (113,true)),.nilck (.t 114)⟩),(10,⟨some 116,(some (113,true)),.fadd 7 (.t 115)⟩),(11,⟨some 117,(some (113,true)),.load none (.t 116)⟩),(12,⟨some 118,(some (113,true)),.lenS (.t 117)⟩),(13,⟨some 119,(some (113,true)),.arith .eql (.t 118) (.k (.d (.val (.int .i64 1))))⟩),(14,⟨some 120,none,.pick (.t 113) (.t 119) (.k (.d (.val (.bool false))))⟩),(15,⟨some 2,none,.mv (.t 120)⟩)] (some [2])) .ret))) .skip)))))))))) (.seq (.ops 1 [ (0,⟨some 2,none,.mv (.k (.d (.val (.bool false))))⟩)] (some [2])) .ret)))))
def md156 : FuncId→Option Nat × Bool
  | _=>(none,false)
def od156 : Nat→List (List Nat) × List Nat × Option (List Nat)
  | 0=>([],[],some [0])
  | 1=>([],[],some [0,3])
  | 2=>([],[],some [0,3,4])
  | 3=>([],[],some [0,3,4,28])
  | 4=>([],[],some [0,3,4,28,29])
  | 5=>([],[],some [2])
  | 6=>([],[],some [0,3,4,28,43])
  | 7=>([],[],some [2])
  | 8=>([],[],some [0,3,4,28,54])
  | 9=>([],[],some [0,3,4,28,54])
  | 10=>([],[],some [2])
  | 11=>([],[],some [0,3,69])
  | 12=>([],[],some [0,3,5])
  | 13=>([[],[0],[0,1],[0,1,2],[0,1,2,3],[0,1,2,3,4],[0,1,2,3,4,5],[0,1,2,3,4,5,6],[0,1,2,3,4,5,6,7],[0,1,2,3,4,5,6,7,8],[0,1,2,3,4,5],[0,1,2,3,4,5,10],[0,1,2,3,4,5,10,11],[0,1,2,3,4,5,10,11,12],[0,1,2,3,4,5,6,7,8,9,10,11,12,13],[0,1,2,3,4,5,6,7,8,9,10,11,12,13,14],[0,1,2,3,4,5,6,7,8,9,10,11,12,13,14,15],[0,1,2,3,4,5,6,7,8,9,10,11,12,13,14,15,16],[0,1,2,3,4,5,6,7,8,9,10,11,12,13,14,15,16,17],[0,1,2,3,4,5,6,7,8,9,10,11,12,13,14,15,16,17,18],[0,1,2,3,4,5,6,7,8,9,10,11,12,13,14,15,16,17,18,19],[0,1,2,3,4,5,6,7,8,9,10,11,12,13,14,15,16,17,18,19,20],[0,1,2,3,4,5,6,7,8,9,10,11,12,13,14,15,16,17,18,19,20,21],[0,1,2,3,4,5,6,7,8,9,10,11,12,13,14,15,16,17,18,19,20,21,22]],[0,1,2,3,4,5,6,7,8,9,10,11,12,13,14,15,16,17,18,19,20,21,22,23],some [0,3,5,6])
  | 14=>([],[],some [2])
  | 15=>([],[],some [2])
  | _=>([],[],none)
theorem b156 {ags : List AV} {row : Option (List DV)} {r : AV} {row' nw : Option (List DV)} (hal : ags.length≤121) (hrow : row'.isSome=true→row.isSome=true) (h : xwp Tryz.prog x156 (retK [.tmp 2] row.isSome r row' nw) (St.init ags row)) : Good Tryz.prog 76 ags row r row' nw :=
  good_of_body' (md:=md156) (od:=od156) Tryz.f76 (by kernel_rfl) (by kernel_rfl) (by kernel_rfl) (by kernel_rfl) (by kernel_rfl) hal hrow h

def x157 : XC:=(.seq (.ops 1 [ (0,⟨some 4,none,.mv (.k (.d (.val (.bool false))))⟩)] (some [0,1])) (.seq (.seq (.ops 1 [ (0,⟨some 5,none,.mv (.t 0)⟩)] (some [1,5])) (.block 0 (.seq (.ops 2 [ (0,⟨some 7,none,.arith .eql (.t 5) (.k (.d (.val (.int .i64 3))))⟩),(1,⟨some 6,none,.mv (.t 7)⟩)] (some [1,5,6])) (.cond (.t 6) (.seq (.ops 11 [ (0,⟨some 8,none,.mv (.t 1)⟩),(1,⟨some 9,none,.arith .eql (.t 8) (.k (.d (.val (.int .i64 1))))⟩),(2,⟨some 10,none,.mv (.t 9)⟩),(3,⟨some 11,(some (10,false)),.mv (.t 1)⟩),(4,⟨some 12,(some (10,false)),.arith .eql (.t 11) (.k (.d (.val (.int .i64 3))))⟩),(5,⟨some 13,none,.pick (.t 10) (.k (.d (.val (.bool true)))) (.t 12)⟩),(6,⟨some 14,none,.mv (.t 13)⟩),(7,⟨some 15,(some (14,false)),.mv (.t 1)⟩),(8,⟨some 16,(some (14,false)),.arith .eql (.t 15) (.k (.d (.val (.int .i64 4))))⟩),(9,⟨some 17,none,.pick (.t 14) (.k (.d (.val (.bool true)))) (.t 16)⟩),(10,⟨some 4,none,.mv (.t 17)⟩)] (some [4])) .ret) (.seq (.ops 2 [ (0,⟨some 19,none,.arith .eql (.t 5) (.k (.d (.val (.int .i64 4))))⟩),(1,⟨some 18,none,.mv (.t 19)⟩)] (some [1,18])) (.cond (.t 18) (.seq (.ops 3 [ (0,⟨some 20,none,.mv (.t 1)⟩),(1,⟨some 21,none,.arith .eql (.t 20) (.k (.d (.val (.int .i64 4))))⟩),(2,⟨some 4,none,.mv (.t 21)⟩)] (some [4])) .ret) .skip)))))) (.seq (.ops 3 [ (0,⟨some 22,none,.mv (.t 1)⟩),(1,⟨some 23,none,.arith .neq (.t 22) (.k (.d (.val (.int .i64 2))))⟩),(2,⟨some 4,none,.mv (.t 23)⟩)] (some [4])) .ret)))
def md157 : FuncId→Option Nat × Bool
  | _=>(none,false)
def od157 : Nat→List (List Nat) × List Nat × Option (List Nat)
  | 0=>([],[],some [0,1])
  | 1=>([],[],some [1,5])
  | 2=>([],[],some [1,5,6])
  | 3=>([],[],some [4])
  | 4=>([],[],some [1,18])
  | 5=>([],[],some [4])
  | 6=>([],[],some [4])
  | _=>([],[],none)
theorem b157 {ags : List AV} {row : Option (List DV)} {r : AV} {row' nw : Option (List DV)} (hal : ags.length≤24) (hrow : row'.isSome=true→row.isSome=true) (h : xwp Tryz.prog x157 (retK [.tmp 4] row.isSome r row' nw) (St.init ags row)) : Good Tryz.prog 77 ags row r row' nw :=
  good_of_body' (md:=md157) (od:=od157) Tryz.f77 (by kernel_rfl) (by kernel_rfl) (by kernel_rfl) (by kernel_rfl) (by kernel_rfl) hal hrow h

def roundG (k s : Int) : Bool:=if k=3 then s == 1 || s == 3 || s == 4 else if k=4 then s == 4 else s != 2
def isZero (a b c d : Int) : Bool:=a == 0 && (b == 0 && (c == 0 && d == 0))
def plainT : T→Bool
  | .node k a b c d mn mx subs =>
    if k=1 then isZero a b c d && (mn == 0 && mx == 0) && subs.length == 0
    else if k=2 then mn == 0 && mx == 0 && subs.length == 0
    else if k=3 ∨ k=4 then isZero a b c d && (mn == 0 && mx == 0) && decide (2≤subs.length)
    else if k=5 then isZero a b c d && (decide (0≤mn) && decide (mn≤20)) && (mx == -1 || decide (mn≤mx) && decide (mx≤20)) && subs.length == 1
    else false
set_option maxRecDepth 100000
set_option maxHeartbeats 4000000
attribute [local irreducible] W E R thenK blockK retK Good xwp aRun
theorem round_good (k s : Int) : Good Tryz.prog 77 [.i k,.i s] none (.b (roundG k s)) none none:=by
  refine b157 (by simp) (by simp) (w_init ?_)
  unfold x157
  repeat' (first|(apply r_mvV;rfl)|(apply r_eql;rfl;rfl;(first|(apply dT;omega)|(apply dF;omega)|rfl))|(apply r_neq;rfl;rfl;(first|(apply dT;omega)|(apply dF;omega)|rfl))|(apply r_pickT;rfl)|(apply r_pickF;rfl)|(apply r_gT;rfl)|(apply r_gF';rfl;rfl)|((apply r_gS (o:=default);rfl)<;>(intro h;try simp only [decide_eq_true_eq,decide_eq_false_iff_not,Bool.not_eq_true,Bool.not_eq_false] at h))|(apply r_nilK)|(apply k_V;rfl)|(apply k_nil)|(apply e_ret (vs:=[.d (.val _)]);rfl)|(apply w_seq)|(apply w_ops;((conv=>lhs;simp only [Nat.reduceAdd])<;>rfl))|((apply w_condS;rfl)<;>(intro h;try simp only [decide_eq_true_eq,decide_eq_false_iff_not,Bool.not_eq_true,Bool.not_eq_false] at h))|(apply e_thenN)|(apply w_block)|(apply e_thenR)|(apply e_blkN)|(apply e_blkR)|(apply w_ret)|(apply w_skip))
  all_goals refine retB (Bool.eq_iff_iff.2 ?_)
  all_goals (simp [roundG, *]<;>omega)
theorem plain_good {cs : List DV} {off : Nat} {t : T} (h : NodeAt cs off t) : Good Tryz.prog 76 [.d (.ptr cs off)] none (.b (plainT t)) none none:=by
  obtain ⟨k,a,b,c,d,mn,mx,subs⟩:=t
  refine b156 (by simp) (by simp) (w_init ?_)
  unfold x156
  repeat' (first|(apply r_mvV;rfl)|(apply r_mvP;rfl)|(apply r_nckD;rfl)|(apply r_faddD;rfl)|(apply r_l;apply ld_kind;assumption;rfl)|(apply r_l;apply ld_mn;assumption;rfl)|(apply r_l;apply ld_mx;assumption;rfl)|(apply r_l;apply ld_subs;assumption;rfl)|(apply r_l;apply ld_set;assumption;rfl)|(apply r_eql;rfl;rfl;(first|(apply dT;omega)|(apply dF;omega)|rfl))|(apply r_leq;rfl;rfl;(first|(apply dT;omega)|(apply dF;omega)|rfl))|(apply r_geq;rfl;rfl;(first|(apply dT;omega)|(apply dF;omega)|rfl))|(apply r_pickT;rfl)|(apply r_pickF;rfl)|(apply r_lenD;rfl)|(apply r_gT;rfl)|(apply r_gF';rfl;rfl)|(apply r_gN';rfl)|((apply r_gS (o:=default);rfl)<;>(intro h;try simp only [decide_eq_true_eq,decide_eq_false_iff_not,Bool.not_eq_true,Bool.not_eq_false] at h))|(apply r_p;rfl)|(apply r_nilK)|(apply k_V;rfl)|(apply k_P;rfl)|(apply k_nil)|(apply e_ret (vs:=[.d (.val _)]);rfl)|(apply w_seq)|(apply w_ops;((conv=>lhs;simp only [Nat.reduceAdd])<;>rfl))|(apply w_condT;rfl)|((apply w_condS;rfl)<;>(intro h;try simp only [decide_eq_true_eq,decide_eq_false_iff_not,Bool.not_eq_true,Bool.not_eq_false] at h))|(apply e_thenN)|(apply w_block)|(apply e_thenR)|(apply e_blkN)|(apply e_blkR)|(apply w_ret)|(apply w_skip))

  all_goals refine retB (Bool.eq_iff_iff.2 ?_)
  all_goals (simp_all [plainT,isZero]<;>omega)
end Go.Sv
namespace Go.Sv
open Go Go.Proofs
def x132 : XC:=(.seq (.ops 1 [ (0,⟨some 4,none,.mv (.k (.d (.val (.bool false))))⟩)] (some [0,1])) (.seq (.seq (.ops 7 [ (0,⟨some 8,none,.mv (.t 1)⟩),(1,⟨some 9,none,.arith .lss (.t 8) (.k (.d (.val (.int .i64 0))))⟩),(2,⟨some 10,none,.mv (.t 9)⟩),(3,⟨some 11,(some (10,false)),.mv (.t 0)⟩),(4,⟨some 12,(some (10,false)),.call 76 [(.t 11)] none false⟩),(5,⟨some 13,(some (10,false)),.un .not (.t 12)⟩),(6,⟨some 14,none,.pick (.t 10) (.k (.d (.val (.bool true)))) (.t 13)⟩)] (some [0,1,14])) (.cond (.t 14) (.seq (.ops 1 [ (0,⟨some 4,none,.mv (.k (.d (.val (.bool false))))⟩)] (some [4])) .ret) .skip)) (.seq (.seq (.ops 6 [ (0,⟨some 15,none,.mv (.t 0)⟩),(1,⟨some 16,none,.nilck (.t 15)⟩),(2,⟨some 17,none,.fadd 7 (.t 16)⟩),(3,⟨some 18,none,.load none (.t 17)⟩),(4,⟨some 19,none,.lenS (.t 18)⟩),(5,⟨some 20,none,.mv (.k (.d (.val (.int .i64 0))))⟩)] (some [0,1,19,20])) (.block 0 (.loop (.seq (.ops 1 [ (0,⟨some 21,none,.arith .lss (.t 20) (.t 19)⟩)] (some [0,1,19,20,21])) (.seq (.cond (.t 21) .skip (.exit 0)) (.seq (.block 1 (.seq (.ops 2 [ (0,⟨some 22,none,.mv (.t 20)⟩),(1,⟨some 5,none,.mv (.t 22)⟩)] (some [0,1,5,19,20])) (.seq (.ops 7 [ (0,⟨some 23,none,.mv (.t 0)⟩),(1,⟨some 24,none,.nilck (.t 23)⟩),(2,⟨some 25,none,.fadd 7 (.t 24)⟩),(3,⟨some 26,none,.load none (.t 25)⟩),(4,⟨some 27,none,.mv (.t 5)⟩),(5,⟨some 28,none,.idxS 8 (.t 26) (.t 27)⟩),(6,⟨some 6,none,.mv (.t 28)⟩)] (some [0,1,6,19,20])) (.seq (.ops 2 [ (0,⟨some 29,none,.mv (.t 1)⟩),(1,⟨some 7,none,.mv (.t 29)⟩)] (some [0,1,6,7,19,20])) (.seq (.seq (.ops 9 [ (0,⟨some 30,none,.mv (.t 0)⟩),(1,⟨some 31,none,.nilck (.t 30)⟩),(2,⟨some 32,none,.fadd 0 (.t 31)⟩),(3,⟨some 33,none,.load none (.t 32)⟩),(4,⟨some 34,none,.mv (.t 6)⟩),(5,⟨some 35,none,.nilck (.t 34)⟩),(6,⟨some 36,none,.fadd 0 (.t 35)⟩),(7,⟨some 37,none,.load none (.t 36)⟩),(8,⟨some 38,none,.call 77 [(.t 33),(.t 37)] none false⟩)] (some [0,1,6,7,19,20,38])) (.cond (.t 38) (.ops 3 [ (0,⟨some 39,none,.mv (.t 7)⟩),(1,⟨some 40,none,.arith .sub (.t 39) (.k (.d (.val (.int .i64 1))))⟩),(2,⟨some 7,none,.mv (.t 40)⟩)] (some [0,1,6,7,19,20])) .skip)) (.seq (.ops 4 [ (0,⟨some 41,none,.mv (.t 6)⟩),(1,⟨some 42,none,.mv (.t 7)⟩),(2,⟨some 43,none,.call 50 [(.t 41),(.t 42)] none false⟩),(3,⟨some 44,none,.un .not (.t 43)⟩)] (some [0,1,19,20,44])) (.cond (.t 44) (.seq (.ops 1 [ (0,⟨some 4,none,.mv (.k (.d (.val (.bool false))))⟩)] (some [4])) .ret) .skip))))))) (.ops 2 [ (0,⟨some 45,none,.arith .add (.t 20) (.k (.d (.val (.int .i64 1))))⟩),(1,⟨some 20,none,.mv (.t 45)⟩)] (some [0,1,19,20])))))))) (.seq (.ops 1 [ (0,⟨some 4,none,.mv (.k (.d (.val (.bool true))))⟩)] (some [4])) .ret))))
def md132 : FuncId→Option Nat × Bool
  | _=>(none,false)
def od132 : Nat→List (List Nat) × List Nat × Option (List Nat)
  | 0=>([],[],some [0,1])
  | 1=>([],[],some [0,1,14])
  | 2=>([],[],some [4])
  | 3=>([],[],some [0,1,19,20])
  | 4=>([],[],some [0,1,19,20,21])
  | 5=>([],[],some [0,1,5,19,20])
  | 6=>([],[],some [0,1,6,19,20])
  | 7=>([],[],some [0,1,6,7,19,20])
  | 8=>([[],[0],[0,1],[0,1,2],[],[4],[4,5],[4,5,6],[0,1,2,3,4,5,6,7]],[0,1,2,3,4,5,6,7,8],some [0,1,6,7,19,20,38])
  | 9=>([],[],some [0,1,6,7,19,20])
  | 10=>([],[],some [0,1,19,20,44])
  | 11=>([],[],some [4])
  | 12=>([],[],some [0,1,19,20])
  | 13=>([],[],some [4])
  | _=>([],[],none)
theorem b132 {ags : List AV} {row : Option (List DV)} {r : AV} {row' nw : Option (List DV)} (hal : ags.length≤46) (hrow : row'.isSome=true→row.isSome=true) (h : xwp Tryz.prog x132 (retK [.tmp 4] row.isSome r row' nw) (St.init ags row)) : Good Tryz.prog 50 ags row r row' nw :=
  good_of_body' (md:=md132) (od:=od132) Tryz.f50 (by kernel_rfl) (by kernel_rfl) (by kernel_rfl) (by kernel_rfl) (by kernel_rfl) hal hrow h

mutual
def fitsT : T→Int→Bool
  | .node k a b c d mn mx subs,left=>decide (0≤left) && plainT (.node k a b c d mn mx subs) && fitsL k subs left
def fitsL (k : Int) : List T→Int→Bool
  | [],_=>true
  | t :: l,left=>fitsT t (if roundG k t.kind then left - 1 else left) && fitsL k l left
end
set_option maxRecDepth 100000
set_option maxHeartbeats 4000000
attribute [local irreducible] W E R KP thenK blockK retK Good xwp aRun
theorem fitsL_drop (k : Int) (l : List T) (left : Int) (i : Nat) (h : i < l.length) : fitsL k (l.drop i) left=(fitsT l[i] (if roundG k l[i].kind then left - 1 else left) && fitsL k (l.drop (i + 1)) left):=by
  rw [List.drop_eq_getElem_cons h,fitsL]
theorem fits_good : ∀ (n : Nat) (t : T),t.cnt≤n→n≤1000000→∀ (cs : List DV) (off : Nat) (left : Int),NodeAt cs off t→left < 9223372036854775808→Good Tryz.prog 50 [.d (.ptr cs off),.i left] none (.b (fitsT t left)) none none:=by
  intro n
  induction n with
  | zero=>intro t ht;have:=cnt_pos t;omega
  | succ n ih =>
  intro t ht hc cs off left hn hl
  obtain ⟨k,a,b,c,d,mn,mx,subs⟩:=t
  have ih' : ∀ i (h : i < subs.length) (left : Int),left < 9223372036854775808→Good Tryz.prog 50 [.d (.ptr (encL subs) (i * 8)),.i left] none (.b (fitsT subs[i] left)) none none:=by
    intro i h left hl
    refine ih _ ?_ (by omega) _ _ _ (NodeAt.sub h) hl
    have:=cntL_get subs i h
    simp only [T.cnt] at ht
    omega
  have hlen : subs.length≤1000000:=by
    have:=cntL_len subs
    simp only [T.cnt] at ht
    omega
  refine b132 (by simp) (by simp) (w_init ?_)
  unfold x132
  repeat' (first|(apply r_mvV;rfl)|(apply r_mvP;rfl)|(apply r_nckD;rfl)|(apply r_faddD;rfl)|(apply r_l;apply ld_subs;assumption;rfl)|(apply r_callD (ds:=[.ptr _ _]);rfl;rfl;apply plain_good;assumption)|(apply r_lss;rfl;rfl;(first|(apply dT;omega)|(apply dF;omega)|rfl))|(apply r_not;rfl;rfl)|(apply r_pickT;rfl)|(apply r_pickF;rfl)|(apply r_lenD;rfl)|(apply r_gT;rfl)|(apply r_gF';rfl;rfl)|((apply r_gS (o:=default);rfl)<;>(intro h;try simp only [decide_eq_true_eq,decide_eq_false_iff_not,Bool.not_eq_true,Bool.not_eq_false] at h))|(apply r_nilK)|(apply k_V;rfl)|(apply k_P;rfl)|(apply k_nil)|(apply e_ret (vs:=[.d (.val _)]);rfl)|(apply w_seq)|(apply w_ops;((conv=>lhs;simp only [Nat.reduceAdd])<;>rfl))|(apply w_condT;rfl)|((apply w_condS;rfl)<;>(intro h;try simp only [decide_eq_true_eq,decide_eq_false_iff_not,Bool.not_eq_true,Bool.not_eq_false] at h))|(apply e_thenN)|(apply w_block)|(apply e_thenR)|(apply w_ret)|(apply w_skip))
  · refine retB (Bool.eq_iff_iff.2 ?_)
    simp [fitsT];omega
  · refine retB ?_
    simp at h
    simp [fitsT,h]
  · simp at h
    apply w_loopI (S:=fun i : Nat=>⟨(((Fr.nil.put 0 (.d (.ptr cs off))).put 1 (.i left)).put 19 (.i subs.length)).put 20 (.i i),Heap.nil,Frz.lo 100,100⟩) (m:=fun i=>subs.length - i)
      (I:=fun i=>i≤subs.length∧fitsT (.node k a b c d mn mx subs) left=fitsL k (subs.drop i) left) (i0:=0)
    · refine ⟨Nat.zero_le _,?_⟩
      simp [fitsT,h];omega
    · exact wk0 (by omega) (FWk.i rfl rfl (FWk.i rfl rfl (FWk.i rfl rfl (FWk.d rfl rfl FWk.nil))))
    intro i K hi hK
    dsimp only
    rcases Nat.lt_or_ge i subs.length with hlt | hge
    · have hs:=NodeAt.sub hlt
      have hd:=fitsL_drop k subs left i hlt
      repeat' (first|(apply r_mvV;rfl)|(apply r_mvP;rfl)|(apply r_nckD;rfl)|(apply r_faddD;rfl)|(apply r_l;apply ld_kind;assumption;rfl)|(apply r_l;apply ld_subs;assumption;rfl)|(apply r_l;apply ld_kind';assumption;rfl)|(apply r_p;apply ix_sub;rfl;rfl;omega)|(apply r_callD (ds:=[.val _,.val _]);rfl;rfl;apply round_good)|(apply r_callD (ds:=[.ptr _ _,.val _]);rfl;rfl;apply ih' i hlt;omega)|(apply r_lss;rfl;rfl;(first|(apply dT;omega)|(apply dF;omega)|rfl))|(apply r_add;rfl;rfl;rfl;omega)|(apply r_sub;rfl;rfl;rfl;omega)|(apply r_not;rfl;rfl)|(apply r_nilK)|(apply k_V;rfl)|(apply k_P;rfl)|(apply k_nil)|(apply e_ret (vs:=[.d (.val _)]);rfl)|(apply w_seq)|(apply w_ops;((conv=>lhs;simp only [Nat.reduceAdd])<;>rfl))|(apply w_condT;rfl)|((apply w_condS;rfl)<;>(intro h;try simp only [decide_eq_true_eq,decide_eq_false_iff_not,Bool.not_eq_true,Bool.not_eq_false] at h))|(apply e_thenN)|(apply w_block)|(apply e_thenR)|(apply e_blkN)|(apply e_blkR)|(apply w_ret)|(apply w_skip))
      all_goals first
        | (refine retB ?_;simp_all;done)
        | (apply e_thenK;apply hK (i + 1);(refine ⟨by omega,?_⟩;simp_all);omega;exact wk0 (by omega) (FWk.i rfl (by omega) (FWk.i rfl rfl (FWk.i rfl rfl (FWk.d rfl rfl FWk.nil)))))
    · repeat' (first|(apply r_mvV;rfl)|(apply r_lss;rfl;rfl;(first|(apply dT;omega)|(apply dF;omega)|rfl))|(apply r_nilK)|(apply k_V;rfl)|(apply k_P;rfl)|(apply k_nil)|(apply e_ret (vs:=[.d (.val _)]);rfl)|(apply w_seq)|(apply w_ops;((conv=>lhs;simp only [Nat.reduceAdd])<;>rfl))|(apply w_condF;rfl)|(apply e_thenN)|(apply e_thenX)|(apply e_blkE)|(apply w_exit)|(apply w_ret))
      refine retB ?_
      rw [hi.2,show i=subs.length by omega,List.drop_length,fitsL]
end Go.Sv
namespace Go.Sv
open Go Go.Proofs
def x84 : XC:=(.seq (.ops 2 [ (0,⟨some 1,none,.box (.t 0)⟩),(1,⟨some 2,none,.mv (.k (.d (.val (.bool false))))⟩)] (some [1])) (.seq (.ops 2 [ (0,⟨some 3,none,.call 50 [(.t 1),(.k (.d (.val (.int .i64 12))))] none false⟩),(1,⟨some 2,none,.mv (.t 3)⟩)] (some [2])) .ret))
def md84 : FuncId→Option Nat × Bool
  | _=>(none,false)
def od84 : Nat→List (List Nat) × List Nat × Option (List Nat)
  | 0=>([],[],some [1])
  | 1=>([],[],some [2])
  | _=>([],[],none)
theorem b84 {ags : List AV} {row : Option (List DV)} {r : AV} {row' nw : Option (List DV)} (hal : ags.length≤4) (hrow : row'.isSome=true→row.isSome=true) (h : xwp Tryz.prog x84 (retK [.tmp 2] row.isSome r row' nw) (St.init ags row)) : Good Tryz.prog 29 ags row r row' nw :=
  good_of_body' (md:=md84) (od:=od84) Tryz.f29 (by kernel_rfl) (by kernel_rfl) (by kernel_rfl) (by kernel_rfl) (by kernel_rfl) hal hrow h

def x136 : XC:=(.seq (.ops 2 [ (0,⟨some 1,none,.box (.t 0)⟩),(1,⟨some 2,none,.mv (.k (.d (.val (.bool false))))⟩)] (some [1])) (.seq (.seq (.ops 2 [ (0,⟨some 3,none,.fadd 0 (.t 1)⟩),(1,⟨some 4,none,.load none (.t 3)⟩)] (some [1,4])) (.block 0 (.seq (.ops 2 [ (0,⟨some 6,none,.arith .eql (.t 4) (.k (.d (.val (.int .i64 1))))⟩),(1,⟨some 5,none,.mv (.t 6)⟩)] (some [1,4,5])) (.cond (.t 5) (.seq (.ops 21 [ (0,⟨some 7,none,.fadd 1 (.t 1)⟩),(1,⟨some 8,none,.load (some 4) (.t 7)⟩),(2,⟨some 9,none,.build [(.int .u64 0),(.int .u64 0),(.int .u64 0),(.int .u64 0)] []⟩),(3,⟨some 10,none,.eqAgg 4 false (.t 8) (.t 9)⟩),(4,⟨some 11,none,.mv (.t 10)⟩),(5,⟨some 12,(some (11,true)),.fadd 5 (.t 1)⟩),(6,⟨some 13,(some (11,true)),.load none (.t 12)⟩),(7,⟨some 14,(some (11,true)),.arith .eql (.t 13) (.k (.d (.val (.int .i64 0))))⟩),(8,⟨some 15,none,.pick (.t 11) (.t 14) (.k (.d (.val (.bool false))))⟩),(9,⟨some 16,none,.mv (.t 15)⟩),(10,⟨some 17,(some (16,true)),.fadd 6 (.t 1)⟩),(11,⟨some 18,(some (16,true)),.load none (.t 17)⟩),(12,⟨some 19,(some (16,true)),.arith .eql (.t 18) (.k (.d (.val (.int .i64 0))))⟩),(13,⟨some 20,none,.pick (.t 16) (.t 19) (.k (.d (.val (.bool false))))⟩),(14,⟨some 21,none,.mv (.t 20)⟩),(15,⟨some 22,(some (21,true)),.fadd 7 (.t 1)⟩),(16,⟨some 23,(some (21,true)),.load none (.t 22)⟩),(17,⟨some 24,(some (21,true)),.lenS (.t 23)⟩),(18,⟨some 25,(some (21,true)),.arith .eql (.t 24) (.k (.d (.val (.int .i64 0))))⟩),(19,⟨some 26,none,.pick (.t 21) (.t 25) (.k (.d (.val (.bool false))))⟩),(20,⟨some 2,none,.mv (.t 26)⟩)] (some [2])) .ret) (.seq (.ops 2 [ (0,⟨some 28,none,.arith .eql (.t 4) (.k (.d (.val (.int .i64 2))))⟩),(1,⟨some 27,none,.mv (.t 28)⟩)] (some [1,4,27])) (.cond (.t 27) (.seq (.ops 15 [ (0,⟨some 29,none,.fadd 5 (.t 1)⟩),(1,⟨some 30,none,.load none (.t 29)⟩),(2,⟨some 31,none,.arith .eql (.t 30) (.k (.d (.val (.int .i64 0))))⟩),(3,⟨some 32,none,.mv (.t 31)⟩),(4,⟨some 33,(some (32,true)),.fadd 6 (.t 1)⟩),(5,⟨some 34,(some (32,true)),.load none (.t 33)⟩),(6,⟨some 35,(some (32,true)),.arith .eql (.t 34) (.k (.d (.val (.int .i64 0))))⟩),(7,⟨some 36,none,.pick (.t 32) (.t 35) (.k (.d (.val (.bool false))))⟩),(8,⟨some 37,none,.mv (.t 36)⟩),(9,⟨some 38,(some (37,true)),.fadd 7 (.t 1)⟩),(10,⟨some 39,(some (37,true)),.load none (.t 38)⟩),(11,⟨some 40,(some (37,true)),.lenS (.t 39)⟩),(12,⟨some 41,(some (37,true)),.arith .eql (.t 40) (.k (.d (.val (.int .i64 0))))⟩),(13,⟨some 42,none,.pick (.t 37) (.t 41) (.k (.d (.val (.bool false))))⟩),(14,⟨some 2,none,.mv (.t 42)⟩)] (some [2])) .ret) (.seq (.seq (.ops 2 [ (0,⟨some 44,none,.arith .eql (.t 4) (.k (.d (.val (.int .i64 3))))⟩),(1,⟨some 43,none,.mv (.t 44)⟩)] (some [1,4,43])) (.cond (.t 43) .skip (.ops 2 [ (0,⟨some 45,none,.arith .eql (.t 4) (.k (.d (.val (.int .i64 4))))⟩),(1,⟨some 43,none,.mv (.t 45)⟩)] (some [1,4,43])))) (.cond (.t 43) (.seq (.ops 21 [ (0,⟨some 46,none,.fadd 1 (.t 1)⟩),(1,⟨some 47,none,.load (some 4) (.t 46)⟩),(2,⟨some 48,none,.build [(.int .u64 0),(.int .u64 0),(.int .u64 0),(.int .u64 0)] []⟩),(3,⟨some 49,none,.eqAgg 4 false (.t 47) (.t 48)⟩),(4,⟨some 50,none,.mv (.t 49)⟩),(5,⟨some 51,(some (50,true)),.fadd 5 (.t 1)⟩),(6,⟨some 52,(some (50,true)),.load none (.t 51)⟩),(7,⟨some 53,(some (50,true)),.arith .eql (.t 52) (.k (.d (.val (.int .i64 0))))⟩),(8,⟨some 54,none,.pick (.t 50) (.t 53) (.k (.d (.val (.bool false))))⟩),(9,⟨some 55,none,.mv (.t 54)⟩),(10,⟨some 56,(some (55,true)),.fadd 6 (.t 1)⟩),(11,⟨some 57,(some (55,true)),.load none (.t 56)⟩),(12,⟨some 58,(some (55,true)),.arith .eql (.t 57) (.k (.d (.val (.int .i64 0))))⟩),(13,⟨some 59,none,.pick (.t 55) (.t 58) (.k (.d (.val (.bool false))))⟩),(14,⟨some 60,none,.mv (.t 59)⟩),(15,⟨some 61,(some (60,true)),.fadd 7 (.t 1)⟩),(16,⟨some 62,(some (60,true)),.load none (.t 61)⟩),(17,⟨some 63,(some (60,true)),.lenS (.t 62)⟩),(18,⟨some 64,(some (60,true)),.arith .geq (.t 63) (.k (.d (.val (.int .i64 2))))⟩),(19,⟨some 65,none,.pick (.t 60) (.t 64) (.k (.d (.val (.bool false))))⟩),(20,⟨some 2,none,.mv (.t 65)⟩)] (some [2])) .ret) (.seq (.ops 2 [ (0,⟨some 67,none,.arith .eql (.t 4) (.k (.d (.val (.int .i64 5))))⟩),(1,⟨some 66,none,.mv (.t 67)⟩)] (some [1,66])) (.cond (.t 66) (.seq (.ops 38 [ (0,⟨some 68,none,.fadd 1 (.t 1)⟩),(1,⟨some 69,none,.load (some 4) (.t 68)⟩),(2,⟨some 70,none,.build [(.int .u64 0),(.int .u64 0),(.int .u64 0),(.int .u64 0)] []⟩),(3,⟨some 71,none,.eqAgg 4 false (.t 69) (.t 70)⟩),(4,⟨some 72,none,.mv (.t 71)⟩),(5,⟨some 73,(some (72,true)),.fadd 7 (.t 1)⟩),(6,⟨some 74,(some (72,true)),.load none (.t 73)⟩),(7,⟨some 75,(some (72,true)),.lenS (.t 74)⟩),(8,⟨some 76,(some (72,true)),.arith .eql (.t 75) (.k (.d (.val (.int .i64 1))))⟩),(9,⟨some 77,none,.pick (.t 72) (.t 76) (.k (.d (.val (.bool false))))⟩),(10,⟨some 78,none,.mv (.t 77)⟩),(11,⟨some 79,(some (78,true)),.fadd 5 (.t 1)⟩),(12,⟨some 80,(some (78,true)),.load none (.t 79)⟩),(13,⟨some 81,(some (78,true)),.arith .geq (.t 80) (.k (.d (.val (.int .i64 0))))⟩),(14,⟨some 82,none,.pick (.t 78) (.t 81) (.k (.d (.val (.bool false))))⟩),(15,⟨some 83,none,.mv (.t 82)⟩),(16,⟨some 84,(some (83,true)),.fadd 5 (.t 1)⟩),(17,⟨some 85,(some (83,true)),.load none (.t 84)⟩),(18,⟨some 86,(some (83,true)),.arith .leq (.t 85) (.k (.d (.val (.int .i64 20))))⟩),(19,⟨some 87,none,.pick (.t 83) (.t 86) (.k (.d (.val (.bool false))))⟩),(20,⟨some 88,none,.mv (.t 87)⟩),(21,⟨some 89,(some (88,true)),.fadd 6 (.t 1)⟩),(22,⟨some 90,(some (88,true)),.load none (.t 89)⟩),(23,⟨some 91,(some (88,true)),.arith .eql (.t 90) (.k (.d (.val (.int .i64 (-1)))))⟩),(24,⟨some 92,(some (88,true)),.mv (.t 91)⟩),(25,⟨some 93,(some (92,false)),.fadd 6 (.t 1)⟩),(26,⟨some 94,(some (92,false)),.load none (.t 93)⟩),(27,⟨some 95,(some (92,false)),.fadd 5 (.t 1)⟩),(28,⟨some 96,(some (92,false)),.load none (.t 95)⟩),(29,⟨some 97,(some (92,false)),.arith .geq (.t 94) (.t 96)⟩),(30,⟨some 98,(some (92,false)),.mv (.t 97)⟩),(31,⟨some 99,(some (98,true)),.fadd 6 (.t 1)⟩),(32,⟨some 100,(some (98,true)),.load none (.t 99)⟩),(33,⟨some 101,(some (98,true)),.arith .leq (.t 100) (.k (.d (.val (.int .i64 20))))⟩),(34,⟨some 102,(some (92,false)),.pick (.t 98) (.t 101) (.k (.d (.val (.bool false))))⟩),(35,⟨some 103,(some (88,true)),.pick (.t 92) (.k (.d (.val (.bool true)))) (.t 102)⟩),(36,⟨some 104,none,.pick (.t 88) (.t 103) (.k (.d (.val (.bool false))))⟩),(37,⟨some 2,none,.mv (.t 104)⟩)] (some [2])) .ret) .skip)))))))))) (.seq (.ops 1 [ (0,⟨some 2,none,.mv (.k (.d (.val (.bool false))))⟩)] (some [2])) .ret)))
def md136 : FuncId→Option Nat × Bool
  | _=>(none,false)
def od136 : Nat→List (List Nat) × List Nat × Option (List Nat)
  | 0=>([],[],some [1])
  | 1=>([],[],some [1,4])
  | 2=>([],[],some [1,4,5])
  | 3=>([],[],some [2])
  | 4=>([],[],some [1,4,27])
  | 5=>([],[],some [2])
  | 6=>([],[],some [1,4,43])
  | 7=>([],[],some [1,4,43])
  | 8=>([],[],some [2])
  | 9=>([],[],some [1,66])
  | 10=>([],[],some [2])
  | 11=>([],[],some [2])
  | _=>([],[],none)
theorem b136 {ags : List AV} {row : Option (List DV)} {r : AV} {row' nw : Option (List DV)} (hal : ags.length≤105) (hrow : row'.isSome=true→row.isSome=true) (h : xwp Tryz.prog x136 (retK [.tmp 2] row.isSome r row' nw) (St.init ags row)) : Good Tryz.prog 31 ags row r row' nw :=
  good_of_body' (md:=md136) (od:=od136) Tryz.f31 (by kernel_rfl) (by kernel_rfl) (by kernel_rfl) (by kernel_rfl) (by kernel_rfl) hal hrow h

def x101 : XC:=(.seq (.ops 3 [ (0,⟨some 2,none,.box (.t 0)⟩),(1,⟨some 3,none,.box (.t 1)⟩),(2,⟨some 4,none,.mv (.k (.d (.val (.bool false))))⟩)] (some [2,3])) (.seq (.seq (.ops 2 [ (0,⟨some 5,none,.fadd 0 (.t 2)⟩),(1,⟨some 6,none,.load none (.t 5)⟩)] (some [3,6])) (.block 0 (.seq (.ops 2 [ (0,⟨some 8,none,.arith .eql (.t 6) (.k (.d (.val (.int .i64 3))))⟩),(1,⟨some 7,none,.mv (.t 8)⟩)] (some [3,6,7])) (.cond (.t 7) (.seq (.ops 14 [ (0,⟨some 9,none,.fadd 0 (.t 3)⟩),(1,⟨some 10,none,.load none (.t 9)⟩),(2,⟨some 11,none,.arith .eql (.t 10) (.k (.d (.val (.int .i64 1))))⟩),(3,⟨some 12,none,.mv (.t 11)⟩),(4,⟨some 13,(some (12,false)),.fadd 0 (.t 3)⟩),(5,⟨some 14,(some (12,false)),.load none (.t 13)⟩),(6,⟨some 15,(some (12,false)),.arith .eql (.t 14) (.k (.d (.val (.int .i64 3))))⟩),(7,⟨some 16,none,.pick (.t 12) (.k (.d (.val (.bool true)))) (.t 15)⟩),(8,⟨some 17,none,.mv (.t 16)⟩),(9,⟨some 18,(some (17,false)),.fadd 0 (.t 3)⟩),(10,⟨some 19,(some (17,false)),.load none (.t 18)⟩),(11,⟨some 20,(some (17,false)),.arith .eql (.t 19) (.k (.d (.val (.int .i64 4))))⟩),(12,⟨some 21,none,.pick (.t 17) (.k (.d (.val (.bool true)))) (.t 20)⟩),(13,⟨some 4,none,.mv (.t 21)⟩)] (some [4])) .ret) (.seq (.ops 2 [ (0,⟨some 23,none,.arith .eql (.t 6) (.k (.d (.val (.int .i64 4))))⟩),(1,⟨some 22,none,.mv (.t 23)⟩)] (some [3,22])) (.cond (.t 22) (.seq (.ops 4 [ (0,⟨some 24,none,.fadd 0 (.t 3)⟩),(1,⟨some 25,none,.load none (.t 24)⟩),(2,⟨some 26,none,.arith .eql (.t 25) (.k (.d (.val (.int .i64 4))))⟩),(3,⟨some 4,none,.mv (.t 26)⟩)] (some [4])) .ret) .skip)))))) (.seq (.ops 4 [ (0,⟨some 27,none,.fadd 0 (.t 3)⟩),(1,⟨some 28,none,.load none (.t 27)⟩),(2,⟨some 29,none,.arith .neq (.t 28) (.k (.d (.val (.int .i64 2))))⟩),(3,⟨some 4,none,.mv (.t 29)⟩)] (some [4])) .ret)))
def md101 : FuncId→Option Nat × Bool
  | _=>(none,false)
def od101 : Nat→List (List Nat) × List Nat × Option (List Nat)
  | 0=>([],[],some [2,3])
  | 1=>([],[],some [3,6])
  | 2=>([],[],some [3,6,7])
  | 3=>([],[],some [4])
  | 4=>([],[],some [3,22])
  | 5=>([],[],some [4])
  | 6=>([],[],some [4])
  | _=>([],[],none)
theorem b101 {ags : List AV} {row : Option (List DV)} {r : AV} {row' nw : Option (List DV)} (hal : ags.length≤30) (hrow : row'.isSome=true→row.isSome=true) (h : xwp Tryz.prog x101 (retK [.tmp 4] row.isSome r row' nw) (St.init ags row)) : Good Tryz.prog 32 ags row r row' nw :=
  good_of_body' (md:=md101) (od:=od101) Tryz.f32 (by kernel_rfl) (by kernel_rfl) (by kernel_rfl) (by kernel_rfl) (by kernel_rfl) hal hrow h

def x87 : XC:=(.seq (.ops 2 [ (0,⟨some 1,none,.box (.t 0)⟩),(1,⟨some 2,none,.mv (.k (.d (.val (.int .i64 0))))⟩)] (some [1])) (.seq (.seq (.ops 3 [ (0,⟨some 6,none,.load (some 8) (.t 1)⟩),(1,⟨some 7,none,.call 31 [(.t 6)] none false⟩),(2,⟨some 8,none,.un .not (.t 7)⟩)] (some [1,8])) (.cond (.t 8) (.seq (.ops 1 [ (0,⟨some 2,none,.mv (.k (.d (.val (.int .i64 (-1)))))⟩)] (some [2])) .ret) .skip)) (.seq (.ops 1 [ (0,⟨some 3,none,.mv (.k (.d (.val (.int .i64 0))))⟩)] (some [1,3])) (.seq (.seq (.ops 1 [ (0,⟨some 4,none,.mv (.k (.d (.val (.int .i64 0))))⟩)] (some [1,3,4])) (.block 0 (.loop (.seq (.seq (.ops 5 [ (0,⟨some 9,none,.mv (.t 4)⟩),(1,⟨some 10,none,.fadd 7 (.t 1)⟩),(2,⟨some 11,none,.load none (.t 10)⟩),(3,⟨some 12,none,.lenS (.t 11)⟩),(4,⟨some 13,none,.arith .lss (.t 9) (.t 12)⟩)] (some [1,3,4,13])) (.cond (.t 13) .skip (.exit 0))) (.seq (.block 1 (.seq (.ops 7 [ (0,⟨some 16,none,.fadd 7 (.t 1)⟩),(1,⟨some 17,none,.load none (.t 16)⟩),(2,⟨some 18,none,.mv (.t 4)⟩),(3,⟨some 19,none,.idxS 8 (.t 17) (.t 18)⟩),(4,⟨some 20,none,.load (some 8) (.t 19)⟩),(5,⟨some 21,none,.call 18 [(.t 20)] none false⟩),(6,⟨some 5,none,.mv (.t 21)⟩)] (some [1,3,4,5])) (.seq (.seq (.ops 2 [ (0,⟨some 22,none,.mv (.t 5)⟩),(1,⟨some 23,none,.arith .lss (.t 22) (.k (.d (.val (.int .i64 0))))⟩)] (some [1,3,4,5,23])) (.cond (.t 23) (.seq (.ops 1 [ (0,⟨some 2,none,.mv (.k (.d (.val (.int .i64 (-1)))))⟩)] (some [2])) .ret) .skip)) (.seq (.seq (.ops 7 [ (0,⟨some 24,none,.load (some 8) (.t 1)⟩),(1,⟨some 25,none,.fadd 7 (.t 1)⟩),(2,⟨some 26,none,.load none (.t 25)⟩),(3,⟨some 27,none,.mv (.t 4)⟩),(4,⟨some 28,none,.idxS 8 (.t 26) (.t 27)⟩),(5,⟨some 29,none,.load (some 8) (.t 28)⟩),(6,⟨some 30,none,.call 32 [(.t 24),(.t 29)] none false⟩)] (some [1,3,4,5,30])) (.cond (.t 30) (.ops 3 [ (0,⟨some 31,none,.mv (.t 5)⟩),(1,⟨some 32,none,.arith .add (.t 31) (.k (.d (.val (.int .i64 1))))⟩),(2,⟨some 5,none,.mv (.t 32)⟩)] (some [1,3,4,5])) .skip)) (.ops 4 [ (0,⟨some 33,none,.mv (.t 3)⟩),(1,⟨some 34,none,.mv (.t 5)⟩),(2,⟨some 35,none,.max [(.t 33),(.t 34)]⟩),(3,⟨some 3,none,.mv (.t 35)⟩)] (some [1,3,4])))))) (.ops 3 [ (0,⟨some 14,none,.mv (.t 4)⟩),(1,⟨some 15,none,.arith .add (.t 14) (.k (.d (.val (.int .i64 1))))⟩),(2,⟨some 4,none,.mv (.t 15)⟩)] (some [1,3,4]))))))) (.seq (.ops 2 [ (0,⟨some 36,none,.mv (.t 3)⟩),(1,⟨some 2,none,.mv (.t 36)⟩)] (some [2])) .ret)))))
def md87 : FuncId→Option Nat × Bool
  | _=>(none,false)
def od87 : Nat→List (List Nat) × List Nat × Option (List Nat)
  | 0=>([],[],some [1])
  | 1=>([],[],some [1,8])
  | 2=>([],[],some [2])
  | 3=>([],[],some [1,3])
  | 4=>([],[],some [1,3,4])
  | 5=>([],[],some [1,3,4,13])
  | 6=>([],[],some [1,3,4])
  | 7=>([],[],some [1,3,4,5])
  | 8=>([],[],some [1,3,4,5,23])
  | 9=>([],[],some [2])
  | 10=>([[],[],[1],[],[1,2,3],[1,2,3,4],[0,1,2,3,4,5]],[0,1,2,3,4,5,6],some [1,3,4,5,30])
  | 11=>([],[],some [1,3,4,5])
  | 12=>([],[],some [1,3,4])
  | 13=>([],[],some [2])
  | _=>([],[],none)
theorem b87 {ags : List AV} {row : Option (List DV)} {r : AV} {row' nw : Option (List DV)} (hal : ags.length≤37) (hrow : row'.isSome=true→row.isSome=true) (h : xwp Tryz.prog x87 (retK [.tmp 2] row.isSome r row' nw) (St.init ags row)) : Good Tryz.prog 18 ags row r row' nw :=
  good_of_body' (md:=md87) (od:=od87) Tryz.f18 (by kernel_rfl) (by kernel_rfl) (by kernel_rfl) (by kernel_rfl) (by kernel_rfl) hal hrow h

def x32 : XC:=(.seq (.ops 2 [ (0,⟨some 1,none,.box (.t 0)⟩),(1,⟨some 2,none,.mv (.k (.d (.val (.bool false))))⟩)] (some [1])) (.seq (.ops 3 [ (0,⟨some 4,none,.load (some 8) (.t 1)⟩),(1,⟨some 5,none,.call 18 [(.t 4)] none false⟩),(2,⟨some 3,none,.mv (.t 5)⟩)] (some [3])) (.seq (.ops 7 [ (0,⟨some 6,none,.mv (.t 3)⟩),(1,⟨some 7,none,.arith .geq (.t 6) (.k (.d (.val (.int .i64 0))))⟩),(2,⟨some 8,none,.mv (.t 7)⟩),(3,⟨some 9,(some (8,true)),.mv (.t 3)⟩),(4,⟨some 10,(some (8,true)),.arith .leq (.t 9) (.k (.d (.val (.int .i64 12))))⟩),(5,⟨some 11,none,.pick (.t 8) (.t 10) (.k (.d (.val (.bool false))))⟩),(6,⟨some 2,none,.mv (.t 11)⟩)] (some [2])) .ret)))
def md32 : FuncId→Option Nat × Bool
  | _=>(none,false)
def od32 : Nat→List (List Nat) × List Nat × Option (List Nat)
  | 0=>([],[],some [1])
  | 1=>([],[],some [3])
  | 2=>([],[],some [2])
  | _=>([],[],none)
theorem b32 {ags : List AV} {row : Option (List DV)} {r : AV} {row' nw : Option (List DV)} (hal : ags.length≤12) (hrow : row'.isSome=true→row.isSome=true) (h : xwp Tryz.prog x32 (retK [.tmp 2] row.isSome r row' nw) (St.init ags row)) : Good Tryz.prog 6 ags row r row' nw :=
  good_of_body' (md:=md32) (od:=od32) Tryz.f6 (by kernel_rfl) (by kernel_rfl) (by kernel_rfl) (by kernel_rfl) (by kernel_rfl) hal hrow h

set_option maxRecDepth 100000
set_option maxHeartbeats 4000000
attribute [local irreducible] W E R KP thenK blockK retK Good xwp aRun
theorem bare_good (t : T) : Good Tryz.prog 31 [nodeA t] none (.b (plainT t)) none none:=by
  obtain ⟨k,a,b,c,d,mn,mx,subs⟩:=t
  simp only [nodeA,encN,List.map]
  refine b136 (by simp) (by simp) (w_init ?_)
  unfold x136
  repeat' (first|(apply r_mvV;rfl)|(apply r_faddL;rfl)|(apply r_ldL;rfl;rfl;rfl)|(apply r_eql;rfl;rfl;(first|(apply dT;omega)|(apply dF;omega)|rfl))|(apply r_leq;rfl;rfl;(first|(apply dT;omega)|(apply dF;omega)|rfl))|(apply r_geq;rfl;rfl;(first|(apply dT;omega)|(apply dF;omega)|rfl))|(apply r_pickT;rfl)|(apply r_pickF;rfl)|(apply r_lenD;rfl)|(apply r_gT;rfl)|(apply r_gF';rfl;rfl)|(apply r_gN';rfl)|((apply r_gS (o:=default);rfl)<;>(intro h;try simp only [decide_eq_true_eq,decide_eq_false_iff_not,Bool.not_eq_true,Bool.not_eq_false] at h))|(apply r_box;((conv=>lhs;simp only [Nat.reduceAdd])<;>rfl);rfl;rfl;rfl)|(apply r_p;rfl)|(apply r_nilK)|(apply k_V;rfl)|(apply k_PL;rfl)|(apply k_nil)|(apply e_ret (vs:=[.d (.val _)]);rfl)|(apply w_seq)|(apply w_ops;((conv=>lhs;simp only [Nat.reduceAdd])<;>rfl))|(apply w_condT;rfl)|((apply w_condS;rfl)<;>(intro h;try simp only [decide_eq_true_eq,decide_eq_false_iff_not,Bool.not_eq_true,Bool.not_eq_false] at h))|(apply e_thenN)|(apply w_block)|(apply e_thenR)|(apply e_blkN)|(apply e_blkR)|(apply w_ret)|(apply w_skip))
  all_goals refine retB (Bool.eq_iff_iff.2 ?_)
  all_goals (simp_all [plainT,isZero]<;>omega)
theorem round8_good (t u : T) : Good Tryz.prog 32 [nodeA t,nodeA u] none (.b (roundG t.kind u.kind)) none none:=by
  obtain ⟨k,a,b,c,d,mn,mx,subs⟩:=t
  obtain ⟨k',a',b',c',d',mn',mx',subs'⟩:=u
  simp only [nodeA,encN,List.map,T.kind]
  refine b101 (by simp) (by simp) (w_init ?_)
  unfold x101
  repeat' (first|(apply r_mvV;rfl)|(apply r_faddL;rfl)|(apply r_ldL;rfl;rfl;rfl)|(apply r_eql;rfl;rfl;(first|(apply dT;omega)|(apply dF;omega)|rfl))|(apply r_neq;rfl;rfl;(first|(apply dT;omega)|(apply dF;omega)|rfl))|(apply r_pickT;rfl)|(apply r_pickF;rfl)|(apply r_gT;rfl)|(apply r_gF';rfl;rfl)|((apply r_gS (o:=default);rfl)<;>(intro h;try simp only [decide_eq_true_eq,decide_eq_false_iff_not,Bool.not_eq_true,Bool.not_eq_false] at h))|(apply r_box;((conv=>lhs;simp only [Nat.reduceAdd])<;>rfl);rfl;rfl;rfl)|(apply r_nilK)|(apply k_V;rfl)|(apply k_PL;rfl)|(apply k_nil)|(apply e_ret (vs:=[.d (.val _)]);rfl)|(apply w_seq)|(apply w_ops;((conv=>lhs;simp only [Nat.reduceAdd])<;>rfl))|((apply w_condS;rfl)<;>(intro h;try simp only [decide_eq_true_eq,decide_eq_false_iff_not,Bool.not_eq_true,Bool.not_eq_false] at h))|(apply e_thenN)|(apply w_block)|(apply e_thenR)|(apply e_blkN)|(apply e_blkR)|(apply w_ret)|(apply w_skip))
  all_goals refine retB (Bool.eq_iff_iff.2 ?_)
  all_goals (simp [roundG, *]<;>omega)
mutual
def openT : T→Int
  | .node k a b c d mn mx subs=>if plainT (.node k a b c d mn mx subs)=true then openL k subs 0 else -1
def openL (k : Int) : List T→Int→Int
  | [],m=>m
  | t :: l,m=>if openT t < 0 then -1 else openL k l (max m (if roundG k t.kind=true then openT t + 1 else openT t))
end
mutual
theorem openT_cnt : ∀ t : T,openT t≤t.cnt
  | .node k a b c d mn mx subs=>by
    have:=openL_cnt k subs 0
    simp only [openT,T.cnt]
    split<;>omega
theorem openL_cnt (k : Int) : ∀ (l : List T) (m : Int),openL k l m≤max m (cntL l + 1)
  | [],m=>by simp [openL];omega
  | t :: l,m=>by
    have h1:=openT_cnt t
    simp only [openL,cntL]
    split
    · omega
    · refine Int.le_trans (openL_cnt k l _) ?_
      have:=cnt_pos t
      split<;>omega
end
theorem openL_drop (k : Int) (l : List T) (m : Int) (i : Nat) (h : i < l.length) : openL k (l.drop i) m=if openT l[i] < 0 then -1 else openL k (l.drop (i + 1)) (max m (if roundG k l[i].kind=true then openT l[i] + 1 else openT l[i])):=by
  rw [List.drop_eq_getElem_cons h,openL]
theorem open_good : ∀ (n : Nat) (t : T),t.cnt≤n→n≤1000000→Good Tryz.prog 18 [nodeA t] none (.i (openT t)) none none:=by
  intro n
  induction n with
  | zero=>intro t ht;have:=cnt_pos t;omega
  | succ n ih =>
  intro t ht hc
  obtain ⟨k,a,b,c,d,mn,mx,subs⟩:=t
  have ih' : ∀ i (h : i < subs.length),Good Tryz.prog 18 [nodeA subs[i]] none (.i (openT subs[i])) none none:=by
    intro i h
    refine ih _ ?_ (by omega)
    have:=cntL_get subs i h
    simp only [T.cnt] at ht
    omega
  have hlen : subs.length≤1000000:=by
    have:=cntL_len subs
    simp only [T.cnt] at ht
    omega
  have hcnt : ∀ i (h : i < subs.length),openT subs[i]≤1000000:=by
    intro i h
    have:=cntL_get subs i h
    have:=openT_cnt subs[i]
    simp only [T.cnt] at ht
    omega
  have e0 : nodeA (.node k a b c d mn mx subs)=.agg [.i k,.d (.val (.int .u64 a)),.d (.val (.int .u64 b)),.d (.val (.int .u64 c)),.d (.val (.int .u64 d)),.i mn,.i mx,.d (.sl (encL subs) subs.length)]:=rfl
  rw [e0]
  refine b87 (by simp) (by simp) (w_init ?_)
  unfold x87
  repeat' (first|(apply r_mvV;rfl)|(apply r_callA;rfl;rfl;apply bare_good (t:=.node k a b c d mn mx subs))|(apply r_ldL;rfl;rfl;rfl)|(apply r_not;rfl;rfl)|(apply r_box;((conv=>lhs;simp only [Nat.reduceAdd])<;>rfl);rfl;rfl;rfl)|(apply r_nilK)|(apply k_V;rfl)|(apply k_PL;rfl)|(apply k_nil)|(apply e_ret (vs:=[.d (.val _)]);rfl)|(apply w_seq)|(apply w_ops;((conv=>lhs;simp only [Nat.reduceAdd])<;>rfl))|((apply w_condS;rfl)<;>(intro h;try simp only [decide_eq_true_eq,decide_eq_false_iff_not,Bool.not_eq_true,Bool.not_eq_false] at h))|(apply e_thenN)|(apply w_block)|(apply e_thenR)|(apply w_ret)|(apply w_skip))
  · refine retI ?_
    simp at h
    simp [openT,h]
  · simp at h
    apply w_loopI (ι:=Nat × Int) (S:=fun p=>⟨((Fr.nil.put 1 (.ptrL 1 0)).put 3 (.i p.2)).put 4 (.i p.1),Heap.nil.put 1 [.i k,.d (.val (.int .u64 a)),.d (.val (.int .u64 b)),.d (.val (.int .u64 c)),.d (.val (.int .u64 d)),.i mn,.i mx,.d (.sl (encL subs) subs.length)],Frz.but 100 1,100⟩) (m:=fun p=>subs.length - p.1)
      (I:=fun p=>p.1≤subs.length∧0≤p.2∧p.2≤1000001∧openT (.node k a b c d mn mx subs)=openL k (subs.drop p.1) p.2) (i0:=(0,0))
    · refine ⟨Nat.zero_le _,by simp,by simp,?_⟩
      simp [openT,h]
    · exact wk1D (by omega) (by omega) rfl rfl rfl (FWk.i rfl rfl (FWk.i rfl rfl (FWk.ptr rfl rfl rfl (by omega) rfl FWk.nil)))
    rintro ⟨i,m⟩ K hi hK
    dsimp only at hi hK ⊢
    rcases Nat.lt_or_ge i subs.length with hlt | hge
    · have hs:=NodeAt.sub hlt
      have hd:=openL_drop k subs m i hlt
      have hq:=hcnt i hlt
      repeat' (first|(apply r_mvV;rfl)|(apply r_faddL;rfl)|(apply r_l;apply ld_node';assumption;rfl)|(apply r_p;apply ix_sub;rfl;rfl;omega)|(apply r_callA (ags:=[nodeA subs[i]]);rfl;simp [nodeA_nrm];apply ih' i hlt)|(apply r_callA (ags:=[nodeA (.node k a b c d mn mx subs),nodeA subs[i]]);rfl;simp [nodeA_nrm];apply round8_good)|(apply r_ldL;rfl;rfl;rfl)|(apply r_lss;rfl;rfl;(first|(apply dT;omega)|(apply dF;omega)|rfl))|(apply r_add;rfl;rfl;rfl;omega)|(apply r_max2;rfl;rfl;rfl)|(apply r_lenD;rfl)|(apply r_nilK)|(apply k_V;rfl)|(apply k_PL;rfl)|(apply k_nil)|(apply e_ret (vs:=[.d (.val _)]);rfl)|(apply w_seq)|(apply w_ops;((conv=>lhs;simp only [Nat.reduceAdd])<;>rfl))|(apply w_condT;rfl)|((apply w_condS;rfl)<;>(intro h;try simp only [decide_eq_true_eq,decide_eq_false_iff_not,Bool.not_eq_true,Bool.not_eq_false] at h))|(apply e_thenN)|(apply w_block)|(apply e_thenR)|(apply e_blkN)|(apply e_blkR)|(apply w_ret)|(apply w_skip))
      · refine retI ?_
        rw [hi.2.2.2,hd,if_pos h]
      all_goals rename_i h1
      all_goals rw [if_neg h1] at hd
      all_goals apply e_thenK
      · rw [show roundG k subs[i].kind=true from h] at hd
        apply hK (i + 1,max m (openT subs[i] + 1))
        · refine ⟨by omega,by omega,by omega,?_⟩
          rw [hi.2.2.2,hd];rfl
        · dsimp only;omega
        · exact wk1D (by omega) (by omega) rfl rfl rfl (FWk.i rfl (by omega) (FWk.i rfl rfl (FWk.ptr rfl rfl rfl (by omega) rfl FWk.nil)))
      · rw [show roundG k subs[i].kind=false from h] at hd
        apply hK (i + 1,max m (openT subs[i]))
        · refine ⟨by omega,by omega,by omega,?_⟩
          rw [hi.2.2.2,hd];rfl
        · dsimp only;omega
        · exact wk1D (by omega) (by omega) rfl rfl rfl (FWk.i rfl (by omega) (FWk.i rfl rfl (FWk.ptr rfl rfl rfl (by omega) rfl FWk.nil)))
    · repeat' (first|(apply r_mvV;rfl)|(apply r_faddL;rfl)|(apply r_ldL;rfl;rfl;rfl)|(apply r_lss;rfl;rfl;(first|(apply dT;omega)|(apply dF;omega)|rfl))|(apply r_lenD;rfl)|(apply r_nilK)|(apply k_V;rfl)|(apply k_PL;rfl)|(apply k_nil)|(apply e_ret (vs:=[.d (.val _)]);rfl)|(apply w_seq)|(apply w_ops;((conv=>lhs;simp only [Nat.reduceAdd])<;>rfl))|(apply w_condF;rfl)|(apply e_thenN)|(apply e_thenX)|(apply e_blkE)|(apply w_exit)|(apply w_ret))
      refine retI ?_
      rw [hi.2.2.2,show i=subs.length by omega,List.drop_length,openL]
def rightT (t : T) : Bool:=decide (0≤openT t) && decide (openT t≤12)
theorem right8_good (t : T) (h : t.cnt≤1000000) : Good Tryz.prog 6 [nodeA t] none (.b (rightT t)) none none:=by
  have:=open_good 1000000 t h (by omega)
  obtain ⟨k,a,b,c,d,mn,mx,subs⟩:=t
  have e0 : nodeA (.node k a b c d mn mx subs)=.agg [.i k,.d (.val (.int .u64 a)),.d (.val (.int .u64 b)),.d (.val (.int .u64 c)),.d (.val (.int .u64 d)),.i mn,.i mx,.d (.sl (encL subs) subs.length)]:=rfl
  rw [e0]
  refine b32 (by simp) (by simp) (w_init ?_)
  unfold x32
  repeat' (first|(apply r_mvV;rfl)|(apply r_callA;rfl;rfl;exact this)|(apply r_ldL;rfl;rfl;rfl)|(apply r_leq;rfl;rfl;(first|(apply dT;omega)|(apply dF;omega)|rfl))|(apply r_geq;rfl;rfl;(first|(apply dT;omega)|(apply dF;omega)|rfl))|(apply r_pickT;rfl)|(apply r_pickF;rfl)|(apply r_gT;rfl)|(apply r_gF';rfl;rfl)|((apply r_gS (o:=default);rfl)<;>(intro h;try simp only [decide_eq_true_eq,decide_eq_false_iff_not,Bool.not_eq_true,Bool.not_eq_false] at h))|(apply r_box;((conv=>lhs;simp only [Nat.reduceAdd])<;>rfl);rfl;rfl;rfl)|(apply r_nilK)|(apply k_V;rfl)|(apply k_PL;rfl)|(apply k_nil)|(apply e_ret (vs:=[.d (.val _)]);rfl)|(apply w_seq)|(apply w_ops;((conv=>lhs;simp only [Nat.reduceAdd])<;>rfl))|(apply e_thenN)|(apply w_ret))
  all_goals refine retB (Bool.eq_iff_iff.2 ?_)
  all_goals (simp_all [rightT]<;>omega)
theorem right_good (t : T) (h : t.cnt≤1000000) : Good Tryz.prog 29 [nodeA t] none (.b (fitsT t 12)) none none:=by
  obtain ⟨k,a,b,c,d,mn,mx,subs⟩:=t
  have e0 : nodeA (.node k a b c d mn mx subs)=.agg [.i k,.d (.val (.int .u64 a)),.d (.val (.int .u64 b)),.d (.val (.int .u64 c)),.d (.val (.int .u64 d)),.i mn,.i mx,.d (.sl (encL subs) subs.length)]:=rfl
  rw [e0]
  refine b84 (by simp) (by simp) (w_init ?_)
  unfold x84
  repeat' (first|(apply r_mvV;rfl)|(apply r_call (bs:=[.d (.ptr (encN (.node k a b c d mn mx subs)) 0),.i 12]) (us:=[1]);rfl;rfl;exact fits_good 1000000 _ h (by omega) _ _ _ (NodeAt.self _) (by omega);rfl)|(apply r_box;((conv=>lhs;simp only [Nat.reduceAdd])<;>rfl);rfl;rfl;rfl)|(apply r_nilK)|(apply k_V;rfl)|(apply k_PL;rfl)|(apply k_nil)|(apply e_ret (vs:=[.d (.val _)]);rfl)|(apply w_seq)|(apply w_ops;((conv=>lhs;simp only [Nat.reduceAdd])<;>rfl))|(apply e_thenN)|(apply w_ret))
  exact retB rfl
end Go.Sv
namespace Go.Sv
open Go Go.Proofs
def x85 : XC:=(.seq (.ops 1 [ (0,⟨some 2,none,.mv (.k (.d (.val (.slice none 0 0))))⟩)] (some [0])) (.seq (.ops 5 [ (0,⟨some 3,none,.mv (.t 0)⟩),(1,⟨some 4,none,.lenT (.t 3)⟩),(2,⟨some 5,none,.arith .add (.t 4) (.k (.d (.val (.int .i64 1))))⟩),(3,⟨some 6,none,.mks [(.bool false)] 1 (.t 5) (.t 5)⟩),(4,⟨some 2,none,.mv (.t 6)⟩)] (some [2])) .ret))
def md85 : FuncId→Option Nat × Bool
  | _=>(none,false)
def od85 : Nat→List (List Nat) × List Nat × Option (List Nat)
  | 0=>([],[],some [0])
  | 1=>([],[],some [2])
  | _=>([],[],none)
theorem b85 {ags : List AV} {row : Option (List DV)} {r : AV} {row' nw : Option (List DV)} (hal : ags.length≤7) (hrow : row'.isSome=true→row.isSome=true) (h : xwp Tryz.prog x85 (retK [.tmp 2] row.isSome r row' nw) (St.init ags row)) : Good Tryz.prog 59 ags row r row' nw :=
  good_of_body' (md:=md85) (od:=od85) Tryz.f59 (by kernel_rfl) (by kernel_rfl) (by kernel_rfl) (by kernel_rfl) (by kernel_rfl) hal hrow h

def x158 : XC:=(.seq (.ops 1 [ (0,⟨some 2,none,.mv (.k (.d (.val (.bool false))))⟩)] (some [0])) (.seq (.seq (.ops 3 [ (0,⟨some 5,none,.mv (.t 0)⟩),(1,⟨some 6,none,.lenS (.t 5)⟩),(2,⟨some 7,none,.mv (.k (.d (.val (.int .i64 0))))⟩)] (some [5,6,7])) (.block 0 (.loop (.seq (.ops 1 [ (0,⟨some 8,none,.arith .lss (.t 7) (.t 6)⟩)] (some [5,6,7,8])) (.seq (.cond (.t 8) .skip (.exit 0)) (.seq (.block 1 (.seq (.ops 3 [ (0,⟨some 9,none,.idxS 1 (.t 5) (.t 7)⟩),(1,⟨some 10,none,.load none (.t 9)⟩),(2,⟨some 4,none,.mv (.t 10)⟩)] (some [4,5,6,7])) (.seq (.ops 1 [ (0,⟨some 11,none,.mv (.t 4)⟩)] (some [5,6,7,11])) (.cond (.t 11) (.seq (.ops 1 [ (0,⟨some 2,none,.mv (.k (.d (.val (.bool true))))⟩)] (some [2])) .ret) .skip)))) (.ops 2 [ (0,⟨some 12,none,.arith .add (.t 7) (.k (.d (.val (.int .i64 1))))⟩),(1,⟨some 7,none,.mv (.t 12)⟩)] (some [5,6,7])))))))) (.seq (.ops 1 [ (0,⟨some 2,none,.mv (.k (.d (.val (.bool false))))⟩)] (some [2])) .ret)))
def md158 : FuncId→Option Nat × Bool
  | _=>(none,false)
def od158 : Nat→List (List Nat) × List Nat × Option (List Nat)
  | 0=>([],[],some [0])
  | 1=>([],[],some [5,6,7])
  | 2=>([],[],some [5,6,7,8])
  | 3=>([],[],some [4,5,6,7])
  | 4=>([],[],some [5,6,7,11])
  | 5=>([],[],some [2])
  | 6=>([],[],some [5,6,7])
  | 7=>([],[],some [2])
  | _=>([],[],none)
theorem b158 {ags : List AV} {row : Option (List DV)} {r : AV} {row' nw : Option (List DV)} (hal : ags.length≤13) (hrow : row'.isSome=true→row.isSome=true) (h : xwp Tryz.prog x158 (retK [.tmp 2] row.isSome r row' nw) (St.init ags row)) : Good Tryz.prog 89 ags row r row' nw :=
  good_of_body' (md:=md158) (od:=od158) Tryz.f89 (by kernel_rfl) (by kernel_rfl) (by kernel_rfl) (by kernel_rfl) (by kernel_rfl) hal hrow h

def x134 : XC:=(.seq (.ops 1 [ (0,⟨some 4,none,.mv (.k (.d (.val (.bool false))))⟩)] (some [0,1,4])) (.seq (.seq (.ops 3 [ (0,⟨some 7,none,.mv (.t 1)⟩),(1,⟨some 8,none,.lenS (.t 7)⟩),(2,⟨some 9,none,.mv (.k (.d (.val (.int .i64 0))))⟩)] (some [0,4,7,8,9])) (.block 0 (.loop (.seq (.ops 1 [ (0,⟨some 10,none,.arith .lss (.t 9) (.t 8)⟩)] (some [0,4,7,8,9,10])) (.seq (.cond (.t 10) .skip (.exit 0)) (.seq (.block 1 (.seq (.ops 5 [ (0,⟨some 11,none,.mv (.t 9)⟩),(1,⟨some 12,none,.idxS 1 (.t 7) (.t 9)⟩),(2,⟨some 13,none,.load none (.t 12)⟩),(3,⟨some 5,none,.mv (.t 11)⟩),(4,⟨some 6,none,.mv (.t 13)⟩)] (some [0,4,5,6,7,8,9])) (.seq (.ops 8 [ (0,⟨some 14,none,.mv (.t 6)⟩),(1,⟨some 15,none,.mv (.t 14)⟩),(2,⟨some 16,(some (15,true)),.mv (.t 0)⟩),(3,⟨some 17,(some (15,true)),.mv (.t 5)⟩),(4,⟨some 18,(some (15,true)),.idxS 1 (.t 16) (.t 17)⟩),(5,⟨some 19,(some (15,true)),.load none (.t 18)⟩),(6,⟨some 20,(some (15,true)),.un .not (.t 19)⟩),(7,⟨some 21,none,.pick (.t 15) (.t 20) (.k (.d (.val (.bool false))))⟩)] (some [0,4,5,7,8,9,21])) (.cond (.t 21) (.ops 5 [ (0,⟨some 22,none,.mv (.t 0)⟩),(1,⟨some 23,none,.mv (.t 5)⟩),(2,⟨some 24,none,.idxS 1 (.t 22) (.t 23)⟩),(3,⟨none,none,.store 1 (.t 24) (.k (.d (.val (.bool true))))⟩),(4,⟨some 4,none,.mv (.k (.d (.val (.bool true))))⟩)] (some [0,4,7,8,9])) .skip)))) (.ops 2 [ (0,⟨some 25,none,.arith .add (.t 9) (.k (.d (.val (.int .i64 1))))⟩),(1,⟨some 9,none,.mv (.t 25)⟩)] (some [0,4,7,8,9])))))))) (.seq (.ops 2 [ (0,⟨some 26,none,.mv (.t 4)⟩),(1,⟨some 4,none,.mv (.t 26)⟩)] (some [4])) .ret)))
def md134 : FuncId→Option Nat × Bool
  | _=>(none,false)
def od134 : Nat→List (List Nat) × List Nat × Option (List Nat)
  | 0=>([],[],some [0,1,4])
  | 1=>([],[],some [0,4,7,8,9])
  | 2=>([],[],some [0,4,7,8,9,10])
  | 3=>([],[],some [0,4,5,6,7,8,9])
  | 4=>([],[],some [0,4,5,7,8,9,21])
  | 5=>([],[],some [0,4,7,8,9])
  | 6=>([],[],some [0,4,7,8,9])
  | 7=>([],[],some [4])
  | _=>([],[],none)
theorem b134 {ags : List AV} {row : Option (List DV)} {r : AV} {row' nw : Option (List DV)} (hal : ags.length≤27) (hrow : row'.isSome=true→row.isSome=true) (h : xwp Tryz.prog x134 (retK [.tmp 4] row.isSome r row' nw) (St.init ags row)) : Good Tryz.prog 81 ags row r row' nw :=
  good_of_body' (md:=md134) (od:=od134) Tryz.f81 (by kernel_rfl) (by kernel_rfl) (by kernel_rfl) (by kernel_rfl) (by kernel_rfl) hal hrow h

set_option maxRecDepth 100000
set_option maxHeartbeats 4000000
attribute [local irreducible] W E R KP thenK blockK retK Good xwp aRun
theorem none_good (s : ByteArray) (h : s.size≤1000000) : Good Tryz.prog 59 [.d (.val (.string s))] none (.slL 1 0 (s.size + 1) 1) none (some (encB (List.replicate (s.size + 1) false))):=by
  refine b85 (by simp) (by simp) (w_init ?_)
  unfold x85
  repeat' (first|(apply r_mvV;rfl)|(apply r_mvSL;rfl)|(apply r_mksB (m:=s.size + 1);rfl;rfl;((conv=>lhs;simp only [Nat.reduceAdd])<;>rfl);omega;omega)|(apply r_add;rfl;rfl;rfl;omega)|(apply r_lenT;rfl)|(apply r_nilK)|(apply k_V;rfl)|(apply k_SL;rfl)|(apply k_nil)|(apply e_ret;rfl)|(apply w_seq)|(apply w_ops;((conv=>lhs;simp only [Nat.reduceAdd])<;>rfl))|(apply e_thenN)|(apply w_ret))
  exact .new _ _ _ _ _ rfl rfl rfl
theorem any_drop (p : List Bool) (i : Nat) (h : i < p.length) : (p.drop i).any id=(p[i] || (p.drop (i + 1)).any id):=by
  rw [List.drop_eq_getElem_cons h];rfl
theorem any_good (p : List Bool) (h : p.length≤1000001) : Good Tryz.prog 89 [.d (.sl (encB p) p.length)] none (.b (p.any id)) none none:=by
  refine b158 (by simp) (by simp) (w_init ?_)
  unfold x158
  repeat' (first|(apply r_mvV;rfl)|(apply r_mvS;rfl)|(apply r_lenD;rfl)|(apply r_nilK)|(apply k_V;rfl)|(apply k_S;rfl)|(apply k_nil)|(apply w_seq)|(apply w_ops;((conv=>lhs;simp only [Nat.reduceAdd])<;>rfl))|(apply e_thenN)|(apply w_block))
  apply w_loopI (S:=fun i : Nat=>⟨((Fr.nil.put 5 (.d (.sl (encB p) p.length))).put 6 (.i p.length)).put 7 (.i i),Heap.nil,Frz.lo 100,100⟩) (m:=fun i=>p.length - i) (I:=fun i=>i≤p.length∧p.any id=(p.drop i).any id) (i0:=0)
  · exact ⟨Nat.zero_le _,by simp⟩
  · exact wk0 (by omega) (FWk.i rfl rfl (FWk.i rfl rfl (FWk.d rfl rfl FWk.nil)))
  intro i K hi hK
  dsimp only
  rcases Nat.lt_or_ge i p.length with hlt | hge
  · have hd:=any_drop p i hlt
    have hg:=List.getElem?_eq_getElem hlt
    repeat' (first|(apply r_mvV;rfl)|(apply r_ixB (v:=true);rfl;rfl;omega)|(apply r_ldB;rfl;exact hg)|(apply r_lss;rfl;rfl;(first|(apply dT;omega)|(apply dF;omega)|rfl))|(apply r_add;rfl;rfl;rfl;omega)|(apply r_nilK)|(apply k_V;rfl)|(apply k_S;rfl)|(apply k_nil)|(apply e_ret (vs:=[.d (.val _)]);rfl)|(apply w_seq)|(apply w_ops;((conv=>lhs;simp only [Nat.reduceAdd])<;>rfl))|(apply w_condT;rfl)|((apply w_condS;rfl)<;>(intro h;try simp only [decide_eq_true_eq,decide_eq_false_iff_not,Bool.not_eq_true,Bool.not_eq_false] at h))|(apply e_thenN)|(apply w_block)|(apply e_thenR)|(apply e_blkN)|(apply e_blkR)|(apply w_ret)|(apply w_skip))
    · refine retB ?_
      rw [hi.2,hd,h];rfl
    · apply e_thenK
      apply hK (i + 1)
      · exact ⟨by omega,by rw [hi.2,hd,h];rfl⟩
      · omega
      · exact wk0 (by omega) (FWk.i rfl (by omega) (FWk.i rfl rfl (FWk.d rfl rfl FWk.nil)))
  · repeat' (first|(apply r_mvV;rfl)|(apply r_lss;rfl;rfl;(first|(apply dT;omega)|(apply dF;omega)|rfl))|(apply r_nilK)|(apply k_V;rfl)|(apply k_S;rfl)|(apply k_nil)|(apply e_ret (vs:=[.d (.val _)]);rfl)|(apply w_seq)|(apply w_ops;((conv=>lhs;simp only [Nat.reduceAdd])<;>rfl))|(apply w_condF;rfl)|(apply e_thenN)|(apply e_thenX)|(apply e_blkE)|(apply w_exit)|(apply w_ret))
    refine retB ?_
    rw [hi.2,show i=p.length by omega,List.drop_length];rfl
def addTo (p q : List Bool) : Nat→List Bool × Bool
  | 0=>(p,false)
  | i + 1=>if q.getD i false=true∧(addTo p q i).1.getD i false=false then ((addTo p q i).1.set i true,true) else addTo p q i
theorem addTo_len (p q : List Bool) : ∀ i,(addTo p q i).1.length=p.length
  | 0=>rfl
  | i + 1=>by simp only [addTo];split<;>simp [addTo_len p q i]
theorem add_good (p q : List Bool) (h : p.length=q.length) (hl : q.length≤1000001) : Good Tryz.prog 81 [.slL 0 0 p.length 1,.d (.sl (encB q) q.length)] (some (encB p)) (.b (addTo p q q.length).2) (some (encB (addTo p q q.length).1)) none:=by
  refine b134 (by simp) (by simp) (w_init ?_)
  unfold x134
  repeat' (first|(apply r_mvV;rfl)|(apply r_mvS;rfl)|(apply r_lenD;rfl)|(apply r_nilK)|(apply k_V;rfl)|(apply k_S;rfl)|(apply k_SL;rfl)|(apply k_nil)|(apply w_seq)|(apply w_ops;((conv=>lhs;simp only [Nat.reduceAdd])<;>rfl))|(apply e_thenN)|(apply w_block))
  apply w_loopI (S:=fun i : Nat=>⟨((((Fr.nil.put 0 (.slL 0 0 p.length 1)).put 4 (.b (addTo p q i).2)).put 7 (.d (.sl (encB q) q.length))).put 8 (.i q.length)).put 9 (.i i),Heap.nil.put 0 ((encB (addTo p q i).1).map AV.d),Frz.but 100 0,100⟩) (m:=fun i=>q.length - i) (I:=fun i=>i≤q.length) (i0:=0)
  · exact Nat.zero_le _
  · exact wk1D (by omega) (by omega) rfl rfl encB_isD (FWk.i rfl rfl (FWk.i rfl rfl (FWk.d rfl rfl (FWk.d rfl rfl (FWk.sl rfl rfl rfl rfl (by omega) rfl FWk.nil)))))
  intro i K hi hK
  dsimp only
  rcases Nat.lt_or_ge i q.length with hlt | hge
  · have hg:=List.getElem?_eq_getElem hlt
    have hlp : i < (addTo p q i).1.length:=by rw [addTo_len];omega
    have hgp:=List.getElem?_eq_getElem hlp
    repeat' (first|(apply r_mvV;rfl)|(apply r_mvSL;rfl)|(apply r_ixB (v:=true);rfl;rfl;omega)|(apply r_ldB;rfl;exact hg)|(apply r_ixL;rfl;rfl;omega)|(apply r_ldBL;rfl;rfl;exact hgp)|(apply r_stB;rfl;rfl;rfl;rfl;exact hlp)|(apply r_lss;rfl;rfl;(first|(apply dT;omega)|(apply dF;omega)|rfl))|(apply r_add;rfl;rfl;rfl;omega)|(apply r_not;rfl;rfl)|(apply r_pickT;rfl)|(apply r_pickF;rfl)|(apply r_gT;rfl)|(apply r_gF';rfl;rfl)|((apply r_gS (o:=default);rfl)<;>(intro h;try simp only [decide_eq_true_eq,decide_eq_false_iff_not,Bool.not_eq_true,Bool.not_eq_false] at h))|(apply r_nilK)|(apply k_V;rfl)|(apply k_S;rfl)|(apply k_SL;rfl)|(apply k_nil)|(apply w_seq)|(apply w_ops;((conv=>lhs;simp only [Nat.reduceAdd])<;>rfl))|(apply w_condT;rfl)|(apply w_condF;rfl)|((apply w_condS;rfl)<;>(intro h;try simp only [decide_eq_true_eq,decide_eq_false_iff_not,Bool.not_eq_true,Bool.not_eq_false] at h))|(apply e_thenN)|(apply w_block)|(apply e_blkN)|(apply w_skip))
    · rename_i h1
      have e : addTo p q (i + 1)=((addTo p q i).1.set i true,true):=by
        rw [addTo,if_pos]
        simp only [Bool.not_eq_true'] at h
        simp [List.getD_eq_getElem?_getD,hg,hgp,h1,h]
      (apply e_thenK;apply hK (i + 1);omega;omega;exact wk1D (by omega) (by omega) (by rw [e];rfl) rfl encB_isD (FWk.i rfl (by omega) (FWk.i rfl rfl (FWk.d rfl rfl (FWk.d rfl (by rw [e]) (FWk.sl rfl rfl rfl rfl (by omega) rfl FWk.nil))))))
    · rename_i h1
      have e : addTo p q (i + 1)=addTo p q i:=by
        rw [addTo,if_neg]
        simp only [Bool.not_eq_false'] at h
        simp [List.getD_eq_getElem?_getD,hg,hgp,h1,h]
      (apply e_thenK;apply hK (i + 1);omega;omega;exact wk1D (by omega) (by omega) (by rw [e];rfl) rfl encB_isD (FWk.i rfl (by omega) (FWk.i rfl rfl (FWk.d rfl rfl (FWk.d rfl (by rw [e]) (FWk.sl rfl rfl rfl rfl (by omega) rfl FWk.nil))))))
    · have e : addTo p q (i + 1)=addTo p q i:=by
        rw [addTo,if_neg]
        simp [List.getD_eq_getElem?_getD,hg,hgp,h]
      (apply e_thenK;apply hK (i + 1);omega;omega;exact wk1D (by omega) (by omega) (by rw [e];rfl) rfl encB_isD (FWk.i rfl (by omega) (FWk.i rfl rfl (FWk.d rfl rfl (FWk.d rfl (by rw [e]) (FWk.sl rfl rfl rfl rfl (by omega) rfl FWk.nil))))))
  · repeat' (first|(apply r_mvV;rfl)|(apply r_lss;rfl;rfl;(first|(apply dT;omega)|(apply dF;omega)|rfl))|(apply r_nilK)|(apply k_V;rfl)|(apply k_S;rfl)|(apply k_SL;rfl)|(apply k_nil)|(apply e_ret (vs:=[.d (.val _)]);rfl)|(apply w_seq)|(apply w_ops;((conv=>lhs;simp only [Nat.reduceAdd])<;>rfl))|(apply w_condF;rfl)|(apply e_thenN)|(apply e_thenX)|(apply e_blkE)|(apply w_exit)|(apply w_ret))
    rw [show i=q.length by omega]
    exact .dataL _ _ rfl rfl rfl rfl
end Go.Sv
namespace Go.Sv
open Go Go.Proofs
def x133 : XC:=(.seq (.ops 1 [ (0,⟨some 6,none,.mv (.k (.d (.val (.slice none 0 0))))⟩)] (some [0,1,2])) (.seq (.ops 3 [ (0,⟨some 11,none,.mv (.t 0)⟩),(1,⟨some 12,none,.call 59 [(.t 11)] none true⟩),(2,⟨some 7,none,.mv (.t 12)⟩)] (some [0,1,2,7])) (.seq (.seq (.ops 6 [ (0,⟨some 13,none,.mv (.t 2)⟩),(1,⟨some 14,none,.mv (.t 0)⟩),(2,⟨some 15,none,.lenT (.t 14)⟩),(3,⟨some 16,none,.slS 1 (.t 13) none (some (.t 15))⟩),(4,⟨some 17,none,.lenS (.t 16)⟩),(5,⟨some 18,none,.mv (.k (.d (.val (.int .i64 0))))⟩)] (some [0,1,7,16,17,18])) (.block 0 (.loop (.seq (.ops 1 [ (0,⟨some 19,none,.arith .lss (.t 18) (.t 17)⟩)] (some [0,1,7,16,17,18,19])) (.seq (.cond (.t 19) .skip (.exit 0)) (.seq (.block 1 (.seq (.ops 5 [ (0,⟨some 20,none,.mv (.t 18)⟩),(1,⟨some 21,none,.idxS 1 (.t 16) (.t 18)⟩),(2,⟨some 22,none,.load none (.t 21)⟩),(3,⟨some 8,none,.mv (.t 20)⟩),(4,⟨some 9,none,.mv (.t 22)⟩)] (some [0,1,7,8,9,16,17,18])) (.seq (.ops 4 [ (0,⟨some 23,none,.mv (.t 0)⟩),(1,⟨some 24,none,.mv (.t 8)⟩),(2,⟨some 25,none,.idxT (.t 23) (.t 24)⟩),(3,⟨some 10,none,.mv (.t 25)⟩)] (some [0,1,7,8,9,10,16,17,18])) (.ops 19 [ (0,⟨some 26,none,.mv (.t 7)⟩),(1,⟨some 27,none,.mv (.t 8)⟩),(2,⟨some 28,none,.arith .add (.t 27) (.k (.d (.val (.int .i64 1))))⟩),(3,⟨some 29,none,.mv (.t 9)⟩),(4,⟨some 30,none,.mv (.t 29)⟩),(5,⟨some 31,(some (30,true)),.mv (.t 1)⟩),(6,⟨some 32,(some (30,true)),.mv (.t 10)⟩),(7,⟨some 33,(some (30,true)),.arith .shr (.t 32) (.k (.d (.val (.int .u64 6))))⟩),(8,⟨some 34,(some (30,true)),.nilck (.t 31)⟩),(9,⟨some 35,(some (30,true)),.idxP 4 1 (.t 34) (.t 33)⟩),(10,⟨some 36,(some (30,true)),.load none (.t 35)⟩),(11,⟨some 37,(some (30,true)),.mv (.t 10)⟩),(12,⟨some 38,(some (30,true)),.arith .and (.t 37) (.k (.d (.val (.int .u8 63))))⟩),(13,⟨some 39,(some (30,true)),.arith .shr (.t 36) (.t 38)⟩),(14,⟨some 40,(some (30,true)),.arith .and (.t 39) (.k (.d (.val (.int .u64 1))))⟩),(15,⟨some 41,(some (30,true)),.arith .eql (.t 40) (.k (.d (.val (.int .u64 1))))⟩),(16,⟨some 42,none,.pick (.t 30) (.t 41) (.k (.d (.val (.bool false))))⟩),(17,⟨some 43,none,.idxS 1 (.t 26) (.t 28)⟩),(18,⟨none,none,.store 1 (.t 43) (.t 42)⟩)] (some [0,1,7,16,17,18]))))) (.ops 2 [ (0,⟨some 44,none,.arith .add (.t 18) (.k (.d (.val (.int .i64 1))))⟩),(1,⟨some 18,none,.mv (.t 44)⟩)] (some [0,1,7,16,17,18])))))))) (.seq (.ops 2 [ (0,⟨some 45,none,.mv (.t 7)⟩),(1,⟨some 6,none,.mv (.t 45)⟩)] (some [6])) .ret))))
def md133 : FuncId→Option Nat × Bool
  | 59=>(none,true)
  | _=>(none,false)
def od133 : Nat→List (List Nat) × List Nat × Option (List Nat)
  | 0=>([],[],some [0,1,2])
  | 1=>([],[],some [0,1,2,7])
  | 2=>([],[],some [0,1,7,16,17,18])
  | 3=>([],[],some [0,1,7,16,17,18,19])
  | 4=>([],[],some [0,1,7,8,9,16,17,18])
  | 5=>([],[],some [0,1,7,8,9,10,16,17,18])
  | 6=>([],[],some [0,1,7,16,17,18])
  | 7=>([],[],some [0,1,7,16,17,18])
  | 8=>([],[],some [6])
  | _=>([],[],none)
theorem b133 {ags : List AV} {row : Option (List DV)} {r : AV} {row' nw : Option (List DV)} (hal : ags.length≤46) (hrow : row'.isSome=true→row.isSome=true) (h : xwp Tryz.prog x133 (retK [.tmp 6] row.isSome r row' nw) (St.init ags row)) : Good Tryz.prog 80 ags row r row' nw :=
  good_of_body' (md:=md133) (od:=od133) Tryz.f80 (by kernel_rfl) (by kernel_rfl) (by kernel_rfl) (by kernel_rfl) (by kernel_rfl) hal hrow h

set_option maxRecDepth 100000
set_option maxHeartbeats 4000000
attribute [local irreducible] W E R KP thenK blockK retK Good xwp aRun
def classTo (a b c d : Int) (s : ByteArray) (p : List Bool) : Nat→List Bool
  | 0=>List.replicate (s.size + 1) false
  | i + 1=>(classTo a b c d s p i).set (i + 1) (p.getD i false && inG a b c d (byteN s i))
theorem classTo_len (a b c d : Int) (s : ByteArray) (p : List Bool) : ∀ i,(classTo a b c d s p i).length=s.size + 1
  | 0=>by simp [classTo]
  | i + 1=>by simp [classTo,classTo_len a b c d s p i]
def okW (w : Int) : Prop:=0≤w∧w < 18446744073709551616
theorem class_good {cs : List DV} {off : Nat} {a b c d : Int} (hs : SetAt cs off a b c d) (ha : okW a) (hb : okW b) (hc : okW c) (hd : okW d) (s : ByteArray) (p : List Bool) (hsz : s.size≤1000000) (hp : p.length=s.size + 1) :
    Good Tryz.prog 80 [.d (.val (.string s)),.d (.ptr cs off),.d (.sl (encB p) p.length)] none (.d (.sl (encB (classTo a b c d s p s.size)) (s.size + 1))) none none:=by
  refine b133 (by simp) (by simp) (w_init ?_)
  unfold x133
  repeat' (first|(apply r_mvV;rfl)|(apply r_mvS;rfl)|(apply r_mvSL;rfl)|(apply r_callM;rfl;rfl;((conv=>lhs;simp only [Nat.reduceAdd])<;>rfl);apply none_good s hsz)|(apply r_slB (m:=s.size);rfl;rfl;rfl;omega)|(apply r_lenD;rfl)|(apply r_lenT;rfl)|(apply r_nilK)|(apply k_V;rfl)|(apply k_P;rfl)|(apply k_S;rfl)|(apply k_SL;rfl)|(apply k_nil)|(apply w_seq)|(apply w_ops;((conv=>lhs;simp only [Nat.reduceAdd])<;>rfl))|(apply e_thenN)|(apply w_block))
  apply w_loopI (S:=fun i : Nat=>⟨(((((Fr.nil.put 0 (.d (.val (.string s)))).put 1 (.d (.ptr cs off))).put 7 (.slL 3 0 (s.size + 1) 1)).put 16 (.d (.sl (encB (p.take s.size)) s.size))).put 17 (.i s.size)).put 18 (.i i),Heap.nil.put 3 ((encB (classTo a b c d s p i)).map AV.d),Frz.but 100 3,100⟩) (m:=fun i=>s.size - i) (I:=fun i=>i≤s.size) (i0:=0)
  · exact Nat.zero_le _
  · exact wk1D (by omega) (by omega) rfl rfl encB_isD (FWk.i rfl rfl (FWk.i rfl rfl (FWk.d rfl rfl (FWk.sl rfl rfl rfl rfl (by omega) rfl (FWk.d rfl rfl (FWk.d rfl rfl FWk.nil))))))
  intro i K hi hK
  dsimp only
  rcases Nat.lt_or_ge i s.size with hlt | hge
  · have hby:=byteN_lt s i
    have hl:=classTo_len a b c d s p i
    have hg : (p.take s.size)[i]?=some (p.getD i false):=by
      rw [List.getElem?_take,if_pos hlt,List.getD_eq_getElem?_getD,List.getElem?_eq_getElem (by omega)];rfl
    have hw : okW ([a,b,c,d].getD (byteN s i / 64) 0):=by
      have : byteN s i / 64 < 4:=by omega
      match byteN s i / 64,this with
      | 0,_=>exact ha
      | 1,_=>exact hb
      | 2,_=>exact hc
      | 3,_=>exact hd
    repeat' (first|(apply r_mvV;rfl)|(apply r_mvP;rfl)|(apply r_mvSL;rfl)|(apply r_nckD;rfl)|(apply r_ixB';rfl;rfl;omega;(simp;omega))|(apply r_ldB;rfl;exact hg)|(apply r_idxT;rfl;rfl;omega)|(apply r_shr6;rfl;rfl)|(apply r_and63;rfl;rfl;exact hby)|(apply r_ixPD;rfl;rfl;omega)|(apply r_ldSet hs;rfl;omega)|(apply r_shrW;rfl;rfl;exact hw.1;omega)|(apply r_and1;rfl;rfl;exact okW_div hw _)|(apply r_eqlU;rfl;rfl;rfl)|(apply r_ixL1;rfl;rfl;omega)|(apply r_stB;rfl;rfl;rfl;rfl;omega)|(apply r_lss;rfl;rfl;(first|(apply dT;omega)|(apply dF;omega)|rfl))|(apply r_add;rfl;rfl;rfl;omega)|(apply r_pickT;rfl)|(apply r_pickF;rfl)|(apply r_gT;rfl)|(apply r_gF';rfl;rfl)|((apply r_gS (o:=default);rfl)<;>(intro h;try simp only [decide_eq_true_eq,decide_eq_false_iff_not,Bool.not_eq_true,Bool.not_eq_false] at h))|(apply r_nilK)|(apply k_V;rfl)|(apply k_P;rfl)|(apply k_S;rfl)|(apply k_SL;rfl)|(apply k_nil)|(apply w_seq)|(apply w_ops;((conv=>lhs;simp only [Nat.reduceAdd])<;>rfl))|(apply w_condT;rfl)|(apply e_thenN)|(apply w_block)|(apply e_blkN)|(apply w_skip))
    all_goals (apply e_thenK;apply hK (i + 1);omega;omega;refine wk1D (by omega) (by omega) ?_ rfl encB_isD (FWk.i rfl (by omega) (FWk.i rfl rfl (FWk.d rfl rfl (FWk.sl rfl rfl rfl rfl (by omega) rfl (FWk.d rfl rfl (FWk.d rfl rfl FWk.nil)))))))
    · rw [classTo,h];rfl
    · rw [classTo,h];rfl
  · repeat' (first|(apply r_mvSL;rfl)|(apply r_lss;rfl;rfl;(first|(apply dT;omega)|(apply dF;omega)|rfl))|(apply r_nilK)|(apply k_V;rfl)|(apply k_P;rfl)|(apply k_S;rfl)|(apply k_SL;rfl)|(apply k_nil)|(apply e_ret;rfl)|(apply w_seq)|(apply w_ops;((conv=>lhs;simp only [Nat.reduceAdd])<;>rfl))|(apply w_condF;rfl)|(apply e_thenN)|(apply e_thenX)|(apply e_blkE)|(apply w_exit)|(apply w_ret))
    rw [show i=s.size by omega]
    exact retSB rfl (classTo_len _ _ _ _ _ _ _)
end Go.Sv
namespace Go.Sv
open Go Go.Proofs
def x86 : XC:=(.seq (.ops 1 [ (0,⟨some 6,none,.mv (.k (.d (.val (.slice none 0 0))))⟩)] (some [0,1,2])) (.seq (.seq (.ops 4 [ (0,⟨some 10,none,.mv (.t 1)⟩),(1,⟨some 11,none,.nilck (.t 10)⟩),(2,⟨some 12,none,.fadd 0 (.t 11)⟩),(3,⟨some 13,none,.load none (.t 12)⟩)] (some [0,1,2,13])) (.block 0 (.seq (.ops 2 [ (0,⟨some 15,none,.arith .eql (.t 13) (.k (.d (.val (.int .i64 2))))⟩),(1,⟨some 14,none,.mv (.t 15)⟩)] (some [0,1,2,13,14])) (.cond (.t 14) (.seq (.ops 7 [ (0,⟨some 16,none,.mv (.t 0)⟩),(1,⟨some 17,none,.mv (.t 1)⟩),(2,⟨some 18,none,.nilck (.t 17)⟩),(3,⟨some 19,none,.fadd 1 (.t 18)⟩),(4,⟨some 20,none,.mv (.t 2)⟩),(5,⟨some 21,none,.call 80 [(.t 16),(.t 19),(.t 20)] none false⟩),(6,⟨some 6,none,.mv (.t 21)⟩)] (some [6])) .ret) (.seq (.ops 2 [ (0,⟨some 23,none,.arith .eql (.t 13) (.k (.d (.val (.int .i64 3))))⟩),(1,⟨some 22,none,.mv (.t 23)⟩)] (some [0,1,2,13,22])) (.cond (.t 22) (.seq (.ops 6 [ (0,⟨some 24,none,.mv (.t 1)⟩),(1,⟨some 25,none,.nilck (.t 24)⟩),(2,⟨some 26,none,.fadd 7 (.t 25)⟩),(3,⟨some 27,none,.load none (.t 26)⟩),(4,⟨some 28,none,.lenS (.t 27)⟩),(5,⟨some 29,none,.mv (.k (.d (.val (.int .i64 0))))⟩)] (some [0,1,2,28,29])) (.block 1 (.loop (.seq (.ops 1 [ (0,⟨some 30,none,.arith .lss (.t 29) (.t 28)⟩)] (some [0,1,2,28,29,30])) (.seq (.cond (.t 30) .skip (.exit 1)) (.seq (.block 2 (.seq (.ops 2 [ (0,⟨some 31,none,.mv (.t 29)⟩),(1,⟨some 7,none,.mv (.t 31)⟩)] (some [0,1,2,7,28,29])) (.ops 10 [ (0,⟨some 32,none,.mv (.t 0)⟩),(1,⟨some 33,none,.mv (.t 1)⟩),(2,⟨some 34,none,.nilck (.t 33)⟩),(3,⟨some 35,none,.fadd 7 (.t 34)⟩),(4,⟨some 36,none,.load none (.t 35)⟩),(5,⟨some 37,none,.mv (.t 7)⟩),(6,⟨some 38,none,.idxS 8 (.t 36) (.t 37)⟩),(7,⟨some 39,none,.mv (.t 2)⟩),(8,⟨some 40,none,.call 60 [(.t 32),(.t 38),(.t 39)] none false⟩),(9,⟨some 2,none,.mv (.t 40)⟩)] (some [0,1,2,28,29])))) (.ops 2 [ (0,⟨some 41,none,.arith .add (.t 29) (.k (.d (.val (.int .i64 1))))⟩),(1,⟨some 29,none,.mv (.t 41)⟩)] (some [0,1,2,28,29])))))))) (.seq (.ops 2 [ (0,⟨some 43,none,.arith .eql (.t 13) (.k (.d (.val (.int .i64 4))))⟩),(1,⟨some 42,none,.mv (.t 43)⟩)] (some [0,1,2,13,42])) (.cond (.t 42) (.seq (.ops 3 [ (0,⟨some 44,none,.mv (.t 0)⟩),(1,⟨some 45,none,.call 59 [(.t 44)] none true⟩),(2,⟨some 8,none,.mv (.t 45)⟩)] (some [0,1,2,8])) (.seq (.seq (.ops 6 [ (0,⟨some 46,none,.mv (.t 1)⟩),(1,⟨some 47,none,.nilck (.t 46)⟩),(2,⟨some 48,none,.fadd 7 (.t 47)⟩),(3,⟨some 49,none,.load none (.t 48)⟩),(4,⟨some 50,none,.lenS (.t 49)⟩),(5,⟨some 51,none,.mv (.k (.d (.val (.int .i64 0))))⟩)] (some [0,1,2,8,50,51])) (.block 3 (.loop (.seq (.ops 1 [ (0,⟨some 52,none,.arith .lss (.t 51) (.t 50)⟩)] (some [0,1,2,8,50,51,52])) (.seq (.cond (.t 52) .skip (.exit 3)) (.seq (.block 4 (.seq (.ops 2 [ (0,⟨some 53,none,.mv (.t 51)⟩),(1,⟨some 9,none,.mv (.t 53)⟩)] (some [0,1,2,8,9,50,51])) (.ops 11 [ (0,⟨some 54,none,.mv (.t 8)⟩),(1,⟨some 55,none,.mv (.t 0)⟩),(2,⟨some 56,none,.mv (.t 1)⟩),(3,⟨some 57,none,.nilck (.t 56)⟩),(4,⟨some 58,none,.fadd 7 (.t 57)⟩),(5,⟨some 59,none,.load none (.t 58)⟩),(6,⟨some 60,none,.mv (.t 9)⟩),(7,⟨some 61,none,.idxS 8 (.t 59) (.t 60)⟩),(8,⟨some 62,none,.mv (.t 2)⟩),(9,⟨some 63,none,.call 60 [(.t 55),(.t 61),(.t 62)] none false⟩),(10,⟨some 64,none,.call 81 [(.t 54),(.t 63)] (some 0) false⟩)] (some [0,1,2,8,50,51])))) (.ops 2 [ (0,⟨some 65,none,.arith .add (.t 51) (.k (.d (.val (.int .i64 1))))⟩),(1,⟨some 51,none,.mv (.t 65)⟩)] (some [0,1,2,8,50,51])))))))) (.seq (.ops 2 [ (0,⟨some 66,none,.mv (.t 8)⟩),(1,⟨some 6,none,.mv (.t 66)⟩)] (some [6])) .ret))) (.seq (.ops 2 [ (0,⟨some 68,none,.arith .eql (.t 13) (.k (.d (.val (.int .i64 5))))⟩),(1,⟨some 67,none,.mv (.t 68)⟩)] (some [0,1,2,67])) (.cond (.t 67) (.seq (.ops 5 [ (0,⟨some 69,none,.mv (.t 0)⟩),(1,⟨some 70,none,.mv (.t 1)⟩),(2,⟨some 71,none,.mv (.t 2)⟩),(3,⟨some 72,none,.call 82 [(.t 69),(.t 70),(.t 71)] none false⟩),(4,⟨some 6,none,.mv (.t 72)⟩)] (some [6])) .ret) .skip)))))))))) (.seq (.ops 2 [ (0,⟨some 73,none,.mv (.t 2)⟩),(1,⟨some 6,none,.mv (.t 73)⟩)] (some [6])) .ret)))
def md86 : FuncId→Option Nat × Bool
  | 59=>(none,true)
  | 81=>(some 0,false)
  | _=>(none,false)
def od86 : Nat→List (List Nat) × List Nat × Option (List Nat)
  | 0=>([],[],some [0,1,2])
  | 1=>([],[],some [0,1,2,13])
  | 2=>([],[],some [0,1,2,13,14])
  | 3=>([],[],some [6])
  | 4=>([],[],some [0,1,2,13,22])
  | 5=>([],[],some [0,1,2,28,29])
  | 6=>([],[],some [0,1,2,28,29,30])
  | 7=>([],[],some [0,1,2,7,28,29])
  | 8=>([],[],some [0,1,2,28,29])
  | 9=>([],[],some [0,1,2,28,29])
  | 10=>([],[],some [0,1,2,13,42])
  | 11=>([],[],some [0,1,2,8])
  | 12=>([],[],some [0,1,2,8,50,51])
  | 13=>([],[],some [0,1,2,8,50,51,52])
  | 14=>([],[],some [0,1,2,8,9,50,51])
  | 15=>([],[],some [0,1,2,8,50,51])
  | 16=>([],[],some [0,1,2,8,50,51])
  | 17=>([],[],some [6])
  | 18=>([],[],some [0,1,2,67])
  | 19=>([],[],some [6])
  | 20=>([],[],some [6])
  | _=>([],[],none)
theorem b86 {ags : List AV} {row : Option (List DV)} {r : AV} {row' nw : Option (List DV)} (hal : ags.length≤74) (hrow : row'.isSome=true→row.isSome=true) (h : xwp Tryz.prog x86 (retK [.tmp 6] row.isSome r row' nw) (St.init ags row)) : Good Tryz.prog 60 ags row r row' nw :=
  good_of_body' (md:=md86) (od:=od86) Tryz.f60 (by kernel_rfl) (by kernel_rfl) (by kernel_rfl) (by kernel_rfl) (by kernel_rfl) hal hrow h

def x135 : XC:=(.seq (.ops 1 [ (0,⟨some 6,none,.mv (.k (.d (.val (.slice none 0 0))))⟩)] (some [0,1,2])) (.seq (.seq (.ops 5 [ (0,⟨some 9,none,.mv (.t 1)⟩),(1,⟨some 10,none,.nilck (.t 9)⟩),(2,⟨some 11,none,.fadd 5 (.t 10)⟩),(3,⟨some 12,none,.load none (.t 11)⟩),(4,⟨some 13,none,.mv (.k (.d (.val (.int .i64 0))))⟩)] (some [0,1,2,12,13])) (.block 0 (.loop (.seq (.ops 1 [ (0,⟨some 14,none,.arith .lss (.t 13) (.t 12)⟩)] (some [0,1,2,12,13,14])) (.seq (.cond (.t 14) .skip (.exit 0)) (.seq (.block 1 (.seq (.seq (.ops 3 [ (0,⟨some 15,none,.mv (.t 2)⟩),(1,⟨some 16,none,.call 89 [(.t 15)] none false⟩),(2,⟨some 17,none,.un .not (.t 16)⟩)] (some [0,1,2,12,13,17])) (.cond (.t 17) (.seq (.ops 2 [ (0,⟨some 18,none,.mv (.t 2)⟩),(1,⟨some 6,none,.mv (.t 18)⟩)] (some [6])) .ret) .skip)) (.ops 9 [ (0,⟨some 19,none,.mv (.t 0)⟩),(1,⟨some 20,none,.mv (.t 1)⟩),(2,⟨some 21,none,.nilck (.t 20)⟩),(3,⟨some 22,none,.fadd 7 (.t 21)⟩),(4,⟨some 23,none,.load none (.t 22)⟩),(5,⟨some 24,none,.idxS 8 (.t 23) (.k (.d (.val (.int .i64 0))))⟩),(6,⟨some 25,none,.mv (.t 2)⟩),(7,⟨some 26,none,.call 60 [(.t 19),(.t 24),(.t 25)] none false⟩),(8,⟨some 2,none,.mv (.t 26)⟩)] (some [0,1,2,12,13])))) (.ops 2 [ (0,⟨some 27,none,.arith .add (.t 13) (.k (.d (.val (.int .i64 1))))⟩),(1,⟨some 13,none,.mv (.t 27)⟩)] (some [0,1,2,12,13])))))))) (.seq (.ops 3 [ (0,⟨some 28,none,.mv (.t 0)⟩),(1,⟨some 29,none,.call 59 [(.t 28)] none true⟩),(2,⟨some 7,none,.mv (.t 29)⟩)] (some [0,1,2,7])) (.seq (.ops 3 [ (0,⟨some 30,none,.mv (.t 7)⟩),(1,⟨some 31,none,.mv (.t 2)⟩),(2,⟨some 32,none,.call 81 [(.t 30),(.t 31)] (some 0) false⟩)] (some [0,1,2,7])) (.seq (.seq (.ops 5 [ (0,⟨some 33,none,.mv (.t 1)⟩),(1,⟨some 34,none,.nilck (.t 33)⟩),(2,⟨some 35,none,.fadd 5 (.t 34)⟩),(3,⟨some 36,none,.load none (.t 35)⟩),(4,⟨some 8,none,.mv (.t 36)⟩)] (some [0,1,2,7,8])) (.block 2 (.loop (.seq (.seq (.ops 13 [ (0,⟨some 37,none,.mv (.t 1)⟩),(1,⟨some 38,none,.nilck (.t 37)⟩),(2,⟨some 39,none,.fadd 6 (.t 38)⟩),(3,⟨some 40,none,.load none (.t 39)⟩),(4,⟨some 41,none,.arith .lss (.t 40) (.k (.d (.val (.int .i64 0))))⟩),(5,⟨some 42,none,.mv (.t 41)⟩),(6,⟨some 43,(some (42,false)),.mv (.t 8)⟩),(7,⟨some 44,(some (42,false)),.mv (.t 1)⟩),(8,⟨some 45,(some (42,false)),.nilck (.t 44)⟩),(9,⟨some 46,(some (42,false)),.fadd 6 (.t 45)⟩),(10,⟨some 47,(some (42,false)),.load none (.t 46)⟩),(11,⟨some 48,(some (42,false)),.arith .lss (.t 43) (.t 47)⟩),(12,⟨some 49,none,.pick (.t 42) (.k (.d (.val (.bool true)))) (.t 48)⟩)] (some [0,1,2,7,8,49])) (.cond (.t 49) .skip (.exit 2))) (.seq (.block 3 (.seq (.ops 9 [ (0,⟨some 52,none,.mv (.t 0)⟩),(1,⟨some 53,none,.mv (.t 1)⟩),(2,⟨some 54,none,.nilck (.t 53)⟩),(3,⟨some 55,none,.fadd 7 (.t 54)⟩),(4,⟨some 56,none,.load none (.t 55)⟩),(5,⟨some 57,none,.idxS 8 (.t 56) (.k (.d (.val (.int .i64 0))))⟩),(6,⟨some 58,none,.mv (.t 2)⟩),(7,⟨some 59,none,.call 60 [(.t 52),(.t 57),(.t 58)] none false⟩),(8,⟨some 2,none,.mv (.t 59)⟩)] (some [0,1,2,7,8])) (.seq (.ops 4 [ (0,⟨some 60,none,.mv (.t 7)⟩),(1,⟨some 61,none,.mv (.t 2)⟩),(2,⟨some 62,none,.call 81 [(.t 60),(.t 61)] (some 0) false⟩),(3,⟨some 63,none,.un .not (.t 62)⟩)] (some [0,1,2,7,8,63])) (.cond (.t 63) (.exit 2) .skip)))) (.ops 3 [ (0,⟨some 50,none,.mv (.t 8)⟩),(1,⟨some 51,none,.arith .add (.t 50) (.k (.d (.val (.int .i64 1))))⟩),(2,⟨some 8,none,.mv (.t 51)⟩)] (some [0,1,2,7,8]))))))) (.seq (.ops 2 [ (0,⟨some 64,none,.mv (.t 7)⟩),(1,⟨some 6,none,.mv (.t 64)⟩)] (some [6])) .ret))))))
def md135 : FuncId→Option Nat × Bool
  | 59=>(none,true)
  | 81=>(some 0,false)
  | _=>(none,false)
def od135 : Nat→List (List Nat) × List Nat × Option (List Nat)
  | 0=>([],[],some [0,1,2])
  | 1=>([],[],some [0,1,2,12,13])
  | 2=>([],[],some [0,1,2,12,13,14])
  | 3=>([],[],some [0,1,2,12,13,17])
  | 4=>([],[],some [6])
  | 5=>([],[],some [0,1,2,12,13])
  | 6=>([],[],some [0,1,2,12,13])
  | 7=>([],[],some [0,1,2,7])
  | 8=>([],[],some [0,1,2,7])
  | 9=>([],[],some [0,1,2,7,8])
  | 10=>([],[],some [0,1,2,7,8,49])
  | 11=>([],[],some [0,1,2,7,8])
  | 12=>([],[],some [0,1,2,7,8])
  | 13=>([],[],some [0,1,2,7,8,63])
  | 14=>([],[],some [6])
  | _=>([],[],none)
theorem b135 {ags : List AV} {row : Option (List DV)} {r : AV} {row' nw : Option (List DV)} (hal : ags.length≤65) (hrow : row'.isSome=true→row.isSome=true) (h : xwp Tryz.prog x135 (retK [.tmp 6] row.isSome r row' nw) (St.init ags row)) : Good Tryz.prog 82 ags row r row' nw :=
  good_of_body' (md:=md135) (od:=od135) Tryz.f82 (by kernel_rfl) (by kernel_rfl) (by kernel_rfl) (by kernel_rfl) (by kernel_rfl) hal hrow h

section
variable {P : Program} {Q : Cont} {fr : Fr} {C : Heap} {Z : Frz} {nx : Nat} {base n d : Nat} {l : List (Nat × XO)} {kp : Option (List Nat)}
theorem r_callW {f : FuncId} {xs : List X} {ags : List AV} {b m sz : Nat} {ds ds' : List DV} {v : Bool} (ha : xs.map (X.ev fr)=.slL b 0 m sz :: ags) (hn : ags.all AV.nrm=true) (hr : C b=some (ds.map AV.d)) (hz : Z b=false)
    (hg : Good P f (.slL 0 0 m sz :: ags) (some ds) (.b v) (some ds') none) (k : R P l base kp Q nx (fr.put d (.b v)) (C.put b (ds'.map AV.d)) Z) : R P ((n,⟨some d,none,.call f xs (some 0) false⟩) :: l) base kp Q nx fr C Z:=by
  refine s_callL (bs:=.slL 0 0 m sz :: ags) (us:=[]) (b:=b) (row':=some ds') ha rfl hr hz ?_ hg ?_ rfl k
  · simp only [convAsL,convAs_nrm ags hn,toZ,Option.map_some]
  · simp [Frz.add_nil]
end
def falses (p : List Bool) : Nat:=p.countP (· == false)
theorem falses_set : ∀ (p : List Bool) (i : Nat),i < p.length→p.getD i false=false→falses (p.set i true) < falses p
  | b :: p,0,_,h=>by
    simp at h;subst h
    simp [falses]
  | b :: p,i + 1,h,h2=>by
    have:=falses_set p i (by simpa using h) (by simpa using h2)
    simp only [falses] at *
    simp only [List.set_cons_succ,List.countP_cons]
    omega
theorem addTo_falses (p q : List Bool) : ∀ i,i≤p.length→falses (addTo p q i).1≤falses p∧((addTo p q i).2=true→falses (addTo p q i).1 < falses p)
  | 0,_=>⟨Nat.le_refl _,by simp [addTo]⟩
  | i + 1,hi=>by
    obtain ⟨h1,h2⟩:=addTo_falses p q i (by omega)
    simp only [addTo]
    split
    · rename_i h
      have:=falses_set (addTo p q i).1 i (by rw [addTo_len];omega) h.2
      exact ⟨by dsimp only;omega,fun _=>by dsimp only;omega⟩
    · exact ⟨h1,h2⟩
def minG (f : List Bool→List Bool) : Nat→List Bool→List Bool × Bool
  | 0,p=>(p,false)
  | n + 1,p=>if p.any id=false then (p,true) else minG f n (f p)
def moreG (f : List Bool→List Bool) (mx : Int) : Nat→Int→List Bool→List Bool→List Bool
  | 0,_,_,out=>out
  | n + 1,k,p,out =>
    if mx < 0 ∨ k < mx then
      if (addTo out (f p) (f p).length).2=true then moreG f mx n (k + 1) (f p) (addTo out (f p) (f p).length).1
      else (addTo out (f p) (f p).length).1
    else out
def repG (f : List Bool→List Bool) (m : Nat) (mn mx : Int) (p : List Bool) : List Bool :=
  if (minG f mn.toNat p).2=true then (minG f mn.toNat p).1
  else moreG f mx (m + 1) mn (minG f mn.toNat p).1 (addTo (List.replicate m false) (minG f mn.toNat p).1 m).1
mutual
def stepG (s : ByteArray) : T→List Bool→List Bool
  | .node k a b c d mn mx subs,p =>
    if k=2 then classTo a b c d s p s.size
    else if k=3 then catG s subs p
    else if k=4 then altG s subs p (List.replicate (s.size + 1) false)
    else if k=5 then repG (fstG s subs) (s.size + 1) mn mx p
    else p
def catG (s : ByteArray) : List T→List Bool→List Bool
  | [],p=>p
  | t :: l,p=>catG s l (stepG s t p)
def altG (s : ByteArray) : List T→List Bool→List Bool→List Bool
  | [],_,out=>out
  | t :: l,p,out=>altG s l p (addTo out (stepG s t p) (s.size + 1)).1
def fstG (s : ByteArray) : List T→List Bool→List Bool
  | [],p=>p
  | t :: _,p=>stepG s t p
end
def okN : T→Prop
  | .node k a b c d mn mx subs=>okW a∧okW b∧okW c∧okW d∧plainT (.node k a b c d mn mx subs)=true
mutual
def okT : T→Prop
  | .node k a b c d mn mx subs=>okN (.node k a b c d mn mx subs)∧okL subs
def okL : List T→Prop
  | []=>True
  | t :: l=>okT t∧okL l
end
theorem okL_get : ∀ (l : List T) (i : Nat) (h : i < l.length),okL l→okT l[i]
  | t :: l,0,_,h=>by simp only [okL] at h;exact h.1
  | t :: l,i + 1,h,h2=>by simp only [okL] at h2;exact okL_get l i (by simpa using h) h2.2
theorem moreG_len (f : List Bool→List Bool) (mx : Int) : ∀ (n : Nat) (k : Int) (p out : List Bool),(moreG f mx n k p out).length=out.length
  | 0,_,_,_=>rfl
  | n + 1,k,p,out=>by
    simp only [moreG]
    split
    · split
      · rw [moreG_len f mx n,addTo_len]
      · rw [addTo_len]
    · rfl
theorem minG_len (f : List Bool→List Bool) (m : Nat) (hf : ∀ p,p.length=m→(f p).length=m) : ∀ (n : Nat) (p : List Bool),p.length=m→(minG f n p).1.length=m
  | 0,p,h=>h
  | n + 1,p,h=>by
    simp only [minG]
    split
    · exact h
    · exact minG_len f m hf n _ (hf p h)
mutual
theorem stepG_len (s : ByteArray) : ∀ (t : T) (p : List Bool),p.length=s.size + 1→(stepG s t p).length=s.size + 1
  | .node k a b c d mn mx subs,p,h=>by
    simp only [stepG]
    split
    · exact classTo_len _ _ _ _ _ _ _
    split
    · exact catG_len s subs p h
    split
    · exact altG_len s subs p _ h (by simp)
    split
    · simp only [repG]
      split
      · exact minG_len _ _ (fun p hp=>fstG_len s subs p hp) _ _ h
      · rw [moreG_len,addTo_len];simp
    · exact h
theorem catG_len (s : ByteArray) : ∀ (l : List T) (p : List Bool),p.length=s.size + 1→(catG s l p).length=s.size + 1
  | [],p,h=>by simp only [catG];exact h
  | t :: l,p,h=>by simp only [catG];exact catG_len s l _ (stepG_len s t p h)
theorem altG_len (s : ByteArray) : ∀ (l : List T) (p out : List Bool),p.length=s.size + 1→out.length=s.size + 1→(altG s l p out).length=s.size + 1
  | [],p,out,_,h=>by simp only [altG];exact h
  | t :: l,p,out,h,h2=>by simp only [altG];exact altG_len s l p _ h (by rw [addTo_len];exact h2)
theorem fstG_len (s : ByteArray) : ∀ (l : List T) (p : List Bool),p.length=s.size + 1→(fstG s l p).length=s.size + 1
  | [],p,h=>by simp only [fstG];exact h
  | t :: l,p,h=>by simp only [fstG];exact stepG_len s t p h
end
theorem moreG_fuel (f : List Bool→List Bool) (mx : Int) (m : Nat) (hf : ∀ p,p.length=m→(f p).length=m) : ∀ (n n' : Nat) (k : Int) (p out : List Bool),p.length=m→out.length=m→falses out < n→falses out < n'→moreG f mx n k p out=moreG f mx n' k p out
  | 0,_,_,_,_,_,_,h,_=>by omega
  | _,0,_,_,_,_,_,_,h=>by omega
  | n + 1,n' + 1,k,p,out,hp,ho,h,h'=>by
    simp only [moreG]
    split
    · split
      · rename_i hc
        have:=(addTo_falses out (f p) (f p).length (by rw [hf p hp,ho];exact Nat.le_refl _)).2 hc
        exact moreG_fuel f mx m hf n n' _ _ _ (hf p hp) (by rw [addTo_len];exact ho) (by omega) (by omega)
      · rfl
    · rfl
end Go.Sv
namespace Go.Sv
open Go Go.Proofs
set_option maxRecDepth 100000
set_option maxHeartbeats 4000000
attribute [local irreducible] W E R KP thenK blockK retK Good xwp aRun
theorem ix_sub0 {fr : Fr} {x i : X} {l : List T} (hx : x.ev fr=.d (.sl (encL l) l.length)) (hi : i.ev fr=.i 0) (hj : 0 < l.length) : xp fr (.idxS 8 x i)=some (.d (.ptr (encL l) 0)):=by
  have:=ix_sub (j:=0) hx hi hj
  simpa using this
theorem any_good' (p : List Bool) {m : Nat} (hm : p.length=m) (h : m≤1000001) : Good Tryz.prog 89 [.d (.sl (encB p) m)] none (.b (p.any id)) none none:=by
  subst hm;exact any_good p h
theorem add_good' (p q : List Bool) {m : Nat} (hp : p.length=m) (hq : q.length=m) (h : m≤1000001) : Good Tryz.prog 81 [.slL 0 0 m 1,.d (.sl (encB q) m)] (some (encB p)) (.b (addTo p q m).2) (some (encB (addTo p q m).1)) none:=by
  subst hq;rw [← hp];exact hp ▸ add_good p q hp h
theorem rep_good {s : ByteArray} (hsz : s.size≤1000000) {cs : List DV} {off : Nat} {k a b c d mn mx : Int} {subs : List T} (hn : NodeAt cs off (.node k a b c d mn mx subs)) (f : List Bool→List Bool) (hf : ∀ p,p.length=s.size + 1→(f p).length=s.size + 1)
    (hg : ∀ p,p.length=s.size + 1→Good Tryz.prog 60 [.d (.val (.string s)),.d (.ptr (encL subs) 0),.d (.sl (encB p) (s.size + 1))] none (.d (.sl (encB (f p)) (s.size + 1))) none none)
    (hlen : 0 < subs.length) (hmn : 0≤mn∧mn≤20) (hmx : mx=-1 ∨ (mn≤mx∧mx≤20)) (p : List Bool) (hp : p.length=s.size + 1) :
    Good Tryz.prog 82 [.d (.val (.string s)),.d (.ptr cs off),.d (.sl (encB p) (s.size + 1))] none (.d (.sl (encB (repG f (s.size + 1) mn mx p)) (s.size + 1))) none none:=by
  refine b135 (by simp) (by simp) (w_init ?_)
  unfold x135
  repeat' (first|(apply r_mvV;rfl)|(apply r_mvP;rfl)|(apply r_nckD;rfl)|(apply r_faddD;rfl)|(apply r_l;apply ld_mn;assumption;rfl)|(apply r_nilK)|(apply k_V;rfl)|(apply k_P;rfl)|(apply k_S;rfl)|(apply k_nil)|(apply w_seq)|(apply w_ops;((conv=>lhs;simp only [Nat.reduceAdd])<;>rfl))|(apply e_thenN)|(apply w_block))
  apply w_loopI (ι:=Nat × List Bool) (S:=fun q=>⟨((((Fr.nil.put 0 (.d (.val (.string s)))).put 1 (.d (.ptr cs off))).put 2 (.d (.sl (encB q.2) (s.size + 1)))).put 12 (.i mn)).put 13 (.i q.1),Heap.nil,Frz.lo 100,100⟩) (m:=fun q=>mn.toNat - q.1)
    (I:=fun q=>(q.1 : Int)≤mn∧q.2.length=s.size + 1∧minG f mn.toNat p=minG f (mn.toNat - q.1) q.2) (i0:=(0,p))
  · exact ⟨by simp;omega,hp,rfl⟩
  · exact wk0 (by omega) (FWk.i rfl rfl (FWk.i rfl rfl (FWk.d rfl rfl (FWk.d rfl rfl (FWk.d rfl rfl FWk.nil)))))
  rintro ⟨i,q⟩ K ⟨hi,hq,hm⟩ hK
  dsimp only at hi hq hm hK ⊢
  by_cases hlt : (i : Int) < mn
  · have he : minG f (mn.toNat - i) q=if q.any id=false then (q,true) else minG f (mn.toNat - (i + 1)) (f q):=by
      rw [show mn.toNat - i=(mn.toNat - (i + 1)) + 1 by omega,minG]
    repeat' (first|(apply r_mvV;rfl)|(apply r_mvP;rfl)|(apply r_mvS;rfl)|(apply r_nckD;rfl)|(apply r_faddD;rfl)|(apply r_l;apply ld_subs;assumption;rfl)|(apply r_callA;rfl;rfl;exact any_good' q hq (by omega))|(apply r_p;apply ix_sub0;rfl;rfl;exact hlen)|(apply r_callA;rfl;rfl;apply hg q hq)|(apply r_lss;rfl;rfl;(first|(apply dT;omega)|(apply dF;omega)|rfl))|(apply r_add;rfl;rfl;rfl;omega)|(apply r_not;rfl;rfl)|(apply r_nilK)|(apply k_V;rfl)|(apply k_P;rfl)|(apply k_S;rfl)|(apply k_nil)|(apply e_ret;rfl)|(apply w_seq)|(apply w_ops;((conv=>lhs;simp only [Nat.reduceAdd])<;>rfl))|(apply w_condT;rfl)|((apply w_condS;rfl)<;>(intro h;try simp only [decide_eq_true_eq,decide_eq_false_iff_not,Bool.not_eq_true,Bool.not_eq_false] at h))|(apply e_thenN)|(apply w_block)|(apply e_thenR)|(apply e_blkN)|(apply e_blkR)|(apply w_ret)|(apply w_skip))
    · refine .data _ ?_
      simp only [Bool.not_eq_true'] at h
      have e : repG f (s.size + 1) mn mx p=q:=by rw [repG,hm,he,if_pos h];rfl
      rw [e];rfl
    · simp only [Bool.not_eq_false'] at h
      apply e_thenK
      apply hK (i + 1,f q)
      · refine ⟨by dsimp only;omega,hf q hq,?_⟩
        rw [hm,he,if_neg (by simp [h])]
      · dsimp only;omega
      · exact wk0 (by omega) (FWk.i rfl (by simp) (FWk.i rfl rfl (FWk.d rfl rfl (FWk.d rfl rfl (FWk.d rfl rfl FWk.nil)))))
  · have ei : mn.toNat - i=0:=by omega
    rw [ei,minG] at hm
    have hrep : repG f (s.size + 1) mn mx p=moreG f mx (s.size + 1 + 1) mn q (addTo (List.replicate (s.size + 1) false) q (s.size + 1)).1:=by
      rw [repG,hm];rfl
    repeat' (first|(apply r_mvV;rfl)|(apply r_mvP;rfl)|(apply r_mvS;rfl)|(apply r_mvSL;rfl)|(apply r_nckD;rfl)|(apply r_faddD;rfl)|(apply r_l;apply ld_mn;assumption;rfl)|(apply r_callM;rfl;rfl;((conv=>lhs;simp only [Nat.reduceAdd])<;>rfl);exact none_good s hsz)|(apply r_callW;rfl;rfl;rfl;rfl;exact add_good' _ q (by simp) hq (by omega))|(apply r_lss;rfl;rfl;(first|(apply dT;omega)|(apply dF;omega)|rfl))|(apply r_nilK)|(apply k_V;rfl)|(apply k_P;rfl)|(apply k_S;rfl)|(apply k_SL;rfl)|(apply k_nil)|(apply w_seq)|(apply w_ops;((conv=>lhs;simp only [Nat.reduceAdd])<;>rfl))|(apply w_condF;rfl)|(apply e_thenN)|(apply w_block)|(apply e_thenX)|(apply e_blkE)|(apply w_exit))
    apply w_loopI (ι:=Int × List Bool × List Bool) (S:=fun q=>⟨((((Fr.nil.put 0 (.d (.val (.string s)))).put 1 (.d (.ptr cs off))).put 2 (.d (.sl (encB q.2.1) (s.size + 1)))).put 7 (.slL 102 0 (s.size + 1) 1)).put 8 (.i q.1),Heap.nil.put 102 ((encB q.2.2).map AV.d),Frz.but 200 102,200⟩) (m:=fun q=>falses q.2.2)
      (I:=fun q=>q.2.1.length=s.size + 1∧q.2.2.length=s.size + 1∧mn≤q.1∧q.1 + falses q.2.2≤mn + (s.size + 1)∧repG f (s.size + 1) mn mx p=moreG f mx (falses q.2.2 + 1) q.1 q.2.1 q.2.2) (i0:=(mn,q,(addTo (List.replicate (s.size + 1) false) q (s.size + 1)).1))
    · have hl : (addTo (List.replicate (s.size + 1) false) q (s.size + 1)).1.length=s.size + 1:=by rw [addTo_len];simp
      have hfl : ∀ r : List Bool,falses r≤r.length:=fun r=>List.countP_le_length
      have h2 : falses (addTo (List.replicate (s.size + 1) false) q (s.size + 1)).1≤s.size + 1:=Nat.le_trans (hfl _) (Nat.le_of_eq hl)
      refine ⟨hq,hl,Int.le_refl _,by dsimp only;clear hrep hm;omega,?_⟩
      rw [hrep]
      exact moreG_fuel f mx (s.size + 1) hf _ _ _ _ _ hq hl (by omega) (Nat.lt_succ_self _)
    · exact wk1D (by omega) (by omega) rfl rfl encB_isD (FWk.i rfl rfl (FWk.sl rfl rfl rfl rfl (by omega) rfl (FWk.d rfl rfl (FWk.d rfl rfl (FWk.d rfl rfl FWk.nil)))))
    rintro ⟨k1,q1,out⟩ K ⟨hq1,ho,hk1,hk2,hm1⟩ hK
    dsimp only at hq1 ho hk1 hk2 hm1 hK ⊢
    have hun : moreG f mx (falses out + 1) k1 q1 out=if mx < 0 ∨ k1 < mx then (if (addTo out (f q1) (s.size + 1)).2=true then moreG f mx (falses out) (k1 + 1) (f q1) (addTo out (f q1) (s.size + 1)).1 else (addTo out (f q1) (s.size + 1)).1) else out:=by
      rw [moreG,hf q1 hq1]
    rw [hun] at hm1
    by_cases hgo : mx < 0 ∨ k1 < mx
    · rw [if_pos hgo] at hm1
      repeat' (first|(apply r_mvV;rfl)|(apply r_mvP;rfl)|(apply r_mvS;rfl)|(apply r_mvSL;rfl)|(apply r_nckD;rfl)|(apply r_faddD;rfl)|(apply r_l;apply ld_mx;assumption;rfl)|(apply r_l;apply ld_subs;assumption;rfl)|(apply r_callA;rfl;rfl;apply hg q1 hq1)|(apply r_p;apply ix_sub0;rfl;rfl;exact hlen)|(apply r_callW;rfl;rfl;rfl;rfl;exact add_good' _ (f q1) ho (hf q1 hq1) (by omega))|(apply r_lss;rfl;rfl;(first|(apply dT;omega)|(apply dF;omega)|rfl))|(apply r_add;rfl;rfl;rfl;omega)|(apply r_not;rfl;rfl)|(apply r_pickT;rfl)|(apply r_pickF;rfl)|(apply r_gT;rfl)|(apply r_gF';rfl;rfl)|((apply r_gS (o:=default);rfl)<;>(intro h;try simp only [decide_eq_true_eq,decide_eq_false_iff_not,Bool.not_eq_true,Bool.not_eq_false] at h))|(apply r_nilK)|(apply k_V;rfl)|(apply k_P;rfl)|(apply k_S;rfl)|(apply k_SL;rfl)|(apply k_nil)|(apply e_ret;rfl)|(apply w_seq)|(apply w_ops;((conv=>lhs;simp only [Nat.reduceAdd])<;>rfl))|(apply w_condT;rfl)|((apply w_condS;rfl)<;>(intro h;try simp only [decide_eq_true_eq,decide_eq_false_iff_not,Bool.not_eq_true,Bool.not_eq_false] at h))|(apply e_thenN)|(apply w_block)|(apply e_thenX)|(apply e_blkN)|(apply e_blkE)|(apply w_exit)|(apply w_ret)|(apply w_skip)|(apply e_blkE';rfl))
      · simp only [Bool.not_eq_true'] at h
        rw [if_neg (by simp [h])] at hm1
        rw [hm1]
        exact retSB rfl (by rw [addTo_len];exact ho)
      · apply e_thenK
        simp only [Bool.not_eq_false'] at h
        have hfs:=(addTo_falses out (f q1) (s.size + 1) (by omega)).2 h
        have hl2 : (addTo out (f q1) (s.size + 1)).1.length=s.size + 1:=by rw [addTo_len];exact ho
        rw [if_pos h] at hm1
        apply hK (k1 + 1,f q1,(addTo out (f q1) (s.size + 1)).1)
        · refine ⟨hf q1 hq1,hl2,by dsimp only;omega,by dsimp only;omega,?_⟩
          rw [hm1]
          exact moreG_fuel f mx (s.size + 1) hf _ _ _ _ _ (hf q1 hq1) hl2 hfs (Nat.lt_succ_self _)
        · exact hfs
        · exact wk1D (by omega) (by omega) rfl rfl encB_isD (FWk.i rfl rfl (FWk.sl rfl rfl rfl rfl (by omega) rfl (FWk.d rfl rfl (FWk.d rfl rfl (FWk.d rfl rfl FWk.nil)))))
      · simp only [Bool.not_eq_true'] at h
        rw [if_neg (by simp [h])] at hm1
        rw [hm1]
        exact retSB rfl (by rw [addTo_len];exact ho)
      · apply e_thenK
        simp only [Bool.not_eq_false'] at h
        have hfs:=(addTo_falses out (f q1) (s.size + 1) (by omega)).2 h
        have hl2 : (addTo out (f q1) (s.size + 1)).1.length=s.size + 1:=by rw [addTo_len];exact ho
        rw [if_pos h] at hm1
        apply hK (k1 + 1,f q1,(addTo out (f q1) (s.size + 1)).1)
        · refine ⟨hf q1 hq1,hl2,by dsimp only;omega,by dsimp only;omega,?_⟩
          rw [hm1]
          exact moreG_fuel f mx (s.size + 1) hf _ _ _ _ _ (hf q1 hq1) hl2 hfs (Nat.lt_succ_self _)
        · exact hfs
        · exact wk1D (by omega) (by omega) rfl rfl encB_isD (FWk.i rfl rfl (FWk.sl rfl rfl rfl rfl (by omega) rfl (FWk.d rfl rfl (FWk.d rfl rfl (FWk.d rfl rfl FWk.nil)))))
    · rw [if_neg hgo] at hm1
      repeat' (first|(apply r_mvV;rfl)|(apply r_mvP;rfl)|(apply r_mvSL;rfl)|(apply r_nckD;rfl)|(apply r_faddD;rfl)|(apply r_l;apply ld_mx;assumption;rfl)|(apply r_lss;rfl;rfl;(first|(apply dT;omega)|(apply dF;omega)|rfl))|(apply r_pickF;rfl)|(apply r_gT;rfl)|(apply r_nilK)|(apply k_V;rfl)|(apply k_P;rfl)|(apply k_S;rfl)|(apply k_SL;rfl)|(apply k_nil)|(apply e_ret;rfl)|(apply w_seq)|(apply w_ops;((conv=>lhs;simp only [Nat.reduceAdd])<;>rfl))|(apply w_condF;rfl)|(apply e_thenN)|(apply e_thenX)|(apply e_blkE)|(apply w_exit)|(apply w_ret))
      rw [hm1]
      exact retSB rfl ho
end Go.Sv
namespace Go.Sv
open Go Go.Proofs
set_option maxRecDepth 100000
set_option maxHeartbeats 4000000
attribute [local irreducible] W E R KP thenK blockK retK Good xwp aRun
theorem retSD {C : Heap} {Z : Frz} {live : Bool} {p p' : List Bool} {m : Nat} (h : p=p') : RetOK C Z (tupOf [.d (.sl (encB p) m)]) live (.d (.sl (encB p') m)) none none:=.data _ (by subst h;rfl)
theorem catG_drop (s : ByteArray) (l : List T) (p : List Bool) (i : Nat) (h : i < l.length) : catG s (l.drop i) p=catG s (l.drop (i + 1)) (stepG s l[i] p):=by
  rw [List.drop_eq_getElem_cons h,catG]
theorem altG_drop (s : ByteArray) (l : List T) (p out : List Bool) (i : Nat) (h : i < l.length) : altG s (l.drop i) p out=altG s (l.drop (i + 1)) p (addTo out (stepG s l[i] p) (s.size + 1)).1:=by
  rw [List.drop_eq_getElem_cons h,altG]
theorem step_good (s : ByteArray) (hsz : s.size≤1000000) : ∀ (n : Nat) (t : T),t.cnt≤n→n≤1000000→okT t→∀ (cs : List DV) (off : Nat) (p : List Bool),NodeAt cs off t→p.length=s.size + 1 →
    Good Tryz.prog 60 [.d (.val (.string s)),.d (.ptr cs off),.d (.sl (encB p) (s.size + 1))] none (.d (.sl (encB (stepG s t p)) (s.size + 1))) none none:=by
  intro n
  induction n with
  | zero=>intro t ht;have:=cnt_pos t;omega
  | succ n ih =>
  intro t ht hc hok cs off p hn hp
  obtain ⟨k,a,b,c,d,mn,mx,subs⟩:=t
  simp only [okT,okN] at hok
  obtain ⟨⟨ha,hb,hcc,hd,hpl⟩,hoks⟩:=hok
  have ih' : ∀ i (h : i < subs.length) (q : List Bool),q.length=s.size + 1→Good Tryz.prog 60 [.d (.val (.string s)),.d (.ptr (encL subs) (i * 8)),.d (.sl (encB q) (s.size + 1))] none (.d (.sl (encB (stepG s subs[i] q)) (s.size + 1))) none none:=by
    intro i h q hq
    refine ih _ ?_ (by omega) (okL_get subs i h hoks) _ _ _ (NodeAt.sub h) hq
    have:=cntL_get subs i h
    simp only [T.cnt] at ht
    omega
  have hlen : subs.length≤1000000:=by
    have:=cntL_len subs
    simp only [T.cnt] at ht
    omega
  have hns:=hn.set
  refine b86 (by simp) (by simp) (w_init ?_)
  unfold x86
  by_cases h2 : k=2
  · have hcl:=class_good hns ha hb hcc hd s p hsz hp
    rw [hp] at hcl
    repeat' (first|(apply r_mvV;rfl)|(apply r_mvP;rfl)|(apply r_mvS;rfl)|(apply r_nckD;rfl)|(apply r_faddD;rfl)|(apply r_l;apply ld_kind;assumption;rfl)|(apply r_callA;rfl;rfl;exact hcl)|(apply r_eql;rfl;rfl;(first|(apply dT;omega)|(apply dF;omega)|rfl))|(apply r_nilK)|(apply k_V;rfl)|(apply k_P;rfl)|(apply k_S;rfl)|(apply k_nil)|(apply e_ret;rfl)|(apply w_seq)|(apply w_ops;((conv=>lhs;simp only [Nat.reduceAdd])<;>rfl))|(apply w_condT;rfl)|(apply e_thenN)|(apply w_block)|(apply e_thenR)|(apply e_blkR)|(apply w_ret))
    refine retSD ?_
    simp [stepG,h2]
  by_cases h3 : k=3
  · repeat' (first|(apply r_mvV;rfl)|(apply r_mvP;rfl)|(apply r_nckD;rfl)|(apply r_faddD;rfl)|(apply r_l;apply ld_kind;assumption;rfl)|(apply r_l;apply ld_subs;assumption;rfl)|(apply r_eql;rfl;rfl;(first|(apply dT;omega)|(apply dF;omega)|rfl))|(apply r_lenD;rfl)|(apply r_nilK)|(apply k_V;rfl)|(apply k_P;rfl)|(apply k_S;rfl)|(apply k_nil)|(apply w_seq)|(apply w_ops;((conv=>lhs;simp only [Nat.reduceAdd])<;>rfl))|(apply w_condT;rfl)|(apply w_condF;rfl)|(apply e_thenN)|(apply w_block))
    apply w_loopI (ι:=Nat × List Bool) (S:=fun q=>⟨((((Fr.nil.put 0 (.d (.val (.string s)))).put 1 (.d (.ptr cs off))).put 2 (.d (.sl (encB q.2) (s.size + 1)))).put 28 (.i subs.length)).put 29 (.i q.1),Heap.nil,Frz.lo 100,100⟩) (m:=fun q=>subs.length - q.1)
      (I:=fun q=>q.1≤subs.length∧q.2.length=s.size + 1∧catG s subs p=catG s (subs.drop q.1) q.2) (i0:=(0,p))
    · exact ⟨Nat.zero_le _,hp,by simp⟩
    · exact wk0 (by omega) (FWk.i rfl rfl (FWk.i rfl rfl (FWk.d rfl rfl (FWk.d rfl rfl (FWk.d rfl rfl FWk.nil)))))
    rintro ⟨i,q⟩ K ⟨hi,hq,hm⟩ hK
    dsimp only at hi hq hm hK ⊢
    rcases Nat.lt_or_ge i subs.length with hlt | hge
    · have hs:=NodeAt.sub hlt
      have hdr:=catG_drop s subs q i hlt
      have hs2:=stepG_len s subs[i] q hq
      repeat' (first|(apply r_mvV;rfl)|(apply r_mvP;rfl)|(apply r_mvS;rfl)|(apply r_nckD;rfl)|(apply r_faddD;rfl)|(apply r_l;apply ld_subs;assumption;rfl)|(apply r_p;apply ix_sub;rfl;rfl;omega)|(apply r_callA;rfl;rfl;exact ih' i hlt q hq)|(apply r_lss;rfl;rfl;(first|(apply dT;omega)|(apply dF;omega)|rfl))|(apply r_add;rfl;rfl;rfl;omega)|(apply r_nilK)|(apply k_V;rfl)|(apply k_P;rfl)|(apply k_S;rfl)|(apply k_nil)|(apply w_seq)|(apply w_ops;((conv=>lhs;simp only [Nat.reduceAdd])<;>rfl))|(apply w_condT;rfl)|(apply e_thenN)|(apply w_block)|(apply e_blkN)|(apply w_skip))
      apply e_thenK
      apply hK (i + 1,stepG s subs[i] q)
      · exact ⟨by dsimp only;omega,hs2,by rw [hm,hdr]⟩
      · dsimp only;omega
      · exact wk0 (by omega) (FWk.i rfl (by simp) (FWk.i rfl rfl (FWk.d rfl rfl (FWk.d rfl rfl (FWk.d rfl rfl FWk.nil)))))
    · repeat' (first|(apply r_mvS;rfl)|(apply r_lss;rfl;rfl;(first|(apply dT;omega)|(apply dF;omega)|rfl))|(apply r_nilK)|(apply k_V;rfl)|(apply k_P;rfl)|(apply k_S;rfl)|(apply k_nil)|(apply e_ret;rfl)|(apply w_seq)|(apply w_ops;((conv=>lhs;simp only [Nat.reduceAdd])<;>rfl))|(apply w_condF;rfl)|(apply e_thenN)|(apply e_thenX)|(apply e_blkN)|(apply e_blkE)|(apply w_exit)|(apply w_ret))
      refine retSD ?_
      rw [show i=subs.length by omega,List.drop_length,catG] at hm
      simp [stepG,h3,hm]
  by_cases h4 : k=4
  · repeat' (first|(apply r_mvV;rfl)|(apply r_mvP;rfl)|(apply r_mvSL;rfl)|(apply r_nckD;rfl)|(apply r_faddD;rfl)|(apply r_l;apply ld_kind;assumption;rfl)|(apply r_l;apply ld_subs;assumption;rfl)|(apply r_callM;rfl;rfl;((conv=>lhs;simp only [Nat.reduceAdd])<;>rfl);exact none_good s hsz)|(apply r_eql;rfl;rfl;(first|(apply dT;omega)|(apply dF;omega)|rfl))|(apply r_lenD;rfl)|(apply r_nilK)|(apply k_V;rfl)|(apply k_P;rfl)|(apply k_S;rfl)|(apply k_SL;rfl)|(apply k_nil)|(apply w_seq)|(apply w_ops;((conv=>lhs;simp only [Nat.reduceAdd])<;>rfl))|(apply w_condT;rfl)|(apply w_condF;rfl)|(apply e_thenN)|(apply w_block))
    apply w_loopI (ι:=Nat × List Bool) (S:=fun q=>⟨(((((Fr.nil.put 0 (.d (.val (.string s)))).put 1 (.d (.ptr cs off))).put 2 (.d (.sl (encB p) (s.size + 1)))).put 8 (.slL 13 0 (s.size + 1) 1)).put 50 (.i subs.length)).put 51 (.i q.1),Heap.nil.put 13 ((encB q.2).map AV.d),Frz.but 100 13,100⟩) (m:=fun q=>subs.length - q.1)
      (I:=fun q=>q.1≤subs.length∧q.2.length=s.size + 1∧altG s subs p (List.replicate (s.size + 1) false)=altG s (subs.drop q.1) p q.2) (i0:=(0,List.replicate (s.size + 1) false))
    · exact ⟨Nat.zero_le _,by simp,by simp⟩
    · exact wk1D (by omega) (by omega) rfl rfl encB_isD (FWk.i rfl rfl (FWk.i rfl rfl (FWk.sl rfl rfl rfl rfl (by omega) rfl (FWk.d rfl rfl (FWk.d rfl rfl (FWk.d rfl rfl FWk.nil))))))
    rintro ⟨i,q⟩ K ⟨hi,hq,hm⟩ hK
    dsimp only at hi hq hm hK ⊢
    rcases Nat.lt_or_ge i subs.length with hlt | hge
    · have hs:=NodeAt.sub hlt
      have hdr:=altG_drop s subs p q i hlt
      have hs2:=stepG_len s subs[i] p hp
      repeat' (first|(apply r_mvV;rfl)|(apply r_mvP;rfl)|(apply r_mvS;rfl)|(apply r_mvSL;rfl)|(apply r_nckD;rfl)|(apply r_faddD;rfl)|(apply r_l;apply ld_subs;assumption;rfl)|(apply r_p;apply ix_sub;rfl;rfl;omega)|(apply r_callA;rfl;rfl;exact ih' i hlt p hp)|(apply r_callW;rfl;rfl;rfl;rfl;exact add_good' q _ hq hs2 (by omega))|(apply r_lss;rfl;rfl;(first|(apply dT;omega)|(apply dF;omega)|rfl))|(apply r_add;rfl;rfl;rfl;omega)|(apply r_nilK)|(apply k_V;rfl)|(apply k_P;rfl)|(apply k_S;rfl)|(apply k_SL;rfl)|(apply k_nil)|(apply w_seq)|(apply w_ops;((conv=>lhs;simp only [Nat.reduceAdd])<;>rfl))|(apply w_condT;rfl)|(apply e_thenN)|(apply w_block)|(apply e_blkN)|(apply w_skip))
      apply e_thenK
      apply hK (i + 1,(addTo q (stepG s subs[i] p) (s.size + 1)).1)
      · exact ⟨by dsimp only;omega,by dsimp only;rw [addTo_len];exact hq,by rw [hm,hdr]⟩
      · dsimp only;omega
      · exact wk1D (by omega) (by omega) rfl rfl encB_isD (FWk.i rfl (by simp) (FWk.i rfl rfl (FWk.sl rfl rfl rfl rfl (by omega) rfl (FWk.d rfl rfl (FWk.d rfl rfl (FWk.d rfl rfl FWk.nil))))))
    · repeat' (first|(apply r_mvSL;rfl)|(apply r_lss;rfl;rfl;(first|(apply dT;omega)|(apply dF;omega)|rfl))|(apply r_nilK)|(apply k_V;rfl)|(apply k_P;rfl)|(apply k_S;rfl)|(apply k_SL;rfl)|(apply k_nil)|(apply e_ret;rfl)|(apply w_seq)|(apply w_ops;((conv=>lhs;simp only [Nat.reduceAdd])<;>rfl))|(apply w_condF;rfl)|(apply e_thenN)|(apply e_thenR)|(apply e_thenX)|(apply e_blkR)|(apply e_blkE)|(apply w_exit)|(apply w_ret))
      rw [show i=subs.length by omega,List.drop_length,altG] at hm
      rw [show stepG s (.node k a b c d mn mx subs) p=q by simp [stepG,h4,hm]]
      exact retSB rfl hq
  by_cases h5 : k=5
  · have hpl5 : subs.length=1∧(0≤mn∧mn≤20)∧(mx=-1 ∨ (mn≤mx∧mx≤20)):=by
      simp [plainT,h5] at hpl
      omega
    have hr:=rep_good hsz hn (fstG s subs) (fun q hq=>fstG_len s subs q hq) (fun q hq=>by
      have:=ih' 0 (by omega) q hq
      rw [Nat.zero_mul] at this
      have e : fstG s subs q=stepG s (subs[0]'(by omega)) q:=by
        match subs,hpl5.1 with
        | t :: l,_=>rw [fstG];rfl
      rw [e];exact this) (by omega) hpl5.2.1 hpl5.2.2 p hp
    repeat' (first|(apply r_mvV;rfl)|(apply r_mvP;rfl)|(apply r_mvS;rfl)|(apply r_nckD;rfl)|(apply r_faddD;rfl)|(apply r_l;apply ld_kind;assumption;rfl)|(apply r_callA;rfl;rfl;exact hr)|(apply r_eql;rfl;rfl;(first|(apply dT;omega)|(apply dF;omega)|rfl))|(apply r_nilK)|(apply k_V;rfl)|(apply k_P;rfl)|(apply k_S;rfl)|(apply k_nil)|(apply e_ret;rfl)|(apply w_seq)|(apply w_ops;((conv=>lhs;simp only [Nat.reduceAdd])<;>rfl))|(apply w_condT;rfl)|(apply w_condF;rfl)|(apply e_thenN)|(apply w_block)|(apply e_thenR)|(apply e_blkR)|(apply w_ret))
    refine retSD ?_
    simp [stepG,h5]
  · repeat' (first|(apply r_mvV;rfl)|(apply r_mvP;rfl)|(apply r_mvS;rfl)|(apply r_nckD;rfl)|(apply r_faddD;rfl)|(apply r_l;apply ld_kind;assumption;rfl)|(apply r_eql;rfl;rfl;(first|(apply dT;omega)|(apply dF;omega)|rfl))|(apply r_nilK)|(apply k_V;rfl)|(apply k_P;rfl)|(apply k_S;rfl)|(apply k_nil)|(apply e_ret;rfl)|(apply w_seq)|(apply w_ops;((conv=>lhs;simp only [Nat.reduceAdd])<;>rfl))|(apply w_condF;rfl)|(apply e_thenN)|(apply w_block)|(apply e_blkN)|(apply w_ret)|(apply w_skip))
    refine retSD ?_
    simp [stepG,h2,h3,h4,h5]
end Go.Sv
namespace Go.Sv
open Go Go.Proofs
def x31 : XC:=(.seq (.ops 3 [ (0,⟨some 3,none,.box (.t 0)⟩),(1,⟨some 6,none,.mv (.k (.d (.val (.slice none 0 0))))⟩),(2,⟨some 7,none,.mv (.k (.d (.val (.int .i64 0))))⟩)] (some [1,2,3,6])) (.seq (.block 0 (.seq (.ops 4 [ (0,⟨some 13,none,.load (some 8) (.t 3)⟩),(1,⟨some 14,none,.call 29 [(.t 13)] none false⟩),(2,⟨some 15,none,.un .not (.t 14)⟩),(3,⟨some 12,none,.mv (.t 15)⟩)] (some [1,2,3,6,12])) (.cond (.t 12) (.seq (.ops 2 [ (0,⟨some 6,none,.mv (.k (.d (.val (.slice none 0 0))))⟩),(1,⟨some 7,none,.mv (.k (.d (.val (.int .i64 1))))⟩)] (some [6,7])) .ret) (.seq (.ops 9 [ (0,⟨some 17,none,.mv (.t 2)⟩),(1,⟨some 18,none,.arith .lss (.t 17) (.k (.d (.val (.int .i64 0))))⟩),(2,⟨some 19,none,.mv (.t 18)⟩),(3,⟨some 20,(some (19,false)),.mv (.t 2)⟩),(4,⟨some 21,(some (19,false)),.mv (.t 1)⟩),(5,⟨some 22,(some (19,false)),.lenT (.t 21)⟩),(6,⟨some 23,(some (19,false)),.arith .gtr (.t 20) (.t 22)⟩),(7,⟨some 24,none,.pick (.t 19) (.k (.d (.val (.bool true)))) (.t 23)⟩),(8,⟨some 16,none,.mv (.t 24)⟩)] (some [1,2,3,6,16])) (.cond (.t 16) (.seq (.ops 2 [ (0,⟨some 6,none,.mv (.k (.d (.val (.slice none 0 0))))⟩),(1,⟨some 7,none,.mv (.k (.d (.val (.int .i64 2))))⟩)] (some [6,7])) .ret) .skip))))) (.seq (.ops 2 [ (0,⟨some 25,none,.mv (.t 1)⟩),(1,⟨some 8,none,.mv (.t 25)⟩)] (some [2,3,6,8])) (.seq (.ops 3 [ (0,⟨some 26,none,.mv (.t 8)⟩),(1,⟨some 27,none,.call 59 [(.t 26)] none true⟩),(2,⟨some 9,none,.mv (.t 27)⟩)] (some [2,3,6,8,9])) (.seq (.ops 4 [ (0,⟨some 28,none,.mv (.t 9)⟩),(1,⟨some 29,none,.mv (.t 2)⟩),(2,⟨some 30,none,.idxS 1 (.t 28) (.t 29)⟩),(3,⟨none,none,.store 1 (.t 30) (.k (.d (.val (.bool true))))⟩)] (some [3,6,8,9])) (.seq (.seq (.ops 5 [ (0,⟨some 31,none,.mv (.t 8)⟩),(1,⟨some 32,none,.mv (.t 9)⟩),(2,⟨some 33,none,.call 60 [(.t 31),(.t 3),(.t 32)] none false⟩),(3,⟨some 34,none,.lenS (.t 33)⟩),(4,⟨some 35,none,.mv (.k (.d (.val (.int .i64 0))))⟩)] (some [6,33,34,35])) (.block 1 (.loop (.seq (.ops 1 [ (0,⟨some 36,none,.arith .lss (.t 35) (.t 34)⟩)] (some [6,33,34,35,36])) (.seq (.cond (.t 36) .skip (.exit 1)) (.seq (.block 2 (.seq (.ops 5 [ (0,⟨some 37,none,.mv (.t 35)⟩),(1,⟨some 38,none,.idxS 1 (.t 33) (.t 35)⟩),(2,⟨some 39,none,.load none (.t 38)⟩),(3,⟨some 10,none,.mv (.t 37)⟩),(4,⟨some 11,none,.mv (.t 39)⟩)] (some [6,10,11,33,34,35])) (.seq (.ops 1 [ (0,⟨some 40,none,.mv (.t 11)⟩)] (some [6,10,33,34,35,40])) (.cond (.t 40) (.ops 5 [ (0,⟨some 41,none,.mv (.t 6)⟩),(1,⟨some 42,none,.mv (.t 10)⟩),(2,⟨some 43,none,.mkrow [(.int .i64 0)] 1 1 [(0,1,(.t 42))]⟩),(3,⟨some 44,none,.app [(.int .i64 0)] 8 (.t 41) (.t 43)⟩),(4,⟨some 6,none,.mv (.t 44)⟩)] (some [6,33,34,35])) .skip)))) (.ops 2 [ (0,⟨some 45,none,.arith .add (.t 35) (.k (.d (.val (.int .i64 1))))⟩),(1,⟨some 35,none,.mv (.t 45)⟩)] (some [6,33,34,35])))))))) (.seq (.ops 3 [ (0,⟨some 46,none,.mv (.t 6)⟩),(1,⟨some 6,none,.mv (.t 46)⟩),(2,⟨some 7,none,.mv (.k (.d (.val (.int .i64 0))))⟩)] (some [6,7])) .ret)))))))
def md31 : FuncId→Option Nat × Bool
  | 59=>(none,true)
  | _=>(none,false)
def od31 : Nat→List (List Nat) × List Nat × Option (List Nat)
  | 0=>([],[],some [1,2,3,6])
  | 1=>([],[],some [1,2,3,6,12])
  | 2=>([],[],some [6,7])
  | 3=>([],[],some [1,2,3,6,16])
  | 4=>([],[],some [6,7])
  | 5=>([],[],some [2,3,6,8])
  | 6=>([],[],some [2,3,6,8,9])
  | 7=>([],[],some [3,6,8,9])
  | 8=>([],[],some [6,33,34,35])
  | 9=>([],[],some [6,33,34,35,36])
  | 10=>([],[],some [6,10,11,33,34,35])
  | 11=>([],[],some [6,10,33,34,35,40])
  | 12=>([],[],some [6,33,34,35])
  | 13=>([],[],some [6,33,34,35])
  | 14=>([],[],some [6,7])
  | _=>([],[],none)
theorem b31 {ags : List AV} {row : Option (List DV)} {r : AV} {row' nw : Option (List DV)} (hal : ags.length≤47) (hrow : row'.isSome=true→row.isSome=true) (h : xwp Tryz.prog x31 (retK [.tmp 6,.tmp 7] row.isSome r row' nw) (St.init ags row)) : Good Tryz.prog 39 ags row r row' nw :=
  good_of_body' (md:=md31) (od:=od31) Tryz.f39 (by kernel_rfl) (by kernel_rfl) (by kernel_rfl) (by kernel_rfl) (by kernel_rfl) hal hrow h

set_option maxRecDepth 100000
set_option maxHeartbeats 4000000
attribute [local irreducible] W E R KP thenK blockK retK Good xwp aRun
def idxTo (q : List Bool) : Nat→List Int
  | 0=>[]
  | i + 1=>if q.getD i false=true then idxTo q i++[(i : Int)] else idxTo q i
theorem idxTo_len (q : List Bool) : ∀ i,(idxTo q i).length≤i
  | 0=>Nat.le_refl _
  | i + 1=>by
    have:=idxTo_len q i
    simp only [idxTo];split
    · simp;omega
    · omega
def allG (s : ByteArray) (t : T) (from_ : Int) : List Int :=
  if fitsT t 12=true∧0≤from_∧from_≤s.size then idxTo (stepG s t ((List.replicate (s.size + 1) false).set from_.toNat true)) (s.size + 1) else []
def allE (s : ByteArray) (t : T) (from_ : Int) : Int :=
  if fitsT t 12=true then (if 0≤from_∧from_≤s.size then 0 else 2) else 1
theorem all_good (s : ByteArray) (hsz : s.size≤1000000) (t : T) (hc : t.cnt≤1000000) (hok : fitsT t 12=true→okT t) (from_ : Int) :
    Good Tryz.prog 39 [nodeA t,.d (.val (.string s)),.i from_] none (.tup [.d (.sl (encI (allG s t from_)) (allG s t from_).length),.i (allE s t from_)]) none none:=by
  have hright:=right_good t hc
  have hstep:=fun (h : fitsT t 12=true)=>step_good s hsz 1000000 t hc (Nat.le_refl _) (hok h)
  obtain ⟨k,a,b,c,d,mn,mx,subs⟩:=t
  have e0 : nodeA (.node k a b c d mn mx subs)=.agg [.i k,.d (.val (.int .u64 a)),.d (.val (.int .u64 b)),.d (.val (.int .u64 c)),.d (.val (.int .u64 d)),.i mn,.i mx,.d (.sl (encL subs) subs.length)]:=rfl
  rw [e0] at hright ⊢
  refine b31 (by simp) (by simp) (w_init ?_)
  unfold x31
  rcases Bool.eq_false_or_eq_true (fitsT (.node k a b c d mn mx subs) 12) with hR | hR
  case inr =>
    rw [hR] at hright
    repeat' (first|(apply r_mvV;rfl)|(apply r_callA;rfl;rfl;exact hright)|(apply r_ldL;rfl;rfl;rfl)|(apply r_not;rfl;rfl)|(apply r_box;((conv=>lhs;simp only [Nat.reduceAdd])<;>rfl);rfl;rfl;rfl)|(apply r_nilK)|(apply k_V;rfl)|(apply k_PL;rfl)|(apply k_nil)|(apply e_ret;rfl)|(apply w_seq)|(apply w_ops;((conv=>lhs;simp only [Nat.reduceAdd])<;>rfl))|(apply w_condT;rfl)|(apply e_thenN)|(apply w_block)|(apply e_thenR)|(apply e_blkR)|(apply w_ret))
    rw [show allG s (.node k a b c d mn mx subs) from_=[] by simp [allG,hR],show allE s (.node k a b c d mn mx subs) from_=1 by simp [allE,hR]]
    exact .data _ rfl
  rw [hR] at hright
  by_cases hfr : 0≤from_∧from_≤s.size
  case neg =>
    rw [show allG s (.node k a b c d mn mx subs) from_=[] by simp only [allG,hfr,and_false,if_false],show allE s (.node k a b c d mn mx subs) from_=2 by simp only [allE,hR,hfr,if_true,if_false]]
    repeat' (first|(apply r_mvV;rfl)|(apply r_callA;rfl;rfl;exact hright)|(apply r_ldL;rfl;rfl;rfl)|(apply r_lss;rfl;rfl;(first|(apply dT;omega)|(apply dF;omega)|rfl))|(apply r_gtr;rfl;rfl;(first|(apply dT;omega)|(apply dF;omega)|rfl))|(apply r_not;rfl;rfl)|(apply r_pickT;rfl)|(apply r_pickF;rfl)|(apply r_lenT;rfl)|(apply r_gT;rfl)|(apply r_gF';rfl;rfl)|((apply r_gS (o:=default);rfl)<;>(intro h;try simp only [decide_eq_true_eq,decide_eq_false_iff_not,Bool.not_eq_true,Bool.not_eq_false] at h))|(apply r_box;((conv=>lhs;simp only [Nat.reduceAdd])<;>rfl);rfl;rfl;rfl)|(apply r_nilK)|(apply k_V;rfl)|(apply k_PL;rfl)|(apply k_nil)|(apply e_ret;rfl)|(apply w_seq)|(apply w_ops;((conv=>lhs;simp only [Nat.reduceAdd])<;>rfl))|(apply w_condT;rfl)|(apply w_condF;rfl)|(apply e_thenN)|(apply w_block)|(apply e_thenR)|(apply e_blkR)|(apply w_ret))
    all_goals exact .data _ rfl
  obtain ⟨j,rfl⟩:=Int.eq_ofNat_of_zero_le hfr.1
  have hj : j < s.size + 1:=by omega
  have hl0 : ((List.replicate (s.size + 1) false).set j true).length=s.size + 1:=by simp
  have hst:=hstep hR (encN (.node k a b c d mn mx subs)) 0 _ (NodeAt.self _) hl0
  have hcv : convAs ((((Heap.init none).put 1 [.i k,.d (.val (.int .u64 a)),.d (.val (.int .u64 b)),.d (.val (.int .u64 c)),.d (.val (.int .u64 d)),.i mn,.i mx,.d (.sl (encL subs) subs.length)]).put 20 ((encB (List.replicate (s.size + 1) false)).map AV.d)).put 20 ((encB ((List.replicate (s.size + 1) false).set j true)).map AV.d))
      (fun _=>false) [.d (.val (.string s)),.ptrL 1 0,.slL 20 0 (s.size + 1) 1]=some ([.d (.val (.string s)),.d (.ptr (encN (.node k a b c d mn mx subs)) 0),.d (.sl (encB ((List.replicate (s.size + 1) false).set j true)) (s.size + 1))],[1,20]):=by
    simp only [convAs,convA]
    rw [conv_slB (p:=(List.replicate (s.size + 1) false).set j true) rfl rfl hl0 (by omega)]
    rfl
  generalize hq : stepG s (.node k a b c d mn mx subs) ((List.replicate (s.size + 1) false).set j true)=q at hst
  have hql : q.length=s.size + 1:=by rw [← hq];exact stepG_len s _ _ hl0
  have hall : allG s (.node k a b c d mn mx subs) (j : Nat)=idxTo q (s.size + 1):=by
    simp only [allG,hR,hfr,and_self,if_true,Int.toNat_natCast,hq]
  have hal2 : allE s (.node k a b c d mn mx subs) (j : Nat)=0:=by
    simp only [allE,hR,hfr,and_self,if_true]
  rw [hall,hal2]
  repeat' (first|(apply r_mvV;rfl)|(apply r_mvSL;rfl)|(apply r_callA;rfl;rfl;exact hright)|(apply r_callM;rfl;rfl;((conv=>lhs;simp only [Nat.reduceAdd])<;>rfl);exact none_good s hsz)|(apply r_ixL;rfl;rfl;exact hj)|(apply r_stB;rfl;rfl;rfl;rfl;(simp;omega))|(apply r_call;rfl;exact hcv;exact hst;rfl)|(apply r_ldL;rfl;rfl;rfl)|(apply r_lss;rfl;rfl;(first|(apply dT;omega)|(apply dF;omega)|rfl))|(apply r_gtr;rfl;rfl;(first|(apply dT;omega)|(apply dF;omega)|rfl))|(apply r_not;rfl;rfl)|(apply r_pickF;rfl)|(apply r_lenD;rfl)|(apply r_lenT;rfl)|(apply r_gT;rfl)|(apply r_box;((conv=>lhs;simp only [Nat.reduceAdd])<;>rfl);rfl;rfl;rfl)|(apply r_nilK)|(apply k_V;rfl)|(apply k_PL;rfl)|(apply k_S;rfl)|(apply k_SL;rfl)|(apply k_nil)|(apply w_seq)|(apply w_ops;((conv=>lhs;simp only [Nat.reduceAdd])<;>rfl))|(apply w_condF;rfl)|(apply e_thenN)|(apply w_block)|(apply e_blkN)|(apply w_skip))
  apply w_loopI (S:=fun i : Nat=>⟨(((Fr.nil.put 6 (.slL 5 0 (idxTo q i).length 1)).put 33 (.d (.sl (encB q) (s.size + 1)))).put 34 (.i ((s.size + 1 : Nat) : Int))).put 35 (.i i),Heap.nil.put 5 ((encI (idxTo q i)).map AV.d),Frz.but 200 5,200⟩) (m:=fun i=>s.size + 1 - i) (I:=fun i=>i≤s.size + 1) (i0:=0)
  · exact Nat.zero_le _
  · exact wkN (by omega) (by omega) (FWk.i rfl rfl (FWk.i rfl rfl (FWk.d rfl rfl (FWk.slN rfl (by omega) rfl FWk.nil))))
  intro i K hi hK
  dsimp only
  rcases Nat.lt_or_ge i (s.size + 1) with hlt | hge
  · have hg : q[i]?=some (q.getD i false):=by
      rw [List.getD_eq_getElem?_getD,List.getElem?_eq_getElem (by omega)];rfl
    have hidx:=idxTo_len q i
    repeat' (first|(apply r_mvV;rfl)|(apply r_mvSL;rfl)|(apply r_ixB';rfl;rfl;exact hlt;exact hql)|(apply r_ldB;rfl;exact hg)|(apply r_mkrow1;rfl;((conv=>lhs;simp only [Nat.reduceAdd])<;>rfl))|(apply r_app1;rfl;rfl;rfl;rfl;rfl;((conv=>lhs;simp only [Nat.reduceAdd])<;>rfl);rfl;omega)|(apply r_lss;rfl;rfl;(first|(apply dT;omega)|(apply dF;omega)|rfl))|(apply r_add;rfl;rfl;rfl;omega)|(apply r_nilK)|(apply k_V;rfl)|(apply k_S;rfl)|(apply k_SL;rfl)|(apply k_nil)|(apply w_seq)|(apply w_ops;((conv=>lhs;simp only [Nat.reduceAdd])<;>rfl))|(apply w_condT;rfl)|((apply w_condS;rfl)<;>(intro h;try simp only [decide_eq_true_eq,decide_eq_false_iff_not,Bool.not_eq_true,Bool.not_eq_false] at h))|(apply e_thenN)|(apply w_block)|(apply e_blkN)|(apply w_skip))
    · have e : idxTo q (i + 1)=idxTo q i++[(i : Int)]:=by rw [idxTo,if_pos h]
      apply e_thenK
      apply hK (i + 1)
      · omega
      · omega
      · exact wkC (c:=210) (by omega) (by omega) (by rw [e];rfl) rfl encI_isD (FWk.i rfl (by simp) (FWk.i rfl rfl (FWk.d rfl rfl (FWk.sl rfl rfl (by rw [e,List.length_append];rfl) rfl (by omega) rfl FWk.nil))))
    · have e : idxTo q (i + 1)=idxTo q i:=by rw [idxTo,if_neg (by simp only [h];simp)]
      apply e_thenK
      apply hK (i + 1)
      · omega
      · omega
      · exact wkC (c:=5) (by omega) (by omega) (by rw [e];rfl) rfl encI_isD (FWk.i rfl (by simp) (FWk.i rfl rfl (FWk.d rfl rfl (FWk.sl rfl rfl (by rw [e]) rfl (by omega) rfl FWk.nil))))
  · repeat' (first|(apply r_mvV;rfl)|(apply r_mvSL;rfl)|(apply r_lss;rfl;rfl;(first|(apply dT;omega)|(apply dF;omega)|rfl))|(apply r_nilK)|(apply k_V;rfl)|(apply k_S;rfl)|(apply k_SL;rfl)|(apply k_nil)|(apply e_ret;rfl)|(apply w_seq)|(apply w_ops;((conv=>lhs;simp only [Nat.reduceAdd])<;>rfl))|(apply w_condF;rfl)|(apply e_thenN)|(apply e_thenX)|(apply e_blkE)|(apply w_exit)|(apply w_ret))
    have ei : i=s.size + 1:=by omega
    subst ei
    exact retLI rfl rfl rfl
end Go.Sv
namespace Go.Sv
open Go Go.Proofs
def x34 : XC:=(.seq (.ops 2 [ (0,⟨some 3,none,.box (.t 0)⟩),(1,⟨some 6,none,.mv (.k (.d (.val (.int .i64 0))))⟩)] (some [1,2,3])) (.seq (.ops 9 [ (0,⟨some 10,none,.load (some 8) (.t 3)⟩),(1,⟨some 11,none,.mv (.t 1)⟩),(2,⟨some 12,none,.mv (.t 2)⟩),(3,⟨some 13,none,.call 39 [(.t 10),(.t 11),(.t 12)] none false⟩),(4,⟨some 9,none,.mv (.t 13)⟩),(5,⟨some 14,none,.ext (.t 9) 0⟩),(6,⟨some 15,none,.ext (.t 9) 1⟩),(7,⟨some 7,none,.mv (.t 14)⟩),(8,⟨some 8,none,.mv (.t 15)⟩)] (some [7])) (.seq (.seq (.ops 3 [ (0,⟨some 16,none,.mv (.t 7)⟩),(1,⟨some 17,none,.lenS (.t 16)⟩),(2,⟨some 18,none,.arith .eql (.t 17) (.k (.d (.val (.int .i64 0))))⟩)] (some [7,18])) (.cond (.t 18) (.seq (.ops 1 [ (0,⟨some 6,none,.mv (.k (.d (.val (.int .i64 (-1)))))⟩)] (some [6])) .ret) .skip)) (.seq (.ops 7 [ (0,⟨some 19,none,.mv (.t 7)⟩),(1,⟨some 20,none,.mv (.t 7)⟩),(2,⟨some 21,none,.lenS (.t 20)⟩),(3,⟨some 22,none,.arith .sub (.t 21) (.k (.d (.val (.int .i64 1))))⟩),(4,⟨some 23,none,.idxS 1 (.t 19) (.t 22)⟩),(5,⟨some 24,none,.load none (.t 23)⟩),(6,⟨some 6,none,.mv (.t 24)⟩)] (some [6])) .ret))))
def md34 : FuncId→Option Nat × Bool
  | _=>(none,false)
def od34 : Nat→List (List Nat) × List Nat × Option (List Nat)
  | 0=>([],[],some [1,2,3])
  | 1=>([],[],some [7])
  | 2=>([],[],some [7,18])
  | 3=>([],[],some [6])
  | 4=>([],[],some [6])
  | _=>([],[],none)
theorem b34 {ags : List AV} {row : Option (List DV)} {r : AV} {row' nw : Option (List DV)} (hal : ags.length≤25) (hrow : row'.isSome=true→row.isSome=true) (h : xwp Tryz.prog x34 (retK [.tmp 6] row.isSome r row' nw) (St.init ags row)) : Good Tryz.prog 24 ags row r row' nw :=
  good_of_body' (md:=md34) (od:=od34) Tryz.f24 (by kernel_rfl) (by kernel_rfl) (by kernel_rfl) (by kernel_rfl) (by kernel_rfl) hal hrow h

def x33 : XC:=(.seq (.ops 2 [ (0,⟨some 2,none,.box (.t 0)⟩),(1,⟨some 4,none,.mv (.k (.d (.val (.bool false))))⟩)] (some [1,2])) (.seq (.ops 7 [ (0,⟨some 5,none,.load (some 8) (.t 2)⟩),(1,⟨some 6,none,.mv (.t 1)⟩),(2,⟨some 7,none,.call 24 [(.t 5),(.t 6),(.k (.d (.val (.int .i64 0))))] none false⟩),(3,⟨some 8,none,.mv (.t 1)⟩),(4,⟨some 9,none,.lenT (.t 8)⟩),(5,⟨some 10,none,.arith .eql (.t 7) (.t 9)⟩),(6,⟨some 4,none,.mv (.t 10)⟩)] (some [4])) .ret))
def md33 : FuncId→Option Nat × Bool
  | _=>(none,false)
def od33 : Nat→List (List Nat) × List Nat × Option (List Nat)
  | 0=>([],[],some [1,2])
  | 1=>([],[],some [4])
  | _=>([],[],none)
theorem b33 {ags : List AV} {row : Option (List DV)} {r : AV} {row' nw : Option (List DV)} (hal : ags.length≤11) (hrow : row'.isSome=true→row.isSome=true) (h : xwp Tryz.prog x33 (retK [.tmp 4] row.isSome r row' nw) (St.init ags row)) : Good Tryz.prog 10 ags row r row' nw :=
  good_of_body' (md:=md33) (od:=od33) Tryz.f10 (by kernel_rfl) (by kernel_rfl) (by kernel_rfl) (by kernel_rfl) (by kernel_rfl) hal hrow h

section
variable {P : Program} {Q : Cont} {fr : Fr} {C : Heap} {Z : Frz} {nx : Nat} {base n d : Nat} {l : List (Nat × XO)} {kp : Option (List Nat)} {x i y s : X}
theorem r_ixI {L : List Int} {m j : Nat} {e : Int} (hx : x.ev fr=.d (.sl (encI L) m)) (hi : i.ev fr=.i e) (he : e=(j : Nat)) (hm : L.length=m) (hj : j < m) (k : R P l base kp Q nx (fr.put d (.d (.ptr (encI L) j))) C Z) : R P ((n,⟨some d,none,.idxS 1 x i⟩) :: l) base kp Q nx fr C Z:=by
  subst hm he
  refine r_p ?_ k
  have hne : encI L ≠ []:=fun h=>by
    have:=congrArg List.length h
    rw [encI_len,List.length_nil] at this;omega
  simp [xp,hx,hi,hne,intIn,hj]
theorem r_ldI {L : List Int} {j : Nat} {v : Int} (hx : x.ev fr=.d (.ptr (encI L) j)) (hb : L[j]?=some v) (k : R P l base kp Q nx (fr.put d (.i v)) C Z) : R P ((n,⟨some d,none,.load none x⟩) :: l) base kp Q nx fr C Z:=by
  refine r_l ?_ k
  simp [xl,hx,rowOf,subA,encI,hb]
end
set_option maxRecDepth 100000
set_option maxHeartbeats 4000000
attribute [local irreducible] W E R KP thenK blockK retK Good xwp aRun
def lastG (L : List Int) : Int:=if L.length=0 then -1 else L.getD (L.length - 1) 0
theorem longest_good (s : ByteArray) (hsz : s.size≤1000000) (t : T) (hc : t.cnt≤1000000) (hok : fitsT t 12=true→okT t) (from_ : Int) :
    Good Tryz.prog 24 [nodeA t,.d (.val (.string s)),.i from_] none (.i (lastG (allG s t from_))) none none:=by
  have hall:=all_good s hsz t hc hok from_
  have hL : (allG s t from_).length≤1000001:=by
    simp only [allG]
    split
    · exact Nat.le_trans (idxTo_len _ _) (by omega)
    · simp
  generalize allG s t from_=L at hall hL ⊢
  obtain ⟨k,a,b,c,d,mn,mx,subs⟩:=t
  have e0 : nodeA (.node k a b c d mn mx subs)=.agg [.i k,.d (.val (.int .u64 a)),.d (.val (.int .u64 b)),.d (.val (.int .u64 c)),.d (.val (.int .u64 d)),.i mn,.i mx,.d (.sl (encL subs) subs.length)]:=rfl
  rw [e0] at hall ⊢
  refine b34 (by simp) (by simp) (w_init ?_)
  unfold x34
  rcases Nat.eq_zero_or_pos L.length with h0 | h0
  · repeat' (first|(apply r_mvV;rfl)|(apply r_mvS;rfl)|(apply r_mvT;rfl)|(apply r_callA;rfl;rfl;exact hall)|(apply r_ldL;rfl;rfl;rfl)|(apply r_eql;rfl;rfl;(first|(apply dT;omega)|(apply dF;omega)|rfl))|(apply r_lenD;rfl)|(apply r_ext;rfl;rfl)|(apply r_box;((conv=>lhs;simp only [Nat.reduceAdd])<;>rfl);rfl;rfl;rfl)|(apply r_nilK)|(apply k_V;rfl)|(apply k_PL;rfl)|(apply k_S;rfl)|(apply k_nil)|(apply e_ret (vs:=[.d (.val _)]);rfl)|(apply w_seq)|(apply w_ops;((conv=>lhs;simp only [Nat.reduceAdd])<;>rfl))|(apply w_condT;rfl)|(apply e_thenN)|(apply e_thenR)|(apply w_ret))
    refine retI ?_
    simp [lastG,h0]
  · have hg : L[L.length - 1]?=some (L.getD (L.length - 1) 0):=by
      rw [List.getD_eq_getElem?_getD,List.getElem?_eq_getElem (by omega)];rfl
    repeat' (first|(apply r_mvV;rfl)|(apply r_mvS;rfl)|(apply r_mvT;rfl)|(apply r_callA;rfl;rfl;exact hall)|(apply r_ixI (j:=L.length - 1);rfl;rfl;omega;rfl;omega)|(apply r_ldI;rfl;exact hg)|(apply r_ldL;rfl;rfl;rfl)|(apply r_eql;rfl;rfl;(first|(apply dT;omega)|(apply dF;omega)|rfl))|(apply r_sub;rfl;rfl;rfl;omega)|(apply r_lenD;rfl)|(apply r_ext;rfl;rfl)|(apply r_box;((conv=>lhs;simp only [Nat.reduceAdd])<;>rfl);rfl;rfl;rfl)|(apply r_nilK)|(apply k_V;rfl)|(apply k_PL;rfl)|(apply k_S;rfl)|(apply k_nil)|(apply e_ret (vs:=[.d (.val _)]);rfl)|(apply w_seq)|(apply w_ops;((conv=>lhs;simp only [Nat.reduceAdd])<;>rfl))|(apply w_condF;rfl)|(apply e_thenN)|(apply w_ret)|(apply w_skip))
    refine retI ?_
    rw [lastG,if_neg (by omega)]
theorem match_good (s : ByteArray) (hsz : s.size≤1000000) (t : T) (hc : t.cnt≤1000000) (hok : fitsT t 12=true→okT t) :
    Good Tryz.prog 10 [nodeA t,.d (.val (.string s))] none (.b (decide (lastG (allG s t 0)=s.size))) none none:=by
  have hall:=longest_good s hsz t hc hok 0
  obtain ⟨k,a,b,c,d,mn,mx,subs⟩:=t
  have e0 : nodeA (.node k a b c d mn mx subs)=.agg [.i k,.d (.val (.int .u64 a)),.d (.val (.int .u64 b)),.d (.val (.int .u64 c)),.d (.val (.int .u64 d)),.i mn,.i mx,.d (.sl (encL subs) subs.length)]:=rfl
  rw [e0] at hall ⊢
  refine b33 (by simp) (by simp) (w_init ?_)
  unfold x33
  repeat' (first|(apply r_mvV;rfl)|(apply r_callA;rfl;rfl;exact hall)|(apply r_ldL;rfl;rfl;rfl)|(apply r_eql;rfl;rfl;(first|(apply dT;omega)|(apply dF;omega)|rfl))|(apply r_lenT;rfl)|(apply r_box;((conv=>lhs;simp only [Nat.reduceAdd])<;>rfl);rfl;rfl;rfl)|(apply r_nilK)|(apply k_V;rfl)|(apply k_PL;rfl)|(apply k_nil)|(apply e_ret (vs:=[.d (.val _)]);rfl)|(apply w_seq)|(apply w_ops;((conv=>lhs;simp only [Nat.reduceAdd])<;>rfl))|(apply e_thenN)|(apply w_ret))
  all_goals exact retB rfl
end Go.Sv
namespace Go.Sv
open Go Go.Proofs
set_option maxRecDepth 100000
def xa118 : XC:=(.ops 3 [ (0,⟨some 2,none,.alloc [(.int .i64 0),(.int .u64 0),(.int .u64 0),(.int .u64 0),(.int .u64 0),(.int .i64 0),(.int .i64 0),(.slice none 0 0)]⟩),(1,⟨some 3,none,.alloc [(.int .i64 0)]⟩),(2,⟨some 4,none,.alloc [(.int .i64 0)]⟩)] (some [0,2,3,4]))
def xb118 : XC:=(.seq (.ops 4 [ (0,⟨some 7,none,.mv (.t 0)⟩),(1,⟨some 8,none,.build [(.string ⟨#[]⟩),(.int .i64 0),(.int .i64 0)] [(0,1,(.t 7))]⟩),(2,⟨some 9,none,.box (.t 8)⟩),(3,⟨some 5,none,.mv (.t 9)⟩)] (some [0,2,3,4,5])) (.seq (.ops 3 [ (0,⟨some 10,none,.mv (.t 5)⟩),(1,⟨some 11,none,.call 47 [(.t 10)] (some 0) false⟩),(2,⟨none,none,.store 8 (.t 2) (.t 11)⟩)] (some [0,2,3,4,5])) (.seq (.ops 13 [ (0,⟨some 12,none,.mv (.t 5)⟩),(1,⟨some 13,none,.mv (.t 5)⟩),(2,⟨some 14,none,.nilck (.t 13)⟩),(3,⟨some 15,none,.fadd 1 (.t 14)⟩),(4,⟨some 16,none,.load none (.t 15)⟩),(5,⟨some 17,none,.mv (.t 0)⟩),(6,⟨some 18,none,.lenT (.t 17)⟩),(7,⟨some 19,none,.arith .eql (.t 16) (.t 18)⟩),(8,⟨some 20,none,.mv (.t 5)⟩),(9,⟨some 21,none,.nilck (.t 20)⟩),(10,⟨some 22,none,.fadd 1 (.t 21)⟩),(11,⟨some 23,none,.load none (.t 22)⟩),(12,⟨some 24,none,.call 48 [(.t 12),(.t 19),(.t 23)] none false⟩)] (some [2,3,4])) (.seq (.ops 4 [ (0,⟨some 25,none,.load (some 8) (.t 2)⟩),(1,⟨none,none,.store 8 (.t 2) (.t 25)⟩),(2,⟨none,none,.store 1 (.t 3) (.k (.d (.val (.int .i64 0))))⟩),(3,⟨none,none,.store 1 (.t 4) (.k (.d (.val (.int .i64 0))))⟩)] (some [2,3,4])) .ret))))
def md118 : FuncId→Option Nat × Bool
  | 47=>(some 0,false)
  | _=>(none,false)
def od118 : Nat→List (List Nat) × List Nat × Option (List Nat)
  | 0=>([],[],some [0,2,3,4])
  | 2=>([],[],some [0,2,3,4,5])
  | 3=>([],[],some [0,2,3,4,5])
  | 4=>([[],[],[1],[1,2],[1,2,3],[],[5],[1,2,3,4,5,6],[],[8],[8,9],[8,9,10],[0,1,2,3,4,5,6,7,8,9,10,11]],[0,1,2,3,4,5,6,7,8,9,10,11,12],some [2,3,4])
  | 5=>([],[],some [2,3,4])
  | _=>([],[],none)
def rs118 : List XRes:=[.cell 2 (some 8),.cell 3 none,.cell 4 none]
theorem run_nilnil (w : World) : (binOp BinOp.eql 20 Value.nilIface Value.nilIface).run Tryz.prog w=.ok (.bool true) w:=by
  kernel_rfl
theorem catch_idle (v0 v1 v2 : Value) (w : World) : CallsD Tryz.prog 46 #[v0,v1,v2] .returning w fun e u' w'=>e=.returned (.tuple #[])∧u'=.returning∧w'=w:=by
  refine callsD_of_wpS Tryz.func46 rfl fun c₀ cs hu=>?_
  apply wpS_seq
  apply wpS_region
  simp [wpOpsS,go_sem,recoverD,hu,Tryz.ntmps46,Exit.thenS]
  refine wpS_of_wp (wp_block (wp_seq (wp_region ?_)))
  simp [wpOps,go_sem,run_nilnil,Exit.then]
  refine Or.inl ?_
  refine wp_cond (t:=true) ?_ ?_
  · simp [Act.eval]
  simp only [if_true]
  refine wp_region ?_
  simp [wpOps,go_sem,Exit.inBlock,bodyPostS,results,Tryz.results46]
  refine Or.inl ?_
  cases c₀
  simp_all
theorem p118 : ∃ r0 rest o0 o1,Tryz.f27.body=some (.seq r0 (.seq (.region 1 #[o0,o1] false) rest))∧compC Tryz.prog md118 od118 26 r0=some xa118∧compC Tryz.prog md118 od118 26 rest=some xb118 ∧
    o0.op=.makeFunc (.func 46) #[] #[.tmp 2,.tmp 3,.tmp 4]∧o0.dst=some 6∧o0.guard=none∧o1.op=.defer { callee:=.value (.tmp 6),args:=#[],argTypes:=#[] }∧o1.dst=none∧o1.guard=none :=
  ⟨_,_,_,_,rfl,by kernel_rfl,by kernel_rfl,rfl,rfl,rfl,rfl,rfl,rfl⟩
theorem parse_of {ags : List AV} {r : AV} (hal : ags.length≤26)
    (h : xwp Tryz.prog xa118 (fun e st=>e=.normal∧st.fr 6=.dead∧xwp Tryz.prog xb118 (retK rs118 false r none none) st) (St.init ags none)) : Good Tryz.prog 27 ags none r none none:=by
  obtain ⟨r0,rest,o0,o1,hb,h0,h1,g1,g2,g3,g4,g5,g6⟩:=p118
  refine good_of_wp (nt:=26) (rs:=rs118) Tryz.func27 hb (by kernel_rfl) (by kernel_rfl) (by kernel_rfl) hal (by simp) fun w0 S Wr pb a w R hS hsim hR=>?_
  refine wp_seq (xwp_sound (D:=[]) hS h0 h hsim ?_)
  rintro e st a w ⟨rfl,h6,hx⟩ hs
  show (Code.seq _ rest).wp _ _ _ _
  have hd:=hs.defers
  have hsz:=hs.size
  refine wp_seq (wp_region ?_)
  have hl : List.range (#[o0,o1] : Array Oper).size=[0,1]:=rfl
  rw [hl]
  let fv : Value:=.func (.func 46) #[] #[a.tmps.getD 2 undef,a.tmps.getD 3 undef,a.tmps.getD 4 undef]
  let a1 : Act:={ tmps:=a.tmps.setIfInBounds 6 fv,defers:=a.defers }
  let dd : Deferred:={ target:=.fn (.func 46) #[a.tmps.getD 2 undef,a.tmps.getD 3 undef,a.tmps.getD 4 undef],args:=#[] }
  have e0 : (execOp a.eval o0).run Tryz.prog w=.ok (.value fv) w:=by
    simp [execOp,g1,Instr.makeFunc,Act.eval,fv]
  have ev6 : a1.eval (.tmp 6)=fv:=by
    simp [Act.eval,a1,Array.getD,hsz]
  have e1 : (execOp a1.eval o1).run Tryz.prog w=.ok (.defer dd) w:=by
    simp [execOp,g4,resolve,ev6,Deferred.ofValue,fv,dd]
  have w0' : Region.wanted o0 (yielded #[o0,o1] a.tmps)=true:=by simp [Region.wanted,g3]
  have w1' : Region.wanted o1 (yielded #[o0,o1] a1.tmps)=true:=by simp [Region.wanted,g6]
  have hp0 : a.put o0.dst fv=a1:=by rw [g2];rfl
  let a2 : Act:={ tmps:=a1.tmps,defers:=[dd] }
  suffices hq : rest.wp Tryz.prog (bodyPostD Tryz.prog Tryz.f27 R) a2 w by
    show (if Region.wanted o0 (yielded #[o0,o1] a.tmps)=true then _ else _)
    rw [if_pos w0']
    refine Or.inl ?_
    show Oper.upon Tryz.prog o0 a _ _ ((execOp a.eval o0).run Tryz.prog w)
    rw [e0,Oper.upon_value,hp0]
    show (if Region.wanted o1 (yielded #[o0,o1] a1.tmps)=true then _ else _)
    rw [if_pos w1']
    refine Or.inl ?_
    show Oper.upon Tryz.prog o1 a1 _ _ ((execOp a1.eval o1).run Tryz.prog w)
    rw [e1,Oper.upon_defer,g5]
    show rest.wp Tryz.prog (bodyPostD Tryz.prog Tryz.f27 R) { tmps:=a1.tmps,defers:=dd :: a.defers } w
    rw [hd]
    exact hq
  have hs2 : Sim [dd] pb w0 S Wr 26 (fun b=>b < st.nx) st.fr st.C st.Z a2 w:=by
    obtain ⟨⟨μ,U,k1,k2,k3,k4⟩,k5,k6⟩:=hs
    refine ⟨⟨μ,U,k1,fun s=>?_,k3,k4⟩,by simp [a2,a1,k5],rfl⟩
    by_cases h : s=6
    · subst h;rw [h6];exact .dead _
    · have : a2.tmps.getD s undef=a.tmps.getD s undef:=by
        simp only [a2,a1,Array.getD_eq_getD_getElem?]
        rw [Array.getElem?_setIfInBounds_ne (Ne.symm h)]
      rw [this];exact k2 s
  refine xwp_sound (D:=[dd]) hS h1 hx hs2 ?_
  intro e st3 a3 w3 hq hs3
  have hd3:=hs3.defers
  have key : (∃ vs,resVals st3.fr st3.C rs118=some vs∧RetOK st3.C st3.Z (tupOf vs) (none : Option (List DV)).isSome r none none)→Leaves Tryz.prog Tryz.f27 a3.tmps R a3.defers .returning w3:=by
    intro hv
    rw [hd3]
    refine leaves_cons (f:=46) (args:=#[a.tmps.getD 2 undef,a.tmps.getD 3 undef,a.tmps.getD 4 undef]) (by simp) ?_ ((catch_idle _ _ _ w3).mono ?_)
    · have:=run_callFunc (P:=Tryz.prog) (f:=46) ⟨Tryz.f46,Tryz.func46,by kernel_rfl,by kernel_rfl⟩ #[a.tmps.getD 2 undef,a.tmps.getD 3 undef,a.tmps.getD 4 undef] w3
      simpa [invoke] using this
    · rintro e u' w' ⟨rfl,rfl,rfl⟩
      exact hR [dd] st3 a3 w' hv hs3
  cases e with
  | normal=>exact key hq
  | ret=>exact key hq
  | _=>exact hq.elim
end Go.Sv
namespace Go.Sv
open Go Go.Proofs
def x140 : XC:=(.seq (.ops 2 [ (0,⟨some 2,none,.box (.t 0)⟩),(1,⟨some 4,none,.mv (.k (.d (.val (.int .i64 0))))⟩)] (some [1,2])) (.seq (.ops 1 [ (0,⟨some 5,none,.mv (.k (.d (.val (.int .i64 1))))⟩)] (some [1,2,5])) (.seq (.seq (.ops 1 [ (0,⟨some 6,none,.mv (.k (.d (.val (.int .i64 0))))⟩)] (some [1,2,5,6])) (.block 0 (.loop (.seq (.seq (.ops 10 [ (0,⟨some 7,none,.mv (.t 6)⟩),(1,⟨some 8,none,.fadd 7 (.t 2)⟩),(2,⟨some 9,none,.load none (.t 8)⟩),(3,⟨some 10,none,.lenS (.t 9)⟩),(4,⟨some 11,none,.arith .lss (.t 7) (.t 10)⟩),(5,⟨some 12,none,.mv (.t 11)⟩),(6,⟨some 13,(some (12,true)),.mv (.t 5)⟩),(7,⟨some 14,(some (12,true)),.mv (.t 1)⟩),(8,⟨some 15,(some (12,true)),.arith .lss (.t 13) (.t 14)⟩),(9,⟨some 16,none,.pick (.t 12) (.t 15) (.k (.d (.val (.bool false))))⟩)] (some [1,2,5,6,16])) (.cond (.t 16) .skip (.exit 0))) (.seq (.block 1 (.ops 12 [ (0,⟨some 19,none,.mv (.t 5)⟩),(1,⟨some 20,none,.fadd 7 (.t 2)⟩),(2,⟨some 21,none,.load none (.t 20)⟩),(3,⟨some 22,none,.mv (.t 6)⟩),(4,⟨some 23,none,.idxS 8 (.t 21) (.t 22)⟩),(5,⟨some 24,none,.load (some 8) (.t 23)⟩),(6,⟨some 25,none,.mv (.t 1)⟩),(7,⟨some 26,none,.mv (.t 5)⟩),(8,⟨some 27,none,.arith .sub (.t 25) (.t 26)⟩),(9,⟨some 28,none,.call 51 [(.t 24),(.t 27)] none false⟩),(10,⟨some 29,none,.arith .add (.t 19) (.t 28)⟩),(11,⟨some 5,none,.mv (.t 29)⟩)] (some [1,2,5,6]))) (.ops 3 [ (0,⟨some 17,none,.mv (.t 6)⟩),(1,⟨some 18,none,.arith .add (.t 17) (.k (.d (.val (.int .i64 1))))⟩),(2,⟨some 6,none,.mv (.t 18)⟩)] (some [1,2,5,6]))))))) (.seq (.ops 2 [ (0,⟨some 30,none,.mv (.t 5)⟩),(1,⟨some 4,none,.mv (.t 30)⟩)] (some [4])) .ret))))
def md140 : FuncId→Option Nat × Bool
  | _=>(none,false)
def od140 : Nat→List (List Nat) × List Nat × Option (List Nat)
  | 0=>([],[],some [1,2])
  | 1=>([],[],some [1,2,5])
  | 2=>([],[],some [1,2,5,6])
  | 3=>([],[],some [1,2,5,6,16])
  | 4=>([],[],some [1,2,5,6])
  | 5=>([],[],some [1,2,5,6])
  | 6=>([],[],some [4])
  | _=>([],[],none)
theorem b140 {ags : List AV} {row : Option (List DV)} {r : AV} {row' nw : Option (List DV)} (hal : ags.length≤31) (hrow : row'.isSome=true→row.isSome=true) (h : xwp Tryz.prog x140 (retK [.tmp 4] row.isSome r row' nw) (St.init ags row)) : Good Tryz.prog 51 ags row r row' nw :=
  good_of_body' (md:=md140) (od:=od140) Tryz.f51 (by kernel_rfl) (by kernel_rfl) (by kernel_rfl) (by kernel_rfl) (by kernel_rfl) hal hrow h

def x96 : XC:=(.seq (.ops 2 [ (0,⟨some 1,none,.box (.t 0)⟩),(1,⟨some 2,none,.mv (.k (.d (.val (.int .i64 0))))⟩)] (some [1])) (.seq (.ops 3 [ (0,⟨some 3,none,.load (some 8) (.t 1)⟩),(1,⟨some 4,none,.call 51 [(.t 3),(.k (.d (.val (.int .i64 601))))] none false⟩),(2,⟨some 2,none,.mv (.t 4)⟩)] (some [2])) .ret))
def md96 : FuncId→Option Nat × Bool
  | _=>(none,false)
def od96 : Nat→List (List Nat) × List Nat × Option (List Nat)
  | 0=>([],[],some [1])
  | 1=>([],[],some [2])
  | _=>([],[],none)
theorem b96 {ags : List AV} {row : Option (List DV)} {r : AV} {row' nw : Option (List DV)} (hal : ags.length≤5) (hrow : row'.isSome=true→row.isSome=true) (h : xwp Tryz.prog x96 (retK [.tmp 2] row.isSome r row' nw) (St.init ags row)) : Good Tryz.prog 30 ags row r row' nw :=
  good_of_body' (md:=md96) (od:=od96) Tryz.f30 (by kernel_rfl) (by kernel_rfl) (by kernel_rfl) (by kernel_rfl) (by kernel_rfl) hal hrow h

def x45 : XC:=(.seq (.ops 2 [ (0,⟨some 1,none,.box (.t 0)⟩),(1,⟨some 2,none,.mv (.k (.d (.val (.bool false))))⟩)] (some [1])) (.seq (.ops 4 [ (0,⟨some 3,none,.load (some 8) (.t 1)⟩),(1,⟨some 4,none,.call 30 [(.t 3)] none false⟩),(2,⟨some 5,none,.arith .leq (.t 4) (.k (.d (.val (.int .i64 200))))⟩),(3,⟨some 2,none,.mv (.t 5)⟩)] (some [2])) .ret))
def md45 : FuncId→Option Nat × Bool
  | _=>(none,false)
def od45 : Nat→List (List Nat) × List Nat × Option (List Nat)
  | 0=>([],[],some [1])
  | 1=>([],[],some [2])
  | _=>([],[],none)
theorem b45 {ags : List AV} {row : Option (List DV)} {r : AV} {row' nw : Option (List DV)} (hal : ags.length≤6) (hrow : row'.isSome=true→row.isSome=true) (h : xwp Tryz.prog x45 (retK [.tmp 2] row.isSome r row' nw) (St.init ags row)) : Good Tryz.prog 16 ags row r row' nw :=
  good_of_body' (md:=md45) (od:=od45) Tryz.f16 (by kernel_rfl) (by kernel_rfl) (by kernel_rfl) (by kernel_rfl) (by kernel_rfl) hal hrow h

set_option maxRecDepth 100000
set_option maxHeartbeats 4000000
attribute [local irreducible] W E R KP thenK blockK retK Good xwp aRun
mutual
def sizeT : T→Int→Int
  | .node _ _ _ _ _ _ _ subs,most=>sizeL subs most 1
def sizeL : List T→Int→Int→Int
  | [],_,k=>k
  | t :: l,most,k=>if k < most then sizeL l most (k + sizeT t (most - k)) else k
end
mutual
theorem sizeT_le : ∀ (t : T) (most : Int),1≤sizeT t most∧sizeT t most≤max 1 most
  | .node _ _ _ _ _ _ _ subs,most=>by
    have:=sizeL_le subs most 1
    simp only [sizeT];omega
theorem sizeL_le : ∀ (l : List T) (most k : Int),k≤sizeL l most k∧sizeL l most k≤max k most
  | [],most,k=>by simp only [sizeL];omega
  | t :: l,most,k=>by
    simp only [sizeL]
    split
    · have h1:=sizeT_le t (most - k)
      have h2:=sizeL_le l most (k + sizeT t (most - k))
      omega
    · omega
end
theorem sizeL_drop (l : List T) (most k : Int) (i : Nat) (h : i < l.length) : sizeL (l.drop i) most k=if k < most then sizeL (l.drop (i + 1)) most (k + sizeT l[i] (most - k)) else k:=by
  rw [List.drop_eq_getElem_cons h,sizeL]
theorem nrm_TI (t : T) (m : Int) : [nodeA t,AV.i m].all AV.nrm=true:=by
  have h2 : AV.nrm (AV.i m)=true:=rfl
  simp only [List.all_cons,List.all_nil,nodeA_nrm,h2,Bool.and_self]
theorem size_good : ∀ (n : Nat) (t : T),t.cnt≤n→∀ most : Int,most≤601→Good Tryz.prog 51 [nodeA t,.i most] none (.i (sizeT t most)) none none:=by
  intro n
  induction n with
  | zero=>intro t ht;have:=cnt_pos t;omega
  | succ n ih =>
  intro t ht most hmost
  obtain ⟨k,a,b,c,d,mn,mx,subs⟩:=t
  have ih' : ∀ i (h : i < subs.length) (m : Int),m≤601→Good Tryz.prog 51 [nodeA subs[i],.i m] none (.i (sizeT subs[i] m)) none none:=by
    intro i h m hm
    refine ih _ ?_ m hm
    have:=cntL_get subs i h
    simp only [T.cnt] at ht
    omega
  have e0 : nodeA (.node k a b c d mn mx subs)=.agg [.i k,.d (.val (.int .u64 a)),.d (.val (.int .u64 b)),.d (.val (.int .u64 c)),.d (.val (.int .u64 d)),.i mn,.i mx,.d (.sl (encL subs) subs.length)]:=rfl
  rw [e0]
  refine b140 (by simp) (by simp) (w_init ?_)
  unfold x140
  repeat' (first|(apply r_mvV;rfl)|(apply r_box;((conv=>lhs;simp only [Nat.reduceAdd])<;>rfl);rfl;rfl;rfl)|(apply r_nilK)|(apply k_V;rfl)|(apply k_PL;rfl)|(apply k_nil)|(apply w_seq)|(apply w_ops;((conv=>lhs;simp only [Nat.reduceAdd])<;>rfl))|(apply e_thenN)|(apply w_block))
  apply w_loopI (ι:=Nat × Int) (S:=fun p=>⟨(((Fr.nil.put 1 (.i most)).put 2 (.ptrL 1 0)).put 5 (.i p.2)).put 6 (.i p.1),Heap.nil.put 1 [.i k,.d (.val (.int .u64 a)),.d (.val (.int .u64 b)),.d (.val (.int .u64 c)),.d (.val (.int .u64 d)),.i mn,.i mx,.d (.sl (encL subs) subs.length)],Frz.but 100 1,100⟩) (m:=fun p=>subs.length - p.1)
    (I:=fun p=>p.1≤subs.length∧(p.1 : Int) + 1≤p.2∧p.2≤max 1 most∧sizeT (.node k a b c d mn mx subs) most=sizeL (subs.drop p.1) most p.2) (i0:=(0,1))
  · refine ⟨Nat.zero_le _,by simp,by dsimp only;omega,?_⟩
    simp [sizeT]
  · exact wk1D (by omega) (by omega) rfl rfl rfl (FWk.i rfl rfl (FWk.i rfl rfl (FWk.ptr rfl rfl rfl (by omega) rfl (FWk.i rfl rfl FWk.nil))))
  rintro ⟨i,q⟩ K hi hK
  dsimp only at hi hK ⊢
  rcases Nat.lt_or_ge i subs.length with hlt | hge
  · have hs:=NodeAt.sub hlt
    have hd:=sizeL_drop subs most q i hlt
    have hb:=sizeT_le subs[i] (most - q)
    by_cases hq : q < most
    · rw [if_pos hq] at hd
      repeat' (first|(apply r_mvV;rfl)|(apply r_faddL;rfl)|(apply r_l;apply ld_node';assumption;rfl)|(apply r_p;apply ix_sub;rfl;rfl;omega)|(apply r_callA (ags:=[nodeA subs[i],.i (most - q)]);rfl;apply nrm_TI;apply ih' i hlt;omega)|(apply r_ldL;rfl;rfl;rfl)|(apply r_lss;rfl;rfl;(first|(apply dT;omega)|(apply dF;omega)|rfl))|(apply r_add;rfl;rfl;rfl;omega)|(apply r_sub;rfl;rfl;rfl;omega)|(apply r_pickT;rfl)|(apply r_lenD;rfl)|(apply r_gT;rfl)|(apply r_nilK)|(apply k_V;rfl)|(apply k_PL;rfl)|(apply k_nil)|(apply w_seq)|(apply w_ops;((conv=>lhs;simp only [Nat.reduceAdd])<;>rfl))|(apply w_condT;rfl)|(apply e_thenN)|(apply w_block)|(apply e_blkN)|(apply w_skip))
      apply e_thenK
      apply hK (i + 1,q + sizeT subs[i] (most - q))
      · refine ⟨by omega,by dsimp only;omega,by dsimp only;omega,?_⟩
        rw [hi.2.2.2,hd]
      · dsimp only;omega
      · exact wk1D (by omega) (by omega) rfl rfl rfl (FWk.i rfl (by simp) (FWk.i rfl rfl (FWk.ptr rfl rfl rfl (by omega) rfl (FWk.i rfl rfl FWk.nil))))
    · rw [if_neg hq] at hd
      repeat' (first|(apply r_mvV;rfl)|(apply r_faddL;rfl)|(apply r_ldL;rfl;rfl;rfl)|(apply r_lss;rfl;rfl;(first|(apply dT;omega)|(apply dF;omega)|rfl))|(apply r_pickT;rfl)|(apply r_lenD;rfl)|(apply r_gT;rfl)|(apply r_nilK)|(apply k_V;rfl)|(apply k_PL;rfl)|(apply k_nil)|(apply e_ret (vs:=[.d (.val _)]);rfl)|(apply w_seq)|(apply w_ops;((conv=>lhs;simp only [Nat.reduceAdd])<;>rfl))|(apply w_condF;rfl)|(apply e_thenN)|(apply e_thenX)|(apply e_blkE)|(apply w_exit)|(apply w_ret))
      refine retI ?_
      rw [hi.2.2.2,hd]
  · repeat' (first|(apply r_mvV;rfl)|(apply r_faddL;rfl)|(apply r_ldL;rfl;rfl;rfl)|(apply r_lss;rfl;rfl;(first|(apply dT;omega)|(apply dF;omega)|rfl))|(apply r_pickF;rfl)|(apply r_lenD;rfl)|(apply r_gF';rfl;rfl)|(apply r_nilK)|(apply k_V;rfl)|(apply k_PL;rfl)|(apply k_nil)|(apply e_ret (vs:=[.d (.val _)]);rfl)|(apply w_seq)|(apply w_ops;((conv=>lhs;simp only [Nat.reduceAdd])<;>rfl))|(apply w_condF;rfl)|(apply e_thenN)|(apply e_thenX)|(apply e_blkE)|(apply w_exit)|(apply w_ret))
    refine retI ?_
    rw [hi.2.2.2,List.drop_of_length_le (by omega),sizeL]
theorem size96_good (t : T) : Good Tryz.prog 30 [nodeA t] none (.i (sizeT t 601)) none none:=by
  have:=size_good _ t (Nat.le_refl _) 601 (by omega)
  obtain ⟨k,a,b,c,d,mn,mx,subs⟩:=t
  have e0 : nodeA (.node k a b c d mn mx subs)=.agg [.i k,.d (.val (.int .u64 a)),.d (.val (.int .u64 b)),.d (.val (.int .u64 c)),.d (.val (.int .u64 d)),.i mn,.i mx,.d (.sl (encL subs) subs.length)]:=rfl
  rw [e0] at this ⊢
  refine b96 (by simp) (by simp) (w_init ?_)
  unfold x96
  repeat' (first|(apply r_mvV;rfl)|(apply r_callA;rfl;rfl;exact this)|(apply r_ldL;rfl;rfl;rfl)|(apply r_box;((conv=>lhs;simp only [Nat.reduceAdd])<;>rfl);rfl;rfl;rfl)|(apply r_nilK)|(apply k_V;rfl)|(apply k_PL;rfl)|(apply k_nil)|(apply e_ret (vs:=[.d (.val _)]);rfl)|(apply w_seq)|(apply w_ops;((conv=>lhs;simp only [Nat.reduceAdd])<;>rfl))|(apply e_thenN)|(apply w_ret))
  exact retI rfl
theorem few_good (t : T) : Good Tryz.prog 16 [nodeA t] none (.b (decide (sizeT t 601≤200))) none none:=by
  have:=size96_good t
  obtain ⟨k,a,b,c,d,mn,mx,subs⟩:=t
  have e0 : nodeA (.node k a b c d mn mx subs)=.agg [.i k,.d (.val (.int .u64 a)),.d (.val (.int .u64 b)),.d (.val (.int .u64 c)),.d (.val (.int .u64 d)),.i mn,.i mx,.d (.sl (encL subs) subs.length)]:=rfl
  rw [e0] at this ⊢
  refine b45 (by simp) (by simp) (w_init ?_)
  unfold x45
  repeat' (first|(apply r_mvV;rfl)|(apply r_callA;rfl;rfl;exact this)|(apply r_ldL;rfl;rfl;rfl)|(apply r_leq;rfl;rfl;(first|(apply dT;omega)|(apply dF;omega)|rfl))|(apply r_box;((conv=>lhs;simp only [Nat.reduceAdd])<;>rfl);rfl;rfl;rfl)|(apply r_nilK)|(apply k_V;rfl)|(apply k_PL;rfl)|(apply k_nil)|(apply e_ret (vs:=[.d (.val _)]);rfl)|(apply w_seq)|(apply w_ops;((conv=>lhs;simp only [Nat.reduceAdd])<;>rfl))|(apply e_thenN)|(apply w_ret))
  all_goals (refine retB ?_;first | rfl | (simp;omega))
mutual
theorem sizeT_cnt : ∀ (t : T) (most : Int),sizeT t most < most→sizeT t most=t.cnt
  | .node _ _ _ _ _ _ _ subs,most,h=>by
    simp only [sizeT] at h ⊢
    rw [sizeL_cnt subs most 1 h,T.cnt];omega
theorem sizeL_cnt : ∀ (l : List T) (most k : Int),sizeL l most k < most→sizeL l most k=k + cntL l
  | [],most,k,h=>by simp [sizeL,cntL]
  | t :: l,most,k,h=>by
    simp only [sizeL] at h ⊢
    split at h
    · rename_i hk
      rw [if_pos hk]
      have h2:=sizeL_le l most (k + sizeT t (most - k))
      rw [sizeL_cnt l most _ h,sizeT_cnt t (most - k) (by omega),cntL]
      omega
    · omega
end
end Go.Sv
namespace Go.Sv
open Go Go.Proofs
section
variable {P : Program} {Q : Cont} {fr : Fr} {C : Heap} {Z : Frz} {nx : Nat} {base n d : Nat} {l : List (Nat × XO)} {kp : Option (List Nat)} {x i y s : X}
end
set_option maxRecDepth 100000
set_option maxHeartbeats 4000000
attribute [local irreducible] W E R KP thenK blockK retK Good xwp aRun
def okR (k mn mx : Int) : Prop:=k=5→(0≤mn∧mn≤20)∧(mx=-1 ∨ (mn≤mx∧mx≤20))
theorem okT_R {k a b c d mn mx : Int} {subs : List T} (h : okT (.node k a b c d mn mx subs)) : okR k mn mx:=by
  intro hk
  simp only [okT,okN] at h
  have hpl:=h.1.2.2.2.2
  simp [plainT,hk] at hpl
  omega
end Go.Sv
