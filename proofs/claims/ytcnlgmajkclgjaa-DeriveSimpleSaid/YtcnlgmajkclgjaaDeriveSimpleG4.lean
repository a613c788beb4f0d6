/- A part of the proof of the law DeriveSimple: that it answers true for every input, and that the input reads behind the call as before (no condition). -/
import Derived.Test.YtcnlgmajkclgjaaDeriveSimpleG3
import Derived.Test.YtcnlgmajkclgjaaProg
import Derived.Tactics
import Derived.Tactics2
import Derived.Laws.Pointers
import Derived.Test.YtcnlgmajkclgjaaRows
import Derived.ProofKit
import Derived.OpenShut
set_option linter.all false
set_option linter.unusedSectionVars false
set_option linter.unusedVariables false
set_option linter.unusedSimpArgs false
namespace Go.Sv
open Go Go.Proofs
def x156 : XC:=(.seq (.ops 1 [ (0,⟨some 2,none,.mv (.k (.d (.val (.bool false))))⟩)] (some [0])) (.seq (.ops 7 [ (0,⟨some 7,none,.mv (.t 0)⟩),(1,⟨some 8,none,.nilck (.t 7)⟩),(2,⟨some 9,none,.fadd 1 (.t 8)⟩),(3,⟨some 10,none,.load (some 4) (.t 9)⟩),(4,⟨some 11,none,.build [(.int .u64 0),(.int .u64 0),(.int .u64 0),(.int .u64 0)] []⟩),(5,⟨some 12,none,.eqAgg 4 false (.t 10) (.t 11)⟩),(6,⟨some 3,none,.mv (.t 12)⟩)] (some [0,3])) (.seq (.ops 13 [ (0,⟨some 13,none,.mv (.t 0)⟩),(1,⟨some 14,none,.nilck (.t 13)⟩),(2,⟨some 15,none,.fadd 5 (.t 14)⟩),(3,⟨some 16,none,.load none (.t 15)⟩),(4,⟨some 17,none,.arith .eql (.t 16) (.k (.d (.val (.int .i64 0))))⟩),(5,⟨some 18,none,.mv (.t 17)⟩),(6,⟨some 19,(some (18,true)),.mv (.t 0)⟩),(7,⟨some 20,(some (18,true)),.nilck (.t 19)⟩),(8,⟨some 21,(some (18,true)),.fadd 6 (.t 20)⟩),(9,⟨some 22,(some (18,true)),.load none (.t 21)⟩),(10,⟨some 23,(some (18,true)),.arith .eql (.t 22) (.k (.d (.val (.int .i64 0))))⟩),(11,⟨some 24,none,.pick (.t 18) (.t 23) (.k (.d (.val (.bool false))))⟩),(12,⟨some 4,none,.mv (.t 24)⟩)] (some [0,3,4])) (.seq (.seq (.ops 4 [ (0,⟨some 25,none,.mv (.t 0)⟩),(1,⟨some 26,none,.nilck (.t 25)⟩),(2,⟨some 27,none,.fadd 0 (.t 26)⟩),(3,⟨some 28,none,.load none (.t 27)⟩)] (some [0,3,4,28])) (.block 0 (.seq (.ops 2 [ (0,⟨some 30,none,.arith .eql (.t 28) (.k (.d (.val (.int .i64 1))))⟩),(1,⟨some 29,none,.mv (.t 30)⟩)] (some [0,3,4,28,29])) (.cond (.t 29) (.seq (.ops 13 [ (0,⟨some 31,none,.mv (.t 3)⟩),(1,⟨some 32,none,.mv (.t 31)⟩),(2,⟨some 33,(some (32,true)),.mv (.t 4)⟩),(3,⟨some 34,none,.pick (.t 32) (.t 33) (.k (.d (.val (.bool false))))⟩),(4,⟨some 35,none,.mv (.t 34)⟩),(5,⟨some 36,(some (35,true)),.mv (.t 0)⟩),(6,⟨some 37,(some (35,true)),.nilck (.t 36)⟩),(7,⟨some 38,(some (35,true)),.fadd 7 (.t 37)⟩),(8,⟨some 39,(some (35,true)),.load none (.t 38)⟩),(9,⟨some 40,(some (35,true)),.lenS (.t 39)⟩),(10,⟨some 41,(some (35,true)),.arith .eql (.t 40) (.k (.d (.val (.int .i64 0))))⟩),(11,⟨some 42,none,.pick (.t 35) (.t 41) (.k (.d (.val (.bool false))))⟩),(12,⟨some 2,none,.mv (.t 42)⟩)] (some [2])) .ret) (.seq (.ops 2 [ (0,⟨some 44,none,.arith .eql (.t 28) (.k (.d (.val (.int .i64 2))))⟩),(1,⟨some 43,none,.mv (.t 44)⟩)] (some [0,3,4,28,43])) (.cond (.t 43) (.seq (.ops 10 [ (0,⟨some 45,none,.mv (.t 4)⟩),(1,⟨some 46,none,.mv (.t 45)⟩),(2,⟨some 47,(some (46,true)),.mv (.t 0)⟩),(3,⟨some 48,(some (46,true)),.nilck (.t 47)⟩),(4,⟨some 49,(some (46,true)),.fadd 7 (.t 48)⟩),(5,⟨some 50,(some (46,true)),.load none (.t 49)⟩),(6,⟨some 51,(some (46,true)),.lenS (.t 50)⟩),(7,⟨some 52,(some (46,true)),.arith .eql (.t 51) (.k (.d (.val (.int .i64 0))))⟩),(8,⟨some 53,none,.pick (.t 46) (.t 52) (.k (.d (.val (.bool false))))⟩),(9,⟨some 2,none,.mv (.t 53)⟩)] (some [2])) .ret) (.seq (.seq (.ops 2 [ (0,⟨some 55,none,.arith .eql (.t 28) (.k (.d (.val (.int .i64 3))))⟩),(1,⟨some 54,none,.mv (.t 55)⟩)] (some [0,3,4,28,54])) (.cond (.t 54) .skip (.ops 2 [ (0,⟨some 56,none,.arith .eql (.t 28) (.k (.d (.val (.int .i64 4))))⟩),(1,⟨some 54,none,.mv (.t 56)⟩)] (some [0,3,4,28,54])))) (.cond (.t 54) (.seq (.ops 13 [ (0,⟨some 57,none,.mv (.t 3)⟩),(1,⟨some 58,none,.mv (.t 57)⟩),(2,⟨some 59,(some (58,true)),.mv (.t 4)⟩),(3,⟨some 60,none,.pick (.t 58) (.t 59) (.k (.d (.val (.bool false))))⟩),(4,⟨some 61,none,.mv (.t 60)⟩),(5,⟨some 62,(some (61,true)),.mv (.t 0)⟩),(6,⟨some 63,(some (61,true)),.nilck (.t 62)⟩),(7,⟨some 64,(some (61,true)),.fadd 7 (.t 63)⟩),(8,⟨some 65,(some (61,true)),.load none (.t 64)⟩),(9,⟨some 66,(some (61,true)),.lenS (.t 65)⟩),(10,⟨some 67,(some (61,true)),.arith .geq (.t 66) (.k (.d (.val (.int .i64 2))))⟩),(11,⟨some 68,none,.pick (.t 61) (.t 67) (.k (.d (.val (.bool false))))⟩),(12,⟨some 2,none,.mv (.t 68)⟩)] (some [2])) .ret) (.seq (.ops 2 [ (0,⟨some 70,none,.arith .eql (.t 28) (.k (.d (.val (.int .i64 5))))⟩),(1,⟨some 69,none,.mv (.t 70)⟩)] (some [0,3,69])) (.cond (.t 69) (.seq (.ops 13 [ (0,⟨some 71,none,.mv (.t 0)⟩),(1,⟨some 72,none,.nilck (.t 71)⟩),(2,⟨some 73,none,.fadd 5 (.t 72)⟩),(3,⟨some 74,none,.load none (.t 73)⟩),(4,⟨some 75,none,.arith .geq (.t 74) (.k (.d (.val (.int .i64 0))))⟩),(5,⟨some 76,none,.mv (.t 75)⟩),(6,⟨some 77,(some (76,true)),.mv (.t 0)⟩),(7,⟨some 78,(some (76,true)),.nilck (.t 77)⟩),(8,⟨some 79,(some (76,true)),.fadd 5 (.t 78)⟩),(9,⟨some 80,(some (76,true)),.load none (.t 79)⟩),(10,⟨some 81,(some (76,true)),.arith .leq (.t 80) (.k (.d (.val (.int .i64 20))))⟩),(11,⟨some 82,none,.pick (.t 76) (.t 81) (.k (.d (.val (.bool false))))⟩),(12,⟨some 5,none,.mv (.t 82)⟩)] (some [0,3,5])) (.seq (.ops 24 [ (0,⟨some 83,none,.mv (.t 0)⟩),(1,⟨some 84,none,.nilck (.t 83)⟩),(2,⟨some 85,none,.fadd 6 (.t 84)⟩),(3,⟨some 86,none,.load none (.t 85)⟩),(4,⟨some 87,none,.arith .eql (.t 86) (.k (.d (.val (.int .i64 (-1)))))⟩),(5,⟨some 88,none,.mv (.t 87)⟩),(6,⟨some 89,(some (88,false)),.mv (.t 0)⟩),(7,⟨some 90,(some (88,false)),.nilck (.t 89)⟩),(8,⟨some 91,(some (88,false)),.fadd 6 (.t 90)⟩),(9,⟨some 92,(some (88,false)),.load none (.t 91)⟩),(10,⟨some 93,(some (88,false)),.mv (.t 0)⟩),(11,⟨some 94,(some (88,false)),.nilck (.t 93)⟩),(12,⟨some 95,(some (88,false)),.fadd 5 (.t 94)⟩),(13,⟨some 96,(some (88,false)),.load none (.t 95)⟩),(14,⟨some 97,(some (88,false)),.arith .geq (.t 92) (.t 96)⟩),(15,⟨some 98,(some (88,false)),.mv (.t 97)⟩),(16,⟨some 99,(some (98,true)),.mv (.t 0)⟩),(17,⟨some 100,(some (98,true)),.nilck (.t 99)⟩),(18,⟨some 101,(some (98,true)),.fadd 6 (.t 100)⟩),(19,⟨some 102,(some (98,true)),.load none (.t 101)⟩),(20,⟨some 103,(some (98,true)),.arith .leq (.t 102) (.k (.d (.val (.int .i64 20))))⟩),(21,⟨some 104,(some (88,false)),.pick (.t 98) (.t 103) (.k (.d (.val (.bool false))))⟩),(22,⟨some 105,none,.pick (.t 88) (.k (.d (.val (.bool true)))) (.t 104)⟩),(23,⟨some 6,none,.mv (.t 105)⟩)] (some [0,3,5,6])) (.seq (.ops 16 [ (0,⟨some 106,none,.mv (.t 3)⟩),(1,⟨some 107,none,.mv (.t 106)⟩),(2,⟨some 108,(some (107,true)),.mv (.t 5)⟩),(3,⟨some 109,none,.pick (.t 107) (.t 108) (.k (.d (.val (.bool false))))⟩),(4,⟨some 110,none,.mv (.t 109)⟩),(5,⟨some 111,(some (110,true)),.mv (.t 6)⟩),(6,⟨some 112,none,.pick (.t 110) (.t 111) (.k (.d (.val (.bool false))))⟩),(7,⟨some 113,none,.mv (.t 112)⟩),(8,⟨some 114,(some (113,true)),.mv (.t 0)⟩),(9,⟨some 115,(some (113,true)),.nilck (.t 114)⟩),(10,⟨some 116,(some (113,true)),.fadd 7 (.t 115)⟩),(11,⟨some 117,(some (113,true)),.load none (.t 116)⟩),(12,⟨some 118,(some (113,true)),.lenS (.t 117)⟩),(13,⟨some 119,(some (113,true)),.arith .eql (.t 118) (.k (.d (.val (.int .i64 1))))⟩),(14,⟨some 120,none,.pick (.t 113) (.t 119) (.k (.d (.val (.bool false))))⟩),(15,⟨some 2,none,.mv (.t 120)⟩)] (some [2])) .ret))) .skip)))))))))) (.seq (.ops 1 [ (0,⟨some 2,none,.mv (.k (.d (.val (.bool false))))⟩)] (some [2])) .ret)))))
def md156 : FuncId→Option Nat × Bool
  | _=>(none,false)
def od156 : Nat→List (List Nat) × List Nat × Option (List Nat)
  | 0=>([],[],some [0])
  | 1=>([],[],some [0,3])
  | 2=>([],[],some [0,3,4])
  | 3=>([],[],some [0,3,4,28])
  | 4=>([],[],some [0,3,4,28,29])
  | 5=>([],[],some [2])
  | 6=>([],[],some [0,3,4,28,43])
  | 7=>([],[],some [2])
  | 8=>([],[],some [0,3,4,28,54])
  | 9=>([],[],some [0,3,4,28,54])
  | 10=>([],[],some [2])
  | 11=>([],[],some [0,3,69])
  | 12=>([],[],some [0,3,5])
  | 13=>([[],[0],[0,1],[0,1,2],[0,1,2,3],[0,1,2,3,4],[0,1,2,3,4,5],[0,1,2,3,4,5,6],[0,1,2,3,4,5,6,7],[0,1,2,3,4,5,6,7,8],[0,1,2,3,4,5],[0,1,2,3,4,5,10],[0,1,2,3,4,5,10,11],[0,1,2,3,4,5,10,11,12],[0,1,2,3,4,5,6,7,8,9,10,11,12,13],[0,1,2,3,4,5,6,7,8,9,10,11,12,13,14],[0,1,2,3,4,5,6,7,8,9,10,11,12,13,14,15],[0,1,2,3,4,5,6,7,8,9,10,11,12,13,14,15,16],[0,1,2,3,4,5,6,7,8,9,10,11,12,13,14,15,16,17],[0,1,2,3,4,5,6,7,8,9,10,11,12,13,14,15,16,17,18],[0,1,2,3,4,5,6,7,8,9,10,11,12,13,14,15,16,17,18,19],[0,1,2,3,4,5,6,7,8,9,10,11,12,13,14,15,16,17,18,19,20],[0,1,2,3,4,5,6,7,8,9,10,11,12,13,14,15,16,17,18,19,20,21],[0,1,2,3,4,5,6,7,8,9,10,11,12,13,14,15,16,17,18,19,20,21,22]],[0,1,2,3,4,5,6,7,8,9,10,11,12,13,14,15,16,17,18,19,20,21,22,23],some [0,3,5,6])
  | 14=>([],[],some [2])
  | 15=>([],[],some [2])
  | _=>([],[],none)
theorem b156 {ags : List AV} {row : Option (List DV)} {r : AV} {row' nw : Option (List DV)} (hal : ags.length≤121) (hrow : row'.isSome=true→row.isSome=true) (h : xwp Try.prog x156 (retK [.tmp 2] row.isSome r row' nw) (St.init ags row)) : Good Try.prog 156 ags row r row' nw :=
  good_of_body' (md:=md156) (od:=od156) Try.f156 (by kernel_rfl) (by kernel_rfl) (by kernel_rfl) (by kernel_rfl) (by kernel_rfl) hal hrow h

def x157 : XC:=(.seq (.ops 1 [ (0,⟨some 4,none,.mv (.k (.d (.val (.bool false))))⟩)] (some [0,1])) (.seq (.seq (.ops 1 [ (0,⟨some 5,none,.mv (.t 0)⟩)] (some [1,5])) (.block 0 (.seq (.ops 2 [ (0,⟨some 7,none,.arith .eql (.t 5) (.k (.d (.val (.int .i64 3))))⟩),(1,⟨some 6,none,.mv (.t 7)⟩)] (some [1,5,6])) (.cond (.t 6) (.seq (.ops 11 [ (0,⟨some 8,none,.mv (.t 1)⟩),(1,⟨some 9,none,.arith .eql (.t 8) (.k (.d (.val (.int .i64 1))))⟩),(2,⟨some 10,none,.mv (.t 9)⟩),(3,⟨some 11,(some (10,false)),.mv (.t 1)⟩),(4,⟨some 12,(some (10,false)),.arith .eql (.t 11) (.k (.d (.val (.int .i64 3))))⟩),(5,⟨some 13,none,.pick (.t 10) (.k (.d (.val (.bool true)))) (.t 12)⟩),(6,⟨some 14,none,.mv (.t 13)⟩),(7,⟨some 15,(some (14,false)),.mv (.t 1)⟩),(8,⟨some 16,(some (14,false)),.arith .eql (.t 15) (.k (.d (.val (.int .i64 4))))⟩),(9,⟨some 17,none,.pick (.t 14) (.k (.d (.val (.bool true)))) (.t 16)⟩),(10,⟨some 4,none,.mv (.t 17)⟩)] (some [4])) .ret) (.seq (.ops 2 [ (0,⟨some 19,none,.arith .eql (.t 5) (.k (.d (.val (.int .i64 4))))⟩),(1,⟨some 18,none,.mv (.t 19)⟩)] (some [1,18])) (.cond (.t 18) (.seq (.ops 3 [ (0,⟨some 20,none,.mv (.t 1)⟩),(1,⟨some 21,none,.arith .eql (.t 20) (.k (.d (.val (.int .i64 4))))⟩),(2,⟨some 4,none,.mv (.t 21)⟩)] (some [4])) .ret) .skip)))))) (.seq (.ops 3 [ (0,⟨some 22,none,.mv (.t 1)⟩),(1,⟨some 23,none,.arith .neq (.t 22) (.k (.d (.val (.int .i64 2))))⟩),(2,⟨some 4,none,.mv (.t 23)⟩)] (some [4])) .ret)))
def md157 : FuncId→Option Nat × Bool
  | _=>(none,false)
def od157 : Nat→List (List Nat) × List Nat × Option (List Nat)
  | 0=>([],[],some [0,1])
  | 1=>([],[],some [1,5])
  | 2=>([],[],some [1,5,6])
  | 3=>([],[],some [4])
  | 4=>([],[],some [1,18])
  | 5=>([],[],some [4])
  | 6=>([],[],some [4])
  | _=>([],[],none)
theorem b157 {ags : List AV} {row : Option (List DV)} {r : AV} {row' nw : Option (List DV)} (hal : ags.length≤24) (hrow : row'.isSome=true→row.isSome=true) (h : xwp Try.prog x157 (retK [.tmp 4] row.isSome r row' nw) (St.init ags row)) : Good Try.prog 157 ags row r row' nw :=
  good_of_body' (md:=md157) (od:=od157) Try.f157 (by kernel_rfl) (by kernel_rfl) (by kernel_rfl) (by kernel_rfl) (by kernel_rfl) hal hrow h

def roundG (k s : Int) : Bool:=if k=3 then s == 1 || s == 3 || s == 4 else if k=4 then s == 4 else s != 2
def isZero (a b c d : Int) : Bool:=a == 0 && (b == 0 && (c == 0 && d == 0))
def plainT : T→Bool
  | .node k a b c d mn mx subs =>
    if k=1 then isZero a b c d && (mn == 0 && mx == 0) && subs.length == 0
    else if k=2 then mn == 0 && mx == 0 && subs.length == 0
    else if k=3 ∨ k=4 then isZero a b c d && (mn == 0 && mx == 0) && decide (2≤subs.length)
    else if k=5 then isZero a b c d && (decide (0≤mn) && decide (mn≤20)) && (mx == -1 || decide (mn≤mx) && decide (mx≤20)) && subs.length == 1
    else false
set_option maxRecDepth 100000
set_option maxHeartbeats 4000000
attribute [local irreducible] W E R thenK blockK retK Good xwp aRun
theorem round_good (k s : Int) : Good Try.prog 157 [.i k,.i s] none (.b (roundG k s)) none none:=by
  refine b157 (by simp) (by simp) (w_init ?_)
  unfold x157
  repeat' (first|(apply r_mvV;rfl)|(apply r_eql;rfl;rfl;(first|(apply dT;omega)|(apply dF;omega)|rfl))|(apply r_neq;rfl;rfl;(first|(apply dT;omega)|(apply dF;omega)|rfl))|(apply r_pickT;rfl)|(apply r_pickF;rfl)|(apply r_gT;rfl)|(apply r_gF';rfl;rfl)|((apply r_gS (o:=default);rfl)<;>(intro h;try simp only [decide_eq_true_eq,decide_eq_false_iff_not,Bool.not_eq_true,Bool.not_eq_false] at h))|(apply r_nilK)|(apply k_V;rfl)|(apply k_nil)|(apply e_ret (vs:=[.d (.val _)]);rfl)|(apply w_seq)|(apply w_ops;((conv=>lhs;simp only [Nat.reduceAdd])<;>rfl))|((apply w_condS;rfl)<;>(intro h;try simp only [decide_eq_true_eq,decide_eq_false_iff_not,Bool.not_eq_true,Bool.not_eq_false] at h))|(apply e_thenN)|(apply w_block)|(apply e_thenR)|(apply e_blkN)|(apply e_blkR)|(apply w_ret)|(apply w_skip))
  all_goals refine retB (Bool.eq_iff_iff.2 ?_)
  all_goals (simp [roundG, *]<;>omega)
theorem plain_good {cs : List DV} {off : Nat} {t : T} (h : NodeAt cs off t) : Good Try.prog 156 [.d (.ptr cs off)] none (.b (plainT t)) none none:=by
  obtain ⟨k,a,b,c,d,mn,mx,subs⟩:=t
  refine b156 (by simp) (by simp) (w_init ?_)
  unfold x156
  repeat' (first|(apply r_mvV;rfl)|(apply r_mvP;rfl)|(apply r_nckD;rfl)|(apply r_faddD;rfl)|(apply r_l;apply ld_kind;assumption;rfl)|(apply r_l;apply ld_mn;assumption;rfl)|(apply r_l;apply ld_mx;assumption;rfl)|(apply r_l;apply ld_subs;assumption;rfl)|(apply r_l;apply ld_set;assumption;rfl)|(apply r_eql;rfl;rfl;(first|(apply dT;omega)|(apply dF;omega)|rfl))|(apply r_leq;rfl;rfl;(first|(apply dT;omega)|(apply dF;omega)|rfl))|(apply r_geq;rfl;rfl;(first|(apply dT;omega)|(apply dF;omega)|rfl))|(apply r_pickT;rfl)|(apply r_pickF;rfl)|(apply r_lenD;rfl)|(apply r_gT;rfl)|(apply r_gF';rfl;rfl)|(apply r_gN';rfl)|((apply r_gS (o:=default);rfl)<;>(intro h;try simp only [decide_eq_true_eq,decide_eq_false_iff_not,Bool.not_eq_true,Bool.not_eq_false] at h))|(apply r_p;rfl)|(apply r_nilK)|(apply k_V;rfl)|(apply k_P;rfl)|(apply k_nil)|(apply e_ret (vs:=[.d (.val _)]);rfl)|(apply w_seq)|(apply w_ops;((conv=>lhs;simp only [Nat.reduceAdd])<;>rfl))|(apply w_condT;rfl)|((apply w_condS;rfl)<;>(intro h;try simp only [decide_eq_true_eq,decide_eq_false_iff_not,Bool.not_eq_true,Bool.not_eq_false] at h))|(apply e_thenN)|(apply w_block)|(apply e_thenR)|(apply e_blkN)|(apply e_blkR)|(apply w_ret)|(apply w_skip))

  all_goals refine retB (Bool.eq_iff_iff.2 ?_)
  all_goals (simp_all [plainT,isZero]<;>omega)
end Go.Sv
namespace Go.Sv
open Go Go.Proofs
def x132 : XC:=(.seq (.ops 1 [ (0,⟨some 4,none,.mv (.k (.d (.val (.bool false))))⟩)] (some [0,1])) (.seq (.seq (.ops 7 [ (0,⟨some 8,none,.mv (.t 1)⟩),(1,⟨some 9,none,.arith .lss (.t 8) (.k (.d (.val (.int .i64 0))))⟩),(2,⟨some 10,none,.mv (.t 9)⟩),(3,⟨some 11,(some (10,false)),.mv (.t 0)⟩),(4,⟨some 12,(some (10,false)),.call 156 [(.t 11)] none false⟩),(5,⟨some 13,(some (10,false)),.un .not (.t 12)⟩),(6,⟨some 14,none,.pick (.t 10) (.k (.d (.val (.bool true)))) (.t 13)⟩)] (some [0,1,14])) (.cond (.t 14) (.seq (.ops 1 [ (0,⟨some 4,none,.mv (.k (.d (.val (.bool false))))⟩)] (some [4])) .ret) .skip)) (.seq (.seq (.ops 6 [ (0,⟨some 15,none,.mv (.t 0)⟩),(1,⟨some 16,none,.nilck (.t 15)⟩),(2,⟨some 17,none,.fadd 7 (.t 16)⟩),(3,⟨some 18,none,.load none (.t 17)⟩),(4,⟨some 19,none,.lenS (.t 18)⟩),(5,⟨some 20,none,.mv (.k (.d (.val (.int .i64 0))))⟩)] (some [0,1,19,20])) (.block 0 (.loop (.seq (.ops 1 [ (0,⟨some 21,none,.arith .lss (.t 20) (.t 19)⟩)] (some [0,1,19,20,21])) (.seq (.cond (.t 21) .skip (.exit 0)) (.seq (.block 1 (.seq (.ops 2 [ (0,⟨some 22,none,.mv (.t 20)⟩),(1,⟨some 5,none,.mv (.t 22)⟩)] (some [0,1,5,19,20])) (.seq (.ops 7 [ (0,⟨some 23,none,.mv (.t 0)⟩),(1,⟨some 24,none,.nilck (.t 23)⟩),(2,⟨some 25,none,.fadd 7 (.t 24)⟩),(3,⟨some 26,none,.load none (.t 25)⟩),(4,⟨some 27,none,.mv (.t 5)⟩),(5,⟨some 28,none,.idxS 8 (.t 26) (.t 27)⟩),(6,⟨some 6,none,.mv (.t 28)⟩)] (some [0,1,6,19,20])) (.seq (.ops 2 [ (0,⟨some 29,none,.mv (.t 1)⟩),(1,⟨some 7,none,.mv (.t 29)⟩)] (some [0,1,6,7,19,20])) (.seq (.seq (.ops 9 [ (0,⟨some 30,none,.mv (.t 0)⟩),(1,⟨some 31,none,.nilck (.t 30)⟩),(2,⟨some 32,none,.fadd 0 (.t 31)⟩),(3,⟨some 33,none,.load none (.t 32)⟩),(4,⟨some 34,none,.mv (.t 6)⟩),(5,⟨some 35,none,.nilck (.t 34)⟩),(6,⟨some 36,none,.fadd 0 (.t 35)⟩),(7,⟨some 37,none,.load none (.t 36)⟩),(8,⟨some 38,none,.call 157 [(.t 33),(.t 37)] none false⟩)] (some [0,1,6,7,19,20,38])) (.cond (.t 38) (.ops 3 [ (0,⟨some 39,none,.mv (.t 7)⟩),(1,⟨some 40,none,.arith .sub (.t 39) (.k (.d (.val (.int .i64 1))))⟩),(2,⟨some 7,none,.mv (.t 40)⟩)] (some [0,1,6,7,19,20])) .skip)) (.seq (.ops 4 [ (0,⟨some 41,none,.mv (.t 6)⟩),(1,⟨some 42,none,.mv (.t 7)⟩),(2,⟨some 43,none,.call 132 [(.t 41),(.t 42)] none false⟩),(3,⟨some 44,none,.un .not (.t 43)⟩)] (some [0,1,19,20,44])) (.cond (.t 44) (.seq (.ops 1 [ (0,⟨some 4,none,.mv (.k (.d (.val (.bool false))))⟩)] (some [4])) .ret) .skip))))))) (.ops 2 [ (0,⟨some 45,none,.arith .add (.t 20) (.k (.d (.val (.int .i64 1))))⟩),(1,⟨some 20,none,.mv (.t 45)⟩)] (some [0,1,19,20])))))))) (.seq (.ops 1 [ (0,⟨some 4,none,.mv (.k (.d (.val (.bool true))))⟩)] (some [4])) .ret))))
def md132 : FuncId→Option Nat × Bool
  | _=>(none,false)
def od132 : Nat→List (List Nat) × List Nat × Option (List Nat)
  | 0=>([],[],some [0,1])
  | 1=>([],[],some [0,1,14])
  | 2=>([],[],some [4])
  | 3=>([],[],some [0,1,19,20])
  | 4=>([],[],some [0,1,19,20,21])
  | 5=>([],[],some [0,1,5,19,20])
  | 6=>([],[],some [0,1,6,19,20])
  | 7=>([],[],some [0,1,6,7,19,20])
  | 8=>([[],[0],[0,1],[0,1,2],[],[4],[4,5],[4,5,6],[0,1,2,3,4,5,6,7]],[0,1,2,3,4,5,6,7,8],some [0,1,6,7,19,20,38])
  | 9=>([],[],some [0,1,6,7,19,20])
  | 10=>([],[],some [0,1,19,20,44])
  | 11=>([],[],some [4])
  | 12=>([],[],some [0,1,19,20])
  | 13=>([],[],some [4])
  | _=>([],[],none)
theorem b132 {ags : List AV} {row : Option (List DV)} {r : AV} {row' nw : Option (List DV)} (hal : ags.length≤46) (hrow : row'.isSome=true→row.isSome=true) (h : xwp Try.prog x132 (retK [.tmp 4] row.isSome r row' nw) (St.init ags row)) : Good Try.prog 132 ags row r row' nw :=
  good_of_body' (md:=md132) (od:=od132) Try.f132 (by kernel_rfl) (by kernel_rfl) (by kernel_rfl) (by kernel_rfl) (by kernel_rfl) hal hrow h

mutual
def fitsT : T→Int→Bool
  | .node k a b c d mn mx subs,left=>decide (0≤left) && plainT (.node k a b c d mn mx subs) && fitsL k subs left
def fitsL (k : Int) : List T→Int→Bool
  | [],_=>true
  | t :: l,left=>fitsT t (if roundG k t.kind then left - 1 else left) && fitsL k l left
end
set_option maxRecDepth 100000
set_option maxHeartbeats 4000000
attribute [local irreducible] W E R KP thenK blockK retK Good xwp aRun
theorem fitsL_drop (k : Int) (l : List T) (left : Int) (i : Nat) (h : i < l.length) : fitsL k (l.drop i) left=(fitsT l[i] (if roundG k l[i].kind then left - 1 else left) && fitsL k (l.drop (i + 1)) left):=by
  rw [List.drop_eq_getElem_cons h,fitsL]
theorem fits_good : ∀ (n : Nat) (t : T),t.cnt≤n→n≤1000000→∀ (cs : List DV) (off : Nat) (left : Int),NodeAt cs off t→left < 9223372036854775808→Good Try.prog 132 [.d (.ptr cs off),.i left] none (.b (fitsT t left)) none none:=by
  intro n
  induction n with
  | zero=>intro t ht;have:=cnt_pos t;omega
  | succ n ih =>
  intro t ht hc cs off left hn hl
  obtain ⟨k,a,b,c,d,mn,mx,subs⟩:=t
  have ih' : ∀ i (h : i < subs.length) (left : Int),left < 9223372036854775808→Good Try.prog 132 [.d (.ptr (encL subs) (i * 8)),.i left] none (.b (fitsT subs[i] left)) none none:=by
    intro i h left hl
    refine ih _ ?_ (by omega) _ _ _ (NodeAt.sub h) hl
    have:=cntL_get subs i h
    simp only [T.cnt] at ht
    omega
  have hlen : subs.length≤1000000:=by
    have:=cntL_len subs
    simp only [T.cnt] at ht
    omega
  refine b132 (by simp) (by simp) (w_init ?_)
  unfold x132
  repeat' (first|(apply r_mvV;rfl)|(apply r_mvP;rfl)|(apply r_nckD;rfl)|(apply r_faddD;rfl)|(apply r_l;apply ld_subs;assumption;rfl)|(apply r_callD (ds:=[.ptr _ _]);rfl;rfl;apply plain_good;assumption)|(apply r_lss;rfl;rfl;(first|(apply dT;omega)|(apply dF;omega)|rfl))|(apply r_not;rfl;rfl)|(apply r_pickT;rfl)|(apply r_pickF;rfl)|(apply r_lenD;rfl)|(apply r_gT;rfl)|(apply r_gF';rfl;rfl)|((apply r_gS (o:=default);rfl)<;>(intro h;try simp only [decide_eq_true_eq,decide_eq_false_iff_not,Bool.not_eq_true,Bool.not_eq_false] at h))|(apply r_nilK)|(apply k_V;rfl)|(apply k_P;rfl)|(apply k_nil)|(apply e_ret (vs:=[.d (.val _)]);rfl)|(apply w_seq)|(apply w_ops;((conv=>lhs;simp only [Nat.reduceAdd])<;>rfl))|(apply w_condT;rfl)|((apply w_condS;rfl)<;>(intro h;try simp only [decide_eq_true_eq,decide_eq_false_iff_not,Bool.not_eq_true,Bool.not_eq_false] at h))|(apply e_thenN)|(apply w_block)|(apply e_thenR)|(apply w_ret)|(apply w_skip))
  · refine retB (Bool.eq_iff_iff.2 ?_)
    simp [fitsT];omega
  · refine retB ?_
    simp at h
    simp [fitsT,h]
  · simp at h
    apply w_loopI (S:=fun i : Nat=>⟨(((Fr.nil.put 0 (.d (.ptr cs off))).put 1 (.i left)).put 19 (.i subs.length)).put 20 (.i i),Heap.nil,Frz.lo 100,100⟩) (m:=fun i=>subs.length - i)
      (I:=fun i=>i≤subs.length∧fitsT (.node k a b c d mn mx subs) left=fitsL k (subs.drop i) left) (i0:=0)
    · refine ⟨Nat.zero_le _,?_⟩
      simp [fitsT,h];omega
    · exact wk0 (by omega) (FWk.i rfl rfl (FWk.i rfl rfl (FWk.i rfl rfl (FWk.d rfl rfl FWk.nil))))
    intro i K hi hK
    dsimp only
    rcases Nat.lt_or_ge i subs.length with hlt | hge
    · have hs:=NodeAt.sub hlt
      have hd:=fitsL_drop k subs left i hlt
      repeat' (first|(apply r_mvV;rfl)|(apply r_mvP;rfl)|(apply r_nckD;rfl)|(apply r_faddD;rfl)|(apply r_l;apply ld_kind;assumption;rfl)|(apply r_l;apply ld_subs;assumption;rfl)|(apply r_l;apply ld_kind';assumption;rfl)|(apply r_p;apply ix_sub;rfl;rfl;omega)|(apply r_callD (ds:=[.val _,.val _]);rfl;rfl;apply round_good)|(apply r_callD (ds:=[.ptr _ _,.val _]);rfl;rfl;apply ih' i hlt;omega)|(apply r_lss;rfl;rfl;(first|(apply dT;omega)|(apply dF;omega)|rfl))|(apply r_add;rfl;rfl;rfl;omega)|(apply r_sub;rfl;rfl;rfl;omega)|(apply r_not;rfl;rfl)|(apply r_nilK)|(apply k_V;rfl)|(apply k_P;rfl)|(apply k_nil)|(apply e_ret (vs:=[.d (.val _)]);rfl)|(apply w_seq)|(apply w_ops;((conv=>lhs;simp only [Nat.reduceAdd])<;>rfl))|(apply w_condT;rfl)|((apply w_condS;rfl)<;>(intro h;try simp only [decide_eq_true_eq,decide_eq_false_iff_not,Bool.not_eq_true,Bool.not_eq_false] at h))|(apply e_thenN)|(apply w_block)|(apply e_thenR)|(apply e_blkN)|(apply e_blkR)|(apply w_ret)|(apply w_skip))
      all_goals first
        | (refine retB ?_;simp_all;done)
        | (apply e_thenK;apply hK (i + 1);(refine ⟨by omega,?_⟩;simp_all);omega;exact wk0 (by omega) (FWk.i rfl (by omega) (FWk.i rfl rfl (FWk.i rfl rfl (FWk.d rfl rfl FWk.nil)))))
    · repeat' (first|(apply r_mvV;rfl)|(apply r_lss;rfl;rfl;(first|(apply dT;omega)|(apply dF;omega)|rfl))|(apply r_nilK)|(apply k_V;rfl)|(apply k_P;rfl)|(apply k_nil)|(apply e_ret (vs:=[.d (.val _)]);rfl)|(apply w_seq)|(apply w_ops;((conv=>lhs;simp only [Nat.reduceAdd])<;>rfl))|(apply w_condF;rfl)|(apply e_thenN)|(apply e_thenX)|(apply e_blkE)|(apply w_exit)|(apply w_ret))
      refine retB ?_
      rw [hi.2,show i=subs.length by omega,List.drop_length,fitsL]
end Go.Sv
namespace Go.Sv
open Go Go.Proofs
def x84 : XC:=(.seq (.ops 2 [ (0,⟨some 1,none,.box (.t 0)⟩),(1,⟨some 2,none,.mv (.k (.d (.val (.bool false))))⟩)] (some [1])) (.seq (.ops 2 [ (0,⟨some 3,none,.call 132 [(.t 1),(.k (.d (.val (.int .i64 12))))] none false⟩),(1,⟨some 2,none,.mv (.t 3)⟩)] (some [2])) .ret))
def md84 : FuncId→Option Nat × Bool
  | _=>(none,false)
def od84 : Nat→List (List Nat) × List Nat × Option (List Nat)
  | 0=>([],[],some [1])
  | 1=>([],[],some [2])
  | _=>([],[],none)
theorem b84 {ags : List AV} {row : Option (List DV)} {r : AV} {row' nw : Option (List DV)} (hal : ags.length≤4) (hrow : row'.isSome=true→row.isSome=true) (h : xwp Try.prog x84 (retK [.tmp 2] row.isSome r row' nw) (St.init ags row)) : Good Try.prog 84 ags row r row' nw :=
  good_of_body' (md:=md84) (od:=od84) Try.f84 (by kernel_rfl) (by kernel_rfl) (by kernel_rfl) (by kernel_rfl) (by kernel_rfl) hal hrow h

def x136 : XC:=(.seq (.ops 2 [ (0,⟨some 1,none,.box (.t 0)⟩),(1,⟨some 2,none,.mv (.k (.d (.val (.bool false))))⟩)] (some [1])) (.seq (.seq (.ops 2 [ (0,⟨some 3,none,.fadd 0 (.t 1)⟩),(1,⟨some 4,none,.load none (.t 3)⟩)] (some [1,4])) (.block 0 (.seq (.ops 2 [ (0,⟨some 6,none,.arith .eql (.t 4) (.k (.d (.val (.int .i64 1))))⟩),(1,⟨some 5,none,.mv (.t 6)⟩)] (some [1,4,5])) (.cond (.t 5) (.seq (.ops 21 [ (0,⟨some 7,none,.fadd 1 (.t 1)⟩),(1,⟨some 8,none,.load (some 4) (.t 7)⟩),(2,⟨some 9,none,.build [(.int .u64 0),(.int .u64 0),(.int .u64 0),(.int .u64 0)] []⟩),(3,⟨some 10,none,.eqAgg 4 false (.t 8) (.t 9)⟩),(4,⟨some 11,none,.mv (.t 10)⟩),(5,⟨some 12,(some (11,true)),.fadd 5 (.t 1)⟩),(6,⟨some 13,(some (11,true)),.load none (.t 12)⟩),(7,⟨some 14,(some (11,true)),.arith .eql (.t 13) (.k (.d (.val (.int .i64 0))))⟩),(8,⟨some 15,none,.pick (.t 11) (.t 14) (.k (.d (.val (.bool false))))⟩),(9,⟨some 16,none,.mv (.t 15)⟩),(10,⟨some 17,(some (16,true)),.fadd 6 (.t 1)⟩),(11,⟨some 18,(some (16,true)),.load none (.t 17)⟩),(12,⟨some 19,(some (16,true)),.arith .eql (.t 18) (.k (.d (.val (.int .i64 0))))⟩),(13,⟨some 20,none,.pick (.t 16) (.t 19) (.k (.d (.val (.bool false))))⟩),(14,⟨some 21,none,.mv (.t 20)⟩),(15,⟨some 22,(some (21,true)),.fadd 7 (.t 1)⟩),(16,⟨some 23,(some (21,true)),.load none (.t 22)⟩),(17,⟨some 24,(some (21,true)),.lenS (.t 23)⟩),(18,⟨some 25,(some (21,true)),.arith .eql (.t 24) (.k (.d (.val (.int .i64 0))))⟩),(19,⟨some 26,none,.pick (.t 21) (.t 25) (.k (.d (.val (.bool false))))⟩),(20,⟨some 2,none,.mv (.t 26)⟩)] (some [2])) .ret) (.seq (.ops 2 [ (0,⟨some 28,none,.arith .eql (.t 4) (.k (.d (.val (.int .i64 2))))⟩),(1,⟨some 27,none,.mv (.t 28)⟩)] (some [1,4,27])) (.cond (.t 27) (.seq (.ops 15 [ (0,⟨some 29,none,.fadd 5 (.t 1)⟩),(1,⟨some 30,none,.load none (.t 29)⟩),(2,⟨some 31,none,.arith .eql (.t 30) (.k (.d (.val (.int .i64 0))))⟩),(3,⟨some 32,none,.mv (.t 31)⟩),(4,⟨some 33,(some (32,true)),.fadd 6 (.t 1)⟩),(5,⟨some 34,(some (32,true)),.load none (.t 33)⟩),(6,⟨some 35,(some (32,true)),.arith .eql (.t 34) (.k (.d (.val (.int .i64 0))))⟩),(7,⟨some 36,none,.pick (.t 32) (.t 35) (.k (.d (.val (.bool false))))⟩),(8,⟨some 37,none,.mv (.t 36)⟩),(9,⟨some 38,(some (37,true)),.fadd 7 (.t 1)⟩),(10,⟨some 39,(some (37,true)),.load none (.t 38)⟩),(11,⟨some 40,(some (37,true)),.lenS (.t 39)⟩),(12,⟨some 41,(some (37,true)),.arith .eql (.t 40) (.k (.d (.val (.int .i64 0))))⟩),(13,⟨some 42,none,.pick (.t 37) (.t 41) (.k (.d (.val (.bool false))))⟩),(14,⟨some 2,none,.mv (.t 42)⟩)] (some [2])) .ret) (.seq (.seq (.ops 2 [ (0,⟨some 44,none,.arith .eql (.t 4) (.k (.d (.val (.int .i64 3))))⟩),(1,⟨some 43,none,.mv (.t 44)⟩)] (some [1,4,43])) (.cond (.t 43) .skip (.ops 2 [ (0,⟨some 45,none,.arith .eql (.t 4) (.k (.d (.val (.int .i64 4))))⟩),(1,⟨some 43,none,.mv (.t 45)⟩)] (some [1,4,43])))) (.cond (.t 43) (.seq (.ops 21 [ (0,⟨some 46,none,.fadd 1 (.t 1)⟩),(1,⟨some 47,none,.load (some 4) (.t 46)⟩),(2,⟨some 48,none,.build [(.int .u64 0),(.int .u64 0),(.int .u64 0),(.int .u64 0)] []⟩),(3,⟨some 49,none,.eqAgg 4 false (.t 47) (.t 48)⟩),(4,⟨some 50,none,.mv (.t 49)⟩),(5,⟨some 51,(some (50,true)),.fadd 5 (.t 1)⟩),(6,⟨some 52,(some (50,true)),.load none (.t 51)⟩),(7,⟨some 53,(some (50,true)),.arith .eql (.t 52) (.k (.d (.val (.int .i64 0))))⟩),(8,⟨some 54,none,.pick (.t 50) (.t 53) (.k (.d (.val (.bool false))))⟩),(9,⟨some 55,none,.mv (.t 54)⟩),(10,⟨some 56,(some (55,true)),.fadd 6 (.t 1)⟩),(11,⟨some 57,(some (55,true)),.load none (.t 56)⟩),(12,⟨some 58,(some (55,true)),.arith .eql (.t 57) (.k (.d (.val (.int .i64 0))))⟩),(13,⟨some 59,none,.pick (.t 55) (.t 58) (.k (.d (.val (.bool false))))⟩),(14,⟨some 60,none,.mv (.t 59)⟩),(15,⟨some 61,(some (60,true)),.fadd 7 (.t 1)⟩),(16,⟨some 62,(some (60,true)),.load none (.t 61)⟩),(17,⟨some 63,(some (60,true)),.lenS (.t 62)⟩),(18,⟨some 64,(some (60,true)),.arith .geq (.t 63) (.k (.d (.val (.int .i64 2))))⟩),(19,⟨some 65,none,.pick (.t 60) (.t 64) (.k (.d (.val (.bool false))))⟩),(20,⟨some 2,none,.mv (.t 65)⟩)] (some [2])) .ret) (.seq (.ops 2 [ (0,⟨some 67,none,.arith .eql (.t 4) (.k (.d (.val (.int .i64 5))))⟩),(1,⟨some 66,none,.mv (.t 67)⟩)] (some [1,66])) (.cond (.t 66) (.seq (.ops 38 [ (0,⟨some 68,none,.fadd 1 (.t 1)⟩),(1,⟨some 69,none,.load (some 4) (.t 68)⟩),(2,⟨some 70,none,.build [(.int .u64 0),(.int .u64 0),(.int .u64 0),(.int .u64 0)] []⟩),(3,⟨some 71,none,.eqAgg 4 false (.t 69) (.t 70)⟩),(4,⟨some 72,none,.mv (.t 71)⟩),(5,⟨some 73,(some (72,true)),.fadd 7 (.t 1)⟩),(6,⟨some 74,(some (72,true)),.load none (.t 73)⟩),(7,⟨some 75,(some (72,true)),.lenS (.t 74)⟩),(8,⟨some 76,(some (72,true)),.arith .eql (.t 75) (.k (.d (.val (.int .i64 1))))⟩),(9,⟨some 77,none,.pick (.t 72) (.t 76) (.k (.d (.val (.bool false))))⟩),(10,⟨some 78,none,.mv (.t 77)⟩),(11,⟨some 79,(some (78,true)),.fadd 5 (.t 1)⟩),(12,⟨some 80,(some (78,true)),.load none (.t 79)⟩),(13,⟨some 81,(some (78,true)),.arith .geq (.t 80) (.k (.d (.val (.int .i64 0))))⟩),(14,⟨some 82,none,.pick (.t 78) (.t 81) (.k (.d (.val (.bool false))))⟩),(15,⟨some 83,none,.mv (.t 82)⟩),(16,⟨some 84,(some (83,true)),.fadd 5 (.t 1)⟩),(17,⟨some 85,(some (83,true)),.load none (.t 84)⟩),(18,⟨some 86,(some (83,true)),.arith .leq (.t 85) (.k (.d (.val (.int .i64 20))))⟩),(19,⟨some 87,none,.pick (.t 83) (.t 86) (.k (.d (.val (.bool false))))⟩),(20,⟨some 88,none,.mv (.t 87)⟩),(21,⟨some 89,(some (88,true)),.fadd 6 (.t 1)⟩),(22,⟨some 90,(some (88,true)),.load none (.t 89)⟩),(23,⟨some 91,(some (88,true)),.arith .eql (.t 90) (.k (.d (.val (.int .i64 (-1)))))⟩),(24,⟨some 92,(some (88,true)),.mv (.t 91)⟩),(25,⟨some 93,(some (92,false)),.fadd 6 (.t 1)⟩),(26,⟨some 94,(some (92,false)),.load none (.t 93)⟩),(27,⟨some 95,(some (92,false)),.fadd 5 (.t 1)⟩),(28,⟨some 96,(some (92,false)),.load none (.t 95)⟩),(29,⟨some 97,(some (92,false)),.arith .geq (.t 94) (.t 96)⟩),(30,⟨some 98,(some (92,false)),.mv (.t 97)⟩),(31,⟨some 99,(some (98,true)),.fadd 6 (.t 1)⟩),(32,⟨some 100,(some (98,true)),.load none (.t 99)⟩),(33,⟨some 101,(some (98,true)),.arith .leq (.t 100) (.k (.d (.val (.int .i64 20))))⟩),(34,⟨some 102,(some (92,false)),.pick (.t 98) (.t 101) (.k (.d (.val (.bool false))))⟩),(35,⟨some 103,(some (88,true)),.pick (.t 92) (.k (.d (.val (.bool true)))) (.t 102)⟩),(36,⟨some 104,none,.pick (.t 88) (.t 103) (.k (.d (.val (.bool false))))⟩),(37,⟨some 2,none,.mv (.t 104)⟩)] (some [2])) .ret) .skip)))))))))) (.seq (.ops 1 [ (0,⟨some 2,none,.mv (.k (.d (.val (.bool false))))⟩)] (some [2])) .ret)))
def md136 : FuncId→Option Nat × Bool
  | _=>(none,false)
def od136 : Nat→List (List Nat) × List Nat × Option (List Nat)
  | 0=>([],[],some [1])
  | 1=>([],[],some [1,4])
  | 2=>([],[],some [1,4,5])
  | 3=>([],[],some [2])
  | 4=>([],[],some [1,4,27])
  | 5=>([],[],some [2])
  | 6=>([],[],some [1,4,43])
  | 7=>([],[],some [1,4,43])
  | 8=>([],[],some [2])
  | 9=>([],[],some [1,66])
  | 10=>([],[],some [2])
  | 11=>([],[],some [2])
  | _=>([],[],none)
theorem b136 {ags : List AV} {row : Option (List DV)} {r : AV} {row' nw : Option (List DV)} (hal : ags.length≤105) (hrow : row'.isSome=true→row.isSome=true) (h : xwp Try.prog x136 (retK [.tmp 2] row.isSome r row' nw) (St.init ags row)) : Good Try.prog 136 ags row r row' nw :=
  good_of_body' (md:=md136) (od:=od136) Try.f136 (by kernel_rfl) (by kernel_rfl) (by kernel_rfl) (by kernel_rfl) (by kernel_rfl) hal hrow h

def x101 : XC:=(.seq (.ops 3 [ (0,⟨some 2,none,.box (.t 0)⟩),(1,⟨some 3,none,.box (.t 1)⟩),(2,⟨some 4,none,.mv (.k (.d (.val (.bool false))))⟩)] (some [2,3])) (.seq (.seq (.ops 2 [ (0,⟨some 5,none,.fadd 0 (.t 2)⟩),(1,⟨some 6,none,.load none (.t 5)⟩)] (some [3,6])) (.block 0 (.seq (.ops 2 [ (0,⟨some 8,none,.arith .eql (.t 6) (.k (.d (.val (.int .i64 3))))⟩),(1,⟨some 7,none,.mv (.t 8)⟩)] (some [3,6,7])) (.cond (.t 7) (.seq (.ops 14 [ (0,⟨some 9,none,.fadd 0 (.t 3)⟩),(1,⟨some 10,none,.load none (.t 9)⟩),(2,⟨some 11,none,.arith .eql (.t 10) (.k (.d (.val (.int .i64 1))))⟩),(3,⟨some 12,none,.mv (.t 11)⟩),(4,⟨some 13,(some (12,false)),.fadd 0 (.t 3)⟩),(5,⟨some 14,(some (12,false)),.load none (.t 13)⟩),(6,⟨some 15,(some (12,false)),.arith .eql (.t 14) (.k (.d (.val (.int .i64 3))))⟩),(7,⟨some 16,none,.pick (.t 12) (.k (.d (.val (.bool true)))) (.t 15)⟩),(8,⟨some 17,none,.mv (.t 16)⟩),(9,⟨some 18,(some (17,false)),.fadd 0 (.t 3)⟩),(10,⟨some 19,(some (17,false)),.load none (.t 18)⟩),(11,⟨some 20,(some (17,false)),.arith .eql (.t 19) (.k (.d (.val (.int .i64 4))))⟩),(12,⟨some 21,none,.pick (.t 17) (.k (.d (.val (.bool true)))) (.t 20)⟩),(13,⟨some 4,none,.mv (.t 21)⟩)] (some [4])) .ret) (.seq (.ops 2 [ (0,⟨some 23,none,.arith .eql (.t 6) (.k (.d (.val (.int .i64 4))))⟩),(1,⟨some 22,none,.mv (.t 23)⟩)] (some [3,22])) (.cond (.t 22) (.seq (.ops 4 [ (0,⟨some 24,none,.fadd 0 (.t 3)⟩),(1,⟨some 25,none,.load none (.t 24)⟩),(2,⟨some 26,none,.arith .eql (.t 25) (.k (.d (.val (.int .i64 4))))⟩),(3,⟨some 4,none,.mv (.t 26)⟩)] (some [4])) .ret) .skip)))))) (.seq (.ops 4 [ (0,⟨some 27,none,.fadd 0 (.t 3)⟩),(1,⟨some 28,none,.load none (.t 27)⟩),(2,⟨some 29,none,.arith .neq (.t 28) (.k (.d (.val (.int .i64 2))))⟩),(3,⟨some 4,none,.mv (.t 29)⟩)] (some [4])) .ret)))
def md101 : FuncId→Option Nat × Bool
  | _=>(none,false)
def od101 : Nat→List (List Nat) × List Nat × Option (List Nat)
  | 0=>([],[],some [2,3])
  | 1=>([],[],some [3,6])
  | 2=>([],[],some [3,6,7])
  | 3=>([],[],some [4])
  | 4=>([],[],some [3,22])
  | 5=>([],[],some [4])
  | 6=>([],[],some [4])
  | _=>([],[],none)
theorem b101 {ags : List AV} {row : Option (List DV)} {r : AV} {row' nw : Option (List DV)} (hal : ags.length≤30) (hrow : row'.isSome=true→row.isSome=true) (h : xwp Try.prog x101 (retK [.tmp 4] row.isSome r row' nw) (St.init ags row)) : Good Try.prog 101 ags row r row' nw :=
  good_of_body' (md:=md101) (od:=od101) Try.f101 (by kernel_rfl) (by kernel_rfl) (by kernel_rfl) (by kernel_rfl) (by kernel_rfl) hal hrow h

def x87 : XC:=(.seq (.ops 2 [ (0,⟨some 1,none,.box (.t 0)⟩),(1,⟨some 2,none,.mv (.k (.d (.val (.int .i64 0))))⟩)] (some [1])) (.seq (.seq (.ops 3 [ (0,⟨some 6,none,.load (some 8) (.t 1)⟩),(1,⟨some 7,none,.call 136 [(.t 6)] none false⟩),(2,⟨some 8,none,.un .not (.t 7)⟩)] (some [1,8])) (.cond (.t 8) (.seq (.ops 1 [ (0,⟨some 2,none,.mv (.k (.d (.val (.int .i64 (-1)))))⟩)] (some [2])) .ret) .skip)) (.seq (.ops 1 [ (0,⟨some 3,none,.mv (.k (.d (.val (.int .i64 0))))⟩)] (some [1,3])) (.seq (.seq (.ops 1 [ (0,⟨some 4,none,.mv (.k (.d (.val (.int .i64 0))))⟩)] (some [1,3,4])) (.block 0 (.loop (.seq (.seq (.ops 5 [ (0,⟨some 9,none,.mv (.t 4)⟩),(1,⟨some 10,none,.fadd 7 (.t 1)⟩),(2,⟨some 11,none,.load none (.t 10)⟩),(3,⟨some 12,none,.lenS (.t 11)⟩),(4,⟨some 13,none,.arith .lss (.t 9) (.t 12)⟩)] (some [1,3,4,13])) (.cond (.t 13) .skip (.exit 0))) (.seq (.block 1 (.seq (.ops 7 [ (0,⟨some 16,none,.fadd 7 (.t 1)⟩),(1,⟨some 17,none,.load none (.t 16)⟩),(2,⟨some 18,none,.mv (.t 4)⟩),(3,⟨some 19,none,.idxS 8 (.t 17) (.t 18)⟩),(4,⟨some 20,none,.load (some 8) (.t 19)⟩),(5,⟨some 21,none,.call 87 [(.t 20)] none false⟩),(6,⟨some 5,none,.mv (.t 21)⟩)] (some [1,3,4,5])) (.seq (.seq (.ops 2 [ (0,⟨some 22,none,.mv (.t 5)⟩),(1,⟨some 23,none,.arith .lss (.t 22) (.k (.d (.val (.int .i64 0))))⟩)] (some [1,3,4,5,23])) (.cond (.t 23) (.seq (.ops 1 [ (0,⟨some 2,none,.mv (.k (.d (.val (.int .i64 (-1)))))⟩)] (some [2])) .ret) .skip)) (.seq (.seq (.ops 7 [ (0,⟨some 24,none,.load (some 8) (.t 1)⟩),(1,⟨some 25,none,.fadd 7 (.t 1)⟩),(2,⟨some 26,none,.load none (.t 25)⟩),(3,⟨some 27,none,.mv (.t 4)⟩),(4,⟨some 28,none,.idxS 8 (.t 26) (.t 27)⟩),(5,⟨some 29,none,.load (some 8) (.t 28)⟩),(6,⟨some 30,none,.call 101 [(.t 24),(.t 29)] none false⟩)] (some [1,3,4,5,30])) (.cond (.t 30) (.ops 3 [ (0,⟨some 31,none,.mv (.t 5)⟩),(1,⟨some 32,none,.arith .add (.t 31) (.k (.d (.val (.int .i64 1))))⟩),(2,⟨some 5,none,.mv (.t 32)⟩)] (some [1,3,4,5])) .skip)) (.ops 4 [ (0,⟨some 33,none,.mv (.t 3)⟩),(1,⟨some 34,none,.mv (.t 5)⟩),(2,⟨some 35,none,.max [(.t 33),(.t 34)]⟩),(3,⟨some 3,none,.mv (.t 35)⟩)] (some [1,3,4])))))) (.ops 3 [ (0,⟨some 14,none,.mv (.t 4)⟩),(1,⟨some 15,none,.arith .add (.t 14) (.k (.d (.val (.int .i64 1))))⟩),(2,⟨some 4,none,.mv (.t 15)⟩)] (some [1,3,4]))))))) (.seq (.ops 2 [ (0,⟨some 36,none,.mv (.t 3)⟩),(1,⟨some 2,none,.mv (.t 36)⟩)] (some [2])) .ret)))))
def md87 : FuncId→Option Nat × Bool
  | _=>(none,false)
def od87 : Nat→List (List Nat) × List Nat × Option (List Nat)
  | 0=>([],[],some [1])
  | 1=>([],[],some [1,8])
  | 2=>([],[],some [2])
  | 3=>([],[],some [1,3])
  | 4=>([],[],some [1,3,4])
  | 5=>([],[],some [1,3,4,13])
  | 6=>([],[],some [1,3,4])
  | 7=>([],[],some [1,3,4,5])
  | 8=>([],[],some [1,3,4,5,23])
  | 9=>([],[],some [2])
  | 10=>([[],[],[1],[],[1,2,3],[1,2,3,4],[0,1,2,3,4,5]],[0,1,2,3,4,5,6],some [1,3,4,5,30])
  | 11=>([],[],some [1,3,4,5])
  | 12=>([],[],some [1,3,4])
  | 13=>([],[],some [2])
  | _=>([],[],none)
theorem b87 {ags : List AV} {row : Option (List DV)} {r : AV} {row' nw : Option (List DV)} (hal : ags.length≤37) (hrow : row'.isSome=true→row.isSome=true) (h : xwp Try.prog x87 (retK [.tmp 2] row.isSome r row' nw) (St.init ags row)) : Good Try.prog 87 ags row r row' nw :=
  good_of_body' (md:=md87) (od:=od87) Try.f87 (by kernel_rfl) (by kernel_rfl) (by kernel_rfl) (by kernel_rfl) (by kernel_rfl) hal hrow h

def x32 : XC:=(.seq (.ops 2 [ (0,⟨some 1,none,.box (.t 0)⟩),(1,⟨some 2,none,.mv (.k (.d (.val (.bool false))))⟩)] (some [1])) (.seq (.ops 3 [ (0,⟨some 4,none,.load (some 8) (.t 1)⟩),(1,⟨some 5,none,.call 87 [(.t 4)] none false⟩),(2,⟨some 3,none,.mv (.t 5)⟩)] (some [3])) (.seq (.ops 7 [ (0,⟨some 6,none,.mv (.t 3)⟩),(1,⟨some 7,none,.arith .geq (.t 6) (.k (.d (.val (.int .i64 0))))⟩),(2,⟨some 8,none,.mv (.t 7)⟩),(3,⟨some 9,(some (8,true)),.mv (.t 3)⟩),(4,⟨some 10,(some (8,true)),.arith .leq (.t 9) (.k (.d (.val (.int .i64 12))))⟩),(5,⟨some 11,none,.pick (.t 8) (.t 10) (.k (.d (.val (.bool false))))⟩),(6,⟨some 2,none,.mv (.t 11)⟩)] (some [2])) .ret)))
def md32 : FuncId→Option Nat × Bool
  | _=>(none,false)
def od32 : Nat→List (List Nat) × List Nat × Option (List Nat)
  | 0=>([],[],some [1])
  | 1=>([],[],some [3])
  | 2=>([],[],some [2])
  | _=>([],[],none)
theorem b32 {ags : List AV} {row : Option (List DV)} {r : AV} {row' nw : Option (List DV)} (hal : ags.length≤12) (hrow : row'.isSome=true→row.isSome=true) (h : xwp Try.prog x32 (retK [.tmp 2] row.isSome r row' nw) (St.init ags row)) : Good Try.prog 32 ags row r row' nw :=
  good_of_body' (md:=md32) (od:=od32) Try.f32 (by kernel_rfl) (by kernel_rfl) (by kernel_rfl) (by kernel_rfl) (by kernel_rfl) hal hrow h

set_option maxRecDepth 100000
set_option maxHeartbeats 4000000
attribute [local irreducible] W E R KP thenK blockK retK Good xwp aRun
theorem bare_good (t : T) : Good Try.prog 136 [nodeA t] none (.b (plainT t)) none none:=by
  obtain ⟨k,a,b,c,d,mn,mx,subs⟩:=t
  simp only [nodeA,encN,List.map]
  refine b136 (by simp) (by simp) (w_init ?_)
  unfold x136
  repeat' (first|(apply r_mvV;rfl)|(apply r_faddL;rfl)|(apply r_ldL;rfl;rfl;rfl)|(apply r_eql;rfl;rfl;(first|(apply dT;omega)|(apply dF;omega)|rfl))|(apply r_leq;rfl;rfl;(first|(apply dT;omega)|(apply dF;omega)|rfl))|(apply r_geq;rfl;rfl;(first|(apply dT;omega)|(apply dF;omega)|rfl))|(apply r_pickT;rfl)|(apply r_pickF;rfl)|(apply r_lenD;rfl)|(apply r_gT;rfl)|(apply r_gF';rfl;rfl)|(apply r_gN';rfl)|((apply r_gS (o:=default);rfl)<;>(intro h;try simp only [decide_eq_true_eq,decide_eq_false_iff_not,Bool.not_eq_true,Bool.not_eq_false] at h))|(apply r_box;((conv=>lhs;simp only [Nat.reduceAdd])<;>rfl);rfl;rfl;rfl)|(apply r_p;rfl)|(apply r_nilK)|(apply k_V;rfl)|(apply k_PL;rfl)|(apply k_nil)|(apply e_ret (vs:=[.d (.val _)]);rfl)|(apply w_seq)|(apply w_ops;((conv=>lhs;simp only [Nat.reduceAdd])<;>rfl))|(apply w_condT;rfl)|((apply w_condS;rfl)<;>(intro h;try simp only [decide_eq_true_eq,decide_eq_false_iff_not,Bool.not_eq_true,Bool.not_eq_false] at h))|(apply e_thenN)|(apply w_block)|(apply e_thenR)|(apply e_blkN)|(apply e_blkR)|(apply w_ret)|(apply w_skip))
  all_goals refine retB (Bool.eq_iff_iff.2 ?_)
  all_goals (simp_all [plainT,isZero]<;>omega)
theorem round8_good (t u : T) : Good Try.prog 101 [nodeA t,nodeA u] none (.b (roundG t.kind u.kind)) none none:=by
  obtain ⟨k,a,b,c,d,mn,mx,subs⟩:=t
  obtain ⟨k',a',b',c',d',mn',mx',subs'⟩:=u
  simp only [nodeA,encN,List.map,T.kind]
  refine b101 (by simp) (by simp) (w_init ?_)
  unfold x101
  repeat' (first|(apply r_mvV;rfl)|(apply r_faddL;rfl)|(apply r_ldL;rfl;rfl;rfl)|(apply r_eql;rfl;rfl;(first|(apply dT;omega)|(apply dF;omega)|rfl))|(apply r_neq;rfl;rfl;(first|(apply dT;omega)|(apply dF;omega)|rfl))|(apply r_pickT;rfl)|(apply r_pickF;rfl)|(apply r_gT;rfl)|(apply r_gF';rfl;rfl)|((apply r_gS (o:=default);rfl)<;>(intro h;try simp only [decide_eq_true_eq,decide_eq_false_iff_not,Bool.not_eq_true,Bool.not_eq_false] at h))|(apply r_box;((conv=>lhs;simp only [Nat.reduceAdd])<;>rfl);rfl;rfl;rfl)|(apply r_nilK)|(apply k_V;rfl)|(apply k_PL;rfl)|(apply k_nil)|(apply e_ret (vs:=[.d (.val _)]);rfl)|(apply w_seq)|(apply w_ops;((conv=>lhs;simp only [Nat.reduceAdd])<;>rfl))|((apply w_condS;rfl)<;>(intro h;try simp only [decide_eq_true_eq,decide_eq_false_iff_not,Bool.not_eq_true,Bool.not_eq_false] at h))|(apply e_thenN)|(apply w_block)|(apply e_thenR)|(apply e_blkN)|(apply e_blkR)|(apply w_ret)|(apply w_skip))
  all_goals refine retB (Bool.eq_iff_iff.2 ?_)
  all_goals (simp [roundG, *]<;>omega)
mutual
def openT : T→Int
  | .node k a b c d mn mx subs=>if plainT (.node k a b c d mn mx subs)=true then openL k subs 0 else -1
def openL (k : Int) : List T→Int→Int
  | [],m=>m
  | t :: l,m=>if openT t < 0 then -1 else openL k l (max m (if roundG k t.kind=true then openT t + 1 else openT t))
end
mutual
theorem openT_cnt : ∀ t : T,openT t≤t.cnt
  | .node k a b c d mn mx subs=>by
    have:=openL_cnt k subs 0
    simp only [openT,T.cnt]
    split<;>omega
theorem openL_cnt (k : Int) : ∀ (l : List T) (m : Int),openL k l m≤max m (cntL l + 1)
  | [],m=>by simp [openL];omega
  | t :: l,m=>by
    have h1:=openT_cnt t
    simp only [openL,cntL]
    split
    · omega
    · refine Int.le_trans (openL_cnt k l _) ?_
      have:=cnt_pos t
      split<;>omega
end
theorem openL_drop (k : Int) (l : List T) (m : Int) (i : Nat) (h : i < l.length) : openL k (l.drop i) m=if openT l[i] < 0 then -1 else openL k (l.drop (i + 1)) (max m (if roundG k l[i].kind=true then openT l[i] + 1 else openT l[i])):=by
  rw [List.drop_eq_getElem_cons h,openL]
theorem open_good : ∀ (n : Nat) (t : T),t.cnt≤n→n≤1000000→Good Try.prog 87 [nodeA t] none (.i (openT t)) none none:=by
  intro n
  induction n with
  | zero=>intro t ht;have:=cnt_pos t;omega
  | succ n ih =>
  intro t ht hc
  obtain ⟨k,a,b,c,d,mn,mx,subs⟩:=t
  have ih' : ∀ i (h : i < subs.length),Good Try.prog 87 [nodeA subs[i]] none (.i (openT subs[i])) none none:=by
    intro i h
    refine ih _ ?_ (by omega)
    have:=cntL_get subs i h
    simp only [T.cnt] at ht
    omega
  have hlen : subs.length≤1000000:=by
    have:=cntL_len subs
    simp only [T.cnt] at ht
    omega
  have hcnt : ∀ i (h : i < subs.length),openT subs[i]≤1000000:=by
    intro i h
    have:=cntL_get subs i h
    have:=openT_cnt subs[i]
    simp only [T.cnt] at ht
    omega
  have e0 : nodeA (.node k a b c d mn mx subs)=.agg [.i k,.d (.val (.int .u64 a)),.d (.val (.int .u64 b)),.d (.val (.int .u64 c)),.d (.val (.int .u64 d)),.i mn,.i mx,.d (.sl (encL subs) subs.length)]:=rfl
  rw [e0]
  refine b87 (by simp) (by simp) (w_init ?_)
  unfold x87
  repeat' (first|(apply r_mvV;rfl)|(apply r_callA;rfl;rfl;apply bare_good (t:=.node k a b c d mn mx subs))|(apply r_ldL;rfl;rfl;rfl)|(apply r_not;rfl;rfl)|(apply r_box;((conv=>lhs;simp only [Nat.reduceAdd])<;>rfl);rfl;rfl;rfl)|(apply r_nilK)|(apply k_V;rfl)|(apply k_PL;rfl)|(apply k_nil)|(apply e_ret (vs:=[.d (.val _)]);rfl)|(apply w_seq)|(apply w_ops;((conv=>lhs;simp only [Nat.reduceAdd])<;>rfl))|((apply w_condS;rfl)<;>(intro h;try simp only [decide_eq_true_eq,decide_eq_false_iff_not,Bool.not_eq_true,Bool.not_eq_false] at h))|(apply e_thenN)|(apply w_block)|(apply e_thenR)|(apply w_ret)|(apply w_skip))
  · refine retI ?_
    simp at h
    simp [openT,h]
  · simp at h
    apply w_loopI (ι:=Nat × Int) (S:=fun p=>⟨((Fr.nil.put 1 (.ptrL 1 0)).put 3 (.i p.2)).put 4 (.i p.1),Heap.nil.put 1 [.i k,.d (.val (.int .u64 a)),.d (.val (.int .u64 b)),.d (.val (.int .u64 c)),.d (.val (.int .u64 d)),.i mn,.i mx,.d (.sl (encL subs) subs.length)],Frz.but 100 1,100⟩) (m:=fun p=>subs.length - p.1)
      (I:=fun p=>p.1≤subs.length∧0≤p.2∧p.2≤1000001∧openT (.node k a b c d mn mx subs)=openL k (subs.drop p.1) p.2) (i0:=(0,0))
    · refine ⟨Nat.zero_le _,by simp,by simp,?_⟩
      simp [openT,h]
    · exact wk1D (by omega) (by omega) rfl rfl rfl (FWk.i rfl rfl (FWk.i rfl rfl (FWk.ptr rfl rfl rfl (by omega) rfl FWk.nil)))
    rintro ⟨i,m⟩ K hi hK
    dsimp only at hi hK ⊢
    rcases Nat.lt_or_ge i subs.length with hlt | hge
    · have hs:=NodeAt.sub hlt
      have hd:=openL_drop k subs m i hlt
      have hq:=hcnt i hlt
      repeat' (first|(apply r_mvV;rfl)|(apply r_faddL;rfl)|(apply r_l;apply ld_node';assumption;rfl)|(apply r_p;apply ix_sub;rfl;rfl;omega)|(apply r_callA (ags:=[nodeA subs[i]]);rfl;simp [nodeA_nrm];apply ih' i hlt)|(apply r_callA (ags:=[nodeA (.node k a b c d mn mx subs),nodeA subs[i]]);rfl;simp [nodeA_nrm];apply round8_good)|(apply r_ldL;rfl;rfl;rfl)|(apply r_lss;rfl;rfl;(first|(apply dT;omega)|(apply dF;omega)|rfl))|(apply r_add;rfl;rfl;rfl;omega)|(apply r_max2;rfl;rfl;rfl)|(apply r_lenD;rfl)|(apply r_nilK)|(apply k_V;rfl)|(apply k_PL;rfl)|(apply k_nil)|(apply e_ret (vs:=[.d (.val _)]);rfl)|(apply w_seq)|(apply w_ops;((conv=>lhs;simp only [Nat.reduceAdd])<;>rfl))|(apply w_condT;rfl)|((apply w_condS;rfl)<;>(intro h;try simp only [decide_eq_true_eq,decide_eq_false_iff_not,Bool.not_eq_true,Bool.not_eq_false] at h))|(apply e_thenN)|(apply w_block)|(apply e_thenR)|(apply e_blkN)|(apply e_blkR)|(apply w_ret)|(apply w_skip))
      · refine retI ?_
        rw [hi.2.2.2,hd,if_pos h]
      all_goals rename_i h1
      all_goals rw [if_neg h1] at hd
      all_goals apply e_thenK
      · rw [show roundG k subs[i].kind=true from h] at hd
        apply hK (i + 1,max m (openT subs[i] + 1))
        · refine ⟨by omega,by omega,by omega,?_⟩
          rw [hi.2.2.2,hd];rfl
        · dsimp only;omega
        · exact wk1D (by omega) (by omega) rfl rfl rfl (FWk.i rfl (by omega) (FWk.i rfl rfl (FWk.ptr rfl rfl rfl (by omega) rfl FWk.nil)))
      · rw [show roundG k subs[i].kind=false from h] at hd
        apply hK (i + 1,max m (openT subs[i]))
        · refine ⟨by omega,by omega,by omega,?_⟩
          rw [hi.2.2.2,hd];rfl
        · dsimp only;omega
        · exact wk1D (by omega) (by omega) rfl rfl rfl (FWk.i rfl (by omega) (FWk.i rfl rfl (FWk.ptr rfl rfl rfl (by omega) rfl FWk.nil)))
    · repeat' (first|(apply r_mvV;rfl)|(apply r_faddL;rfl)|(apply r_ldL;rfl;rfl;rfl)|(apply r_lss;rfl;rfl;(first|(apply dT;omega)|(apply dF;omega)|rfl))|(apply r_lenD;rfl)|(apply r_nilK)|(apply k_V;rfl)|(apply k_PL;rfl)|(apply k_nil)|(apply e_ret (vs:=[.d (.val _)]);rfl)|(apply w_seq)|(apply w_ops;((conv=>lhs;simp only [Nat.reduceAdd])<;>rfl))|(apply w_condF;rfl)|(apply e_thenN)|(apply e_thenX)|(apply e_blkE)|(apply w_exit)|(apply w_ret))
      refine retI ?_
      rw [hi.2.2.2,show i=subs.length by omega,List.drop_length,openL]
def rightT (t : T) : Bool:=decide (0≤openT t) && decide (openT t≤12)
theorem right8_good (t : T) (h : t.cnt≤1000000) : Good Try.prog 32 [nodeA t] none (.b (rightT t)) none none:=by
  have:=open_good 1000000 t h (by omega)
  obtain ⟨k,a,b,c,d,mn,mx,subs⟩:=t
  have e0 : nodeA (.node k a b c d mn mx subs)=.agg [.i k,.d (.val (.int .u64 a)),.d (.val (.int .u64 b)),.d (.val (.int .u64 c)),.d (.val (.int .u64 d)),.i mn,.i mx,.d (.sl (encL subs) subs.length)]:=rfl
  rw [e0]
  refine b32 (by simp) (by simp) (w_init ?_)
  unfold x32
  repeat' (first|(apply r_mvV;rfl)|(apply r_callA;rfl;rfl;exact this)|(apply r_ldL;rfl;rfl;rfl)|(apply r_leq;rfl;rfl;(first|(apply dT;omega)|(apply dF;omega)|rfl))|(apply r_geq;rfl;rfl;(first|(apply dT;omega)|(apply dF;omega)|rfl))|(apply r_pickT;rfl)|(apply r_pickF;rfl)|(apply r_gT;rfl)|(apply r_gF';rfl;rfl)|((apply r_gS (o:=default);rfl)<;>(intro h;try simp only [decide_eq_true_eq,decide_eq_false_iff_not,Bool.not_eq_true,Bool.not_eq_false] at h))|(apply r_box;((conv=>lhs;simp only [Nat.reduceAdd])<;>rfl);rfl;rfl;rfl)|(apply r_nilK)|(apply k_V;rfl)|(apply k_PL;rfl)|(apply k_nil)|(apply e_ret (vs:=[.d (.val _)]);rfl)|(apply w_seq)|(apply w_ops;((conv=>lhs;simp only [Nat.reduceAdd])<;>rfl))|(apply e_thenN)|(apply w_ret))
  all_goals refine retB (Bool.eq_iff_iff.2 ?_)
  all_goals (simp_all [rightT]<;>omega)
theorem right_good (t : T) (h : t.cnt≤1000000) : Good Try.prog 84 [nodeA t] none (.b (fitsT t 12)) none none:=by
  obtain ⟨k,a,b,c,d,mn,mx,subs⟩:=t
  have e0 : nodeA (.node k a b c d mn mx subs)=.agg [.i k,.d (.val (.int .u64 a)),.d (.val (.int .u64 b)),.d (.val (.int .u64 c)),.d (.val (.int .u64 d)),.i mn,.i mx,.d (.sl (encL subs) subs.length)]:=rfl
  rw [e0]
  refine b84 (by simp) (by simp) (w_init ?_)
  unfold x84
  repeat' (first|(apply r_mvV;rfl)|(apply r_call (bs:=[.d (.ptr (encN (.node k a b c d mn mx subs)) 0),.i 12]) (us:=[1]);rfl;rfl;exact fits_good 1000000 _ h (by omega) _ _ _ (NodeAt.self _) (by omega);rfl)|(apply r_box;((conv=>lhs;simp only [Nat.reduceAdd])<;>rfl);rfl;rfl;rfl)|(apply r_nilK)|(apply k_V;rfl)|(apply k_PL;rfl)|(apply k_nil)|(apply e_ret (vs:=[.d (.val _)]);rfl)|(apply w_seq)|(apply w_ops;((conv=>lhs;simp only [Nat.reduceAdd])<;>rfl))|(apply e_thenN)|(apply w_ret))
  exact retB rfl
end Go.Sv
namespace Go.Sv
open Go Go.Proofs
set_option maxRecDepth 100000
set_option maxHeartbeats 4000000
attribute [local irreducible] W E R KP thenK blockK retK Good xwp aRun
end Go.Sv
namespace Go.Sv
open Go Go.Proofs
set_option maxRecDepth 100000
set_option maxHeartbeats 4000000
attribute [local irreducible] W E R KP thenK blockK retK Good xwp aRun
def okW (w : Int) : Prop:=0≤w∧w < 18446744073709551616
end Go.Sv
namespace Go.Sv
open Go Go.Proofs
section
variable {P : Program} {Q : Cont} {fr : Fr} {C : Heap} {Z : Frz} {nx : Nat} {base n d : Nat} {l : List (Nat × XO)} {kp : Option (List Nat)}
end
def okN : T→Prop
  | .node k a b c d mn mx subs=>okW a∧okW b∧okW c∧okW d∧plainT (.node k a b c d mn mx subs)=true
mutual
def okT : T→Prop
  | .node k a b c d mn mx subs=>okN (.node k a b c d mn mx subs)∧okL subs
def okL : List T→Prop
  | []=>True
  | t :: l=>okT t∧okL l
end
theorem okL_get : ∀ (l : List T) (i : Nat) (h : i < l.length),okL l→okT l[i]
  | t :: l,0,_,h=>by simp only [okL] at h;exact h.1
  | t :: l,i + 1,h,h2=>by simp only [okL] at h2;exact okL_get l i (by simpa using h) h2.2
end Go.Sv
namespace Go.Sv
open Go Go.Proofs
set_option maxRecDepth 100000
set_option maxHeartbeats 4000000
attribute [local irreducible] W E R KP thenK blockK retK Good xwp aRun
theorem ix_sub0 {fr : Fr} {x i : X} {l : List T} (hx : x.ev fr=.d (.sl (encL l) l.length)) (hi : i.ev fr=.i 0) (hj : 0 < l.length) : xp fr (.idxS 8 x i)=some (.d (.ptr (encL l) 0)):=by
  have:=ix_sub (j:=0) hx hi hj
  simpa using this
end Go.Sv
namespace Go.Sv
open Go Go.Proofs
set_option maxRecDepth 100000
set_option maxHeartbeats 4000000
attribute [local irreducible] W E R KP thenK blockK retK Good xwp aRun
theorem retSD {C : Heap} {Z : Frz} {live : Bool} {p p' : List Bool} {m : Nat} (h : p=p') : RetOK C Z (tupOf [.d (.sl (encB p) m)]) live (.d (.sl (encB p') m)) none none:=.data _ (by subst h;rfl)
end Go.Sv
namespace Go.Sv
open Go Go.Proofs
set_option maxRecDepth 100000
set_option maxHeartbeats 4000000
attribute [local irreducible] W E R KP thenK blockK retK Good xwp aRun
end Go.Sv
namespace Go.Sv
open Go Go.Proofs
section
variable {P : Program} {Q : Cont} {fr : Fr} {C : Heap} {Z : Frz} {nx : Nat} {base n d : Nat} {l : List (Nat × XO)} {kp : Option (List Nat)} {x i y s : X}
theorem r_ixI {L : List Int} {m j : Nat} {e : Int} (hx : x.ev fr=.d (.sl (encI L) m)) (hi : i.ev fr=.i e) (he : e=(j : Nat)) (hm : L.length=m) (hj : j < m) (k : R P l base kp Q nx (fr.put d (.d (.ptr (encI L) j))) C Z) : R P ((n,⟨some d,none,.idxS 1 x i⟩) :: l) base kp Q nx fr C Z:=by
  subst hm he
  refine r_p ?_ k
  have hne : encI L ≠ []:=fun h=>by
    have:=congrArg List.length h
    rw [encI_len,List.length_nil] at this;omega
  simp [xp,hx,hi,hne,intIn,hj]
theorem r_ldI {L : List Int} {j : Nat} {v : Int} (hx : x.ev fr=.d (.ptr (encI L) j)) (hb : L[j]?=some v) (k : R P l base kp Q nx (fr.put d (.i v)) C Z) : R P ((n,⟨some d,none,.load none x⟩) :: l) base kp Q nx fr C Z:=by
  refine r_l ?_ k
  simp [xl,hx,rowOf,subA,encI,hb]
end
set_option maxRecDepth 100000
set_option maxHeartbeats 4000000
attribute [local irreducible] W E R KP thenK blockK retK Good xwp aRun
end Go.Sv
namespace Go.Sv
open Go Go.Proofs
set_option maxRecDepth 100000
def xa118 : XC:=(.ops 3 [ (0,⟨some 2,none,.alloc [(.int .i64 0),(.int .u64 0),(.int .u64 0),(.int .u64 0),(.int .u64 0),(.int .i64 0),(.int .i64 0),(.slice none 0 0)]⟩),(1,⟨some 3,none,.alloc [(.int .i64 0)]⟩),(2,⟨some 4,none,.alloc [(.int .i64 0)]⟩)] (some [0,2,3,4]))
def xb118 : XC:=(.seq (.ops 4 [ (0,⟨some 7,none,.mv (.t 0)⟩),(1,⟨some 8,none,.build [(.string ⟨#[]⟩),(.int .i64 0),(.int .i64 0)] [(0,1,(.t 7))]⟩),(2,⟨some 9,none,.box (.t 8)⟩),(3,⟨some 5,none,.mv (.t 9)⟩)] (some [0,2,3,4,5])) (.seq (.ops 3 [ (0,⟨some 10,none,.mv (.t 5)⟩),(1,⟨some 11,none,.call 149 [(.t 10)] (some 0) false⟩),(2,⟨none,none,.store 8 (.t 2) (.t 11)⟩)] (some [0,2,3,4,5])) (.seq (.ops 13 [ (0,⟨some 12,none,.mv (.t 5)⟩),(1,⟨some 13,none,.mv (.t 5)⟩),(2,⟨some 14,none,.nilck (.t 13)⟩),(3,⟨some 15,none,.fadd 1 (.t 14)⟩),(4,⟨some 16,none,.load none (.t 15)⟩),(5,⟨some 17,none,.mv (.t 0)⟩),(6,⟨some 18,none,.lenT (.t 17)⟩),(7,⟨some 19,none,.arith .eql (.t 16) (.t 18)⟩),(8,⟨some 20,none,.mv (.t 5)⟩),(9,⟨some 21,none,.nilck (.t 20)⟩),(10,⟨some 22,none,.fadd 1 (.t 21)⟩),(11,⟨some 23,none,.load none (.t 22)⟩),(12,⟨some 24,none,.call 150 [(.t 12),(.t 19),(.t 23)] none false⟩)] (some [2,3,4])) (.seq (.ops 4 [ (0,⟨some 25,none,.load (some 8) (.t 2)⟩),(1,⟨none,none,.store 8 (.t 2) (.t 25)⟩),(2,⟨none,none,.store 1 (.t 3) (.k (.d (.val (.int .i64 0))))⟩),(3,⟨none,none,.store 1 (.t 4) (.k (.d (.val (.int .i64 0))))⟩)] (some [2,3,4])) .ret))))
def md118 : FuncId→Option Nat × Bool
  | 149=>(some 0,false)
  | _=>(none,false)
def od118 : Nat→List (List Nat) × List Nat × Option (List Nat)
  | 0=>([],[],some [0,2,3,4])
  | 2=>([],[],some [0,2,3,4,5])
  | 3=>([],[],some [0,2,3,4,5])
  | 4=>([[],[],[1],[1,2],[1,2,3],[],[5],[1,2,3,4,5,6],[],[8],[8,9],[8,9,10],[0,1,2,3,4,5,6,7,8,9,10,11]],[0,1,2,3,4,5,6,7,8,9,10,11,12],some [2,3,4])
  | 5=>([],[],some [2,3,4])
  | _=>([],[],none)
def rs118 : List XRes:=[.cell 2 (some 8),.cell 3 none,.cell 4 none]
theorem run_nilnil (w : World) : (binOp BinOp.eql 20 Value.nilIface Value.nilIface).run Try.prog w=.ok (.bool true) w:=by
  kernel_rfl
theorem catch_idle (v0 v1 v2 : Value) (w : World) : CallsD Try.prog 148 #[v0,v1,v2] .returning w fun e u' w'=>e=.returned (.tuple #[])∧u'=.returning∧w'=w:=by
  refine callsD_of_wpS Try.func148 rfl fun c₀ cs hu=>?_
  apply wpS_seq
  apply wpS_region
  simp [wpOpsS,go_sem,recoverD,hu,Try.ntmps148,Exit.thenS]
  refine wpS_of_wp (wp_block (wp_seq (wp_region ?_)))
  simp [wpOps,go_sem,run_nilnil,Exit.then]
  refine Or.inl ?_
  refine wp_cond (t:=true) ?_ ?_
  · simp [Act.eval]
  simp only [if_true]
  refine wp_region ?_
  simp [wpOps,go_sem,Exit.inBlock,bodyPostS,results,Try.results148]
  refine Or.inl ?_
  cases c₀
  simp_all
theorem p118 : ∃ r0 rest o0 o1,Try.f118.body=some (.seq r0 (.seq (.region 1 #[o0,o1] false) rest))∧compC Try.prog md118 od118 26 r0=some xa118∧compC Try.prog md118 od118 26 rest=some xb118 ∧
    o0.op=.makeFunc (.func 148) #[] #[.tmp 2,.tmp 3,.tmp 4]∧o0.dst=some 6∧o0.guard=none∧o1.op=.defer { callee:=.value (.tmp 6),args:=#[],argTypes:=#[] }∧o1.dst=none∧o1.guard=none :=
  ⟨_,_,_,_,rfl,by kernel_rfl,by kernel_rfl,rfl,rfl,rfl,rfl,rfl,rfl⟩
theorem parse_of {ags : List AV} {r : AV} (hal : ags.length≤26)
    (h : xwp Try.prog xa118 (fun e st=>e=.normal∧st.fr 6=.dead∧xwp Try.prog xb118 (retK rs118 false r none none) st) (St.init ags none)) : Good Try.prog 118 ags none r none none:=by
  obtain ⟨r0,rest,o0,o1,hb,h0,h1,g1,g2,g3,g4,g5,g6⟩:=p118
  refine good_of_wp (nt:=26) (rs:=rs118) Try.func118 hb (by kernel_rfl) (by kernel_rfl) (by kernel_rfl) hal (by simp) fun w0 S Wr pb a w R hS hsim hR=>?_
  refine wp_seq (xwp_sound (D:=[]) hS h0 h hsim ?_)
  rintro e st a w ⟨rfl,h6,hx⟩ hs
  show (Code.seq _ rest).wp _ _ _ _
  have hd:=hs.defers
  have hsz:=hs.size
  refine wp_seq (wp_region ?_)
  have hl : List.range (#[o0,o1] : Array Oper).size=[0,1]:=rfl
  rw [hl]
  let fv : Value:=.func (.func 148) #[] #[a.tmps.getD 2 undef,a.tmps.getD 3 undef,a.tmps.getD 4 undef]
  let a1 : Act:={ tmps:=a.tmps.setIfInBounds 6 fv,defers:=a.defers }
  let dd : Deferred:={ target:=.fn (.func 148) #[a.tmps.getD 2 undef,a.tmps.getD 3 undef,a.tmps.getD 4 undef],args:=#[] }
  have e0 : (execOp a.eval o0).run Try.prog w=.ok (.value fv) w:=by
    simp [execOp,g1,Instr.makeFunc,Act.eval,fv]
  have ev6 : a1.eval (.tmp 6)=fv:=by
    simp [Act.eval,a1,Array.getD,hsz]
  have e1 : (execOp a1.eval o1).run Try.prog w=.ok (.defer dd) w:=by
    simp [execOp,g4,resolve,ev6,Deferred.ofValue,fv,dd]
  have w0' : Region.wanted o0 (yielded #[o0,o1] a.tmps)=true:=by simp [Region.wanted,g3]
  have w1' : Region.wanted o1 (yielded #[o0,o1] a1.tmps)=true:=by simp [Region.wanted,g6]
  have hp0 : a.put o0.dst fv=a1:=by rw [g2];rfl
  let a2 : Act:={ tmps:=a1.tmps,defers:=[dd] }
  suffices hq : rest.wp Try.prog (bodyPostD Try.prog Try.f118 R) a2 w by
    show (if Region.wanted o0 (yielded #[o0,o1] a.tmps)=true then _ else _)
    rw [if_pos w0']
    refine Or.inl ?_
    show Oper.upon Try.prog o0 a _ _ ((execOp a.eval o0).run Try.prog w)
    rw [e0,Oper.upon_value,hp0]
    show (if Region.wanted o1 (yielded #[o0,o1] a1.tmps)=true then _ else _)
    rw [if_pos w1']
    refine Or.inl ?_
    show Oper.upon Try.prog o1 a1 _ _ ((execOp a1.eval o1).run Try.prog w)
    rw [e1,Oper.upon_defer,g5]
    show rest.wp Try.prog (bodyPostD Try.prog Try.f118 R) { tmps:=a1.tmps,defers:=dd :: a.defers } w
    rw [hd]
    exact hq
  have hs2 : Sim [dd] pb w0 S Wr 26 (fun b=>b < st.nx) st.fr st.C st.Z a2 w:=by
    obtain ⟨⟨μ,U,k1,k2,k3,k4⟩,k5,k6⟩:=hs
    refine ⟨⟨μ,U,k1,fun s=>?_,k3,k4⟩,by simp [a2,a1,k5],rfl⟩
    by_cases h : s=6
    · subst h;rw [h6];exact .dead _
    · have : a2.tmps.getD s undef=a.tmps.getD s undef:=by
        simp only [a2,a1,Array.getD_eq_getD_getElem?]
        rw [Array.getElem?_setIfInBounds_ne (Ne.symm h)]
      rw [this];exact k2 s
  refine xwp_sound (D:=[dd]) hS h1 hx hs2 ?_
  intro e st3 a3 w3 hq hs3
  have hd3:=hs3.defers
  have key : (∃ vs,resVals st3.fr st3.C rs118=some vs∧RetOK st3.C st3.Z (tupOf vs) (none : Option (List DV)).isSome r none none)→Leaves Try.prog Try.f118 a3.tmps R a3.defers .returning w3:=by
    intro hv
    rw [hd3]
    refine leaves_cons (f:=148) (args:=#[a.tmps.getD 2 undef,a.tmps.getD 3 undef,a.tmps.getD 4 undef]) (by simp) ?_ ((catch_idle _ _ _ w3).mono ?_)
    · have:=run_callFunc (P:=Try.prog) (f:=148) ⟨Try.f148,Try.func148,by kernel_rfl,by kernel_rfl⟩ #[a.tmps.getD 2 undef,a.tmps.getD 3 undef,a.tmps.getD 4 undef] w3
      simpa [invoke] using this
    · rintro e u' w' ⟨rfl,rfl,rfl⟩
      exact hR [dd] st3 a3 w' hv hs3
  cases e with
  | normal=>exact key hq
  | ret=>exact key hq
  | _=>exact hq.elim
end Go.Sv
namespace Go.Sv
open Go Go.Proofs
def x140 : XC:=(.seq (.ops 2 [ (0,⟨some 2,none,.box (.t 0)⟩),(1,⟨some 4,none,.mv (.k (.d (.val (.int .i64 0))))⟩)] (some [1,2])) (.seq (.ops 1 [ (0,⟨some 5,none,.mv (.k (.d (.val (.int .i64 1))))⟩)] (some [1,2,5])) (.seq (.seq (.ops 1 [ (0,⟨some 6,none,.mv (.k (.d (.val (.int .i64 0))))⟩)] (some [1,2,5,6])) (.block 0 (.loop (.seq (.seq (.ops 10 [ (0,⟨some 7,none,.mv (.t 6)⟩),(1,⟨some 8,none,.fadd 7 (.t 2)⟩),(2,⟨some 9,none,.load none (.t 8)⟩),(3,⟨some 10,none,.lenS (.t 9)⟩),(4,⟨some 11,none,.arith .lss (.t 7) (.t 10)⟩),(5,⟨some 12,none,.mv (.t 11)⟩),(6,⟨some 13,(some (12,true)),.mv (.t 5)⟩),(7,⟨some 14,(some (12,true)),.mv (.t 1)⟩),(8,⟨some 15,(some (12,true)),.arith .lss (.t 13) (.t 14)⟩),(9,⟨some 16,none,.pick (.t 12) (.t 15) (.k (.d (.val (.bool false))))⟩)] (some [1,2,5,6,16])) (.cond (.t 16) .skip (.exit 0))) (.seq (.block 1 (.ops 12 [ (0,⟨some 19,none,.mv (.t 5)⟩),(1,⟨some 20,none,.fadd 7 (.t 2)⟩),(2,⟨some 21,none,.load none (.t 20)⟩),(3,⟨some 22,none,.mv (.t 6)⟩),(4,⟨some 23,none,.idxS 8 (.t 21) (.t 22)⟩),(5,⟨some 24,none,.load (some 8) (.t 23)⟩),(6,⟨some 25,none,.mv (.t 1)⟩),(7,⟨some 26,none,.mv (.t 5)⟩),(8,⟨some 27,none,.arith .sub (.t 25) (.t 26)⟩),(9,⟨some 28,none,.call 140 [(.t 24),(.t 27)] none false⟩),(10,⟨some 29,none,.arith .add (.t 19) (.t 28)⟩),(11,⟨some 5,none,.mv (.t 29)⟩)] (some [1,2,5,6]))) (.ops 3 [ (0,⟨some 17,none,.mv (.t 6)⟩),(1,⟨some 18,none,.arith .add (.t 17) (.k (.d (.val (.int .i64 1))))⟩),(2,⟨some 6,none,.mv (.t 18)⟩)] (some [1,2,5,6]))))))) (.seq (.ops 2 [ (0,⟨some 30,none,.mv (.t 5)⟩),(1,⟨some 4,none,.mv (.t 30)⟩)] (some [4])) .ret))))
def md140 : FuncId→Option Nat × Bool
  | _=>(none,false)
def od140 : Nat→List (List Nat) × List Nat × Option (List Nat)
  | 0=>([],[],some [1,2])
  | 1=>([],[],some [1,2,5])
  | 2=>([],[],some [1,2,5,6])
  | 3=>([],[],some [1,2,5,6,16])
  | 4=>([],[],some [1,2,5,6])
  | 5=>([],[],some [1,2,5,6])
  | 6=>([],[],some [4])
  | _=>([],[],none)
theorem b140 {ags : List AV} {row : Option (List DV)} {r : AV} {row' nw : Option (List DV)} (hal : ags.length≤31) (hrow : row'.isSome=true→row.isSome=true) (h : xwp Try.prog x140 (retK [.tmp 4] row.isSome r row' nw) (St.init ags row)) : Good Try.prog 140 ags row r row' nw :=
  good_of_body' (md:=md140) (od:=od140) Try.f140 (by kernel_rfl) (by kernel_rfl) (by kernel_rfl) (by kernel_rfl) (by kernel_rfl) hal hrow h

def x96 : XC:=(.seq (.ops 2 [ (0,⟨some 1,none,.box (.t 0)⟩),(1,⟨some 2,none,.mv (.k (.d (.val (.int .i64 0))))⟩)] (some [1])) (.seq (.ops 3 [ (0,⟨some 3,none,.load (some 8) (.t 1)⟩),(1,⟨some 4,none,.call 140 [(.t 3),(.k (.d (.val (.int .i64 601))))] none false⟩),(2,⟨some 2,none,.mv (.t 4)⟩)] (some [2])) .ret))
def md96 : FuncId→Option Nat × Bool
  | _=>(none,false)
def od96 : Nat→List (List Nat) × List Nat × Option (List Nat)
  | 0=>([],[],some [1])
  | 1=>([],[],some [2])
  | _=>([],[],none)
theorem b96 {ags : List AV} {row : Option (List DV)} {r : AV} {row' nw : Option (List DV)} (hal : ags.length≤5) (hrow : row'.isSome=true→row.isSome=true) (h : xwp Try.prog x96 (retK [.tmp 2] row.isSome r row' nw) (St.init ags row)) : Good Try.prog 96 ags row r row' nw :=
  good_of_body' (md:=md96) (od:=od96) Try.f96 (by kernel_rfl) (by kernel_rfl) (by kernel_rfl) (by kernel_rfl) (by kernel_rfl) hal hrow h

def x45 : XC:=(.seq (.ops 2 [ (0,⟨some 1,none,.box (.t 0)⟩),(1,⟨some 2,none,.mv (.k (.d (.val (.bool false))))⟩)] (some [1])) (.seq (.ops 4 [ (0,⟨some 3,none,.load (some 8) (.t 1)⟩),(1,⟨some 4,none,.call 96 [(.t 3)] none false⟩),(2,⟨some 5,none,.arith .leq (.t 4) (.k (.d (.val (.int .i64 200))))⟩),(3,⟨some 2,none,.mv (.t 5)⟩)] (some [2])) .ret))
def md45 : FuncId→Option Nat × Bool
  | _=>(none,false)
def od45 : Nat→List (List Nat) × List Nat × Option (List Nat)
  | 0=>([],[],some [1])
  | 1=>([],[],some [2])
  | _=>([],[],none)
theorem b45 {ags : List AV} {row : Option (List DV)} {r : AV} {row' nw : Option (List DV)} (hal : ags.length≤6) (hrow : row'.isSome=true→row.isSome=true) (h : xwp Try.prog x45 (retK [.tmp 2] row.isSome r row' nw) (St.init ags row)) : Good Try.prog 45 ags row r row' nw :=
  good_of_body' (md:=md45) (od:=od45) Try.f45 (by kernel_rfl) (by kernel_rfl) (by kernel_rfl) (by kernel_rfl) (by kernel_rfl) hal hrow h

set_option maxRecDepth 100000
set_option maxHeartbeats 4000000
attribute [local irreducible] W E R KP thenK blockK retK Good xwp aRun
mutual
def sizeT : T→Int→Int
  | .node _ _ _ _ _ _ _ subs,most=>sizeL subs most 1
def sizeL : List T→Int→Int→Int
  | [],_,k=>k
  | t :: l,most,k=>if k < most then sizeL l most (k + sizeT t (most - k)) else k
end
mutual
theorem sizeT_le : ∀ (t : T) (most : Int),1≤sizeT t most∧sizeT t most≤max 1 most
  | .node _ _ _ _ _ _ _ subs,most=>by
    have:=sizeL_le subs most 1
    simp only [sizeT];omega
theorem sizeL_le : ∀ (l : List T) (most k : Int),k≤sizeL l most k∧sizeL l most k≤max k most
  | [],most,k=>by simp only [sizeL];omega
  | t :: l,most,k=>by
    simp only [sizeL]
    split
    · have h1:=sizeT_le t (most - k)
      have h2:=sizeL_le l most (k + sizeT t (most - k))
      omega
    · omega
end
theorem sizeL_drop (l : List T) (most k : Int) (i : Nat) (h : i < l.length) : sizeL (l.drop i) most k=if k < most then sizeL (l.drop (i + 1)) most (k + sizeT l[i] (most - k)) else k:=by
  rw [List.drop_eq_getElem_cons h,sizeL]
theorem nrm_TI (t : T) (m : Int) : [nodeA t,AV.i m].all AV.nrm=true:=by
  have h2 : AV.nrm (AV.i m)=true:=rfl
  simp only [List.all_cons,List.all_nil,nodeA_nrm,h2,Bool.and_self]
theorem size_good : ∀ (n : Nat) (t : T),t.cnt≤n→∀ most : Int,most≤601→Good Try.prog 140 [nodeA t,.i most] none (.i (sizeT t most)) none none:=by
  intro n
  induction n with
  | zero=>intro t ht;have:=cnt_pos t;omega
  | succ n ih =>
  intro t ht most hmost
  obtain ⟨k,a,b,c,d,mn,mx,subs⟩:=t
  have ih' : ∀ i (h : i < subs.length) (m : Int),m≤601→Good Try.prog 140 [nodeA subs[i],.i m] none (.i (sizeT subs[i] m)) none none:=by
    intro i h m hm
    refine ih _ ?_ m hm
    have:=cntL_get subs i h
    simp only [T.cnt] at ht
    omega
  have e0 : nodeA (.node k a b c d mn mx subs)=.agg [.i k,.d (.val (.int .u64 a)),.d (.val (.int .u64 b)),.d (.val (.int .u64 c)),.d (.val (.int .u64 d)),.i mn,.i mx,.d (.sl (encL subs) subs.length)]:=rfl
  rw [e0]
  refine b140 (by simp) (by simp) (w_init ?_)
  unfold x140
  repeat' (first|(apply r_mvV;rfl)|(apply r_box;((conv=>lhs;simp only [Nat.reduceAdd])<;>rfl);rfl;rfl;rfl)|(apply r_nilK)|(apply k_V;rfl)|(apply k_PL;rfl)|(apply k_nil)|(apply w_seq)|(apply w_ops;((conv=>lhs;simp only [Nat.reduceAdd])<;>rfl))|(apply e_thenN)|(apply w_block))
  apply w_loopI (ι:=Nat × Int) (S:=fun p=>⟨(((Fr.nil.put 1 (.i most)).put 2 (.ptrL 1 0)).put 5 (.i p.2)).put 6 (.i p.1),Heap.nil.put 1 [.i k,.d (.val (.int .u64 a)),.d (.val (.int .u64 b)),.d (.val (.int .u64 c)),.d (.val (.int .u64 d)),.i mn,.i mx,.d (.sl (encL subs) subs.length)],Frz.but 100 1,100⟩) (m:=fun p=>subs.length - p.1)
    (I:=fun p=>p.1≤subs.length∧(p.1 : Int) + 1≤p.2∧p.2≤max 1 most∧sizeT (.node k a b c d mn mx subs) most=sizeL (subs.drop p.1) most p.2) (i0:=(0,1))
  · refine ⟨Nat.zero_le _,by simp,by dsimp only;omega,?_⟩
    simp [sizeT]
  · exact wk1D (by omega) (by omega) rfl rfl rfl (FWk.i rfl rfl (FWk.i rfl rfl (FWk.ptr rfl rfl rfl (by omega) rfl (FWk.i rfl rfl FWk.nil))))
  rintro ⟨i,q⟩ K hi hK
  dsimp only at hi hK ⊢
  rcases Nat.lt_or_ge i subs.length with hlt | hge
  · have hs:=NodeAt.sub hlt
    have hd:=sizeL_drop subs most q i hlt
    have hb:=sizeT_le subs[i] (most - q)
    by_cases hq : q < most
    · rw [if_pos hq] at hd
      repeat' (first|(apply r_mvV;rfl)|(apply r_faddL;rfl)|(apply r_l;apply ld_node';assumption;rfl)|(apply r_p;apply ix_sub;rfl;rfl;omega)|(apply r_callA (ags:=[nodeA subs[i],.i (most - q)]);rfl;apply nrm_TI;apply ih' i hlt;omega)|(apply r_ldL;rfl;rfl;rfl)|(apply r_lss;rfl;rfl;(first|(apply dT;omega)|(apply dF;omega)|rfl))|(apply r_add;rfl;rfl;rfl;omega)|(apply r_sub;rfl;rfl;rfl;omega)|(apply r_pickT;rfl)|(apply r_lenD;rfl)|(apply r_gT;rfl)|(apply r_nilK)|(apply k_V;rfl)|(apply k_PL;rfl)|(apply k_nil)|(apply w_seq)|(apply w_ops;((conv=>lhs;simp only [Nat.reduceAdd])<;>rfl))|(apply w_condT;rfl)|(apply e_thenN)|(apply w_block)|(apply e_blkN)|(apply w_skip))
      apply e_thenK
      apply hK (i + 1,q + sizeT subs[i] (most - q))
      · refine ⟨by omega,by dsimp only;omega,by dsimp only;omega,?_⟩
        rw [hi.2.2.2,hd]
      · dsimp only;omega
      · exact wk1D (by omega) (by omega) rfl rfl rfl (FWk.i rfl (by simp) (FWk.i rfl rfl (FWk.ptr rfl rfl rfl (by omega) rfl (FWk.i rfl rfl FWk.nil))))
    · rw [if_neg hq] at hd
      repeat' (first|(apply r_mvV;rfl)|(apply r_faddL;rfl)|(apply r_ldL;rfl;rfl;rfl)|(apply r_lss;rfl;rfl;(first|(apply dT;omega)|(apply dF;omega)|rfl))|(apply r_pickT;rfl)|(apply r_lenD;rfl)|(apply r_gT;rfl)|(apply r_nilK)|(apply k_V;rfl)|(apply k_PL;rfl)|(apply k_nil)|(apply e_ret (vs:=[.d (.val _)]);rfl)|(apply w_seq)|(apply w_ops;((conv=>lhs;simp only [Nat.reduceAdd])<;>rfl))|(apply w_condF;rfl)|(apply e_thenN)|(apply e_thenX)|(apply e_blkE)|(apply w_exit)|(apply w_ret))
      refine retI ?_
      rw [hi.2.2.2,hd]
  · repeat' (first|(apply r_mvV;rfl)|(apply r_faddL;rfl)|(apply r_ldL;rfl;rfl;rfl)|(apply r_lss;rfl;rfl;(first|(apply dT;omega)|(apply dF;omega)|rfl))|(apply r_pickF;rfl)|(apply r_lenD;rfl)|(apply r_gF';rfl;rfl)|(apply r_nilK)|(apply k_V;rfl)|(apply k_PL;rfl)|(apply k_nil)|(apply e_ret (vs:=[.d (.val _)]);rfl)|(apply w_seq)|(apply w_ops;((conv=>lhs;simp only [Nat.reduceAdd])<;>rfl))|(apply w_condF;rfl)|(apply e_thenN)|(apply e_thenX)|(apply e_blkE)|(apply w_exit)|(apply w_ret))
    refine retI ?_
    rw [hi.2.2.2,List.drop_of_length_le (by omega),sizeL]
theorem size96_good (t : T) : Good Try.prog 96 [nodeA t] none (.i (sizeT t 601)) none none:=by
  have:=size_good _ t (Nat.le_refl _) 601 (by omega)
  obtain ⟨k,a,b,c,d,mn,mx,subs⟩:=t
  have e0 : nodeA (.node k a b c d mn mx subs)=.agg [.i k,.d (.val (.int .u64 a)),.d (.val (.int .u64 b)),.d (.val (.int .u64 c)),.d (.val (.int .u64 d)),.i mn,.i mx,.d (.sl (encL subs) subs.length)]:=rfl
  rw [e0] at this ⊢
  refine b96 (by simp) (by simp) (w_init ?_)
  unfold x96
  repeat' (first|(apply r_mvV;rfl)|(apply r_callA;rfl;rfl;exact this)|(apply r_ldL;rfl;rfl;rfl)|(apply r_box;((conv=>lhs;simp only [Nat.reduceAdd])<;>rfl);rfl;rfl;rfl)|(apply r_nilK)|(apply k_V;rfl)|(apply k_PL;rfl)|(apply k_nil)|(apply e_ret (vs:=[.d (.val _)]);rfl)|(apply w_seq)|(apply w_ops;((conv=>lhs;simp only [Nat.reduceAdd])<;>rfl))|(apply e_thenN)|(apply w_ret))
  exact retI rfl
theorem few_good (t : T) : Good Try.prog 45 [nodeA t] none (.b (decide (sizeT t 601≤200))) none none:=by
  have:=size96_good t
  obtain ⟨k,a,b,c,d,mn,mx,subs⟩:=t
  have e0 : nodeA (.node k a b c d mn mx subs)=.agg [.i k,.d (.val (.int .u64 a)),.d (.val (.int .u64 b)),.d (.val (.int .u64 c)),.d (.val (.int .u64 d)),.i mn,.i mx,.d (.sl (encL subs) subs.length)]:=rfl
  rw [e0] at this ⊢
  refine b45 (by simp) (by simp) (w_init ?_)
  unfold x45
  repeat' (first|(apply r_mvV;rfl)|(apply r_callA;rfl;rfl;exact this)|(apply r_ldL;rfl;rfl;rfl)|(apply r_leq;rfl;rfl;(first|(apply dT;omega)|(apply dF;omega)|rfl))|(apply r_box;((conv=>lhs;simp only [Nat.reduceAdd])<;>rfl);rfl;rfl;rfl)|(apply r_nilK)|(apply k_V;rfl)|(apply k_PL;rfl)|(apply k_nil)|(apply e_ret (vs:=[.d (.val _)]);rfl)|(apply w_seq)|(apply w_ops;((conv=>lhs;simp only [Nat.reduceAdd])<;>rfl))|(apply e_thenN)|(apply w_ret))
  all_goals (refine retB ?_;first | rfl | (simp;omega))
mutual
theorem sizeT_cnt : ∀ (t : T) (most : Int),sizeT t most < most→sizeT t most=t.cnt
  | .node _ _ _ _ _ _ _ subs,most,h=>by
    simp only [sizeT] at h ⊢
    rw [sizeL_cnt subs most 1 h,T.cnt];omega
theorem sizeL_cnt : ∀ (l : List T) (most k : Int),sizeL l most k < most→sizeL l most k=k + cntL l
  | [],most,k,h=>by simp [sizeL,cntL]
  | t :: l,most,k,h=>by
    simp only [sizeL] at h ⊢
    split at h
    · rename_i hk
      rw [if_pos hk]
      have h2:=sizeL_le l most (k + sizeT t (most - k))
      rw [sizeL_cnt l most _ h,sizeT_cnt t (most - k) (by omega),cntL]
      omega
    · omega
end
end Go.Sv
namespace Go.Sv
open Go Go.Proofs
section
variable {P : Program} {Q : Cont} {fr : Fr} {C : Heap} {Z : Frz} {nx : Nat} {base n d : Nat} {l : List (Nat × XO)} {kp : Option (List Nat)} {x i y s : X}
end
set_option maxRecDepth 100000
set_option maxHeartbeats 4000000
attribute [local irreducible] W E R KP thenK blockK retK Good xwp aRun
def okR (k mn mx : Int) : Prop:=k=5→(0≤mn∧mn≤20)∧(mx=-1 ∨ (mn≤mx∧mx≤20))
theorem okT_R {k a b c d mn mx : Int} {subs : List T} (h : okT (.node k a b c d mn mx subs)) : okR k mn mx:=by
  intro hk
  simp only [okT,okN] at h
  have hpl:=h.1.2.2.2.2
  simp [plainT,hk] at hpl
  omega
end Go.Sv
namespace Go.Sv
open Go Go.Proofs
set_option maxRecDepth 100000
def x83 : XC:=(.seq (.ops 1 [ (0,⟨some 2,none,.alloc [(.int .i64 0),(.int .u64 0),(.int .u64 0),(.int .u64 0),(.int .u64 0),(.int .i64 0),(.int .i64 0),(.slice none 0 0)]⟩)] (some [0,2])) (.seq (.ops 10 [ (0,⟨some 7,none,.mv (.t 0)⟩),(1,⟨some 8,none,.call 118 [(.t 7)] none false⟩),(2,⟨some 6,none,.mv (.t 8)⟩),(3,⟨some 9,none,.ext (.t 6) 0⟩),(4,⟨some 10,none,.ext (.t 6) 1⟩),(5,⟨some 11,none,.ext (.t 6) 2⟩),(6,⟨some 3,none,.alloc [(.int .i64 0),(.int .u64 0),(.int .u64 0),(.int .u64 0),(.int .u64 0),(.int .i64 0),(.int .i64 0),(.slice none 0 0)]⟩),(7,⟨none,none,.store 8 (.t 3) (.t 9)⟩),(8,⟨some 4,none,.mv (.t 10)⟩),(9,⟨some 5,none,.mv (.t 11)⟩)] (some [2,3])) (.seq (.ops 2 [ (0,⟨some 12,none,.load (some 8) (.t 3)⟩),(1,⟨none,none,.store 8 (.t 2) (.t 12)⟩)] (some [2])) .ret)))
def md83 : FuncId→Option Nat × Bool
  | _=>(none,false)
def od83 : Nat→List (List Nat) × List Nat × Option (List Nat)
  | 0=>([],[],some [0,2])
  | 1=>([],[],some [2,3])
  | 2=>([],[],some [2])
  | _=>([],[],none)
theorem b83 {ags : List AV} {row : Option (List DV)} {r : AV} {row' nw : Option (List DV)} (hal : ags.length≤13) (hrow : row'.isSome=true→row.isSome=true) (h : xwp Try.prog x83 (retK [.cell 2 (some 8)] row.isSome r row' nw) (St.init ags row)) : Good Try.prog 83 ags row r row' nw :=
  good_of_body' (md:=md83) (od:=od83) Try.f83 (by kernel_rfl) (by kernel_rfl) (by kernel_rfl) (by kernel_rfl) (by kernel_rfl) hal hrow h

def x119 : XC:=(.seq (.ops 1 [ (0,⟨some 4,none,.alloc [(.int .u64 0),(.int .u64 0),(.int .u64 0),(.int .u64 0)]⟩)] (some [0,1,4])) (.seq (.seq (.ops 3 [ (0,⟨some 6,none,.mv (.t 0)⟩),(1,⟨some 7,none,.conv .i64 (.t 6)⟩),(2,⟨some 5,none,.mv (.t 7)⟩)] (some [1,4,5])) (.block 0 (.loop (.seq (.seq (.ops 4 [ (0,⟨some 8,none,.mv (.t 5)⟩),(1,⟨some 9,none,.mv (.t 1)⟩),(2,⟨some 10,none,.conv .i64 (.t 9)⟩),(3,⟨some 11,none,.arith .leq (.t 8) (.t 10)⟩)] (some [1,4,5,11])) (.cond (.t 11) .skip (.exit 0))) (.seq (.block 1 (.ops 10 [ (0,⟨some 14,none,.mv (.t 5)⟩),(1,⟨some 15,none,.arith .quo (.t 14) (.k (.d (.val (.int .i64 64))))⟩),(2,⟨some 16,none,.idxP 4 1 (.t 4) (.t 15)⟩),(3,⟨some 17,none,.load none (.t 16)⟩),(4,⟨some 18,none,.mv (.t 5)⟩),(5,⟨some 19,none,.arith .rem (.t 18) (.k (.d (.val (.int .i64 64))))⟩),(6,⟨some 20,none,.arith .shl (.k (.d (.val (.int .u64 1)))) (.t 19)⟩),(7,⟨some 21,none,.arith .or (.t 17) (.t 20)⟩),(8,⟨some 22,none,.idxP 4 1 (.t 4) (.t 15)⟩),(9,⟨none,none,.store 1 (.t 22) (.t 21)⟩)] (some [1,4,5]))) (.ops 3 [ (0,⟨some 12,none,.mv (.t 5)⟩),(1,⟨some 13,none,.arith .add (.t 12) (.k (.d (.val (.int .i64 1))))⟩),(2,⟨some 5,none,.mv (.t 13)⟩)] (some [1,4,5]))))))) (.seq (.ops 2 [ (0,⟨some 23,none,.load (some 4) (.t 4)⟩),(1,⟨none,none,.store 4 (.t 4) (.t 23)⟩)] (some [4])) .ret)))
def md119 : FuncId→Option Nat × Bool
  | _=>(none,false)
def od119 : Nat→List (List Nat) × List Nat × Option (List Nat)
  | 0=>([],[],some [0,1,4])
  | 1=>([],[],some [1,4,5])
  | 2=>([],[],some [1,4,5,11])
  | 3=>([],[],some [1,4,5])
  | 4=>([[],[0],[0,1],[0,1,2],[],[4],[4,5],[0,1,2,3,4,5,6],[0,1,2,3,4,5,6,7],[0,1,2,3,4,5,6,7,8]],[0,1,2,3,4,5,6,7,8,9],some [1,4,5])
  | 5=>([],[],some [4])
  | _=>([],[],none)
theorem b119 {ags : List AV} {row : Option (List DV)} {r : AV} {row' nw : Option (List DV)} (hal : ags.length≤24) (hrow : row'.isSome=true→row.isSome=true) (h : xwp Try.prog x119 (retK [.cell 4 (some 4)] row.isSome r row' nw) (St.init ags row)) : Good Try.prog 119 ags row r row' nw :=
  good_of_body' (md:=md119) (od:=od119) Try.f119 (by kernel_rfl) (by kernel_rfl) (by kernel_rfl) (by kernel_rfl) (by kernel_rfl) hal hrow h

def x149 : XC:=(.seq (.ops 1 [ (0,⟨some 2,none,.alloc [(.int .i64 0),(.int .u64 0),(.int .u64 0),(.int .u64 0),(.int .u64 0),(.int .i64 0),(.int .i64 0),(.slice none 0 0)]⟩)] (some [0,2])) (.seq (.ops 4 [ (0,⟨some 4,none,.mv (.t 0)⟩),(1,⟨some 5,none,.call 162 [(.t 4)] (some 0) false⟩),(2,⟨some 6,none,.mkrow [(.int .i64 0),(.int .u64 0),(.int .u64 0),(.int .u64 0),(.int .u64 0),(.int .i64 0),(.int .i64 0),(.slice none 0 0)] 1 8 [(0,8,(.t 5))]⟩),(3,⟨some 3,none,.mv (.t 6)⟩)] (some [0,2,3])) (.seq (.block 0 (.loop (.seq (.seq (.ops 2 [ (0,⟨some 7,none,.mv (.t 0)⟩),(1,⟨some 8,none,.call 163 [(.t 7),(.k (.d (.val (.int .u8 124))))] (some 0) false⟩)] (some [0,2,3,8])) (.cond (.t 8) .skip (.exit 0))) (.block 1 (.ops 6 [ (0,⟨some 9,none,.mv (.t 3)⟩),(1,⟨some 10,none,.mv (.t 0)⟩),(2,⟨some 11,none,.call 162 [(.t 10)] (some 0) false⟩),(3,⟨some 12,none,.mkrow [(.int .i64 0),(.int .u64 0),(.int .u64 0),(.int .u64 0),(.int .u64 0),(.int .i64 0),(.int .i64 0),(.slice none 0 0)] 1 8 [(0,8,(.t 11))]⟩),(4,⟨some 13,none,.app [(.int .i64 0),(.int .u64 0),(.int .u64 0),(.int .u64 0),(.int .u64 0),(.int .i64 0),(.int .i64 0),(.slice none 0 0)] 80 (.t 9) (.t 12)⟩),(5,⟨some 3,none,.mv (.t 13)⟩)] (some [0,2,3])))))) (.seq (.ops 3 [ (0,⟨some 14,none,.mv (.t 3)⟩),(1,⟨some 15,none,.call 164 [(.k (.d (.val (.int .i64 4)))),(.t 14)] none false⟩),(2,⟨none,none,.store 8 (.t 2) (.t 15)⟩)] (some [2])) .ret))))
def md149 : FuncId→Option Nat × Bool
  | 162=>(some 0,false)
  | 163=>(some 0,false)
  | _=>(none,false)
def od149 : Nat→List (List Nat) × List Nat × Option (List Nat)
  | 0=>([],[],some [0,2])
  | 1=>([],[],some [0,2,3])
  | 2=>([],[],some [0,2,3,8])
  | 3=>([],[],some [0,2,3])
  | 4=>([],[],some [2])
  | _=>([],[],none)
theorem b149 {ags : List AV} {row : Option (List DV)} {r : AV} {row' nw : Option (List DV)} (hal : ags.length≤16) (hrow : row'.isSome=true→row.isSome=true) (h : xwp Try.prog x149 (retK [.cell 2 (some 8)] row.isSome r row' nw) (St.init ags row)) : Good Try.prog 149 ags row r row' nw :=
  good_of_body' (md:=md149) (od:=od149) Try.f149 (by kernel_rfl) (by kernel_rfl) (by kernel_rfl) (by kernel_rfl) (by kernel_rfl) hal hrow h

def x150 : XC:=(.seq (.ops 2 [ (0,⟨some 6,none,.mv (.t 1)⟩),(1,⟨some 7,none,.un .not (.t 6)⟩)] (some [2,7])) (.cond (.t 7) (.ops 3 [ (0,⟨some 8,none,.mv (.t 2)⟩),(1,⟨some 9,none,.bad⟩),(2,⟨none,none,.bad⟩)] (some [])) .skip))
def md150 : FuncId→Option Nat × Bool
  | _=>(none,false)
def od150 : Nat→List (List Nat) × List Nat × Option (List Nat)
  | 0=>([],[],some [2,7])
  | 1=>([],[],some [])
  | _=>([],[],none)
theorem b150 {ags : List AV} {row : Option (List DV)} {r : AV} {row' nw : Option (List DV)} (hal : ags.length≤10) (hrow : row'.isSome=true→row.isSome=true) (h : xwp Try.prog x150 (retK [] row.isSome r row' nw) (St.init ags row)) : Good Try.prog 150 ags row r row' nw :=
  good_of_body' (md:=md150) (od:=od150) Try.f150 (by kernel_rfl) (by kernel_rfl) (by kernel_rfl) (by kernel_rfl) (by kernel_rfl) hal hrow h

def x162 : XC:=(.seq (.ops 1 [ (0,⟨some 2,none,.alloc [(.int .i64 0),(.int .u64 0),(.int .u64 0),(.int .u64 0),(.int .u64 0),(.int .i64 0),(.int .i64 0),(.slice none 0 0)]⟩)] (some [0,2])) (.seq (.ops 1 [ (0,⟨some 3,none,.mv (.k (.d (.val (.slice none 0 0))))⟩)] (some [0,2,3])) (.seq (.block 0 (.loop (.seq (.seq (.ops 3 [ (0,⟨some 4,none,.mv (.t 0)⟩),(1,⟨some 5,none,.call 170 [(.t 4)] none false⟩),(2,⟨some 6,none,.un .not (.t 5)⟩)] (some [0,2,3,6])) (.cond (.t 6) .skip (.exit 0))) (.block 1 (.ops 6 [ (0,⟨some 7,none,.mv (.t 3)⟩),(1,⟨some 8,none,.mv (.t 0)⟩),(2,⟨some 9,none,.call 171 [(.t 8)] (some 0) false⟩),(3,⟨some 10,none,.mkrow [(.int .i64 0),(.int .u64 0),(.int .u64 0),(.int .u64 0),(.int .u64 0),(.int .i64 0),(.int .i64 0),(.slice none 0 0)] 1 8 [(0,8,(.t 9))]⟩),(4,⟨some 11,none,.app [(.int .i64 0),(.int .u64 0),(.int .u64 0),(.int .u64 0),(.int .u64 0),(.int .i64 0),(.int .i64 0),(.slice none 0 0)] 80 (.t 7) (.t 10)⟩),(5,⟨some 3,none,.mv (.t 11)⟩)] (some [0,2,3])))))) (.seq (.ops 3 [ (0,⟨some 12,none,.mv (.t 3)⟩),(1,⟨some 13,none,.call 164 [(.k (.d (.val (.int .i64 3)))),(.t 12)] none false⟩),(2,⟨none,none,.store 8 (.t 2) (.t 13)⟩)] (some [2])) .ret))))
def md162 : FuncId→Option Nat × Bool
  | 171=>(some 0,false)
  | _=>(none,false)
def od162 : Nat→List (List Nat) × List Nat × Option (List Nat)
  | 0=>([],[],some [0,2])
  | 1=>([],[],some [0,2,3])
  | 2=>([],[],some [0,2,3,6])
  | 3=>([],[],some [0,2,3])
  | 4=>([],[],some [2])
  | _=>([],[],none)
theorem b162 {ags : List AV} {row : Option (List DV)} {r : AV} {row' nw : Option (List DV)} (hal : ags.length≤14) (hrow : row'.isSome=true→row.isSome=true) (h : xwp Try.prog x162 (retK [.cell 2 (some 8)] row.isSome r row' nw) (St.init ags row)) : Good Try.prog 162 ags row r row' nw :=
  good_of_body' (md:=md162) (od:=od162) Try.f162 (by kernel_rfl) (by kernel_rfl) (by kernel_rfl) (by kernel_rfl) (by kernel_rfl) hal hrow h

def x163 : XC:=(.seq (.ops 1 [ (0,⟨some 4,none,.mv (.k (.d (.val (.bool false))))⟩)] (some [0,1])) (.seq (.seq (.ops 5 [ (0,⟨some 5,none,.mv (.t 0)⟩),(1,⟨some 6,none,.call 172 [(.t 5)] none false⟩),(2,⟨some 7,none,.mv (.t 1)⟩),(3,⟨some 8,none,.conv .i64 (.t 7)⟩),(4,⟨some 9,none,.arith .neq (.t 6) (.t 8)⟩)] (some [0,9])) (.cond (.t 9) (.seq (.ops 1 [ (0,⟨some 4,none,.mv (.k (.d (.val (.bool false))))⟩)] (some [4])) .ret) .skip)) (.seq (.ops 8 [ (0,⟨some 10,none,.mv (.t 0)⟩),(1,⟨some 11,none,.nilck (.t 10)⟩),(2,⟨some 12,none,.fadd 1 (.t 11)⟩),(3,⟨some 13,none,.load none (.t 12)⟩),(4,⟨some 14,none,.arith .add (.t 13) (.k (.d (.val (.int .i64 1))))⟩),(5,⟨some 15,none,.nilck (.t 10)⟩),(6,⟨some 16,none,.fadd 1 (.t 15)⟩),(7,⟨none,none,.store 1 (.t 16) (.t 14)⟩)] (some [])) (.seq (.ops 1 [ (0,⟨some 4,none,.mv (.k (.d (.val (.bool true))))⟩)] (some [4])) .ret))))
def md163 : FuncId→Option Nat × Bool
  | _=>(none,false)
def od163 : Nat→List (List Nat) × List Nat × Option (List Nat)
  | 0=>([],[],some [0,1])
  | 1=>([],[],some [0,9])
  | 2=>([],[],some [4])
  | 3=>([],[],some [])
  | 4=>([],[],some [4])
  | _=>([],[],none)
theorem b163 {ags : List AV} {row : Option (List DV)} {r : AV} {row' nw : Option (List DV)} (hal : ags.length≤17) (hrow : row'.isSome=true→row.isSome=true) (h : xwp Try.prog x163 (retK [.tmp 4] row.isSome r row' nw) (St.init ags row)) : Good Try.prog 163 ags row r row' nw :=
  good_of_body' (md:=md163) (od:=od163) Try.f163 (by kernel_rfl) (by kernel_rfl) (by kernel_rfl) (by kernel_rfl) (by kernel_rfl) hal hrow h

def x164 : XC:=(.seq (.ops 1 [ (0,⟨some 4,none,.alloc [(.int .i64 0),(.int .u64 0),(.int .u64 0),(.int .u64 0),(.int .u64 0),(.int .i64 0),(.int .i64 0),(.slice none 0 0)]⟩)] (some [0,1,4])) (.seq (.block 0 (.seq (.ops 4 [ (0,⟨some 6,none,.mv (.t 1)⟩),(1,⟨some 7,none,.lenS (.t 6)⟩),(2,⟨some 8,none,.arith .eql (.t 7) (.k (.d (.val (.int .i64 0))))⟩),(3,⟨some 5,none,.mv (.t 8)⟩)] (some [0,1,4,5])) (.cond (.t 5) (.seq (.ops 2 [ (0,⟨some 9,none,.build [(.int .i64 0),(.int .u64 0),(.int .u64 0),(.int .u64 0),(.int .u64 0),(.int .i64 0),(.int .i64 0),(.slice none 0 0)] [(0,1,(.k (.d (.val (.int .i64 1)))))]⟩),(1,⟨none,none,.store 8 (.t 4) (.t 9)⟩)] (some [4])) .ret) (.seq (.ops 4 [ (0,⟨some 11,none,.mv (.t 1)⟩),(1,⟨some 12,none,.lenS (.t 11)⟩),(2,⟨some 13,none,.arith .eql (.t 12) (.k (.d (.val (.int .i64 1))))⟩),(3,⟨some 10,none,.mv (.t 13)⟩)] (some [0,1,4,10])) (.cond (.t 10) (.seq (.ops 4 [ (0,⟨some 14,none,.mv (.t 1)⟩),(1,⟨some 15,none,.idxS 8 (.t 14) (.k (.d (.val (.int .i64 0))))⟩),(2,⟨some 16,none,.load (some 8) (.t 15)⟩),(3,⟨none,none,.store 8 (.t 4) (.t 16)⟩)] (some [4])) .ret) .skip))))) (.seq (.ops 4 [ (0,⟨some 17,none,.mv (.t 0)⟩),(1,⟨some 18,none,.mv (.t 1)⟩),(2,⟨some 19,none,.build [(.int .i64 0),(.int .u64 0),(.int .u64 0),(.int .u64 0),(.int .u64 0),(.int .i64 0),(.int .i64 0),(.slice none 0 0)] [(0,1,(.t 17)),(7,1,(.t 18))]⟩),(3,⟨none,none,.store 8 (.t 4) (.t 19)⟩)] (some [4])) .ret)))
def md164 : FuncId→Option Nat × Bool
  | _=>(none,false)
def od164 : Nat→List (List Nat) × List Nat × Option (List Nat)
  | 0=>([],[],some [0,1,4])
  | 1=>([],[],some [0,1,4,5])
  | 2=>([],[],some [4])
  | 3=>([],[],some [0,1,4,10])
  | 4=>([],[],some [4])
  | 5=>([],[],some [4])
  | _=>([],[],none)
theorem b164 {ags : List AV} {row : Option (List DV)} {r : AV} {row' nw : Option (List DV)} (hal : ags.length≤20) (hrow : row'.isSome=true→row.isSome=true) (h : xwp Try.prog x164 (retK [.cell 4 (some 8)] row.isSome r row' nw) (St.init ags row)) : Good Try.prog 164 ags row r row' nw :=
  good_of_body' (md:=md164) (od:=od164) Try.f164 (by kernel_rfl) (by kernel_rfl) (by kernel_rfl) (by kernel_rfl) (by kernel_rfl) hal hrow h

def x170 : XC:=(.seq (.ops 1 [ (0,⟨some 2,none,.mv (.k (.d (.val (.bool false))))⟩)] (some [0])) (.seq (.ops 3 [ (0,⟨some 4,none,.mv (.t 0)⟩),(1,⟨some 5,none,.call 172 [(.t 4)] none false⟩),(2,⟨some 3,none,.mv (.t 5)⟩)] (some [3])) (.seq (.ops 11 [ (0,⟨some 6,none,.mv (.t 3)⟩),(1,⟨some 7,none,.arith .lss (.t 6) (.k (.d (.val (.int .i64 0))))⟩),(2,⟨some 8,none,.mv (.t 7)⟩),(3,⟨some 9,(some (8,false)),.mv (.t 3)⟩),(4,⟨some 10,(some (8,false)),.arith .eql (.t 9) (.k (.d (.val (.int .i64 124))))⟩),(5,⟨some 11,none,.pick (.t 8) (.k (.d (.val (.bool true)))) (.t 10)⟩),(6,⟨some 12,none,.mv (.t 11)⟩),(7,⟨some 13,(some (12,false)),.mv (.t 3)⟩),(8,⟨some 14,(some (12,false)),.arith .eql (.t 13) (.k (.d (.val (.int .i64 41))))⟩),(9,⟨some 15,none,.pick (.t 12) (.k (.d (.val (.bool true)))) (.t 14)⟩),(10,⟨some 2,none,.mv (.t 15)⟩)] (some [2])) .ret)))
def md170 : FuncId→Option Nat × Bool
  | _=>(none,false)
def od170 : Nat→List (List Nat) × List Nat × Option (List Nat)
  | 0=>([],[],some [0])
  | 1=>([],[],some [3])
  | 2=>([],[],some [2])
  | _=>([],[],none)
theorem b170 {ags : List AV} {row : Option (List DV)} {r : AV} {row' nw : Option (List DV)} (hal : ags.length≤16) (hrow : row'.isSome=true→row.isSome=true) (h : xwp Try.prog x170 (retK [.tmp 2] row.isSome r row' nw) (St.init ags row)) : Good Try.prog 170 ags row r row' nw :=
  good_of_body' (md:=md170) (od:=od170) Try.f170 (by kernel_rfl) (by kernel_rfl) (by kernel_rfl) (by kernel_rfl) (by kernel_rfl) hal hrow h

def x171 : XC:=(.seq (.ops 1 [ (0,⟨some 2,none,.alloc [(.int .i64 0),(.int .u64 0),(.int .u64 0),(.int .u64 0),(.int .u64 0),(.int .i64 0),(.int .i64 0),(.slice none 0 0)]⟩)] (some [0,2])) (.seq (.ops 4 [ (0,⟨some 5,none,.mv (.t 0)⟩),(1,⟨some 6,none,.call 176 [(.t 5)] (some 0) false⟩),(2,⟨some 3,none,.alloc [(.int .i64 0),(.int .u64 0),(.int .u64 0),(.int .u64 0),(.int .u64 0),(.int .i64 0),(.int .i64 0),(.slice none 0 0)]⟩),(3,⟨none,none,.store 8 (.t 3) (.t 6)⟩)] (some [0,2,3])) (.seq (.ops 5 [ (0,⟨some 7,none,.load (some 8) (.t 3)⟩),(1,⟨some 8,none,.mkrow [(.int .i64 0),(.int .u64 0),(.int .u64 0),(.int .u64 0),(.int .u64 0),(.int .i64 0),(.int .i64 0),(.slice none 0 0)] 1 8 [(0,8,(.t 7))]⟩),(2,⟨some 9,none,.build [(.int .i64 0),(.int .u64 0),(.int .u64 0),(.int .u64 0),(.int .u64 0),(.int .i64 0),(.int .i64 0),(.slice none 0 0)] [(0,1,(.k (.d (.val (.int .i64 5))))),(6,1,(.k (.d (.val (.int .i64 (-1)))))),(7,1,(.t 8))]⟩),(3,⟨some 4,none,.alloc [(.int .i64 0),(.int .u64 0),(.int .u64 0),(.int .u64 0),(.int .u64 0),(.int .i64 0),(.int .i64 0),(.slice none 0 0)]⟩),(4,⟨none,none,.store 8 (.t 4) (.t 9)⟩)] (some [0,2,3,4])) (.seq (.block 0 (.seq (.ops 3 [ (0,⟨some 12,none,.mv (.t 0)⟩),(1,⟨some 13,none,.call 163 [(.t 12),(.k (.d (.val (.int .u8 42))))] (some 0) false⟩),(2,⟨some 11,none,.mv (.t 13)⟩)] (some [0,2,3,4,11])) (.cond (.t 11) .skip (.seq (.ops 3 [ (0,⟨some 15,none,.mv (.t 0)⟩),(1,⟨some 16,none,.call 163 [(.t 15),(.k (.d (.val (.int .u8 43))))] (some 0) false⟩),(2,⟨some 14,none,.mv (.t 16)⟩)] (some [0,2,3,4,14])) (.cond (.t 14) (.ops 2 [ (0,⟨some 17,none,.fadd 5 (.t 4)⟩),(1,⟨none,none,.store 1 (.t 17) (.k (.d (.val (.int .i64 1))))⟩)] (some [2,4])) (.seq (.ops 3 [ (0,⟨some 19,none,.mv (.t 0)⟩),(1,⟨some 20,none,.call 163 [(.t 19),(.k (.d (.val (.int .u8 63))))] (some 0) false⟩),(2,⟨some 18,none,.mv (.t 20)⟩)] (some [0,2,3,4,18])) (.cond (.t 18) (.ops 2 [ (0,⟨some 21,none,.fadd 6 (.t 4)⟩),(1,⟨none,none,.store 1 (.t 21) (.k (.d (.val (.int .i64 1))))⟩)] (some [2,4])) (.seq (.ops 3 [ (0,⟨some 23,none,.mv (.t 0)⟩),(1,⟨some 24,none,.call 163 [(.t 23),(.k (.d (.val (.int .u8 123))))] (some 0) false⟩),(2,⟨some 22,none,.mv (.t 24)⟩)] (some [0,2,3,4,22])) (.cond (.t 22) (.ops 9 [ (0,⟨some 26,none,.mv (.t 0)⟩),(1,⟨some 27,none,.call 177 [(.t 26)] (some 0) false⟩),(2,⟨some 25,none,.mv (.t 27)⟩),(3,⟨some 28,none,.ext (.t 25) 0⟩),(4,⟨some 29,none,.ext (.t 25) 1⟩),(5,⟨some 30,none,.fadd 5 (.t 4)⟩),(6,⟨none,none,.store 1 (.t 30) (.t 28)⟩),(7,⟨some 31,none,.fadd 6 (.t 4)⟩),(8,⟨none,none,.store 1 (.t 31) (.t 29)⟩)] (some [2,4])) (.seq (.ops 2 [ (0,⟨some 10,none,.load (some 8) (.t 3)⟩),(1,⟨none,none,.store 8 (.t 2) (.t 10)⟩)] (some [2])) .ret)))))))))) (.seq (.ops 2 [ (0,⟨some 32,none,.load (some 8) (.t 4)⟩),(1,⟨none,none,.store 8 (.t 2) (.t 32)⟩)] (some [2])) .ret)))))
def md171 : FuncId→Option Nat × Bool
  | 163=>(some 0,false)
  | 176=>(some 0,false)
  | 177=>(some 0,false)
  | _=>(none,false)
def od171 : Nat→List (List Nat) × List Nat × Option (List Nat)
  | 0=>([],[],some [0,2])
  | 1=>([],[],some [0,2,3])
  | 2=>([],[],some [0,2,3,4])
  | 3=>([],[],some [2])
  | 4=>([],[],some [0,2,3,4,11])
  | 5=>([],[],some [0,2,3,4,14])
  | 6=>([],[],some [2,4])
  | 7=>([],[],some [0,2,3,4,18])
  | 8=>([],[],some [2,4])
  | 9=>([],[],some [0,2,3,4,22])
  | 10=>([],[],some [2,4])
  | 11=>([],[],some [2])
  | _=>([],[],none)
theorem b171 {ags : List AV} {row : Option (List DV)} {r : AV} {row' nw : Option (List DV)} (hal : ags.length≤33) (hrow : row'.isSome=true→row.isSome=true) (h : xwp Try.prog x171 (retK [.cell 2 (some 8)] row.isSome r row' nw) (St.init ags row)) : Good Try.prog 171 ags row r row' nw :=
  good_of_body' (md:=md171) (od:=od171) Try.f171 (by kernel_rfl) (by kernel_rfl) (by kernel_rfl) (by kernel_rfl) (by kernel_rfl) hal hrow h

def x172 : XC:=(.seq (.ops 1 [ (0,⟨some 2,none,.mv (.k (.d (.val (.int .i64 0))))⟩)] (some [0])) (.seq (.seq (.ops 10 [ (0,⟨some 3,none,.mv (.t 0)⟩),(1,⟨some 4,none,.nilck (.t 3)⟩),(2,⟨some 5,none,.fadd 1 (.t 4)⟩),(3,⟨some 6,none,.load none (.t 5)⟩),(4,⟨some 7,none,.mv (.t 0)⟩),(5,⟨some 8,none,.nilck (.t 7)⟩),(6,⟨some 9,none,.fadd 0 (.t 8)⟩),(7,⟨some 10,none,.load none (.t 9)⟩),(8,⟨some 11,none,.lenT (.t 10)⟩),(9,⟨some 12,none,.arith .geq (.t 6) (.t 11)⟩)] (some [0,12])) (.cond (.t 12) (.seq (.ops 1 [ (0,⟨some 2,none,.mv (.k (.d (.val (.int .i64 (-1)))))⟩)] (some [2])) .ret) .skip)) (.seq (.ops 11 [ (0,⟨some 13,none,.mv (.t 0)⟩),(1,⟨some 14,none,.nilck (.t 13)⟩),(2,⟨some 15,none,.fadd 0 (.t 14)⟩),(3,⟨some 16,none,.load none (.t 15)⟩),(4,⟨some 17,none,.mv (.t 0)⟩),(5,⟨some 18,none,.nilck (.t 17)⟩),(6,⟨some 19,none,.fadd 1 (.t 18)⟩),(7,⟨some 20,none,.load none (.t 19)⟩),(8,⟨some 21,none,.idxT (.t 16) (.t 20)⟩),(9,⟨some 22,none,.conv .i64 (.t 21)⟩),(10,⟨some 2,none,.mv (.t 22)⟩)] (some [2])) .ret)))
def md172 : FuncId→Option Nat × Bool
  | _=>(none,false)
def od172 : Nat→List (List Nat) × List Nat × Option (List Nat)
  | 0=>([],[],some [0])
  | 1=>([[],[0],[0,1],[0,1,2],[],[4],[4,5],[4,5,6],[4,5,6,7],[0,1,2,3,4,5,6,7,8]],[0,1,2,3,4,5,6,7,8,9],some [0,12])
  | 2=>([],[],some [2])
  | 3=>([[],[0],[0,1],[0,1,2],[],[4],[4,5],[4,5,6],[0,1,2,3,4,5,6,7],[0,1,2,3,4,5,6,7,8],[0,1,2,3,4,5,6,7,8,9]],[0,1,2,3,4,5,6,7,8,9,10],some [2])
  | _=>([],[],none)
theorem b172 {ags : List AV} {row : Option (List DV)} {r : AV} {row' nw : Option (List DV)} (hal : ags.length≤23) (hrow : row'.isSome=true→row.isSome=true) (h : xwp Try.prog x172 (retK [.tmp 2] row.isSome r row' nw) (St.init ags row)) : Good Try.prog 172 ags row r row' nw :=
  good_of_body' (md:=md172) (od:=od172) Try.f172 (by kernel_rfl) (by kernel_rfl) (by kernel_rfl) (by kernel_rfl) (by kernel_rfl) hal hrow h

def x176 : XC:=(.seq (.ops 1 [ (0,⟨some 2,none,.alloc [(.int .i64 0),(.int .u64 0),(.int .u64 0),(.int .u64 0),(.int .u64 0),(.int .i64 0),(.int .i64 0),(.slice none 0 0)]⟩)] (some [0,2])) (.seq (.block 0 (.seq (.ops 4 [ (0,⟨some 5,none,.mv (.t 0)⟩),(1,⟨some 6,none,.call 172 [(.t 5)] none false⟩),(2,⟨some 7,none,.arith .eql (.t 6) (.k (.d (.val (.int .i64 40))))⟩),(3,⟨some 4,none,.mv (.t 7)⟩)] (some [0,2,4])) (.cond (.t 4) (.seq (.ops 11 [ (0,⟨some 8,none,.mv (.t 0)⟩),(1,⟨some 9,none,.mv (.t 0)⟩),(2,⟨some 10,none,.nilck (.t 9)⟩),(3,⟨some 11,none,.fadd 2 (.t 10)⟩),(4,⟨some 12,none,.load none (.t 11)⟩),(5,⟨some 13,none,.arith .lss (.t 12) (.k (.d (.val (.int .i64 12))))⟩),(6,⟨some 14,none,.mv (.t 0)⟩),(7,⟨some 15,none,.nilck (.t 14)⟩),(8,⟨some 16,none,.fadd 1 (.t 15)⟩),(9,⟨some 17,none,.load none (.t 16)⟩),(10,⟨some 18,none,.call 150 [(.t 8),(.t 13),(.t 17)] none false⟩)] (some [0,2])) (.seq (.ops 8 [ (0,⟨some 19,none,.mv (.t 0)⟩),(1,⟨some 20,none,.nilck (.t 19)⟩),(2,⟨some 21,none,.fadd 1 (.t 20)⟩),(3,⟨some 22,none,.load none (.t 21)⟩),(4,⟨some 23,none,.arith .add (.t 22) (.k (.d (.val (.int .i64 1))))⟩),(5,⟨some 24,none,.nilck (.t 19)⟩),(6,⟨some 25,none,.fadd 1 (.t 24)⟩),(7,⟨none,none,.store 1 (.t 25) (.t 23)⟩)] (some [0,2])) (.seq (.ops 8 [ (0,⟨some 26,none,.mv (.t 0)⟩),(1,⟨some 27,none,.nilck (.t 26)⟩),(2,⟨some 28,none,.fadd 2 (.t 27)⟩),(3,⟨some 29,none,.load none (.t 28)⟩),(4,⟨some 30,none,.arith .add (.t 29) (.k (.d (.val (.int .i64 1))))⟩),(5,⟨some 31,none,.nilck (.t 26)⟩),(6,⟨some 32,none,.fadd 2 (.t 31)⟩),(7,⟨none,none,.store 1 (.t 32) (.t 30)⟩)] (some [0,2])) (.seq (.ops 4 [ (0,⟨some 33,none,.mv (.t 0)⟩),(1,⟨some 34,none,.call 149 [(.t 33)] (some 0) false⟩),(2,⟨some 3,none,.alloc [(.int .i64 0),(.int .u64 0),(.int .u64 0),(.int .u64 0),(.int .u64 0),(.int .i64 0),(.int .i64 0),(.slice none 0 0)]⟩),(3,⟨none,none,.store 8 (.t 3) (.t 34)⟩)] (some [0,2,3])) (.seq (.ops 8 [ (0,⟨some 35,none,.mv (.t 0)⟩),(1,⟨some 36,none,.nilck (.t 35)⟩),(2,⟨some 37,none,.fadd 2 (.t 36)⟩),(3,⟨some 38,none,.load none (.t 37)⟩),(4,⟨some 39,none,.arith .sub (.t 38) (.k (.d (.val (.int .i64 1))))⟩),(5,⟨some 40,none,.nilck (.t 35)⟩),(6,⟨some 41,none,.fadd 2 (.t 40)⟩),(7,⟨none,none,.store 1 (.t 41) (.t 39)⟩)] (some [0,2,3])) (.seq (.ops 2 [ (0,⟨some 42,none,.mv (.t 0)⟩),(1,⟨some 43,none,.call 178 [(.t 42),(.k (.d (.val (.int .u8 41))))] (some 0) false⟩)] (some [2,3])) (.seq (.ops 2 [ (0,⟨some 44,none,.load (some 8) (.t 3)⟩),(1,⟨none,none,.store 8 (.t 2) (.t 44)⟩)] (some [2])) .ret))))))) (.seq (.ops 3 [ (0,⟨some 46,none,.mv (.t 0)⟩),(1,⟨some 47,none,.call 163 [(.t 46),(.k (.d (.val (.int .u8 46))))] (some 0) false⟩),(2,⟨some 45,none,.mv (.t 47)⟩)] (some [0,2,45])) (.cond (.t 45) (.seq (.ops 3 [ (0,⟨some 48,none,.call 119 [(.k (.d (.val (.int .u8 0)))),(.k (.d (.val (.int .u8 255))))] none false⟩),(1,⟨some 49,none,.build [(.int .i64 0),(.int .u64 0),(.int .u64 0),(.int .u64 0),(.int .u64 0),(.int .i64 0),(.int .i64 0),(.slice none 0 0)] [(0,1,(.k (.d (.val (.int .i64 2))))),(1,4,(.t 48))]⟩),(2,⟨none,none,.store 8 (.t 2) (.t 49)⟩)] (some [2])) .ret) (.seq (.ops 3 [ (0,⟨some 51,none,.mv (.t 0)⟩),(1,⟨some 52,none,.call 163 [(.t 51),(.k (.d (.val (.int .u8 91))))] (some 0) false⟩),(2,⟨some 50,none,.mv (.t 52)⟩)] (some [0,2,50])) (.cond (.t 50) (.seq (.ops 4 [ (0,⟨some 53,none,.mv (.t 0)⟩),(1,⟨some 54,none,.call 179 [(.t 53)] (some 0) false⟩),(2,⟨some 55,none,.build [(.int .i64 0),(.int .u64 0),(.int .u64 0),(.int .u64 0),(.int .u64 0),(.int .i64 0),(.int .i64 0),(.slice none 0 0)] [(0,1,(.k (.d (.val (.int .i64 2))))),(1,4,(.t 54))]⟩),(3,⟨none,none,.store 8 (.t 2) (.t 55)⟩)] (some [2])) .ret) .skip))))))) (.seq (.ops 5 [ (0,⟨some 56,none,.mv (.t 0)⟩),(1,⟨some 57,none,.call 181 [(.t 56)] (some 0) false⟩),(2,⟨some 58,none,.call 180 [(.t 57)] none false⟩),(3,⟨some 59,none,.build [(.int .i64 0),(.int .u64 0),(.int .u64 0),(.int .u64 0),(.int .u64 0),(.int .i64 0),(.int .i64 0),(.slice none 0 0)] [(0,1,(.k (.d (.val (.int .i64 2))))),(1,4,(.t 58))]⟩),(4,⟨none,none,.store 8 (.t 2) (.t 59)⟩)] (some [2])) .ret)))
def md176 : FuncId→Option Nat × Bool
  | 149=>(some 0,false)
  | 163=>(some 0,false)
  | 178=>(some 0,false)
  | 179=>(some 0,false)
  | 181=>(some 0,false)
  | _=>(none,false)
def od176 : Nat→List (List Nat) × List Nat × Option (List Nat)
  | 0=>([],[],some [0,2])
  | 1=>([],[],some [0,2,4])
  | 2=>([[],[],[1],[1,2],[1,2,3],[1,2,3,4],[],[6],[6,7],[6,7,8],[0,1,2,3,4,5,6,7,8,9]],[0,1,2,3,4,5,6,7,8,9,10],some [0,2])
  | 3=>([],[],some [0,2])
  | 4=>([],[],some [0,2])
  | 5=>([],[],some [0,2,3])
  | 6=>([],[],some [0,2,3])
  | 7=>([],[],some [2,3])
  | 8=>([],[],some [2])
  | 9=>([],[],some [0,2,45])
  | 10=>([],[],some [2])
  | 11=>([],[],some [0,2,50])
  | 12=>([],[],some [2])
  | 13=>([],[],some [2])
  | _=>([],[],none)
theorem b176 {ags : List AV} {row : Option (List DV)} {r : AV} {row' nw : Option (List DV)} (hal : ags.length≤60) (hrow : row'.isSome=true→row.isSome=true) (h : xwp Try.prog x176 (retK [.cell 2 (some 8)] row.isSome r row' nw) (St.init ags row)) : Good Try.prog 176 ags row r row' nw :=
  good_of_body' (md:=md176) (od:=od176) Try.f176 (by kernel_rfl) (by kernel_rfl) (by kernel_rfl) (by kernel_rfl) (by kernel_rfl) hal hrow h

def x177 : XC:=(.seq (.ops 2 [ (0,⟨some 2,none,.mv (.k (.d (.val (.int .i64 0))))⟩),(1,⟨some 3,none,.mv (.k (.d (.val (.int .i64 0))))⟩)] (some [0])) (.seq (.ops 3 [ (0,⟨some 5,none,.mv (.t 0)⟩),(1,⟨some 6,none,.call 182 [(.t 5)] (some 0) false⟩),(2,⟨some 2,none,.mv (.t 6)⟩)] (some [0,2])) (.seq (.ops 2 [ (0,⟨some 7,none,.mv (.t 2)⟩),(1,⟨some 3,none,.mv (.t 7)⟩)] (some [0,2,3])) (.seq (.seq (.ops 2 [ (0,⟨some 8,none,.mv (.t 0)⟩),(1,⟨some 9,none,.call 163 [(.t 8),(.k (.d (.val (.int .u8 44))))] (some 0) false⟩)] (some [0,2,3,9])) (.cond (.t 9) (.seq (.ops 1 [ (0,⟨some 3,none,.mv (.k (.d (.val (.int .i64 (-1)))))⟩)] (some [0,2,3])) (.seq (.ops 3 [ (0,⟨some 10,none,.mv (.t 0)⟩),(1,⟨some 11,none,.call 172 [(.t 10)] none false⟩),(2,⟨some 12,none,.arith .neq (.t 11) (.k (.d (.val (.int .i64 125))))⟩)] (some [0,2,3,12])) (.cond (.t 12) (.seq (.ops 5 [ (0,⟨some 13,none,.mv (.t 0)⟩),(1,⟨some 14,none,.nilck (.t 13)⟩),(2,⟨some 15,none,.fadd 1 (.t 14)⟩),(3,⟨some 16,none,.load none (.t 15)⟩),(4,⟨some 4,none,.mv (.t 16)⟩)] (some [0,2,4])) (.seq (.ops 3 [ (0,⟨some 17,none,.mv (.t 0)⟩),(1,⟨some 18,none,.call 182 [(.t 17)] (some 0) false⟩),(2,⟨some 3,none,.mv (.t 18)⟩)] (some [0,2,3,4])) (.ops 6 [ (0,⟨some 19,none,.mv (.t 0)⟩),(1,⟨some 20,none,.mv (.t 3)⟩),(2,⟨some 21,none,.mv (.t 2)⟩),(3,⟨some 22,none,.arith .geq (.t 20) (.t 21)⟩),(4,⟨some 23,none,.mv (.t 4)⟩),(5,⟨some 24,none,.call 150 [(.t 19),(.t 22),(.t 23)] none false⟩)] (some [0,2,3])))) .skip))) .skip)) (.seq (.ops 2 [ (0,⟨some 25,none,.mv (.t 0)⟩),(1,⟨some 26,none,.call 178 [(.t 25),(.k (.d (.val (.int .u8 125))))] (some 0) false⟩)] (some [2,3])) (.seq (.ops 4 [ (0,⟨some 27,none,.mv (.t 2)⟩),(1,⟨some 28,none,.mv (.t 3)⟩),(2,⟨some 2,none,.mv (.t 27)⟩),(3,⟨some 3,none,.mv (.t 28)⟩)] (some [2,3])) .ret))))))
def md177 : FuncId→Option Nat × Bool
  | 163=>(some 0,false)
  | 178=>(some 0,false)
  | 182=>(some 0,false)
  | _=>(none,false)
def od177 : Nat→List (List Nat) × List Nat × Option (List Nat)
  | 0=>([],[],some [0])
  | 1=>([],[],some [0,2])
  | 2=>([],[],some [0,2,3])
  | 3=>([],[],some [0,2,3,9])
  | 4=>([],[],some [0,2,3])
  | 5=>([],[],some [0,2,3,12])
  | 6=>([],[],some [0,2,4])
  | 7=>([],[],some [0,2,3,4])
  | 8=>([],[],some [0,2,3])
  | 9=>([],[],some [2,3])
  | 10=>([],[],some [2,3])
  | _=>([],[],none)
theorem b177 {ags : List AV} {row : Option (List DV)} {r : AV} {row' nw : Option (List DV)} (hal : ags.length≤29) (hrow : row'.isSome=true→row.isSome=true) (h : xwp Try.prog x177 (retK [.tmp 2,.tmp 3] row.isSome r row' nw) (St.init ags row)) : Good Try.prog 177 ags row r row' nw :=
  good_of_body' (md:=md177) (od:=od177) Try.f177 (by kernel_rfl) (by kernel_rfl) (by kernel_rfl) (by kernel_rfl) (by kernel_rfl) hal hrow h

def x178 : XC:=(.seq (.ops 4 [ (0,⟨some 5,none,.mv (.t 0)⟩),(1,⟨some 6,none,.mv (.t 1)⟩),(2,⟨some 7,none,.call 163 [(.t 5),(.t 6)] (some 0) false⟩),(3,⟨some 4,none,.mv (.t 7)⟩)] (some [0,4])) (.ops 7 [ (0,⟨some 8,none,.mv (.t 0)⟩),(1,⟨some 9,none,.mv (.t 4)⟩),(2,⟨some 10,none,.mv (.t 0)⟩),(3,⟨some 11,none,.nilck (.t 10)⟩),(4,⟨some 12,none,.fadd 1 (.t 11)⟩),(5,⟨some 13,none,.load none (.t 12)⟩),(6,⟨some 14,none,.call 150 [(.t 8),(.t 9),(.t 13)] none false⟩)] (some [])))
def md178 : FuncId→Option Nat × Bool
  | 163=>(some 0,false)
  | _=>(none,false)
def od178 : Nat→List (List Nat) × List Nat × Option (List Nat)
  | 0=>([],[],some [0,4])
  | 1=>([],[],some [])
  | _=>([],[],none)
theorem b178 {ags : List AV} {row : Option (List DV)} {r : AV} {row' nw : Option (List DV)} (hal : ags.length≤15) (hrow : row'.isSome=true→row.isSome=true) (h : xwp Try.prog x178 (retK [] row.isSome r row' nw) (St.init ags row)) : Good Try.prog 178 ags row r row' nw :=
  good_of_body' (md:=md178) (od:=od178) Try.f178 (by kernel_rfl) (by kernel_rfl) (by kernel_rfl) (by kernel_rfl) (by kernel_rfl) hal hrow h

def x179 : XC:=(.seq (.ops 1 [ (0,⟨some 2,none,.alloc [(.int .u64 0),(.int .u64 0),(.int .u64 0),(.int .u64 0)]⟩)] (some [0,2])) (.seq (.ops 3 [ (0,⟨some 4,none,.mv (.t 0)⟩),(1,⟨some 5,none,.call 163 [(.t 4),(.k (.d (.val (.int .u8 94))))] (some 0) false⟩),(2,⟨some 3,none,.mv (.t 5)⟩)] (some [0,2,3])) (.seq (.block 0 (.loop (.seq (.seq (.ops 3 [ (0,⟨some 6,none,.mv (.t 0)⟩),(1,⟨some 7,none,.call 172 [(.t 6)] none false⟩),(2,⟨some 8,none,.arith .neq (.t 7) (.k (.d (.val (.int .i64 93))))⟩)] (some [0,2,3,8])) (.cond (.t 8) .skip (.exit 0))) (.block 1 (.ops 5 [ (0,⟨some 9,none,.load (some 4) (.t 2)⟩),(1,⟨some 10,none,.mv (.t 0)⟩),(2,⟨some 11,none,.callA 183 [(.t 10)] 0 [2]⟩),(3,⟨some 12,none,.call 73 [(.t 9),(.t 11)] none false⟩),(4,⟨none,none,.store 4 (.t 2) (.t 12)⟩)] (some [0,2,3])))))) (.seq (.ops 2 [ (0,⟨some 13,none,.mv (.t 0)⟩),(1,⟨some 14,none,.call 178 [(.t 13),(.k (.d (.val (.int .u8 93))))] (some 0) false⟩)] (some [2,3])) (.seq (.seq (.ops 1 [ (0,⟨some 15,none,.mv (.t 3)⟩)] (some [2,15])) (.cond (.t 15) (.ops 3 [ (0,⟨some 16,none,.load (some 4) (.t 2)⟩),(1,⟨some 17,none,.call 184 [(.t 16)] none false⟩),(2,⟨none,none,.store 4 (.t 2) (.t 17)⟩)] (some [2])) .skip)) (.seq (.ops 2 [ (0,⟨some 18,none,.load (some 4) (.t 2)⟩),(1,⟨none,none,.store 4 (.t 2) (.t 18)⟩)] (some [2])) .ret))))))
def md179 : FuncId→Option Nat × Bool
  | 163=>(some 0,false)
  | 178=>(some 0,false)
  | 183=>(some 0,false)
  | _=>(none,false)
def od179 : Nat→List (List Nat) × List Nat × Option (List Nat)
  | 0=>([],[],some [0,2])
  | 1=>([],[],some [0,2,3])
  | 2=>([],[],some [0,2,3,8])
  | 3=>([[],[],[1],[0,1,2],[0,1,2,3]],[0,1,2,3,4],some [0,2,3])
  | 4=>([],[],some [2,3])
  | 5=>([],[],some [2,15])
  | 6=>([],[],some [2])
  | 7=>([],[],some [2])
  | _=>([],[],none)
theorem b179 {ags : List AV} {row : Option (List DV)} {r : AV} {row' nw : Option (List DV)} (hal : ags.length≤19) (hrow : row'.isSome=true→row.isSome=true) (h : xwp Try.prog x179 (retK [.cell 2 (some 4)] row.isSome r row' nw) (St.init ags row)) : Good Try.prog 179 ags row r row' nw :=
  good_of_body' (md:=md179) (od:=od179) Try.f179 (by kernel_rfl) (by kernel_rfl) (by kernel_rfl) (by kernel_rfl) (by kernel_rfl) hal hrow h

def x180 : XC:=(.seq (.ops 1 [ (0,⟨some 2,none,.alloc [(.int .u64 0),(.int .u64 0),(.int .u64 0),(.int .u64 0)]⟩)] (some [0,2])) (.seq (.ops 7 [ (0,⟨some 3,none,.mv (.t 0)⟩),(1,⟨some 4,none,.arith .quo (.t 3) (.k (.d (.val (.int .u8 64))))⟩),(2,⟨some 5,none,.mv (.t 0)⟩),(3,⟨some 6,none,.arith .rem (.t 5) (.k (.d (.val (.int .u8 64))))⟩),(4,⟨some 7,none,.arith .shl (.k (.d (.val (.int .u64 1)))) (.t 6)⟩),(5,⟨some 8,none,.idxP 4 1 (.t 2) (.t 4)⟩),(6,⟨none,none,.store 1 (.t 8) (.t 7)⟩)] (some [2])) (.seq (.ops 2 [ (0,⟨some 9,none,.load (some 4) (.t 2)⟩),(1,⟨none,none,.store 4 (.t 2) (.t 9)⟩)] (some [2])) .ret)))
def md180 : FuncId→Option Nat × Bool
  | _=>(none,false)
def od180 : Nat→List (List Nat) × List Nat × Option (List Nat)
  | 0=>([],[],some [0,2])
  | 1=>([],[],some [2])
  | 2=>([],[],some [2])
  | _=>([],[],none)
theorem b180 {ags : List AV} {row : Option (List DV)} {r : AV} {row' nw : Option (List DV)} (hal : ags.length≤10) (hrow : row'.isSome=true→row.isSome=true) (h : xwp Try.prog x180 (retK [.cell 2 (some 4)] row.isSome r row' nw) (St.init ags row)) : Good Try.prog 180 ags row r row' nw :=
  good_of_body' (md:=md180) (od:=od180) Try.f180 (by kernel_rfl) (by kernel_rfl) (by kernel_rfl) (by kernel_rfl) (by kernel_rfl) hal hrow h

def x181 : XC:=(.seq (.ops 1 [ (0,⟨some 2,none,.mv (.k (.d (.val (.int .u8 0))))⟩)] (some [0])) (.seq (.ops 3 [ (0,⟨some 4,none,.mv (.t 0)⟩),(1,⟨some 5,none,.call 172 [(.t 4)] none false⟩),(2,⟨some 3,none,.mv (.t 5)⟩)] (some [0,3])) (.seq (.seq (.ops 2 [ (0,⟨some 6,none,.mv (.t 0)⟩),(1,⟨some 7,none,.call 163 [(.t 6),(.k (.d (.val (.int .u8 92))))] (some 0) false⟩)] (some [0,3,7])) (.cond (.t 7) (.seq (.ops 3 [ (0,⟨some 8,none,.mv (.t 0)⟩),(1,⟨some 9,none,.call 185 [(.t 8)] (some 0) false⟩),(2,⟨some 2,none,.mv (.t 9)⟩)] (some [2])) .ret) .skip)) (.seq (.ops 15 [ (0,⟨some 10,none,.mv (.t 0)⟩),(1,⟨some 11,none,.mv (.t 3)⟩),(2,⟨some 12,none,.arith .geq (.t 11) (.k (.d (.val (.int .i64 0))))⟩),(3,⟨some 13,none,.mv (.t 12)⟩),(4,⟨some 14,(some (13,true)),.mv (.t 3)⟩),(5,⟨some 15,(some (13,true)),.conv .u8 (.t 14)⟩),(6,⟨some 16,(some (13,true)),.call 186 [(.t 15)] none false⟩),(7,⟨some 17,(some (13,true)),.lenT (.t 16)⟩),(8,⟨some 18,(some (13,true)),.arith .eql (.t 17) (.k (.d (.val (.int .i64 1))))⟩),(9,⟨some 19,none,.pick (.t 13) (.t 18) (.k (.d (.val (.bool false))))⟩),(10,⟨some 20,none,.mv (.t 0)⟩),(11,⟨some 21,none,.nilck (.t 20)⟩),(12,⟨some 22,none,.fadd 1 (.t 21)⟩),(13,⟨some 23,none,.load none (.t 22)⟩),(14,⟨some 24,none,.call 150 [(.t 10),(.t 19),(.t 23)] none false⟩)] (some [0,3])) (.seq (.ops 8 [ (0,⟨some 25,none,.mv (.t 0)⟩),(1,⟨some 26,none,.nilck (.t 25)⟩),(2,⟨some 27,none,.fadd 1 (.t 26)⟩),(3,⟨some 28,none,.load none (.t 27)⟩),(4,⟨some 29,none,.arith .add (.t 28) (.k (.d (.val (.int .i64 1))))⟩),(5,⟨some 30,none,.nilck (.t 25)⟩),(6,⟨some 31,none,.fadd 1 (.t 30)⟩),(7,⟨none,none,.store 1 (.t 31) (.t 29)⟩)] (some [3])) (.seq (.ops 3 [ (0,⟨some 32,none,.mv (.t 3)⟩),(1,⟨some 33,none,.conv .u8 (.t 32)⟩),(2,⟨some 2,none,.mv (.t 33)⟩)] (some [2])) .ret))))))
def md181 : FuncId→Option Nat × Bool
  | 163=>(some 0,false)
  | 185=>(some 0,false)
  | _=>(none,false)
def od181 : Nat→List (List Nat) × List Nat × Option (List Nat)
  | 0=>([],[],some [0])
  | 1=>([],[],some [0,3])
  | 2=>([],[],some [0,3,7])
  | 3=>([],[],some [2])
  | 4=>([[],[],[1],[1,2],[1,2,3],[1,2,3,4],[1,2,3,4,5],[1,2,3,4,5,6],[1,2,3,4,5,6,7],[1,2,3,4,5,6,7,8],[],[10],[10,11],[10,11,12],[0,1,2,3,4,5,6,7,8,9,10,11,12,13]],[0,1,2,3,4,5,6,7,8,9,10,11,12,13,14],some [0,3])
  | 5=>([],[],some [3])
  | 6=>([],[],some [2])
  | _=>([],[],none)
theorem b181 {ags : List AV} {row : Option (List DV)} {r : AV} {row' nw : Option (List DV)} (hal : ags.length≤34) (hrow : row'.isSome=true→row.isSome=true) (h : xwp Try.prog x181 (retK [.tmp 2] row.isSome r row' nw) (St.init ags row)) : Good Try.prog 181 ags row r row' nw :=
  good_of_body' (md:=md181) (od:=od181) Try.f181 (by kernel_rfl) (by kernel_rfl) (by kernel_rfl) (by kernel_rfl) (by kernel_rfl) hal hrow h

def x182 : XC:=(.seq (.ops 1 [ (0,⟨some 2,none,.mv (.k (.d (.val (.int .i64 0))))⟩)] (some [0,2])) (.seq (.ops 5 [ (0,⟨some 5,none,.mv (.t 0)⟩),(1,⟨some 6,none,.nilck (.t 5)⟩),(2,⟨some 7,none,.fadd 1 (.t 6)⟩),(3,⟨some 8,none,.load none (.t 7)⟩),(4,⟨some 3,none,.mv (.t 8)⟩)] (some [0,2,3])) (.seq (.seq (.ops 3 [ (0,⟨some 9,none,.mv (.t 0)⟩),(1,⟨some 10,none,.call 172 [(.t 9)] none false⟩),(2,⟨some 4,none,.mv (.t 10)⟩)] (some [0,2,3,4])) (.block 0 (.loop (.seq (.seq (.ops 15 [ (0,⟨some 11,none,.mv (.t 4)⟩),(1,⟨some 12,none,.arith .geq (.t 11) (.k (.d (.val (.int .i64 48))))⟩),(2,⟨some 13,none,.mv (.t 12)⟩),(3,⟨some 14,(some (13,true)),.mv (.t 4)⟩),(4,⟨some 15,(some (13,true)),.arith .leq (.t 14) (.k (.d (.val (.int .i64 57))))⟩),(5,⟨some 16,none,.pick (.t 13) (.t 15) (.k (.d (.val (.bool false))))⟩),(6,⟨some 17,none,.mv (.t 16)⟩),(7,⟨some 18,(some (17,true)),.mv (.t 0)⟩),(8,⟨some 19,(some (17,true)),.nilck (.t 18)⟩),(9,⟨some 20,(some (17,true)),.fadd 1 (.t 19)⟩),(10,⟨some 21,(some (17,true)),.load none (.t 20)⟩),(11,⟨some 22,(some (17,true)),.mv (.t 3)⟩),(12,⟨some 23,(some (17,true)),.arith .sub (.t 21) (.t 22)⟩),(13,⟨some 24,(some (17,true)),.arith .lss (.t 23) (.k (.d (.val (.int .i64 2))))⟩),(14,⟨some 25,none,.pick (.t 17) (.t 24) (.k (.d (.val (.bool false))))⟩)] (some [0,2,3,4,25])) (.cond (.t 25) .skip (.exit 0))) (.seq (.block 1 (.seq (.ops 6 [ (0,⟨some 28,none,.mv (.t 2)⟩),(1,⟨some 29,none,.arith .mul (.k (.d (.val (.int .i64 10)))) (.t 28)⟩),(2,⟨some 30,none,.mv (.t 4)⟩),(3,⟨some 31,none,.arith .add (.t 29) (.t 30)⟩),(4,⟨some 32,none,.arith .sub (.t 31) (.k (.d (.val (.int .i64 48))))⟩),(5,⟨some 2,none,.mv (.t 32)⟩)] (some [0,2,3])) (.ops 8 [ (0,⟨some 33,none,.mv (.t 0)⟩),(1,⟨some 34,none,.nilck (.t 33)⟩),(2,⟨some 35,none,.fadd 1 (.t 34)⟩),(3,⟨some 36,none,.load none (.t 35)⟩),(4,⟨some 37,none,.arith .add (.t 36) (.k (.d (.val (.int .i64 1))))⟩),(5,⟨some 38,none,.nilck (.t 33)⟩),(6,⟨some 39,none,.fadd 1 (.t 38)⟩),(7,⟨none,none,.store 1 (.t 39) (.t 37)⟩)] (some [0,2,3])))) (.ops 3 [ (0,⟨some 26,none,.mv (.t 0)⟩),(1,⟨some 27,none,.call 172 [(.t 26)] none false⟩),(2,⟨some 4,none,.mv (.t 27)⟩)] (some [0,2,3,4]))))))) (.seq (.ops 13 [ (0,⟨some 40,none,.mv (.t 0)⟩),(1,⟨some 41,none,.mv (.t 0)⟩),(2,⟨some 42,none,.nilck (.t 41)⟩),(3,⟨some 43,none,.fadd 1 (.t 42)⟩),(4,⟨some 44,none,.load none (.t 43)⟩),(5,⟨some 45,none,.mv (.t 3)⟩),(6,⟨some 46,none,.arith .gtr (.t 44) (.t 45)⟩),(7,⟨some 47,none,.mv (.t 46)⟩),(8,⟨some 48,(some (47,true)),.mv (.t 2)⟩),(9,⟨some 49,(some (47,true)),.arith .leq (.t 48) (.k (.d (.val (.int .i64 20))))⟩),(10,⟨some 50,none,.pick (.t 47) (.t 49) (.k (.d (.val (.bool false))))⟩),(11,⟨some 51,none,.mv (.t 3)⟩),(12,⟨some 52,none,.call 150 [(.t 40),(.t 50),(.t 51)] none false⟩)] (some [2])) (.seq (.ops 2 [ (0,⟨some 53,none,.mv (.t 2)⟩),(1,⟨some 2,none,.mv (.t 53)⟩)] (some [2])) .ret)))))
def md182 : FuncId→Option Nat × Bool
  | _=>(none,false)
def od182 : Nat→List (List Nat) × List Nat × Option (List Nat)
  | 0=>([],[],some [0,2])
  | 1=>([],[],some [0,2,3])
  | 2=>([],[],some [0,2,3,4])
  | 3=>([],[],some [0,2,3,4,25])
  | 4=>([],[],some [0,2,3,4])
  | 5=>([],[],some [0,2,3])
  | 6=>([],[],some [0,2,3])
  | 7=>([],[],some [2])
  | 8=>([],[],some [2])
  | _=>([],[],none)
theorem b182 {ags : List AV} {row : Option (List DV)} {r : AV} {row' nw : Option (List DV)} (hal : ags.length≤54) (hrow : row'.isSome=true→row.isSome=true) (h : xwp Try.prog x182 (retK [.tmp 2] row.isSome r row' nw) (St.init ags row)) : Good Try.prog 182 ags row r row' nw :=
  good_of_body' (md:=md182) (od:=od182) Try.f182 (by kernel_rfl) (by kernel_rfl) (by kernel_rfl) (by kernel_rfl) (by kernel_rfl) hal hrow h

def x183 : XC:=(.seq (.ops 1 [ (0,⟨some 2,none,.alloc [(.int .u64 0),(.int .u64 0),(.int .u64 0),(.int .u64 0)]⟩)] (some [0,2])) (.seq (.ops 3 [ (0,⟨some 6,none,.mv (.t 0)⟩),(1,⟨some 7,none,.call 181 [(.t 6)] (some 0) false⟩),(2,⟨some 3,none,.mv (.t 7)⟩)] (some [0,2,3])) (.seq (.seq (.ops 3 [ (0,⟨some 8,none,.mv (.t 0)⟩),(1,⟨some 9,none,.call 163 [(.t 8),(.k (.d (.val (.int .u8 45))))] (some 0) false⟩),(2,⟨some 10,none,.un .not (.t 9)⟩)] (some [0,2,3,10])) (.cond (.t 10) (.seq (.ops 3 [ (0,⟨some 11,none,.mv (.t 3)⟩),(1,⟨some 12,none,.call 180 [(.t 11)] none false⟩),(2,⟨none,none,.store 4 (.t 2) (.t 12)⟩)] (some [2])) .ret) .skip)) (.seq (.ops 5 [ (0,⟨some 13,none,.mv (.t 0)⟩),(1,⟨some 14,none,.nilck (.t 13)⟩),(2,⟨some 15,none,.fadd 1 (.t 14)⟩),(3,⟨some 16,none,.load none (.t 15)⟩),(4,⟨some 4,none,.mv (.t 16)⟩)] (some [0,2,3,4])) (.seq (.ops 3 [ (0,⟨some 17,none,.mv (.t 0)⟩),(1,⟨some 18,none,.call 181 [(.t 17)] (some 0) false⟩),(2,⟨some 5,none,.mv (.t 18)⟩)] (some [0,2,3,4,5])) (.seq (.ops 6 [ (0,⟨some 19,none,.mv (.t 0)⟩),(1,⟨some 20,none,.mv (.t 5)⟩),(2,⟨some 21,none,.mv (.t 3)⟩),(3,⟨some 22,none,.arith .geq (.t 20) (.t 21)⟩),(4,⟨some 23,none,.mv (.t 4)⟩),(5,⟨some 24,none,.call 150 [(.t 19),(.t 22),(.t 23)] none false⟩)] (some [2,3,5])) (.seq (.ops 4 [ (0,⟨some 25,none,.mv (.t 3)⟩),(1,⟨some 26,none,.mv (.t 5)⟩),(2,⟨some 27,none,.call 119 [(.t 25),(.t 26)] none false⟩),(3,⟨none,none,.store 4 (.t 2) (.t 27)⟩)] (some [2])) .ret)))))))
def md183 : FuncId→Option Nat × Bool
  | 163=>(some 0,false)
  | 181=>(some 0,false)
  | _=>(none,false)
def od183 : Nat→List (List Nat) × List Nat × Option (List Nat)
  | 0=>([],[],some [0,2])
  | 1=>([],[],some [0,2,3])
  | 2=>([],[],some [0,2,3,10])
  | 3=>([],[],some [2])
  | 4=>([],[],some [0,2,3,4])
  | 5=>([],[],some [0,2,3,4,5])
  | 6=>([],[],some [2,3,5])
  | 7=>([],[],some [2])
  | _=>([],[],none)
theorem b183 {ags : List AV} {row : Option (List DV)} {r : AV} {row' nw : Option (List DV)} (hal : ags.length≤28) (hrow : row'.isSome=true→row.isSome=true) (h : xwp Try.prog x183 (retK [.cell 2 (some 4)] row.isSome r row' nw) (St.init ags row)) : Good Try.prog 183 ags row r row' nw :=
  good_of_body' (md:=md183) (od:=od183) Try.f183 (by kernel_rfl) (by kernel_rfl) (by kernel_rfl) (by kernel_rfl) (by kernel_rfl) hal hrow h

def x184 : XC:=(.seq (.ops 2 [ (0,⟨some 1,none,.box (.t 0)⟩),(1,⟨some 2,none,.alloc [(.int .u64 0),(.int .u64 0),(.int .u64 0),(.int .u64 0)]⟩)] (some [1,2])) (.seq (.seq (.ops 1 [ (0,⟨some 4,none,.mv (.k (.d (.val (.int .i64 0))))⟩)] (some [1,2,4])) (.block 0 (.loop (.seq (.ops 1 [ (0,⟨some 5,none,.arith .lss (.t 4) (.k (.d (.val (.int .i64 4))))⟩)] (some [1,2,4,5])) (.seq (.cond (.t 5) .skip (.exit 0)) (.seq (.block 1 (.seq (.ops 2 [ (0,⟨some 6,none,.mv (.t 4)⟩),(1,⟨some 3,none,.mv (.t 6)⟩)] (some [1,2,3,4])) (.ops 7 [ (0,⟨some 7,none,.mv (.t 3)⟩),(1,⟨some 8,none,.mv (.t 3)⟩),(2,⟨some 9,none,.idxP 4 1 (.t 1) (.t 8)⟩),(3,⟨some 10,none,.load none (.t 9)⟩),(4,⟨some 11,none,.un .xor (.t 10)⟩),(5,⟨some 12,none,.idxP 4 1 (.t 1) (.t 7)⟩),(6,⟨none,none,.store 1 (.t 12) (.t 11)⟩)] (some [1,2,4])))) (.ops 2 [ (0,⟨some 13,none,.arith .add (.t 4) (.k (.d (.val (.int .i64 1))))⟩),(1,⟨some 4,none,.mv (.t 13)⟩)] (some [1,2,4])))))))) (.seq (.ops 2 [ (0,⟨some 14,none,.load (some 4) (.t 1)⟩),(1,⟨none,none,.store 4 (.t 2) (.t 14)⟩)] (some [2])) .ret)))
def md184 : FuncId→Option Nat × Bool
  | _=>(none,false)
def od184 : Nat→List (List Nat) × List Nat × Option (List Nat)
  | 0=>([],[],some [1,2])
  | 1=>([],[],some [1,2,4])
  | 2=>([],[],some [1,2,4,5])
  | 3=>([],[],some [1,2,3,4])
  | 4=>([],[],some [1,2,4])
  | 5=>([],[],some [1,2,4])
  | 6=>([],[],some [2])
  | _=>([],[],none)
theorem b184 {ags : List AV} {row : Option (List DV)} {r : AV} {row' nw : Option (List DV)} (hal : ags.length≤15) (hrow : row'.isSome=true→row.isSome=true) (h : xwp Try.prog x184 (retK [.cell 2 (some 4)] row.isSome r row' nw) (St.init ags row)) : Good Try.prog 184 ags row r row' nw :=
  good_of_body' (md:=md184) (od:=od184) Try.f184 (by kernel_rfl) (by kernel_rfl) (by kernel_rfl) (by kernel_rfl) (by kernel_rfl) hal hrow h

def x185 : XC:=(.seq (.ops 1 [ (0,⟨some 2,none,.mv (.k (.d (.val (.int .u8 0))))⟩)] (some [0])) (.seq (.ops 3 [ (0,⟨some 5,none,.mv (.t 0)⟩),(1,⟨some 6,none,.call 172 [(.t 5)] none false⟩),(2,⟨some 3,none,.mv (.t 6)⟩)] (some [0,3])) (.seq (.ops 8 [ (0,⟨some 7,none,.mv (.t 0)⟩),(1,⟨some 8,none,.mv (.t 3)⟩),(2,⟨some 9,none,.arith .geq (.t 8) (.k (.d (.val (.int .i64 0))))⟩),(3,⟨some 10,none,.mv (.t 0)⟩),(4,⟨some 11,none,.nilck (.t 10)⟩),(5,⟨some 12,none,.fadd 1 (.t 11)⟩),(6,⟨some 13,none,.load none (.t 12)⟩),(7,⟨some 14,none,.call 150 [(.t 7),(.t 9),(.t 13)] none false⟩)] (some [0,3])) (.seq (.ops 8 [ (0,⟨some 15,none,.mv (.t 0)⟩),(1,⟨some 16,none,.nilck (.t 15)⟩),(2,⟨some 17,none,.fadd 1 (.t 16)⟩),(3,⟨some 18,none,.load none (.t 17)⟩),(4,⟨some 19,none,.arith .add (.t 18) (.k (.d (.val (.int .i64 1))))⟩),(5,⟨some 20,none,.nilck (.t 15)⟩),(6,⟨some 21,none,.fadd 1 (.t 20)⟩),(7,⟨none,none,.store 1 (.t 21) (.t 19)⟩)] (some [0,3])) (.seq (.seq (.ops 1 [ (0,⟨some 22,none,.mv (.t 3)⟩)] (some [0,3,22])) (.block 0 (.seq (.ops 2 [ (0,⟨some 24,none,.arith .eql (.t 22) (.k (.d (.val (.int .i64 120))))⟩),(1,⟨some 23,none,.mv (.t 24)⟩)] (some [0,3,22,23])) (.cond (.t 23) (.seq (.ops 4 [ (0,⟨some 25,none,.mv (.t 0)⟩),(1,⟨some 26,none,.call 187 [(.t 25)] (some 0) false⟩),(2,⟨some 27,none,.arith .shl (.t 26) (.k (.d (.val (.int .u64 4))))⟩),(3,⟨some 4,none,.mv (.t 27)⟩)] (some [0,4])) (.seq (.ops 6 [ (0,⟨some 28,none,.mv (.t 4)⟩),(1,⟨some 29,none,.mv (.t 0)⟩),(2,⟨some 30,none,.call 187 [(.t 29)] (some 0) false⟩),(3,⟨some 31,none,.arith .or (.t 28) (.t 30)⟩),(4,⟨some 32,none,.conv .u8 (.t 31)⟩),(5,⟨some 2,none,.mv (.t 32)⟩)] (some [2])) .ret)) (.seq (.ops 2 [ (0,⟨some 34,none,.arith .eql (.t 22) (.k (.d (.val (.int .i64 110))))⟩),(1,⟨some 33,none,.mv (.t 34)⟩)] (some [0,3,22,33])) (.cond (.t 33) (.seq (.ops 1 [ (0,⟨some 2,none,.mv (.k (.d (.val (.int .u8 10))))⟩)] (some [2])) .ret) (.seq (.ops 2 [ (0,⟨some 36,none,.arith .eql (.t 22) (.k (.d (.val (.int .i64 116))))⟩),(1,⟨some 35,none,.mv (.t 36)⟩)] (some [0,3,35])) (.cond (.t 35) (.seq (.ops 1 [ (0,⟨some 2,none,.mv (.k (.d (.val (.int .u8 9))))⟩)] (some [2])) .ret) .skip)))))))) (.seq (.ops 11 [ (0,⟨some 37,none,.mv (.t 0)⟩),(1,⟨some 38,none,.mv (.t 3)⟩),(2,⟨some 39,none,.conv .u8 (.t 38)⟩),(3,⟨some 40,none,.call 188 [(.k (.d (.val (.string ⟨#[124,42,43,63,40,41,91,93,123,125,46,92,94,36,45]⟩)))),(.t 39)] none false⟩),(4,⟨some 41,none,.arith .geq (.t 40) (.k (.d (.val (.int .i64 0))))⟩),(5,⟨some 42,none,.mv (.t 0)⟩),(6,⟨some 43,none,.nilck (.t 42)⟩),(7,⟨some 44,none,.fadd 1 (.t 43)⟩),(8,⟨some 45,none,.load none (.t 44)⟩),(9,⟨some 46,none,.arith .sub (.t 45) (.k (.d (.val (.int .i64 1))))⟩),(10,⟨some 47,none,.call 150 [(.t 37),(.t 41),(.t 46)] none false⟩)] (some [3])) (.seq (.ops 3 [ (0,⟨some 48,none,.mv (.t 3)⟩),(1,⟨some 49,none,.conv .u8 (.t 48)⟩),(2,⟨some 2,none,.mv (.t 49)⟩)] (some [2])) .ret)))))))
def md185 : FuncId→Option Nat × Bool
  | 187=>(some 0,false)
  | _=>(none,false)
def od185 : Nat→List (List Nat) × List Nat × Option (List Nat)
  | 0=>([],[],some [0])
  | 1=>([],[],some [0,3])
  | 2=>([],[],some [0,3])
  | 3=>([],[],some [0,3])
  | 4=>([],[],some [0,3,22])
  | 5=>([],[],some [0,3,22,23])
  | 6=>([],[],some [0,4])
  | 7=>([],[],some [2])
  | 8=>([],[],some [0,3,22,33])
  | 9=>([],[],some [2])
  | 10=>([],[],some [0,3,35])
  | 11=>([],[],some [2])
  | 12=>([[],[],[1],[1,2],[1,2,3],[],[5],[5,6],[5,6,7],[5,6,7,8],[0,1,2,3,4,5,6,7,8,9]],[0,1,2,3,4,5,6,7,8,9,10],some [3])
  | 13=>([],[],some [2])
  | _=>([],[],none)
theorem b185 {ags : List AV} {row : Option (List DV)} {r : AV} {row' nw : Option (List DV)} (hal : ags.length≤50) (hrow : row'.isSome=true→row.isSome=true) (h : xwp Try.prog x185 (retK [.tmp 2] row.isSome r row' nw) (St.init ags row)) : Good Try.prog 185 ags row r row' nw :=
  good_of_body' (md:=md185) (od:=od185) Try.f185 (by kernel_rfl) (by kernel_rfl) (by kernel_rfl) (by kernel_rfl) (by kernel_rfl) hal hrow h

def x186 : XC:=(.seq (.ops 1 [ (0,⟨some 2,none,.mv (.k (.d (.val (.string ⟨#[]⟩))))⟩)] (some [0])) (.seq (.seq (.ops 2 [ (0,⟨some 3,none,.mv (.t 0)⟩),(1,⟨some 4,none,.call 189 [(.t 3)] none false⟩)] (some [0,4])) (.cond (.t 4) (.seq (.ops 4 [ (0,⟨some 5,none,.mv (.t 0)⟩),(1,⟨some 6,none,.mkrow [(.int .u8 0)] 1 1 [(0,1,(.t 5))]⟩),(2,⟨some 7,none,.strB (.t 6)⟩),(3,⟨some 2,none,.mv (.t 7)⟩)] (some [2])) .ret) .skip)) (.seq (.ops 15 [ (0,⟨some 8,none,.mv (.t 0)⟩),(1,⟨some 9,none,.arith .shr (.t 8) (.k (.d (.val (.int .u64 4))))⟩),(2,⟨some 10,none,.mv (.t 0)⟩),(3,⟨some 11,none,.arith .shr (.t 10) (.k (.d (.val (.int .u64 4))))⟩),(4,⟨some 12,none,.arith .add (.t 11) (.k (.d (.val (.int .u8 1))))⟩),(5,⟨some 13,none,.slT (.k (.d (.val (.string ⟨#[48,49,50,51,52,53,54,55,56,57,97,98,99,100,101,102]⟩)))) (some (.t 9)) (some (.t 12))⟩),(6,⟨some 14,none,.arith .add (.k (.d (.val (.string ⟨#[92,120]⟩)))) (.t 13)⟩),(7,⟨some 15,none,.mv (.t 0)⟩),(8,⟨some 16,none,.arith .and (.t 15) (.k (.d (.val (.int .u8 15))))⟩),(9,⟨some 17,none,.mv (.t 0)⟩),(10,⟨some 18,none,.arith .and (.t 17) (.k (.d (.val (.int .u8 15))))⟩),(11,⟨some 19,none,.arith .add (.t 18) (.k (.d (.val (.int .u8 1))))⟩),(12,⟨some 20,none,.slT (.k (.d (.val (.string ⟨#[48,49,50,51,52,53,54,55,56,57,97,98,99,100,101,102]⟩)))) (some (.t 16)) (some (.t 19))⟩),(13,⟨some 21,none,.arith .add (.t 14) (.t 20)⟩),(14,⟨some 2,none,.mv (.t 21)⟩)] (some [2])) .ret)))
def md186 : FuncId→Option Nat × Bool
  | _=>(none,false)
def od186 : Nat→List (List Nat) × List Nat × Option (List Nat)
  | 0=>([],[],some [0])
  | 1=>([],[],some [0,4])
  | 2=>([],[],some [2])
  | 3=>([[],[0],[],[2],[2,3],[0,1,2,3,4],[0,1,2,3,4,5],[],[7],[],[9],[9,10],[7,8,9,10,11],[0,1,2,3,4,5,6,7,8,9,10,11,12],[0,1,2,3,4,5,6,7,8,9,10,11,12,13]],[0,1,2,3,4,5,6,7,8,9,10,11,12,13,14],some [2])
  | _=>([],[],none)
theorem b186 {ags : List AV} {row : Option (List DV)} {r : AV} {row' nw : Option (List DV)} (hal : ags.length≤22) (hrow : row'.isSome=true→row.isSome=true) (h : xwp Try.prog x186 (retK [.tmp 2] row.isSome r row' nw) (St.init ags row)) : Good Try.prog 186 ags row r row' nw :=
  good_of_body' (md:=md186) (od:=od186) Try.f186 (by kernel_rfl) (by kernel_rfl) (by kernel_rfl) (by kernel_rfl) (by kernel_rfl) hal hrow h

def x187 : XC:=(.seq (.ops 1 [ (0,⟨some 2,none,.mv (.k (.d (.val (.int .i64 0))))⟩)] (some [0])) (.seq (.ops 3 [ (0,⟨some 5,none,.mv (.t 0)⟩),(1,⟨some 6,none,.call 172 [(.t 5)] none false⟩),(2,⟨some 3,none,.mv (.t 6)⟩)] (some [0,3])) (.seq (.ops 1 [ (0,⟨some 4,none,.mv (.k (.d (.val (.int .i64 (-1)))))⟩)] (some [0,3,4])) (.seq (.seq (.ops 2 [ (0,⟨some 7,none,.mv (.t 3)⟩),(1,⟨some 8,none,.arith .geq (.t 7) (.k (.d (.val (.int .i64 0))))⟩)] (some [0,3,4,8])) (.cond (.t 8) (.ops 4 [ (0,⟨some 9,none,.mv (.t 3)⟩),(1,⟨some 10,none,.conv .u8 (.t 9)⟩),(2,⟨some 11,none,.call 188 [(.k (.d (.val (.string ⟨#[48,49,50,51,52,53,54,55,56,57,97,98,99,100,101,102]⟩)))),(.t 10)] none false⟩),(3,⟨some 4,none,.mv (.t 11)⟩)] (some [0,4])) .skip)) (.seq (.ops 8 [ (0,⟨some 12,none,.mv (.t 0)⟩),(1,⟨some 13,none,.mv (.t 4)⟩),(2,⟨some 14,none,.arith .geq (.t 13) (.k (.d (.val (.int .i64 0))))⟩),(3,⟨some 15,none,.mv (.t 0)⟩),(4,⟨some 16,none,.nilck (.t 15)⟩),(5,⟨some 17,none,.fadd 1 (.t 16)⟩),(6,⟨some 18,none,.load none (.t 17)⟩),(7,⟨some 19,none,.call 150 [(.t 12),(.t 14),(.t 18)] none false⟩)] (some [0,4])) (.seq (.ops 8 [ (0,⟨some 20,none,.mv (.t 0)⟩),(1,⟨some 21,none,.nilck (.t 20)⟩),(2,⟨some 22,none,.fadd 1 (.t 21)⟩),(3,⟨some 23,none,.load none (.t 22)⟩),(4,⟨some 24,none,.arith .add (.t 23) (.k (.d (.val (.int .i64 1))))⟩),(5,⟨some 25,none,.nilck (.t 20)⟩),(6,⟨some 26,none,.fadd 1 (.t 25)⟩),(7,⟨none,none,.store 1 (.t 26) (.t 24)⟩)] (some [4])) (.seq (.ops 2 [ (0,⟨some 27,none,.mv (.t 4)⟩),(1,⟨some 2,none,.mv (.t 27)⟩)] (some [2])) .ret)))))))
def md187 : FuncId→Option Nat × Bool
  | _=>(none,false)
def od187 : Nat→List (List Nat) × List Nat × Option (List Nat)
  | 0=>([],[],some [0])
  | 1=>([],[],some [0,3])
  | 2=>([],[],some [0,3,4])
  | 3=>([],[],some [0,3,4,8])
  | 4=>([],[],some [0,4])
  | 5=>([],[],some [0,4])
  | 6=>([],[],some [4])
  | 7=>([],[],some [2])
  | _=>([],[],none)
theorem b187 {ags : List AV} {row : Option (List DV)} {r : AV} {row' nw : Option (List DV)} (hal : ags.length≤28) (hrow : row'.isSome=true→row.isSome=true) (h : xwp Try.prog x187 (retK [.tmp 2] row.isSome r row' nw) (St.init ags row)) : Good Try.prog 187 ags row r row' nw :=
  good_of_body' (md:=md187) (od:=od187) Try.f187 (by kernel_rfl) (by kernel_rfl) (by kernel_rfl) (by kernel_rfl) (by kernel_rfl) hal hrow h

def x188 : XC:=(.seq (.ops 1 [ (0,⟨some 4,none,.mv (.k (.d (.val (.int .i64 0))))⟩)] (some [0,1])) (.seq (.ops 4 [ (0,⟨some 5,none,.mv (.t 0)⟩),(1,⟨some 6,none,.mv (.t 1)⟩),(2,⟨some 7,none,.call 190 [(.t 5),(.t 6)] none false⟩),(3,⟨some 4,none,.mv (.t 7)⟩)] (some [4])) .ret))
def md188 : FuncId→Option Nat × Bool
  | _=>(none,false)
def od188 : Nat→List (List Nat) × List Nat × Option (List Nat)
  | 0=>([],[],some [0,1])
  | 1=>([],[],some [4])
  | _=>([],[],none)
theorem b188 {ags : List AV} {row : Option (List DV)} {r : AV} {row' nw : Option (List DV)} (hal : ags.length≤8) (hrow : row'.isSome=true→row.isSome=true) (h : xwp Try.prog x188 (retK [.tmp 4] row.isSome r row' nw) (St.init ags row)) : Good Try.prog 188 ags row r row' nw :=
  good_of_body' (md:=md188) (od:=od188) Try.f188 (by kernel_rfl) (by kernel_rfl) (by kernel_rfl) (by kernel_rfl) (by kernel_rfl) hal hrow h

def x189 : XC:=(.seq (.ops 1 [ (0,⟨some 2,none,.mv (.k (.d (.val (.bool false))))⟩)] (some [0])) (.seq (.ops 22 [ (0,⟨some 3,none,.mv (.t 0)⟩),(1,⟨some 4,none,.arith .or (.t 3) (.k (.d (.val (.int .u8 32))))⟩),(2,⟨some 5,none,.arith .geq (.t 4) (.k (.d (.val (.int .u8 97))))⟩),(3,⟨some 6,none,.mv (.t 5)⟩),(4,⟨some 7,(some (6,true)),.mv (.t 0)⟩),(5,⟨some 8,(some (6,true)),.arith .or (.t 7) (.k (.d (.val (.int .u8 32))))⟩),(6,⟨some 9,(some (6,true)),.arith .leq (.t 8) (.k (.d (.val (.int .u8 122))))⟩),(7,⟨some 10,none,.pick (.t 6) (.t 9) (.k (.d (.val (.bool false))))⟩),(8,⟨some 11,none,.mv (.t 10)⟩),(9,⟨some 12,(some (11,false)),.mv (.t 0)⟩),(10,⟨some 13,(some (11,false)),.arith .geq (.t 12) (.k (.d (.val (.int .u8 48))))⟩),(11,⟨some 14,(some (11,false)),.mv (.t 13)⟩),(12,⟨some 15,(some (14,true)),.mv (.t 0)⟩),(13,⟨some 16,(some (14,true)),.arith .leq (.t 15) (.k (.d (.val (.int .u8 57))))⟩),(14,⟨some 17,(some (11,false)),.pick (.t 14) (.t 16) (.k (.d (.val (.bool false))))⟩),(15,⟨some 18,none,.pick (.t 11) (.k (.d (.val (.bool true)))) (.t 17)⟩),(16,⟨some 19,none,.mv (.t 18)⟩),(17,⟨some 20,(some (19,false)),.mv (.t 0)⟩),(18,⟨some 21,(some (19,false)),.call 188 [(.k (.d (.val (.string ⟨#[32,33,34,35,37,38,39,44,47,58,59,60,61,62,64,95,96,126]⟩)))),(.t 20)] none false⟩),(19,⟨some 22,(some (19,false)),.arith .geq (.t 21) (.k (.d (.val (.int .i64 0))))⟩),(20,⟨some 23,none,.pick (.t 19) (.k (.d (.val (.bool true)))) (.t 22)⟩),(21,⟨some 2,none,.mv (.t 23)⟩)] (some [2])) .ret))
def md189 : FuncId→Option Nat × Bool
  | _=>(none,false)
def od189 : Nat→List (List Nat) × List Nat × Option (List Nat)
  | 0=>([],[],some [0])
  | 1=>([],[],some [2])
  | _=>([],[],none)
theorem b189 {ags : List AV} {row : Option (List DV)} {r : AV} {row' nw : Option (List DV)} (hal : ags.length≤24) (hrow : row'.isSome=true→row.isSome=true) (h : xwp Try.prog x189 (retK [.tmp 2] row.isSome r row' nw) (St.init ags row)) : Good Try.prog 189 ags row r row' nw :=
  good_of_body' (md:=md189) (od:=od189) Try.f189 (by kernel_rfl) (by kernel_rfl) (by kernel_rfl) (by kernel_rfl) (by kernel_rfl) hal hrow h

def x190 : XC:=(.seq (.ops 1 [ (0,⟨some 4,none,.mv (.k (.d (.val (.int .i64 0))))⟩)] (some [0,1])) (.seq (.ops 4 [ (0,⟨some 5,none,.mv (.t 0)⟩),(1,⟨some 6,none,.mv (.t 1)⟩),(2,⟨some 7,none,.call 191 [(.t 5),(.t 6)] none false⟩),(3,⟨some 4,none,.mv (.t 7)⟩)] (some [4])) .ret))
def md190 : FuncId→Option Nat × Bool
  | _=>(none,false)
def od190 : Nat→List (List Nat) × List Nat × Option (List Nat)
  | 0=>([],[],some [0,1])
  | 1=>([],[],some [4])
  | _=>([],[],none)
theorem b190 {ags : List AV} {row : Option (List DV)} {r : AV} {row' nw : Option (List DV)} (hal : ags.length≤8) (hrow : row'.isSome=true→row.isSome=true) (h : xwp Try.prog x190 (retK [.tmp 4] row.isSome r row' nw) (St.init ags row)) : Good Try.prog 190 ags row r row' nw :=
  good_of_body' (md:=md190) (od:=od190) Try.f190 (by kernel_rfl) (by kernel_rfl) (by kernel_rfl) (by kernel_rfl) (by kernel_rfl) hal hrow h

def x73 : XC:=(.seq (.ops 3 [ (0,⟨some 2,none,.box (.t 0)⟩),(1,⟨some 3,none,.box (.t 1)⟩),(2,⟨some 4,none,.alloc [(.int .u64 0),(.int .u64 0),(.int .u64 0),(.int .u64 0)]⟩)] (some [2,3,4])) (.seq (.seq (.ops 1 [ (0,⟨some 6,none,.mv (.k (.d (.val (.int .i64 0))))⟩)] (some [2,3,4,6])) (.block 0 (.loop (.seq (.ops 1 [ (0,⟨some 7,none,.arith .lss (.t 6) (.k (.d (.val (.int .i64 4))))⟩)] (some [2,3,4,6,7])) (.seq (.cond (.t 7) .skip (.exit 0)) (.seq (.block 1 (.seq (.ops 2 [ (0,⟨some 8,none,.mv (.t 6)⟩),(1,⟨some 5,none,.mv (.t 8)⟩)] (some [2,3,4,5,6])) (.ops 9 [ (0,⟨some 9,none,.mv (.t 5)⟩),(1,⟨some 10,none,.idxP 4 1 (.t 2) (.t 9)⟩),(2,⟨some 11,none,.load none (.t 10)⟩),(3,⟨some 12,none,.mv (.t 5)⟩),(4,⟨some 13,none,.idxP 4 1 (.t 3) (.t 12)⟩),(5,⟨some 14,none,.load none (.t 13)⟩),(6,⟨some 15,none,.arith .or (.t 11) (.t 14)⟩),(7,⟨some 16,none,.idxP 4 1 (.t 2) (.t 9)⟩),(8,⟨none,none,.store 1 (.t 16) (.t 15)⟩)] (some [2,3,4,6])))) (.ops 2 [ (0,⟨some 17,none,.arith .add (.t 6) (.k (.d (.val (.int .i64 1))))⟩),(1,⟨some 6,none,.mv (.t 17)⟩)] (some [2,3,4,6])))))))) (.seq (.ops 2 [ (0,⟨some 18,none,.load (some 4) (.t 2)⟩),(1,⟨none,none,.store 4 (.t 4) (.t 18)⟩)] (some [4])) .ret)))
def md73 : FuncId→Option Nat × Bool
  | _=>(none,false)
def od73 : Nat→List (List Nat) × List Nat × Option (List Nat)
  | 0=>([],[],some [2,3,4])
  | 1=>([],[],some [2,3,4,6])
  | 2=>([],[],some [2,3,4,6,7])
  | 3=>([],[],some [2,3,4,5,6])
  | 4=>([[],[0],[0,1],[],[3],[3,4],[0,1,2,3,4,5],[0,1,2,3,4,5,6],[0,1,2,3,4,5,6,7]],[0,1,2,3,4,5,6,7,8],some [2,3,4,6])
  | 5=>([],[],some [2,3,4,6])
  | 6=>([],[],some [4])
  | _=>([],[],none)
theorem b73 {ags : List AV} {row : Option (List DV)} {r : AV} {row' nw : Option (List DV)} (hal : ags.length≤19) (hrow : row'.isSome=true→row.isSome=true) (h : xwp Try.prog x73 (retK [.cell 4 (some 4)] row.isSome r row' nw) (St.init ags row)) : Good Try.prog 73 ags row r row' nw :=
  good_of_body' (md:=md73) (od:=od73) Try.f73 (by kernel_rfl) (by kernel_rfl) (by kernel_rfl) (by kernel_rfl) (by kernel_rfl) hal hrow h

def spP (n : Nat) : CallF→CallF:=fun cf f ags row =>
  if f=118∧row.isNone=true∧ags.length≤26 then
    match evC cf n xa118 (LS.init ags none) with
    | some (.normal,s1)=>match frOf s1.fr 6 with
      | .dead=>match evC cf n xb118 s1 with
        | some (.normal,s)=>(resVals (frOf s.fr) (heapOf s.C) rs118).bind fun vs=>evRet (heapOf s.C) (zOf s.Z) (tupOf vs) false false
        | some (.ret,s)=>(resVals (frOf s.fr) (heapOf s.C) rs118).bind fun vs=>evRet (heapOf s.C) (zOf s.Z) (tupOf vs) false false
        | _=>none
      | _=>none
    | _=>none
  else none
theorem evRet_data {C : Heap} {Z : Frz} {v : AV} {r : AV} {row' nr : Option (List DV)} (h : evRet C Z v false false=some (r,row',nr)) : row'=none∧nr=none:=by
  simp only [evRet,Bool.false_eq_true,if_false] at h
  obtain ⟨r',_,h3⟩:=Option.map_eq_some_iff.1 h
  cases h3;exact ⟨rfl,rfl⟩
theorem spP_ok (n : Nat) (cf : CallF) (hcf : ∀ f ags row r row' nw,cf f ags row=some (r,row',nw)→Good Try.prog f ags row r row' nw) (f : FuncId) (ags : List AV) (row : Option (List DV)) (r : AV) (row' nw : Option (List DV)) (h : spP n cf f ags row=some (r,row',nw)) : Good Try.prog f ags row r row' nw:=by
  unfold spP at h
  split at h
  case isFalse=>cases h
  rename_i hc
  obtain ⟨rfl,hr,hal⟩:=hc
  have hr' : row=none:=by cases row<;>simp_all
  subst hr'
  split at h
  case h_2=>cases h
  rename_i s1 h1
  split at h
  case h_2=>cases h
  rename_i h6
  have fin : ∀ e s,evC cf n xb118 s1=some (e,s)→(e=.normal ∨ e=.ret)→((resVals (frOf s.fr) (heapOf s.C) rs118).bind fun vs=>evRet (heapOf s.C) (zOf s.Z) (tupOf vs) false false)=some (r,row',nw)→Good Try.prog 118 ags none r row' nw:=by
    intro e s h2 he h3
    obtain ⟨vs,h4,h5⟩:=Option.bind_eq_some_iff.1 h3
    obtain ⟨rfl,rfl⟩:=evRet_data h5
    refine parse_of hal ?_
    rw [← LS.init_eq]
    refine evC_sound hcf n _ _ _ _ h1 _ ⟨rfl,h6,?_⟩
    refine evC_sound hcf n _ _ _ _ h2 _ ?_
    rcases he with rfl | rfl
    · exact ⟨vs,h4,evRet_sound h5⟩
    · exact ⟨vs,h4,evRet_sound h5⟩
  split at h
  · rename_i s h2;exact fin _ _ h2 (.inl rfl) h
  · rename_i s h2;exact fin _ _ h2 (.inr rfl) h
  · cases h
end Go.Sv
namespace Go.Sv
open Go Go.Proofs
set_option maxRecDepth 100000
def x47 : XC:=(.seq (.ops 3 [ (0,⟨some 2,none,.box (.t 0)⟩),(1,⟨some 3,none,.box (.t 1)⟩),(2,⟨some 4,none,.mv (.k (.d (.val (.bool false))))⟩)] (some [2,3])) (.seq (.seq (.ops 35 [ (0,⟨some 6,none,.fadd 0 (.t 2)⟩),(1,⟨some 7,none,.load none (.t 6)⟩),(2,⟨some 8,none,.fadd 0 (.t 3)⟩),(3,⟨some 9,none,.load none (.t 8)⟩),(4,⟨some 10,none,.arith .neq (.t 7) (.t 9)⟩),(5,⟨some 11,none,.mv (.t 10)⟩),(6,⟨some 12,(some (11,false)),.fadd 1 (.t 2)⟩),(7,⟨some 13,(some (11,false)),.load (some 4) (.t 12)⟩),(8,⟨some 14,(some (11,false)),.fadd 1 (.t 3)⟩),(9,⟨some 15,(some (11,false)),.load (some 4) (.t 14)⟩),(10,⟨some 16,(some (11,false)),.eqAgg 4 true (.t 13) (.t 15)⟩),(11,⟨some 17,none,.pick (.t 11) (.k (.d (.val (.bool true)))) (.t 16)⟩),(12,⟨some 18,none,.mv (.t 17)⟩),(13,⟨some 19,(some (18,false)),.fadd 5 (.t 2)⟩),(14,⟨some 20,(some (18,false)),.load none (.t 19)⟩),(15,⟨some 21,(some (18,false)),.fadd 5 (.t 3)⟩),(16,⟨some 22,(some (18,false)),.load none (.t 21)⟩),(17,⟨some 23,(some (18,false)),.arith .neq (.t 20) (.t 22)⟩),(18,⟨some 24,none,.pick (.t 18) (.k (.d (.val (.bool true)))) (.t 23)⟩),(19,⟨some 25,none,.mv (.t 24)⟩),(20,⟨some 26,(some (25,false)),.fadd 6 (.t 2)⟩),(21,⟨some 27,(some (25,false)),.load none (.t 26)⟩),(22,⟨some 28,(some (25,false)),.fadd 6 (.t 3)⟩),(23,⟨some 29,(some (25,false)),.load none (.t 28)⟩),(24,⟨some 30,(some (25,false)),.arith .neq (.t 27) (.t 29)⟩),(25,⟨some 31,none,.pick (.t 25) (.k (.d (.val (.bool true)))) (.t 30)⟩),(26,⟨some 32,none,.mv (.t 31)⟩),(27,⟨some 33,(some (32,false)),.fadd 7 (.t 2)⟩),(28,⟨some 34,(some (32,false)),.load none (.t 33)⟩),(29,⟨some 35,(some (32,false)),.lenS (.t 34)⟩),(30,⟨some 36,(some (32,false)),.fadd 7 (.t 3)⟩),(31,⟨some 37,(some (32,false)),.load none (.t 36)⟩),(32,⟨some 38,(some (32,false)),.lenS (.t 37)⟩),(33,⟨some 39,(some (32,false)),.arith .neq (.t 35) (.t 38)⟩),(34,⟨some 40,none,.pick (.t 32) (.k (.d (.val (.bool true)))) (.t 39)⟩)] (some [2,3,40])) (.cond (.t 40) (.seq (.ops 1 [ (0,⟨some 4,none,.mv (.k (.d (.val (.bool false))))⟩)] (some [4])) .ret) .skip)) (.seq (.seq (.ops 1 [ (0,⟨some 5,none,.mv (.k (.d (.val (.int .i64 0))))⟩)] (some [2,3,5])) (.block 0 (.loop (.seq (.seq (.ops 5 [ (0,⟨some 41,none,.mv (.t 5)⟩),(1,⟨some 42,none,.fadd 7 (.t 2)⟩),(2,⟨some 43,none,.load none (.t 42)⟩),(3,⟨some 44,none,.lenS (.t 43)⟩),(4,⟨some 45,none,.arith .lss (.t 41) (.t 44)⟩)] (some [2,3,5,45])) (.cond (.t 45) .skip (.exit 0))) (.seq (.block 1 (.seq (.ops 12 [ (0,⟨some 48,none,.fadd 7 (.t 2)⟩),(1,⟨some 49,none,.load none (.t 48)⟩),(2,⟨some 50,none,.mv (.t 5)⟩),(3,⟨some 51,none,.idxS 8 (.t 49) (.t 50)⟩),(4,⟨some 52,none,.load (some 8) (.t 51)⟩),(5,⟨some 53,none,.fadd 7 (.t 3)⟩),(6,⟨some 54,none,.load none (.t 53)⟩),(7,⟨some 55,none,.mv (.t 5)⟩),(8,⟨some 56,none,.idxS 8 (.t 54) (.t 55)⟩),(9,⟨some 57,none,.load (some 8) (.t 56)⟩),(10,⟨some 58,none,.call 47 [(.t 52),(.t 57)] none false⟩),(11,⟨some 59,none,.un .not (.t 58)⟩)] (some [2,3,5,59])) (.cond (.t 59) (.seq (.ops 1 [ (0,⟨some 4,none,.mv (.k (.d (.val (.bool false))))⟩)] (some [4])) .ret) .skip))) (.ops 3 [ (0,⟨some 46,none,.mv (.t 5)⟩),(1,⟨some 47,none,.arith .add (.t 46) (.k (.d (.val (.int .i64 1))))⟩),(2,⟨some 5,none,.mv (.t 47)⟩)] (some [2,3,5]))))))) (.seq (.ops 1 [ (0,⟨some 4,none,.mv (.k (.d (.val (.bool true))))⟩)] (some [4])) .ret))))
def md47 : FuncId→Option Nat × Bool
  | _=>(none,false)
def od47 : Nat→List (List Nat) × List Nat × Option (List Nat)
  | 0=>([],[],some [2,3])
  | 1=>([],[],some [2,3,40])
  | 2=>([],[],some [4])
  | 3=>([],[],some [2,3,5])
  | 4=>([],[],some [2,3,5,45])
  | 5=>([],[],some [2,3,5])
  | 6=>([[],[0],[],[0,1,2],[0,1,2,3],[],[5],[],[5,6,7],[5,6,7,8],[0,1,2,3,4,5,6,7,8,9],[0,1,2,3,4,5,6,7,8,9,10]],[0,1,2,3,4,5,6,7,8,9,10,11],some [2,3,5,59])
  | 7=>([],[],some [4])
  | 8=>([],[],some [4])
  | _=>([],[],none)
theorem b47 {ags : List AV} {row : Option (List DV)} {r : AV} {row' nw : Option (List DV)} (hal : ags.length≤60) (hrow : row'.isSome=true→row.isSome=true) (h : xwp Try.prog x47 (retK [.tmp 4] row.isSome r row' nw) (St.init ags row)) : Good Try.prog 47 ags row r row' nw :=
  good_of_body' (md:=md47) (od:=od47) Try.f47 (by kernel_rfl) (by kernel_rfl) (by kernel_rfl) (by kernel_rfl) (by kernel_rfl) hal hrow h

def x104 : XC:=(.seq (.ops 1 [ (0,⟨some 4,none,.mv (.k (.d (.val (.bool false))))⟩)] (some [0,1])) (.seq (.ops 5 [ (0,⟨some 5,none,.mv (.t 0)⟩),(1,⟨some 6,none,.mv (.t 1)⟩),(2,⟨some 7,none,.call 145 [(.t 5),(.t 6)] none false⟩),(3,⟨some 8,none,.arith .geq (.t 7) (.k (.d (.val (.int .i64 0))))⟩),(4,⟨some 4,none,.mv (.t 8)⟩)] (some [4])) .ret))
def md104 : FuncId→Option Nat × Bool
  | _=>(none,false)
def od104 : Nat→List (List Nat) × List Nat × Option (List Nat)
  | 0=>([],[],some [0,1])
  | 1=>([],[],some [4])
  | _=>([],[],none)
theorem b104 {ags : List AV} {row : Option (List DV)} {r : AV} {row' nw : Option (List DV)} (hal : ags.length≤9) (hrow : row'.isSome=true→row.isSome=true) (h : xwp Try.prog x104 (retK [.tmp 4] row.isSome r row' nw) (St.init ags row)) : Good Try.prog 104 ags row r row' nw :=
  good_of_body' (md:=md104) (od:=od104) Try.f104 (by kernel_rfl) (by kernel_rfl) (by kernel_rfl) (by kernel_rfl) (by kernel_rfl) hal hrow h

def x145 : XC:=(.seq (.ops 1 [ (0,⟨some 4,none,.mv (.k (.d (.val (.int .i64 0))))⟩)] (some [0,1])) (.seq (.seq (.ops 3 [ (0,⟨some 6,none,.mv (.t 0)⟩),(1,⟨some 7,none,.lenS (.t 6)⟩),(2,⟨some 8,none,.mv (.k (.d (.val (.int .i64 0))))⟩)] (some [0,1,7,8])) (.block 0 (.loop (.seq (.ops 1 [ (0,⟨some 9,none,.arith .lss (.t 8) (.t 7)⟩)] (some [0,1,7,8,9])) (.seq (.cond (.t 9) .skip (.exit 0)) (.seq (.block 1 (.seq (.ops 2 [ (0,⟨some 10,none,.mv (.t 8)⟩),(1,⟨some 5,none,.mv (.t 10)⟩)] (some [0,1,5,7,8])) (.seq (.ops 6 [ (0,⟨some 11,none,.mv (.t 1)⟩),(1,⟨some 12,none,.mv (.t 0)⟩),(2,⟨some 13,none,.mv (.t 5)⟩),(3,⟨some 14,none,.idxS 8 (.t 12) (.t 13)⟩),(4,⟨some 15,none,.load (some 8) (.t 14)⟩),(5,⟨some 16,none,.callv (.t 11) [(.t 15)]⟩)] (some [0,1,5,7,8,16])) (.cond (.t 16) (.seq (.ops 2 [ (0,⟨some 17,none,.mv (.t 5)⟩),(1,⟨some 4,none,.mv (.t 17)⟩)] (some [4])) .ret) .skip)))) (.ops 2 [ (0,⟨some 18,none,.arith .add (.t 8) (.k (.d (.val (.int .i64 1))))⟩),(1,⟨some 8,none,.mv (.t 18)⟩)] (some [0,1,7,8])))))))) (.seq (.ops 1 [ (0,⟨some 4,none,.mv (.k (.d (.val (.int .i64 (-1)))))⟩)] (some [4])) .ret)))
def md145 : FuncId→Option Nat × Bool
  | _=>(none,false)
def od145 : Nat→List (List Nat) × List Nat × Option (List Nat)
  | 0=>([],[],some [0,1])
  | 1=>([],[],some [0,1,7,8])
  | 2=>([],[],some [0,1,7,8,9])
  | 3=>([],[],some [0,1,5,7,8])
  | 4=>([],[],some [0,1,5,7,8,16])
  | 5=>([],[],some [4])
  | 6=>([],[],some [0,1,7,8])
  | 7=>([],[],some [4])
  | _=>([],[],none)
theorem b145 {ags : List AV} {row : Option (List DV)} {r : AV} {row' nw : Option (List DV)} (hal : ags.length≤19) (hrow : row'.isSome=true→row.isSome=true) (h : xwp Try.prog x145 (retK [.tmp 4] row.isSome r row' nw) (St.init ags row)) : Good Try.prog 145 ags row r row' nw :=
  good_of_body' (md:=md145) (od:=od145) Try.f145 (by kernel_rfl) (by kernel_rfl) (by kernel_rfl) (by kernel_rfl) (by kernel_rfl) hal hrow h

end Go.Sv
namespace Go.Sv
open Go Go.Proofs
set_option maxRecDepth 100000
def zsN : List Value:=[.int .i64 0,.int .u64 0,.int .u64 0,.int .u64 0,.int .u64 0,.int .i64 0,.int .i64 0,.slice none 0 0]
section
variable {P : Program} {Q : Cont} {fr : Fr} {C : Heap} {Z : Frz} {nx : Nat} {base n d : Nat} {l : List (Nat × XO)} {kp : Option (List Nat)} {x i y s : X}
end
set_option maxHeartbeats 4000000
attribute [local irreducible] W E R KP thenK blockK retK Good xwp aRun
end Go.Sv
namespace Go.Sv
open Go Go.Proofs
theorem encL_app : ∀ (l r : List T),encL (l++r)=encL l++encL r
  | [],r=>rfl
  | t :: l,r=>by rw [List.cons_append,encL,encL_app l r,encL,List.append_assoc]
theorem encN_norm (t : T) : (encN t).map DV.norm=encN t:=by cases t;rfl
theorem encL_norm : ∀ l : List T,(encL l).map DV.norm=encL l
  | []=>rfl
  | t :: l=>by rw [encL,List.map_append,encN_norm,encL_norm l]
theorem encL_length : ∀ l : List T,(encL l).length=l.length * 8
  | []=>rfl
  | t :: l=>by rw [encL,List.length_append,encN_len,encL_length l,List.length_cons];omega
theorem mapO_app (g : AV→Option (DV × List Nat)) : ∀ (a b : List AV) (x y : List DV) (u v : List Nat),mapO g a=some (x,u)→mapO g b=some (y,v)→mapO g (a++b)=some (x++y,u++v)
  | [],b,x,y,u,v,h1,h2=>by cases h1;exact h2
  | c :: a,b,x,y,u,v,h1,h2=>by
    simp only [mapO] at h1
    obtain ⟨⟨p,q⟩,h3,h4⟩:=Option.bind_eq_some_iff.1 h1
    obtain ⟨⟨p',q'⟩,h5,h6⟩:=Option.map_eq_some_iff.1 h4
    cases h6
    simp only [List.cons_append,mapO,h3,Option.bind_some,mapO_app g a b p' y q' v h5 h2,Option.map_some,List.append_assoc]
theorem mapO_encL {C : Heap} {ex : Nat→Bool} (l : List T) : mapO (convC C ex 8) ((encL l).map AV.d)=some (encL l,[]):=by
  rw [mapO_d,encL_norm]
theorem one_encL (l : List T) : ((encL l).map AV.d).all AV.one=true:=by
  rw [List.all_map];simp [AV.one]
section
variable {P : Program} {Q : Cont} {fr : Fr} {C : Heap} {Z : Frz} {nx : Nat} {base n d : Nat} {l : List (Nat × XO)} {kp : Option (List Nat)} {x i y s : X}
theorem r_appN {b c id m j : Nat} {r src : List AV} (hs : s.ev fr=.slL b 0 m 8) (hx : x.ev fr=.slL c 0 j 8) (hC : C b=some r) (hCc : C c=some src) (hr : r.length=m * 8) (hsl : src.length=j * 8) (h1 : src.all AV.one=true) (hz : Z b=false) (hid : base + n=id) (hb : m + j≤100000000)
    (k : R P l base kp Q nx (fr.put d (.slL id 0 (m + j) 8)) ((C.del b).put id (r++src)) Z) : R P ((n,⟨some d,none,.app [.int .i64 0,.int .u64 0,.int .u64 0,.int .u64 0,.int .u64 0,.int .i64 0,.int .i64 0,.slice none 0 0] 80 s x⟩) :: l) base kp Q nx fr C Z:=by
  subst hid
  refine r_w (v:=.slL (base + n) 0 (m + j) 8) (C':=(C.del b).put (base + n) (r++src)) ?_ k
  have h2 : srcOf C 8 (.slL c 0 j 8)=some (src,j):=by
    simp only [srcOf,if_true,hCc,Option.bind_some]
    rw [if_pos (by omega),List.drop_zero,List.take_of_length_le (by omega)]
  simp only [xw,List.length_cons,List.length_nil,Nat.zero_add,Nat.reduceAdd,hx,h2,Option.bind_some,hs,hC]
  rw [if_pos h1,if_pos ⟨trivial,hz,by omega,by omega⟩,List.take_of_length_le (by omega)]
end
theorem r_callMN {P : Program} {Q : Cont} {fr : Fr} {C : Heap} {Z Z' : Frz} {nx : Nat} {base n d : Nat} {l : List (Nat × XO)} {kp : Option (List Nat)} {f : FuncId} {xs : List X} {ags bs : List AV} {us : List Nat} {id m sz : Nat} {ds : List DV} (ha : xs.map (X.ev fr)=ags) (hc : convAs C (fun _=>false) ags=some (bs,us)) (hid : base + n=id) (hg : Good P f bs none (.slL 1 0 m sz) none (some ds)) (hz : Z.add us=Z')
    (k : R P l base kp Q nx (fr.put d (.slL id 0 m sz)) (C.put id (ds.map AV.d)) Z') : R P ((n,⟨some d,none,.call f xs none true⟩) :: l) base kp Q nx fr C Z:=by
  subst hid
  exact s_callN ha hc hg hz rfl k
set_option maxRecDepth 100000
set_option maxHeartbeats 4000000
attribute [local irreducible] W E R KP thenK blockK retK Good xwp aRun
theorem conv_row {C : Heap} {ex : Nat→Bool} {k id m : Nat} {row : List AV} {ds : List DV} {us : List Nat} (hC : C id=some row) (hm : row.length=m * 8) (h0 : 0 < m) (hex : ex id=false) (hr : mapO (convC C ex k) row=some (ds,us)) : convC C ex (k + 1) (.slL id 0 m 8)=some (.sl ds m,id :: us):=by
  simp only [convC]
  rw [if_neg (by omega),if_neg (by simp [hex])]
  simp only [hC,Option.bind_some]
  rw [if_pos (by omega),List.drop_zero,List.take_of_length_le (by omega),hr]
  rfl
end Go.Sv
namespace Go.Sv
open Go Go.Proofs
set_option maxRecDepth 100000
set_option maxHeartbeats 4000000
attribute [local irreducible] W E R KP thenK blockK retK Good xwp aRun
end Go.Sv
namespace Go.Sv
open Go Go.Proofs
set_option maxRecDepth 100000
set_option maxHeartbeats 4000000
attribute [local irreducible] W E R KP thenK blockK retK Good xwp aRun
end Go.Sv
namespace Go.Sv
open Go Go.Proofs
section
variable {P : Program} {Q : Cont} {fr : Fr} {C : Heap} {Z : Frz} {nx : Nat} {base n d0 : Nat} {l : List (Nat × XO)} {kp : Option (List Nat)} {x y : X}
end
set_option maxRecDepth 100000
set_option maxHeartbeats 4000000
attribute [local irreducible] W E R KP thenK blockK retK Good xwp aRun
end Go.Sv
namespace Go.Sv
open Go Go.Proofs
set_option maxRecDepth 100000
set_option maxHeartbeats 4000000
attribute [local irreducible] W E R KP thenK blockK retK Good xwp aRun
end Go.Sv
namespace Go.Sv
open Go Go.Proofs
set_option maxRecDepth 100000
end Go.Sv
namespace Go.Sv
open Go Go.Proofs
set_option maxRecDepth 100000
set_option maxHeartbeats 4000000
attribute [local irreducible] W E R KP thenK blockK retK Good xwp aRun
end Go.Sv
namespace Go.Sv
open Go Go.Proofs
section
variable {P : Program} {Q : Cont} {fr : Fr} {C : Heap} {Z : Frz} {nx : Nat} {base n d : Nat} {l : List (Nat × XO)} {kp : Option (List Nat)} {x i y s : X} {j c : Nat}
theorem r_rem2 {w : Int} (hx : x.ev fr=.d (.val (.int .u64 w))) (hy : y.ev fr=.d (.val (.int .u64 2))) (hw : 0≤w) (k : R P l base kp Q nx (fr.put d (.d (.val (.int .u64 (w % 2))))) C Z) : R P ((n,⟨some d,none,.arith .rem x y⟩) :: l) base kp Q nx fr C Z:=by
  refine r_p ?_ k
  have e : Int.tmod w 2=w % 2:=Int.tmod_eq_emod_of_nonneg hw
  simp only [xp,hx,hy,arith]
  exact congrArg (fun z=>some (AV.d (DV.val (Value.int .u64 z)))) e
theorem r_ixPL {m b off : Nat} {kd : IntKind} (hx : x.ev fr=.ptrL b off) (hi : i.ev fr=.d (.val (.int kd (j : Nat)))) (hj : j < m) (k : R P l base kp Q nx (fr.put d (.ptrL b (off + j))) C Z) : R P ((n,⟨some d,none,.idxP m 1 x i⟩) :: l) base kp Q nx fr C Z:=by
  refine r_p ?_ k
  simp [xp,hx,hi,intIn,hj]
theorem r_ldWL {b : Nat} {w0 w1 w2 w3 : Int} (hx : x.ev fr=.ptrL b (0 + j)) (hr : C b=some [.d (.val (.int .u64 w0)),.d (.val (.int .u64 w1)),.d (.val (.int .u64 w2)),.d (.val (.int .u64 w3))]) (hj : j < 4) (k : R P l base kp Q nx (fr.put d (.d (.val (.int .u64 ([w0,w1,w2,w3].getD j 0))))) C Z) : R P ((n,⟨some d,none,.load none x⟩) :: l) base kp Q nx fr C Z:=by
  refine r_l ?_ k
  simp only [xl,hx,rowOf,hr,Option.map_some,Option.bind_some,subA,Nat.zero_add]
  match j,hj with
  | 0,_=>rfl
  | 1,_=>rfl
  | 2,_=>rfl
  | 3,_=>rfl
end
set_option maxRecDepth 100000
set_option maxHeartbeats 4000000
attribute [local irreducible] W E R KP thenK blockK retK Good xwp aRun
def setA (a b c d : Int) : AV:=.agg [.d (.val (.int .u64 a)),.d (.val (.int .u64 b)),.d (.val (.int .u64 c)),.d (.val (.int .u64 d))]
end Go.Sv
namespace Go.Sv
open Go Go.Proofs
end Go.Sv
namespace Go.Sv
open Go

def word (s : ByteArray) (i j : Nat) : List Nat:=(List.range' i (j - i)).map (byteN s)
theorem word_len (s : ByteArray) (i j : Nat) : (word s i j).length=j - i:=by simp [word]
theorem word_app (s : ByteArray) {i j k : Nat} (h : i≤j) (h2 : j≤k) : word s i j++word s j k=word s i k:=by
  unfold word
  rw [← List.map_append]
  congr 1
  have e : j=i + (j - i):=by omega
  conv=>lhs;rhs;arg 1;rw [e]
  rw [List.range'_append_1]
  congr 1;omega
theorem word_split (s : ByteArray) {i k : Nat} (h : i≤k) {u v : List Nat} (e : word s i k=u++v) : i + u.length≤k∧u=word s i (i + u.length)∧v=word s (i + u.length) k:=by
  have hl:=congrArg List.length e
  rw [word_len,List.length_append] at hl
  have h1 : i + u.length≤k:=by omega
  rw [← word_app s (Nat.le_add_right i u.length) h1] at e
  have:=List.append_inj e (by rw [word_len];omega)
  exact ⟨h1,this.1.symm,this.2.symm⟩

def powL (P : List Nat→Prop) : Nat→List Nat→Prop
  | 0,w=>w=[]
  | n + 1,w=>∃ u v,w=u++v∧P u∧powL P n v

mutual
def L : T→List Nat→Prop
  | .node k a b c d mn mx subs,w =>
    if k=1 then w=[]
    else if k=2 then ∃ x,w=[x]∧inG a b c d x=true
    else if k=3 then catL subs w
    else if k=4 then altL subs w
    else if k=5 then ∃ r : Nat,mn≤r∧(mx < 0 ∨ (r : Int)≤mx)∧powL (fstL subs) r w
    else False
def catL : List T→List Nat→Prop
  | [],w=>w=[]
  | t :: l,w=>∃ u v,w=u++v∧L t u∧catL l v
def altL : List T→List Nat→Prop
  | [],_=>False
  | t :: l,w=>L t w ∨ altL l w
def fstL : List T→List Nat→Prop
  | [],w=>w=[]
  | t :: _,w=>L t w
end

def At (p : List Bool) (j : Nat) : Prop:=p.getD j false=true
theorem At.lt {p : List Bool} {j : Nat} (h : At p j) : j < p.length:=by
  unfold At at h
  rcases Nat.lt_or_ge j p.length with h' | h'
  · exact h'
  · rw [List.getD_eq_getElem?_getD,List.getElem?_eq_none h'] at h;simp at h
theorem at_rep (m j : Nat) : ¬ At (List.replicate m false) j:=by
  intro h
  have:=h.lt
  unfold At at h
  rw [List.getD_eq_getElem?_getD,List.getElem?_eq_getElem this] at h
  simp at h
theorem at_set {p : List Bool} {i : Nat} {v : Bool} (j : Nat) (hi : i < p.length) : At (p.set i v) j↔(j=i∧v=true) ∨ (j ≠ i∧At p j):=by
  unfold At
  rw [List.getD_eq_getElem?_getD,List.getD_eq_getElem?_getD,List.getElem?_set]
  by_cases h : i=j
  · subst h;simp [hi]
  · simp [h,Ne.symm h]
theorem at_ext {p q : List Bool} (hl : p.length=q.length) (h : ∀ j,At p j↔At q j) : p=q:=by
  refine List.ext_getElem hl fun j h1 h2=>?_
  have:=h j
  unfold At at this
  rw [List.getD_eq_getElem?_getD,List.getD_eq_getElem?_getD,List.getElem?_eq_getElem h1,List.getElem?_eq_getElem h2] at this
  simp only [Option.getD_some] at this
  exact Bool.eq_iff_iff.2 this

def Goes (s : ByteArray) (f : List Bool→List Bool) (P : List Nat→Prop) : Prop :=
  ∀ p,p.length=s.size + 1→(f p).length=s.size + 1∧∀ j,At (f p) j↔∃ i,i≤j∧At p i∧j≤s.size∧P (word s i j)

def Sub (p q : List Bool) : Prop:=∀ j,At p j→At q j
theorem Goes.mono {s : ByteArray} {f : List Bool→List Bool} {P : List Nat→Prop} (hf : Goes s f P) {p q : List Bool} (hp : p.length=s.size + 1) (hq : q.length=s.size + 1) (h : Sub p q) : Sub (f p) (f q):=by
  intro j hj
  obtain ⟨i,h1,h2,h3,h4⟩:=((hf p hp).2 j).1 hj
  exact ((hf q hq).2 j).2 ⟨i,h1,h i h2,h3,h4⟩
theorem Goes.step {s : ByteArray} {f : List Bool→List Bool} {P : List Nat→Prop} (hf : Goes s f P) {p q r : List Bool} (hp : p.length=s.size + 1) (hq : q.length=s.size + 1) (hr : r.length=s.size + 1) (h : ∀ j,At r j→At p j ∨ At q j) : ∀ j,At (f r) j→At (f p) j ∨ At (f q) j:=by
  intro j hj
  obtain ⟨i,h1,h2,h3,h4⟩:=((hf r hr).2 j).1 hj
  rcases h i h2 with h | h
  · exact .inl (((hf p hp).2 j).2 ⟨i,h1,h,h3,h4⟩)
  · exact .inr (((hf q hq).2 j).2 ⟨i,h1,h,h3,h4⟩)
theorem Goes.seq {s : ByteArray} {f g : List Bool→List Bool} {P Q : List Nat→Prop} (hf : Goes s f P) (hg : Goes s g Q) : Goes s (fun p=>g (f p)) (fun w=>∃ u v,w=u++v∧P u∧Q v):=by
  intro p hp
  obtain ⟨h1,h2⟩:=hf p hp
  obtain ⟨h3,h4⟩:=hg (f p) h1
  refine ⟨h3,fun j=>?_⟩
  rw [h4 j]
  constructor
  · rintro ⟨i,g1,g2,g3,g4⟩
    obtain ⟨i0,k1,k2,k3,k4⟩:=(h2 i).1 g2
    exact ⟨i0,by omega,k2,g3,_,_,(word_app s k1 g1).symm,k4,g4⟩
  · rintro ⟨i,g1,g2,g3,u,v,e,g4,g5⟩
    obtain ⟨k1,k2,k3⟩:=word_split s g1 e
    exact ⟨i + u.length,k1,(h2 _).2 ⟨i,by omega,g2,by omega,k2 ▸ g4⟩,g3,k3 ▸ g5⟩
theorem Goes.congr {s : ByteArray} {f : List Bool→List Bool} {P Q : List Nat→Prop} (hf : Goes s f P) (h : ∀ w,P w↔Q w) : Goes s f Q:=by
  intro p hp
  refine ⟨(hf p hp).1,fun j=>?_⟩
  rw [(hf p hp).2 j]
  simp only [h]
theorem plainT_kind {k a b c d mn mx : Int} {subs : List T} (h : plainT (.node k a b c d mn mx subs)=true) : (k=1 ∨ k=2 ∨ k=3 ∨ k=4 ∨ k=5)∧(k=5→0≤mn∧(mx < 0 ∨ mn≤mx)):=by
  by_cases h5 : k=5
  · subst h5
    simp [plainT] at h
    omega
  · by_cases h1 : k=1 ∨ k=2 ∨ k=3 ∨ k=4
    · omega
    · have h2 : ¬ k=1:=by omega
      have h3 : ¬ k=2:=by omega
      have h4 : ¬ (k=3 ∨ k=4):=by omega
      simp [plainT,h2,h3,h4,h5] at h
end Go.Sv
namespace Go.Sv
open Go Go.Proofs
set_option maxRecDepth 100000
set_option maxHeartbeats 4000000
attribute [local irreducible] W E R KP thenK blockK retK Good xwp aRun
end Go.Sv
namespace Go.Sv
open Go Go.Proofs
section
variable {P : Program} {Q : Cont} {fr : Fr} {C : Heap} {Z Z' : Frz} {nx : Nat} {base n d : Nat} {l : List (Nat × XO)} {kp : Option (List Nat)} {x i y s : X}
theorem retL1 {live : Bool} {b m : Nat} {p : List Int} (hC : C b=some ((encI p).map AV.d)) (hm : p.length=m) : RetOK C Z (tupOf [.slL b 0 m 1]) live (.d (.sl (encI p) m)) none none:=by
  refine .data _ ?_
  simp only [tupOf,convT,convA,conv_slI (ex:=fun _=>false) rfl hC hm,Option.map_some]
end
set_option maxRecDepth 100000
set_option maxHeartbeats 4000000
attribute [local irreducible] W E R KP thenK blockK retK Good xwp aRun
end Go.Sv
namespace Go.Sv
open Go Go.Proofs
set_option linter.unusedVariables false
set_option maxRecDepth 100000

theorem cells_27 : Try.prog.cellsOf 27=8:=by kernel_rfl
theorem cells_3 : Try.prog.cellsOf 3=1:=by kernel_rfl
theorem cells_24 : Try.prog.cellsOf 24=4:=by kernel_rfl
theorem cells_22 : Try.prog.cellsOf 22=1:=by kernel_rfl
theorem cells_25 : Try.prog.cellsOf 25=1:=by kernel_rfl
def inW (k : Int) : Prop:=-9223372036854775808≤k∧k < 9223372036854775808
mutual
def inT : T→Prop
  | .node k a b c d mn mx subs=>inW k∧okW a∧okW b∧okW c∧okW d∧inW mn∧inW mx∧inL subs
def inL : List T→Prop
  | []=>True
  | t :: l=>inT t∧inL l
end
theorem inL_of : ∀ {l : List T},(∀ t ∈ l,inT t)→inL l
  | [],_=>trivial
  | t :: l,h=>⟨h t (by simp),inL_of fun u hu=>h u (by simp [hu])⟩

section
variable {H : Type} {enc : TypeId × Value→H} {W : World} {sp : Nat→Bool}
theorem wf_i64 {n : Int} (h : (Lit.int .i64 n).wf=true) : inW n:=by
  simp [Lit.wf,IntKind.min,IntKind.max,IntKind.signed,IntKind.bits] at h
  unfold inW;omega
theorem wf_u64 {n : Int} (h : (Lit.int .u64 n).wf=true) : okW n:=by
  simp [Lit.wf,IntKind.min,IntKind.max,IntKind.signed,IntKind.bits] at h
  unfold okW;omega
theorem wf_u8 {n : Int} (h : (Lit.int .u8 n).wf=true) : 0≤n∧n < 256:=by
  simp [Lit.wf,IntKind.min,IntKind.max,IntKind.signed,IntKind.bits] at h
  omega
def NoA : Nat→Prop:=fun _=>False
def RDs (W : World) (vs : List Value) (ds : List DV) : Prop:=vs.length=ds.length∧∀ (j : Nat) (v : Value) (d : DV),vs[j]?=some v→ds[j]?=some d→RD W NoA v d
theorem RDs.nil : RDs W [] []:=⟨rfl,fun j v d h=>by simp at h⟩
theorem RDs.cons {v : Value} {d : DV} {vs : List Value} {ds : List DV} (h : RD W NoA v d) (hs : RDs W vs ds) : RDs W (v :: vs) (d :: ds):=by
  refine ⟨by simp [hs.1],fun j v' d' h1 h2=>?_⟩
  cases j with
  | zero=>simp at h1 h2;subst h1;subst h2;exact h
  | succ j=>exact hs.2 j v' d' (by simpa using h1) (by simpa using h2)

theorem cells_at {a : Addr} {n : Nat} {cs : List Value} (h : W.cells? 0 a n=some cs) : cs.length=n∧∀ j,j < n→cs[j]?=W.cell? (a.add j):=by
  unfold World.cells? at h
  rw [if_pos (Nat.zero_le _)] at h
  refine ⟨by simpa using mapM_some_length h,fun j hj=>?_⟩
  exact (mapM_some_get h j j (by simp [hj])).symm
theorem cell_spot {a : Addr} {v : Value} (h : W.cell? a=some v) : a=⟨a.block,a.off,none⟩:=by
  obtain ⟨b,o,s⟩:=a
  unfold World.cell? at h
  split at h
  · split at h
    · cases h
    · rename_i hs
      cases s with
      | none=>rfl
      | some _=>simp at hs
  · cases h

theorem addr_add2 (b o m k : Nat) : (((⟨b,o,none⟩ : Addr).add m).add k)=⟨b,o + (m + k),none⟩:=by
  unfold Addr.add
  split<;>split<;>simp_all<;>omega
theorem elems_open {sz : Nat} (hsz : 0 < sz) {a : Addr} {α : Type} {P : α→Prop} {en : α→List DV} (hen : ∀ x,(en x).length=sz) : ∀ (len : Nat),(∀ i,i < len→∃ cs x,W.cells? 0 (a.add (i * sz)) sz=some cs∧P x∧RDs W cs (en x)) →
    ∃ l : List α,l.length=len∧(∀ x ∈ l,P x)∧∀ j,j < len * sz→∃ v d,W.cell? ⟨a.block,a.off + j,none⟩=some v∧(l.flatMap en)[j]?=some d∧RD W NoA v d
  | 0,_=>⟨[],rfl,by simp,fun j hj=>by omega⟩
  | len + 1,h=>by
    obtain ⟨l,h1,h2,h3⟩:=elems_open hsz hen len fun i hi=>h i (by omega)
    obtain ⟨cs,x,h4,h5,h6⟩:=h len (by omega)
    obtain ⟨h7,h8⟩:=cells_at h4
    have hspot : a=⟨a.block,a.off,none⟩:=by
      obtain ⟨cs0,x0,g4,_,_⟩:=h 0 (by omega)
      obtain ⟨g7,g8⟩:=cells_at g4
      have g9:=g8 0 hsz
      rw [List.getElem?_eq_getElem (by omega)] at g9
      have:=cell_spot g9.symm
      simpa [Addr.add] using this
    have hfl : ∀ m : List α,(m.flatMap en).length=m.length * sz:=by
      intro m
      induction m with
      | nil=>simp
      | cons y m ih=>simp [ih,hen,Nat.succ_mul];omega
    refine ⟨l++[x],by simp [h1],fun y hy=>?_,fun j hj=>?_⟩
    · rcases List.mem_append.1 hy with hy | hy
      · exact h2 y hy
      · simp at hy;subst hy;exact h5
    · rcases Nat.lt_or_ge j (len * sz) with hlt | hge
      · obtain ⟨v,d,g1,g2,g3⟩:=h3 j hlt
        refine ⟨v,d,g1,?_,g3⟩
        rw [List.flatMap_append,List.getElem?_append_left (by rw [hfl,h1];exact hlt)]
        exact g2
      · have hj2 : j - len * sz < sz:=by rw [Nat.succ_mul] at hj;omega
        have g1:=h8 (j - len * sz) hj2
        rw [List.getElem?_eq_getElem (by omega)] at g1
        have hl6:=h6.1
        have hx : (en x)[j - len * sz]?=some (en x)[j - len * sz]:=List.getElem?_eq_getElem (by rw [hen];exact hj2)
        refine ⟨cs[j - len * sz],(en x)[j - len * sz],?_,?_,h6.2 _ _ _ (List.getElem?_eq_getElem (by omega)) hx⟩
        · rw [g1]
          congr 1
          have e : len * sz + (j - len * sz)=j:=by omega
          have h9:=addr_add2 a.block a.off (len * sz) (j - len * sz)
          rw [← hspot,e] at h9
          exact h9.symm
        · rw [List.flatMap_append,List.getElem?_append_right (by rw [hfl,h1];exact hge),hfl,h1]
          simpa using hx
theorem encL_flat : ∀ l : List T,encL l=l.flatMap encN
  | []=>rfl
  | t :: l=>by simp [encL,encL_flat l]

theorem len8 {cs : List Value} (h : cs.length=8) : ∃ a b c d e f g i,cs=[a,b,c,d,e,f,g,i]:=by
  match cs,h with
  | [a,b,c,d,e,f,g,i],_=>exact ⟨a,b,c,d,e,f,g,i,rfl⟩

theorem node_open : ∀ (fuel : Nat) (cs : List Value) (x : DataW H × List MemPlace),DataW.trod enc Try.prog W 0 sp true fuel 27 cs=some x→∃ t : T,inT t∧RDs W cs (encN t):=by
  intro fuel
  induction fuel using Nat.strongRecOn with
  | ind fuel ih =>
  intro cs x h
  obtain ⟨xs,n,rfl,_,hl,hxl,hf⟩:=DataW.trod_struct Try.underlying27 h
  rw [cells_27] at hl
  obtain ⟨c0,c1,c2,c3,c4,c5,c6,c7,rfl⟩:=len8 hl
  have hx : ∀ i,i < 5→∃ y,xs[i]?=some y:=fun i hi=>⟨_,List.getElem?_eq_getElem (by rw [hxl];exact hi)⟩
  obtain ⟨y0,e0⟩:=hx 0 (by omega)
  obtain ⟨y1,e1⟩:=hx 1 (by omega)
  obtain ⟨y2,e2⟩:=hx 2 (by omega)
  obtain ⟨y3,e3⟩:=hx 3 (by omega)
  obtain ⟨y4,e4⟩:=hx 4 (by omega)
  have f0:=hf 0 _ rfl
  have f1:=hf 1 _ rfl
  have f2:=hf 2 _ rfl
  have f3:=hf 3 _ rfl
  have f4:=hf 4 _ rfl
  simp only [cells_3,cells_24,cells_25,List.drop_succ_cons,List.drop_zero,List.take_succ_cons,List.take_zero,e0,e1,e2,e3,e4] at f0 f1 f2 f3 f4
  obtain ⟨k,g0,_,w0⟩:=DataW.trod_int Try.underlying3 f0
  obtain ⟨mn,g2,_,w2⟩:=DataW.trod_int Try.underlying3 f2
  obtain ⟨mx,g3,_,w3⟩:=DataW.trod_int Try.underlying3 f3
  obtain ⟨ws,m,rfl,_,hl1,hwl,hw⟩:=DataW.trod_array Try.underlying24 f1
  have hy : ∀ i,i < 4→∃ y,ws[i]?=some y:=fun i hi=>⟨_,List.getElem?_eq_getElem (by rw [hwl];exact hi)⟩
  obtain ⟨z0,k0⟩:=hy 0 (by omega)
  obtain ⟨z1,k1⟩:=hy 1 (by omega)
  obtain ⟨z2,k2⟩:=hy 2 (by omega)
  obtain ⟨z3,k3⟩:=hy 3 (by omega)
  have q0:=hw 0 (by omega)
  have q1:=hw 1 (by omega)
  have q2:=hw 2 (by omega)
  have q3:=hw 3 (by omega)
  simp only [cells_22,Nat.zero_mul,Nat.one_mul,Nat.mul_one,List.drop_succ_cons,List.drop_zero,List.take_succ_cons,List.take_zero,k0,k1,k2,k3] at q0 q1 q2 q3
  obtain ⟨a,a0,_,v0⟩:=DataW.trod_int Try.underlying22 q0
  obtain ⟨b,a1,_,v1⟩:=DataW.trod_int Try.underlying22 q1
  obtain ⟨c,a2,_,v2⟩:=DataW.trod_int Try.underlying22 q2
  obtain ⟨d,a3,_,v3⟩:=DataW.trod_int Try.underlying22 q3
  have one : ∀ {u v : Value},[u]=[v]→u=v:=fun h=>by cases h;rfl
  have s0:=one g0;have s2:=one g2;have s3:=one g3
  have t0:=one a0;have t1:=one a1;have t2:=one a2;have t3:=one a3
  subst s0 s2 s3 t0 t1 t2 t3
  have fin : ∀ subs : List T,inL subs→RD W NoA c7 (.sl (encL subs) subs.length)→∃ t : T,inT t∧RDs W [.int .i64 k,.int .u64 a,.int .u64 b,.int .u64 c,.int .u64 d,.int .i64 mn,.int .i64 mx,c7] (encN t):=by
    intro subs hs hr
    refine ⟨.node k a b c d mn mx subs,⟨wf_i64 w0,wf_u64 v0,wf_u64 v1,wf_u64 v2,wf_u64 v3,wf_i64 w2,wf_i64 w3,hs⟩,?_⟩
    exact .cons (.val _ rfl) (.cons (.val _ rfl) (.cons (.val _ rfl) (.cons (.val _ rfl) (.cons (.val _ rfl) (.cons (.val _ rfl) (.cons (.val _ rfl) (.cons hr .nil)))))))
  rcases DataW.trod_slice Try.underlying25 f4 with ⟨g4,_⟩ | ⟨ad,len,cap,elems,rest,n',hn',g4,_,_,hlc,_,hel,hr,_⟩
  · have:=one g4;subst this
    exact fin [] trivial (.sl0 none 0)
  · have:=one g4;subst this
    have hall : ∀ i,i < len→∃ cs t,W.cells? 0 (ad.add (i * 8)) 8=some cs∧inT t∧RDs W cs (encN t):=by
      intro i hi
      have h1:=hr i hi
      rw [cells_27,List.getElem?_eq_getElem (by omega)] at h1
      obtain ⟨cs,h2,h3⟩:=Option.bind_eq_some_iff.1 h1
      obtain ⟨t,h4,h5⟩:=ih n' (by omega) cs _ h3
      exact ⟨cs,t,h2,h4,h5⟩
    obtain ⟨l,h1,h2,h3⟩:=elems_open (sz:=8) (by omega) encN_len len hall
    refine fin l (inL_of h2) ?_
    rw [h1]
    by_cases h0 : len=0
    · subst h0
      rw [List.length_eq_zero_iff.1 h1]
      exact .sl0 _ _
    · have hsp : ad=⟨ad.block,ad.off,none⟩:=by
        obtain ⟨cs,t,g1,_,g2⟩:=hall 0 (by omega)
        obtain ⟨g7,g8⟩:=cells_at g1
        have g9:=g8 0 (by omega)
        rw [List.getElem?_eq_getElem (by omega)] at g9
        have:=cell_spot g9.symm
        simpa [Addr.add] using this
      rw [hsp]
      have hlen : (encL l).length=len * 8:=by rw [encL_len,h1]
      refine .sl ad.block ad.off len cap (encL l) (fun j=>(W.cell? ⟨ad.block,ad.off + j,none⟩).getD undef) (fun h=>h) (by omega) hlc (fun j hj=>?_) (fun j hj=>?_)
      · obtain ⟨v,_,g1,_⟩:=h3 j (by omega)
        rw [g1];rfl
      · obtain ⟨v,dd,g1,g2,g3⟩:=h3 j (by omega)
        rw [g1]
        rw [← encL_flat,List.getElem?_eq_getElem hj] at g2
        cases g2
        exact g3
end
end Go.Sv
namespace Go.Sv
open Go
set_option linter.unusedVariables false

mutual
theorem fits_open : ∀ (t : T) (left : Int),fitsT t left=true↔(0≤openT t∧openT t≤left)
  | .node k a b c d mn mx subs,left=>by
    have ih:=fitsL_open k subs left 0 (Int.le_refl _)
    simp only [fitsT,openT]
    by_cases hp : plainT (.node k a b c d mn mx subs)=true
    · rw [if_pos hp]
      simp only [Bool.and_eq_true,decide_eq_true_eq,hp,and_true]
      exact ih
    · rw [if_neg hp]
      simp only [Bool.and_eq_true,decide_eq_true_eq]
      constructor
      · rintro ⟨⟨_,h⟩,_⟩;exact absurd h hp
      · rintro ⟨h,_⟩;omega
theorem fitsL_open (k : Int) : ∀ (l : List T) (left m : Int),0≤m→((m≤left∧fitsL k l left=true)↔(0≤openL k l m∧openL k l m≤left))
  | [],left,m,hm=>by
    have e : (fitsL k [] left=true)=True:=by simp [fitsL]
    simp only [openL,e,and_true];omega
  | t :: l,left,m,hm=>by
    have h1:=fits_open t (if roundG k t.kind=true then left - 1 else left)
    simp only [fitsL,openL,Bool.and_eq_true]
    rw [h1]
    by_cases hn : openT t < 0
    · rw [if_pos hn];omega
    · rw [if_neg hn]
      have h2:=fitsL_open k l left (max m (if roundG k t.kind=true then openT t + 1 else openT t)) (by split<;>omega)
      rw [← h2]
      by_cases hf : fitsL k l left=true
      · simp only [hf,and_true];split<;>omega
      · simp only [hf,and_false];simp
end
theorem right_fits (t : T) : rightT t=fitsT t 12:=by
  rw [Bool.eq_iff_iff,fits_open]
  simp [rightT]
mutual
theorem ok_of_open : ∀ (t : T),inT t→0≤openT t→okT t
  | .node k a b c d mn mx subs,h,ho=>by
    simp only [inT] at h
    obtain ⟨_,ha,hb,hc,hd,_,_,hs⟩:=h
    simp only [openT] at ho
    split at ho
    · rename_i hp
      refine ⟨⟨ha,hb,hc,hd,hp⟩,okL_of_open k subs hs 0 ho⟩
    · omega
theorem okL_of_open (k : Int) : ∀ (l : List T),inL l→∀ m : Int,0≤openL k l m→okL l
  | [],_,_,_=>trivial
  | t :: l,h,m,ho=>by
    simp only [inL] at h
    simp only [openL] at ho
    split at ho
    · omega
    · exact ⟨ok_of_open t h.1 (by omega),okL_of_open k l h.2 _ ho⟩
end
theorem ok_of_right {t : T} (h : inT t) (hr : rightT t=true) : okT t:=ok_of_open t h (by simp [rightT] at hr;omega)
end Go.Sv
namespace Go.Sv
open Go Go.Proofs
set_option maxRecDepth 100000
end Go.Sv
namespace Go.Sv
open Go Go.Proofs
def x3 : XC:=(.seq (.ops 2 [ (0,⟨some 3,none,.box (.t 0)⟩),(1,⟨some 6,none,.mv (.k (.d (.val (.bool false))))⟩)] (some [1,2,3])) (.seq (.seq (.ops 8 [ (0,⟨some 9,none,.call 29 [] none false⟩),(1,⟨some 10,none,.un .not (.t 9)⟩),(2,⟨some 11,none,.mv (.t 10)⟩),(3,⟨some 12,(some (11,false)),.load (some 8) (.t 3)⟩),(4,⟨some 13,(some (11,false)),.mv (.t 1)⟩),(5,⟨some 14,(some (11,false)),.call 30 [(.t 12),(.t 13)] none false⟩),(6,⟨some 15,(some (11,false)),.un .not (.t 14)⟩),(7,⟨some 16,none,.pick (.t 11) (.k (.d (.val (.bool true)))) (.t 15)⟩)] (some [1,2,3,16])) (.cond (.t 16) (.seq (.ops 2 [ (0,⟨some 17,none,.call 29 [] none false⟩),(1,⟨some 6,none,.mv (.t 17)⟩)] (some [6])) .ret) .skip)) (.seq (.ops 9 [ (0,⟨some 19,none,.load (some 8) (.t 3)⟩),(1,⟨some 20,none,.mv (.t 1)⟩),(2,⟨some 21,none,.mv (.t 2)⟩),(3,⟨some 22,none,.call 31 [(.t 19),(.t 20),(.t 21)] none false⟩),(4,⟨some 18,none,.mv (.t 22)⟩),(5,⟨some 23,none,.ext (.t 18) 0⟩),(6,⟨some 24,none,.ext (.t 18) 1⟩),(7,⟨some 7,none,.mv (.t 23)⟩),(8,⟨some 8,none,.mv (.t 24)⟩)] (some [1,2,3,7,8])) (.seq (.block 0 (.seq (.ops 4 [ (0,⟨some 26,none,.load (some 8) (.t 3)⟩),(1,⟨some 27,none,.call 32 [(.t 26)] none false⟩),(2,⟨some 28,none,.un .not (.t 27)⟩),(3,⟨some 25,none,.mv (.t 28)⟩)] (some [1,2,3,7,8,25])) (.cond (.t 25) (.seq (.ops 14 [ (0,⟨some 29,none,.mv (.t 7)⟩),(1,⟨some 30,none,.lenS (.t 29)⟩),(2,⟨some 31,none,.arith .eql (.t 30) (.k (.d (.val (.int .i64 0))))⟩),(3,⟨some 32,none,.mv (.t 31)⟩),(4,⟨some 33,(some (32,true)),.mv (.t 8)⟩),(5,⟨some 34,(some (32,true)),.arith .eql (.t 33) (.k (.d (.val (.int .i64 1))))⟩),(6,⟨some 35,none,.pick (.t 32) (.t 34) (.k (.d (.val (.bool false))))⟩),(7,⟨some 36,none,.mv (.t 35)⟩),(8,⟨some 37,(some (36,true)),.load (some 8) (.t 3)⟩),(9,⟨some 38,(some (36,true)),.mv (.t 1)⟩),(10,⟨some 39,(some (36,true)),.call 33 [(.t 37),(.t 38)] none false⟩),(11,⟨some 40,(some (36,true)),.un .not (.t 39)⟩),(12,⟨some 41,none,.pick (.t 36) (.t 40) (.k (.d (.val (.bool false))))⟩),(13,⟨some 6,none,.mv (.t 41)⟩)] (some [6])) .ret) (.seq (.ops 9 [ (0,⟨some 43,none,.mv (.t 2)⟩),(1,⟨some 44,none,.arith .lss (.t 43) (.k (.d (.val (.int .i64 0))))⟩),(2,⟨some 45,none,.mv (.t 44)⟩),(3,⟨some 46,(some (45,false)),.mv (.t 2)⟩),(4,⟨some 47,(some (45,false)),.mv (.t 1)⟩),(5,⟨some 48,(some (45,false)),.lenT (.t 47)⟩),(6,⟨some 49,(some (45,false)),.arith .gtr (.t 46) (.t 48)⟩),(7,⟨some 50,none,.pick (.t 45) (.k (.d (.val (.bool true)))) (.t 49)⟩),(8,⟨some 42,none,.mv (.t 50)⟩)] (some [1,2,3,7,8,42])) (.cond (.t 42) (.seq (.ops 15 [ (0,⟨some 51,none,.mv (.t 7)⟩),(1,⟨some 52,none,.lenS (.t 51)⟩),(2,⟨some 53,none,.arith .eql (.t 52) (.k (.d (.val (.int .i64 0))))⟩),(3,⟨some 54,none,.mv (.t 53)⟩),(4,⟨some 55,(some (54,true)),.mv (.t 8)⟩),(5,⟨some 56,(some (54,true)),.arith .eql (.t 55) (.k (.d (.val (.int .i64 2))))⟩),(6,⟨some 57,none,.pick (.t 54) (.t 56) (.k (.d (.val (.bool false))))⟩),(7,⟨some 58,none,.mv (.t 57)⟩),(8,⟨some 59,(some (58,true)),.load (some 8) (.t 3)⟩),(9,⟨some 60,(some (58,true)),.mv (.t 1)⟩),(10,⟨some 61,(some (58,true)),.mv (.t 2)⟩),(11,⟨some 62,(some (58,true)),.call 34 [(.t 59),(.t 60),(.t 61)] none false⟩),(12,⟨some 63,(some (58,true)),.arith .eql (.t 62) (.k (.d (.val (.int .i64 (-1)))))⟩),(13,⟨some 64,none,.pick (.t 58) (.t 63) (.k (.d (.val (.bool false))))⟩),(14,⟨some 6,none,.mv (.t 64)⟩)] (some [6])) .ret) .skip))))) (.seq (.ops 22 [ (0,⟨some 65,none,.mv (.t 8)⟩),(1,⟨some 66,none,.arith .eql (.t 65) (.k (.d (.val (.int .i64 0))))⟩),(2,⟨some 67,none,.mv (.t 66)⟩),(3,⟨some 68,(some (67,true)),.mv (.t 7)⟩),(4,⟨some 69,(some (67,true)),.load (some 8) (.t 3)⟩),(5,⟨some 70,(some (67,true)),.mv (.t 1)⟩),(6,⟨some 71,(some (67,true)),.mv (.t 2)⟩),(7,⟨some 72,(some (67,true)),.call 36 [(.t 69),(.t 70),(.t 71)] none false⟩),(8,⟨some 73,(some (67,true)),.call 35 [(.t 68),(.t 72)] none false⟩),(9,⟨some 74,none,.pick (.t 67) (.t 73) (.k (.d (.val (.bool false))))⟩),(10,⟨some 75,none,.mv (.t 74)⟩),(11,⟨some 76,(some (75,true)),.load (some 8) (.t 3)⟩),(12,⟨some 77,(some (75,true)),.mv (.t 1)⟩),(13,⟨some 78,(some (75,true)),.mv (.t 2)⟩),(14,⟨some 79,(some (75,true)),.call 34 [(.t 76),(.t 77),(.t 78)] none false⟩),(15,⟨some 80,(some (75,true)),.load (some 8) (.t 3)⟩),(16,⟨some 81,(some (75,true)),.mv (.t 1)⟩),(17,⟨some 82,(some (75,true)),.mv (.t 2)⟩),(18,⟨some 83,(some (75,true)),.call 37 [(.t 80),(.t 81),(.t 82)] none false⟩),(19,⟨some 84,(some (75,true)),.arith .eql (.t 79) (.t 83)⟩),(20,⟨some 85,none,.pick (.t 75) (.t 84) (.k (.d (.val (.bool false))))⟩),(21,⟨some 6,none,.mv (.t 85)⟩)] (some [6])) .ret)))))
def md3 : FuncId→Option Nat × Bool
  | _=>(none,false)
def od3 : Nat→List (List Nat) × List Nat × Option (List Nat)
  | 0=>([],[],some [1,2,3])
  | 1=>([],[],some [1,2,3,16])
  | 2=>([],[],some [6])
  | 3=>([],[],some [1,2,3,7,8])
  | 4=>([],[],some [1,2,3,7,8,25])
  | 5=>([],[],some [6])
  | 6=>([],[],some [1,2,3,7,8,42])
  | 7=>([],[],some [6])
  | 8=>([[],[0],[0,1],[0,1,2],[0,1,2],[0,1,2],[0,1,2],[0,1,2,4,5,6],[0,1,2,3,4,5,6,7],[0,1,2,3,4,5,6,7,8],[0,1,2,3,4,5,6,7,8,9],[0,1,2,3,4,5,6,7,8,9,10],[0,1,2,3,4,5,6,7,8,9,10],[0,1,2,3,4,5,6,7,8,9,10],[0,1,2,3,4,5,6,7,8,9,10,11,12,13],[0,1,2,3,4,5,6,7,8,9,10],[0,1,2,3,4,5,6,7,8,9,10],[0,1,2,3,4,5,6,7,8,9,10],[0,1,2,3,4,5,6,7,8,9,10,11,12,13,14,15,16,17],[0,1,2,3,4,5,6,7,8,9,10,11,12,13,14,15,16,17,18],[0,1,2,3,4,5,6,7,8,9,10,11,12,13,14,15,16,17,18,19],[0,1,2,3,4,5,6,7,8,9,10,11,12,13,14,15,16,17,18,19,20]],[0,1,2,3,4,5,6,7,8,9,10,11,12,13,14,15,16,17,18,19,20,21],some [6])
  | _=>([],[],none)
theorem b3 {ags : List AV} {row : Option (List DV)} {r : AV} {row' nw : Option (List DV)} (hal : ags.length≤86) (hrow : row'.isSome=true→row.isSome=true) (h : xwp Try.prog x3 (retK [.tmp 6] row.isSome r row' nw) (St.init ags row)) : Good Try.prog 3 ags row r row' nw :=
  good_of_body' (md:=md3) (od:=od3) Try.f3 (by kernel_rfl) (by kernel_rfl) (by kernel_rfl) (by kernel_rfl) (by kernel_rfl) hal hrow h

set_option maxRecDepth 100000
set_option maxHeartbeats 4000000
attribute [local irreducible] W E R KP thenK blockK retK Good xwp aRun
theorem few_cnt {t : T} (h : sizeT t 601≤200) : t.cnt≤200:=by
  have:=sizeT_cnt t 601 (by omega)
  omega
end Go.Sv
namespace Go.Sv
open Go Go.Proofs
set_option maxRecDepth 100000
set_option maxHeartbeats 4000000
attribute [local irreducible] W E R KP thenK blockK retK Good xwp aRun
def zT : T:=.node 0 0 0 0 0 0 0 []
end Go.Sv
namespace Go.Sv
open Go Go.Proofs
section
variable {P : Program} {Q : Cont} {fr : Fr} {C : Heap} {Z : Frz} {nx : Nat} {base n d0 : Nat} {l : List (Nat × XO)} {kp : Option (List Nat)} {x y : X}
theorem r_callv {f : FuncId} {g : X} {xs : List X} {ags : List AV} {r : AV} (hf : g.ev fr=.d (.fn f [])) (ha : xs.map (X.ev fr)=ags) (hn : ags.all AV.nrm=true) (hg : Good P f ags none r none none)
    (k : R P l base kp Q nx (fr.put d0 r) C Z) : R P ((n,⟨some d0,none,.callv g xs⟩) :: l) base kp Q nx fr C Z:=by
  refine ⟨r,C,Z,.inl ⟨rfl,f,[],.inr ⟨[],hf,rfl⟩,?_⟩,k⟩
  subst ha
  refine ⟨_,[],r,none,none,by rw [List.append_nil];exact convAs_nrm _ hn,hg,rfl,fun h=>(by cases h),rfl,rfl,?_⟩
  simp [Frz.add_nil]
end
set_option maxRecDepth 100000
set_option maxHeartbeats 4000000
attribute [local irreducible] W E R KP thenK blockK retK Good xwp aRun
end Go.Sv
namespace Go.Sv
open Go Go.Proofs
set_option maxRecDepth 100000
set_option maxHeartbeats 4000000
attribute [local irreducible] W E R KP thenK blockK retK Good xwp aRun
end Go.Sv
namespace Go.Sv
open Go
theorem L_k1 {a b c d mn mx : Int} {subs : List T} {w : List Nat} : L (.node 1 a b c d mn mx subs) w↔w=[]:=by simp [L]
theorem L_k2 {a b c d mn mx : Int} {subs : List T} {w : List Nat} : L (.node 2 a b c d mn mx subs) w↔∃ x,w=[x]∧inG a b c d x=true:=by simp [L]
theorem L_k3 {a b c d mn mx : Int} {subs : List T} {w : List Nat} : L (.node 3 a b c d mn mx subs) w↔catL subs w:=by simp [L]
theorem L_k4 {a b c d mn mx : Int} {subs : List T} {w : List Nat} : L (.node 4 a b c d mn mx subs) w↔altL subs w:=by simp [L]
theorem L_k5 {a b c d mn mx : Int} {subs : List T} {w : List Nat} : L (.node 5 a b c d mn mx subs) w↔∃ r : Nat,mn≤r∧(mx < 0 ∨ (r : Int)≤mx)∧powL (fstL subs) r w:=by simp [L]
theorem catL_app : ∀ (l r : List T) (w : List Nat),catL (l++r) w↔∃ u v,w=u++v∧catL l u∧catL r v
  | [],r,w=>by
    simp only [List.nil_append,catL]
    constructor
    · intro h;exact ⟨[],w,rfl,rfl,h⟩
    · rintro ⟨u,v,rfl,rfl,h⟩;exact h
  | t :: l,r,w=>by
    simp only [List.cons_append,catL]
    constructor
    · rintro ⟨u,v,rfl,h1,h2⟩
      obtain ⟨a,b,rfl,h3,h4⟩:=(catL_app l r v).1 h2
      exact ⟨u++a,b,by simp,⟨u,a,rfl,h1,h3⟩,h4⟩
    · rintro ⟨_,v,rfl,⟨u,a,rfl,h1,h3⟩,h4⟩
      exact ⟨u,a++v,by simp,h1,(catL_app l r _).2 ⟨a,v,rfl,h3,h4⟩⟩
theorem altL_app : ∀ (l r : List T) (w : List Nat),altL (l++r) w↔altL l w ∨ altL r w
  | [],r,w=>by simp [altL]
  | t :: l,r,w=>by simp only [List.cons_append,altL,altL_app l r w,or_assoc]
theorem catL_one (t : T) (w : List Nat) : catL [t] w↔L t w:=by
  simp only [catL]
  constructor
  · rintro ⟨u,v,rfl,h,rfl⟩;simpa using h
  · intro h;exact ⟨w,[],by simp,h,rfl⟩
theorem powL_congr {P Q : List Nat→Prop} (h : ∀ w,P w↔Q w) : ∀ (n : Nat) (w : List Nat),powL P n w↔powL Q n w
  | 0,w=>Iff.rfl
  | n + 1,w=>by simp only [powL,h,powL_congr h n]
theorem powL_add (P : List Nat→Prop) : ∀ (a b : Nat) (w : List Nat),powL P (a + b) w↔∃ u v,w=u++v∧powL P a u∧powL P b v
  | 0,b,w=>by
    rw [Nat.zero_add];simp only [powL]
    constructor
    · intro h;exact ⟨[],w,rfl,rfl,h⟩
    · rintro ⟨u,v,rfl,rfl,h⟩;exact h
  | a + 1,b,w=>by
    rw [Nat.succ_add];simp only [powL]
    constructor
    · rintro ⟨u,v,rfl,h1,h2⟩
      obtain ⟨p,q,rfl,h3,h4⟩:=(powL_add P a b v).1 h2
      exact ⟨u++p,q,by simp,⟨u,p,rfl,h1,h3⟩,h4⟩
    · rintro ⟨_,v,rfl,⟨u,p,rfl,h1,h3⟩,h4⟩
      exact ⟨u,p++v,by simp,h1,(powL_add P a b _).2 ⟨p,v,rfl,h3,h4⟩⟩
theorem plainT_5 {a b c d mn mx : Int} {subs : List T} (h : plainT (.node 5 a b c d mn mx subs)=true) : ∃ u,subs=[u]:=by
  simp [plainT] at h
  obtain ⟨_,h⟩:=h
  match subs,h with
  | [u],_=>exact ⟨u,rfl⟩
theorem okT_plain {k a b c d mn mx : Int} {subs : List T} (h : okT (.node k a b c d mn mx subs)) : plainT (.node k a b c d mn mx subs)=true:=by
  simp only [okT,okN] at h;exact h.1.2.2.2.2
theorem okT_subs {k a b c d mn mx : Int} {subs : List T} (h : okT (.node k a b c d mn mx subs)) : okL subs:=by
  simp only [okT] at h;exact h.2
theorem plainT_leaf {k a b c d mn mx : Int} {subs : List T} (hk : k=1 ∨ k=2) (h : plainT (.node k a b c d mn mx subs)=true) : subs=[]:=by
  cases subs with
  | nil=>rfl
  | cons x l=>exfalso;rcases hk with rfl | rfl<;>simp [plainT] at h
theorem okW_0 : okW 0:=by unfold okW;omega
theorem okT_mk {k mn mx : Int} {subs : List T} (h : plainT (.node k 0 0 0 0 mn mx subs)=true) (hs : okL subs) : okT (.node k 0 0 0 0 mn mx subs):=by
  simp only [okT,okN];exact ⟨⟨okW_0,okW_0,okW_0,okW_0,h⟩,hs⟩
theorem okL_iff : ∀ (l : List T),okL l↔∀ t ∈ l,okT t
  | []=>by simp [okL]
  | t :: l=>by simp [okL,okL_iff l]
theorem okT_empty : okT (.node 1 0 0 0 0 0 0 []):=okT_mk (by simp [plainT,isZero]) trivial
theorem cntL_app : ∀ (l r : List T),cntL (l++r)=cntL l + cntL r
  | [],r=>by simp [cntL]
  | t :: l,r=>by rw [List.cons_append,cntL,cntL_app l r,cntL];omega
theorem cntL_take (l : List T) (i : Nat) (h : i < l.length) : cntL (l.take (i + 1))=cntL (l.take i) + l[i].cnt:=by
  rw [List.take_succ_eq_append_getElem h,cntL_app,cntL,cntL];omega
theorem cntL_take_le (l : List T) (i : Nat) : cntL (l.take i)≤cntL l:=by
  have:=cntL_app (l.take i) (l.drop i)
  rw [List.take_append_drop] at this;omega
end Go.Sv
namespace Go.Sv
open Go Go.Proofs
theorem convAs_app {C : Heap} {ex : Nat→Bool} : ∀ {l r l' r' : List AV} {u v : List Nat},convAs C ex l=some (l',u)→convAs C ex r=some (r',v)→convAs C ex (l++r)=some (l'++r',u++v)
  | [],r,l',r',u,v,h1,h2=>by cases h1;exact h2
  | x :: l,r,l',r',u,v,h1,h2=>by
    simp only [convAs] at h1
    obtain ⟨⟨p,q⟩,h3,h4⟩:=Option.bind_eq_some_iff.1 h1
    obtain ⟨⟨p',q'⟩,h5,h6⟩:=Option.map_eq_some_iff.1 h4
    cases h6
    simp only [List.cons_append,convAs,h3,Option.bind_some,convAs_app h5 h2,Option.map_some,List.append_assoc]
theorem convAs_encL {C : Heap} {ex : Nat→Bool} (l : List T) : convAs C ex ((encL l).map AV.d)=some ((encL l).map AV.d,[]):=by
  rw [convAs_d]
  have : (encL l).map (fun x=>AV.d x.norm)=((encL l).map DV.norm).map AV.d:=by rw [List.map_map];rfl
  rw [this,encL_norm]
theorem isD_encL (l : List T) : ((encL l).map AV.d).all AV.isD=true:=by rw [List.all_map];simp [AV.isD]
set_option maxRecDepth 100000
set_option maxHeartbeats 4000000
attribute [local irreducible] W E R KP thenK blockK retK Good xwp aRun
end Go.Sv
namespace Go.Sv
open Go
set_option linter.unusedVariables false
def rhoM (n : Nat) : List (Nat × Nat)→Nat→Nat
  | [],k=>rho n k
  | (b,c) :: σ,k=>cond (Nat.beq k b) c (rhoM n σ k)
def vtM (vs : List Nat) (k : Nat) : Bool:=vs.any (Nat.beq k)
theorem beq_false {k b : Nat} (h : k ≠ b) : Nat.beq k b=false:=by
  cases e : Nat.beq k b with
  | false=>rfl
  | true=>exact absurd (Nat.eq_of_beq_eq_true e) h
theorem rhoM_ge {n k : Nat} : ∀ {σ : List (Nat × Nat)},(σ.all fun p=>Nat.blt p.1 n)=true→¬ k < n→rhoM n σ k=1000000
  | [],_,h=>rho_ge h
  | (b,c) :: σ,hs,h=>by
    simp only [List.all_cons,Bool.and_eq_true] at hs
    have : b < n:=Eq.mp Nat.blt_eq hs.1
    rw [rhoM,beq_false (by omega)]
    exact rhoM_ge hs.2 h
theorem wkM {C : Heap} {Z : Frz} {nx nx' : Nat} {fr fr' : Fr} (σ : List (Nat × Nat)) (vs : List Nat) {rows : List (Nat × List AV)} {hot : List Nat} (h0 : (Nat.blt 0 nx' && (Nat.beq (rhoM nx' σ 0) 0 && (!(vtM vs 0) && σ.all fun p=>Nat.blt p.1 nx')))=true)
    (h : ∀ p ∈ rows,p.1 < nx'∧((vtM vs p.1=true∧p.2=[]) ∨ (vtM vs p.1=false∧∃ r,C (rhoM nx' σ p.1)=some r∧LWk (rhoM nx' σ) (vtM vs) nx' r p.2)))
    (hh : ∀ k ∈ hot,Z (rhoM nx' σ k)=false)
    (hinj : ((rows.map (·.1)).all fun a=>(rows.map (·.1)).all fun b=>Nat.beq a b || (!(Nat.beq (rhoM nx' σ a) (rhoM nx' σ b)) || (vtM vs a || vtM vs b)))=true)
    (hf : FWk (rhoM nx' σ) (vtM vs) nx' fr fr') (hN : Z 1000000=false:=by rfl) :
    Wk ⟨fr,C,Z,nx⟩ ⟨fr',rowsOf rows,Frz.buts nx' hot,nx'⟩:=by
  simp only [Bool.and_eq_true,Bool.not_eq_true'] at h0
  obtain ⟨a1,a2,a3,a4⟩:=h0
  have a1 : 0 < nx':=Eq.mp Nat.blt_eq a1
  refine ⟨rhoM nx' σ,vtM vs,⟨Nat.eq_of_beq_eq_true a2,a3,a1⟩,hf,fun e s he=>?_,fun e e' r1 r2 h1 h2 v1 v2 hee=>?_,fun e hc=>?_⟩
  · obtain ⟨g1,g2⟩:=h _ (rowsOf_mem he)
    refine ⟨g1,?_⟩
    rcases g2 with ⟨q1,q3⟩ | ⟨q1,r,q2,q3⟩
    · simp only at q3
      exact .inl ⟨q1,q3⟩
    · refine .inr ⟨q1,r,q2,q3.len,q3.get,fun hz'=>?_⟩
      by_cases hm : e ∈ hot
      · exact hh e hm
      · have : Frz.buts nx' hot e=true:=buts_lt g1 hm
        simp only at hz'
        rw [this] at hz';cases hz'
  · have k1:=List.all_eq_true.1 hinj e (List.mem_map.2 ⟨_,rowsOf_mem h1,rfl⟩)
    have k2:=List.all_eq_true.1 k1 e' (List.mem_map.2 ⟨_,rowsOf_mem h2,rfl⟩)
    simp only [Bool.or_eq_true,Bool.not_eq_true'] at k2
    rcases k2 with k2 | k2 | k2 | k2
    · exact Nat.eq_of_beq_eq_true k2
    · have : Nat.beq (rhoM nx' σ e) (rhoM nx' σ e')=true:=by rw [hee];exact Nat.beq_refl _
      rw [this] at k2;cases k2
    · rw [v1] at k2;cases k2
    · rw [v2] at k2;cases k2
  · by_cases hlt : e < nx'
    · refine buts_lt hlt fun hm=>?_
      have:=hh e hm
      simp only at hc
      rw [this] at hc;cases hc
    · simp only [rhoM_ge a4 hlt,hN] at hc;cases hc

section
variable {P : Program} {Q : Cont} {fr : Fr} {C : Heap} {Z : Frz} {nx : Nat} {base n d : Nat} {l : List (Nat × XO)} {kp : Option (List Nat)} {x i y s : X}
theorem xl_live {b off : Nat} {cs : List DV} {m : Option Nat} (hx : x.ev fr=.ptrL b off) (hC : C b=some (cs.map AV.d)) : xl fr C (.load m x)=xl (Fr.nil.put 0 (.d (.ptr cs off))) C (.load m (.t 0)):=by
  simp only [xl,hx,rowOf,hC,Option.map_some,Option.bind_some]
  rfl
theorem r_ixN {b m j : Nat} {e : Int} (hx : x.ev fr=.slL b 0 m 8) (hi : i.ev fr=.i e) (he : e=(j : Nat)) (hj : j < m) (k : R P l base kp Q nx (fr.put d (.ptrL b (j * 8))) C Z) : R P ((n,⟨some d,none,.idxS 8 x i⟩) :: l) base kp Q nx fr C Z:=by
  subst he
  refine r_p ?_ k
  simp [xp,hx,hi,intIn,hj]
theorem r_ldN {b off : Nat} {cs : List DV} {t : T} (hx : x.ev fr=.ptrL b off) (hC : C b=some (cs.map AV.d)) (hn : NodeAt cs off t) (k : R P l base kp Q nx (fr.put d (nodeA t)) C Z) : R P ((n,⟨some d,none,.load (some 8) x⟩) :: l) base kp Q nx fr C Z:=by
  refine r_l ?_ k
  rw [xl_live hx hC]
  exact ld_node' hn rfl
theorem r_ldNk {b off : Nat} {cs : List DV} {t : T} (hx : x.ev fr=.ptrL b (off + 0)) (hC : C b=some (cs.map AV.d)) (hn : NodeAt cs off t) (k : R P l base kp Q nx (fr.put d (.i t.kind)) C Z) : R P ((n,⟨some d,none,.load none x⟩) :: l) base kp Q nx fr C Z:=by
  refine r_l ?_ k
  rw [xl_live hx hC]
  exact ld_kind' hn rfl
theorem r_ldNw {b off : Nat} {cs : List DV} {k0 a0 b0 c0 d0 mn mx : Int} {subs : List T} (hx : x.ev fr=.ptrL b (off + 1)) (hC : C b=some (cs.map AV.d)) (hn : NodeAt cs off (.node k0 a0 b0 c0 d0 mn mx subs)) (k : R P l base kp Q nx (fr.put d (.agg [.d (.val (.int .u64 a0)),.d (.val (.int .u64 b0)),.d (.val (.int .u64 c0)),.d (.val (.int .u64 d0))])) C Z) : R P ((n,⟨some d,none,.load (some 4) x⟩) :: l) base kp Q nx fr C Z:=by
  refine r_l ?_ k
  rw [xl_live hx hC]
  exact ld_set hn rfl
theorem r_mkN {t : T} {id : Nat} (hx : x.ev fr=nodeA t) (hid : base + n=id) (k : R P l base kp Q nx (fr.put d (.slL id 0 1 8)) (C.put id ((encL [t]).map AV.d)) Z) : R P ((n,⟨some d,none,.mkrow [.int .i64 0,.int .u64 0,.int .u64 0,.int .u64 0,.int .u64 0,.int .i64 0,.int .i64 0,.slice none 0 0] 1 8 [(0,8,x)]⟩) :: l) base kp Q nx fr C Z:=by
  subst hid
  refine r_n (v:=.slL (base + n) 0 1 8) (r:=(encL [t]).map AV.d) ?_ k
  obtain ⟨k0,a0,b0,c0,d0,mn,mx,subs⟩:=t
  simp only [xn,List.map_cons,List.map_nil,hx]
  rfl
theorem r_appE {b c id m j : Nat} {K L : List T} (hs : s.ev fr=.slL b 0 m 8) (hx : x.ev fr=.slL c 0 j 8) (hC : C b=some ((encL K).map AV.d)) (hCc : C c=some ((encL L).map AV.d)) (hm : K.length=m) (hj : L.length=j) (hz : Z b=false) (hid : base + n=id) (hb : m + j≤100000000)
    (k : R P l base kp Q nx (fr.put d (.slL id 0 (m + j) 8)) ((C.del b).put id ((encL (K++L)).map AV.d)) Z) : R P ((n,⟨some d,none,.app [.int .i64 0,.int .u64 0,.int .u64 0,.int .u64 0,.int .u64 0,.int .i64 0,.int .i64 0,.slice none 0 0] 80 s x⟩) :: l) base kp Q nx fr C Z:=by
  refine r_appN hs hx hC hCc (by rw [List.length_map,encL_length,hm]) (by rw [List.length_map,encL_length,hj]) (one_encL L) hz hid hb ?_
  rw [encL_app,List.map_append] at k
  exact k
theorem r_appD {b id m j : Nat} {K L : List T} (hs : s.ev fr=.slL b 0 m 8) (hx : x.ev fr=.d (.sl (encL L) j)) (hC : C b=some ((encL K).map AV.d)) (hm : K.length=m) (hj : L.length=j) (hz : Z b=false) (hid : base + n=id) (hb : m + j≤100000000)
    (k : R P l base kp Q nx (fr.put d (.slL id 0 (m + j) 8)) ((C.del b).put id ((encL (K++L)).map AV.d)) Z) : R P ((n,⟨some d,none,.app [.int .i64 0,.int .u64 0,.int .u64 0,.int .u64 0,.int .u64 0,.int .i64 0,.int .i64 0,.slice none 0 0] 80 s x⟩) :: l) base kp Q nx fr C Z:=by
  subst hid hm hj
  refine r_w (v:=.slL (base + n) 0 (K.length + L.length) 8) (C':=(C.del b).put (base + n) ((encL (K++L)).map AV.d)) ?_ k
  have h2 : srcOf C 8 (.d (.sl (encL L) L.length))=some ((encL L).map AV.d,L.length):=by
    unfold srcOf
    split
    · rename_i e;cases e
    · rename_i e;cases e;rw [if_pos (encL_length L)]
    · rename_i e;cases e
    · rename_i h1 h2 h3;exact absurd rfl (h2 _ _)
  simp only [xw,List.length_cons,List.length_nil,Nat.zero_add,Nat.reduceAdd,hx,h2,Option.bind_some,hs,hC]
  rw [if_pos (one_encL L),if_pos ⟨trivial,hz,by rw [List.length_map,encL_length];omega,by omega⟩,List.take_of_length_le (by rw [List.length_map,encL_length];omega),encL_app,List.map_append]
theorem conv_rowN {ex : Nat→Bool} {id m : Nat} {L : List T} (hC : C id=some ((encL L).map AV.d)) (hm : L.length=m) (hex : ex id=false) : convC C ex 9 (.slL id 0 m 8)=some (.sl (encL L) m,if m=0 then [] else [id]):=by
  subst hm
  rcases Nat.eq_zero_or_pos L.length with h | h
  · have : L=[]:=List.length_eq_zero_iff.1 h
    subst this
    simp [convC,encL]
  · rw [if_neg (by omega)]
    exact conv_row hC (by rw [List.length_map,encL_length]) h hex (mapO_encL L)
theorem conv_rowA {ex : Nat→Bool} {id m : Nat} {L : List T} (hC : C id=some ((encL L).map AV.d)) (hm : L.length=m) (hex : ex id=false) : convA C ex (.slL id 0 m 8)=some (.d (.sl (encL L) m),if m=0 then [] else [id]):=by
  simp only [convA,conv_rowN hC hm hex,Option.map_some]
end
end Go.Sv
