/- A part of the proof of the law DeriveTells: that it answers true for every input, and that the input reads behind the call as before (no condition). -/
import Derived.Test.YtcnlgmajkclgjaaDeriveTellsG9
set_option linter.all false
set_option linter.unusedSectionVars false
set_option linter.unusedVariables false
set_option linter.unusedSimpArgs false
namespace Go.Sv
open Go Go.Proofs
def x76 : XC:=(.seq (.ops 2 [ (0,⟨some 2,none,.box (.t 0)⟩),(1,⟨some 4,none,.mv (.k (.d (.val (.bool false))))⟩)] (some [1,2])) (.seq (.ops 18 [ (0,⟨some 5,none,.load (some 8) (.t 2)⟩),(1,⟨some 6,none,.call 45 [(.t 5)] none false⟩),(2,⟨some 7,none,.mv (.t 6)⟩),(3,⟨some 8,(some (7,true)),.mv (.t 1)⟩),(4,⟨some 9,(some (7,true)),.lenT (.t 8)⟩),(5,⟨some 10,(some (7,true)),.arith .leq (.t 9) (.k (.d (.val (.int .i64 16))))⟩),(6,⟨some 11,none,.pick (.t 7) (.t 10) (.k (.d (.val (.bool false))))⟩),(7,⟨some 12,none,.mv (.t 11)⟩),(8,⟨some 13,(some (12,true)),.load (some 8) (.t 2)⟩),(9,⟨some 14,(some (12,true)),.call 32 [(.t 13)] none false⟩),(10,⟨some 15,(some (12,true)),.un .not (.t 14)⟩),(11,⟨some 16,(some (12,true)),.mv (.t 15)⟩),(12,⟨some 17,(some (16,false)),.load (some 8) (.t 2)⟩),(13,⟨some 18,(some (16,false)),.call 48 [(.t 17)] none false⟩),(14,⟨some 19,(some (16,false)),.arith .leq (.t 18) (.k (.d (.val (.int .i64 60))))⟩),(15,⟨some 20,(some (12,true)),.pick (.t 16) (.k (.d (.val (.bool true)))) (.t 19)⟩),(16,⟨some 21,none,.pick (.t 12) (.t 20) (.k (.d (.val (.bool false))))⟩),(17,⟨some 4,none,.mv (.t 21)⟩)] (some [4])) .ret))
def md76 : FuncId→Option Nat × Bool
  | _=>(none,false)
def od76 : Nat→List (List Nat) × List Nat × Option (List Nat)
  | 0=>([],[],some [1,2])
  | 1=>([],[],some [4])
  | _=>([],[],none)
theorem b76 {ags : List AV} {row : Option (List DV)} {r : AV} {row' nw : Option (List DV)} (hal : ags.length≤22) (hrow : row'.isSome=true→row.isSome=true) (h : xwp Try.prog x76 (retK [.tmp 4] row.isSome r row' nw) (St.init ags row)) : Good Try.prog 76 ags row r row' nw :=
  good_of_body' (md:=md76) (od:=od76) Try.f76 (by kernel_rfl) (by kernel_rfl) (by kernel_rfl) (by kernel_rfl) (by kernel_rfl) hal hrow h

set_option maxRecDepth 100000
set_option maxHeartbeats 4000000
attribute [local irreducible] W E R KP thenK blockK retK Good xwp aRun
def few12 (s : ByteArray) (t : T) : Bool:=decide (sizeT t 601≤200) && (decide (s.size≤16) && (!rightT t || decide (t.cnt≤60)))
theorem few76_good (s : ByteArray) (hs : s.size≤9223372036854775807) (t : T) : Good Try.prog 76 [nodeA t,.d (.val (.string s))] none (.b (few12 s t)) none none:=by
  have h45:=few_good t
  by_cases hf : sizeT t 601≤200
  case neg =>
    have ev : few12 s t=false:=by simp [few12,hf]
    rw [ev]
    rw [show decide (sizeT t 601≤200)=false by simp [hf]] at h45
    clear ev hf
    obtain ⟨k,a,b,c,d,mn,mx,subs⟩:=t
    have e0 : nodeA (T.node k a b c d mn mx subs)=.agg [.i k,.d (.val (.int .u64 a)),.d (.val (.int .u64 b)),.d (.val (.int .u64 c)),.d (.val (.int .u64 d)),.i mn,.i mx,.d (.sl (encL subs) subs.length)]:=rfl
    rw [e0] at h45 ⊢
    refine b76 (by simp) (by simp) (w_init ?_)
    unfold x76
    repeat' (first|(apply r_mvV;rfl)|(apply r_callA;rfl;rfl;exact h45)|(apply r_ldL;rfl;rfl;rfl)|(apply r_pickF;rfl)|(apply r_gF';rfl;rfl)|(apply r_gN';rfl)|(apply r_box;((conv=>lhs;simp only [Nat.reduceAdd])<;>rfl);rfl;rfl;rfl)|(apply r_nilK)|(apply k_V;rfl)|(apply k_PL;rfl)|(apply k_nil)|(apply e_ret (vs:=[.d (.val _)]);rfl)|(apply w_seq)|(apply w_ops;((conv=>lhs;simp only [Nat.reduceAdd])<;>rfl))|(apply e_thenN)|(apply w_ret))
    exact retB rfl
  have hc:=few_cnt hf
  have h32:=right8_good t (by omega)
  have h48:=size48_good 1000000 t (by omega) (by omega)
  rw [show decide (sizeT t 601≤200)=true by simp [hf]] at h45
  by_cases h40 : s.size≤16
  case neg =>
    have ev : few12 s t=false:=by simp [few12,h40]
    rw [ev]
    clear ev hf hc h32 h48
    obtain ⟨k,a,b,c,d,mn,mx,subs⟩:=t
    have e0 : nodeA (T.node k a b c d mn mx subs)=.agg [.i k,.d (.val (.int .u64 a)),.d (.val (.int .u64 b)),.d (.val (.int .u64 c)),.d (.val (.int .u64 d)),.i mn,.i mx,.d (.sl (encL subs) subs.length)]:=rfl
    rw [e0] at h45 ⊢
    refine b76 (by simp) (by simp) (w_init ?_)
    unfold x76
    repeat' (first|(apply r_mvV;rfl)|(apply r_callA;rfl;rfl;exact h45)|(apply r_ldL;rfl;rfl;rfl)|(apply r_leq;rfl;rfl;(first|(apply dT;omega)|(apply dF;omega)|rfl))|(apply r_pickT;rfl)|(apply r_pickF;rfl)|(apply r_lenT;rfl)|(apply r_gT;rfl)|(apply r_gF';rfl;rfl)|(apply r_gN';rfl)|(apply r_box;((conv=>lhs;simp only [Nat.reduceAdd])<;>rfl);rfl;rfl;rfl)|(apply r_nilK)|(apply k_V;rfl)|(apply k_PL;rfl)|(apply k_nil)|(apply e_ret (vs:=[.d (.val _)]);rfl)|(apply w_seq)|(apply w_ops;((conv=>lhs;simp only [Nat.reduceAdd])<;>rfl))|(apply e_thenN)|(apply w_ret))
    exact retB rfl
  by_cases hr : rightT t=true
  case neg =>
    have hr : rightT t=false:=by simpa using hr
    have ev : few12 s t=true:=by simp [few12,hf,h40,hr]
    rw [ev]
    rw [hr] at h32
    clear ev hf hc h48 hr
    obtain ⟨k,a,b,c,d,mn,mx,subs⟩:=t
    have e0 : nodeA (T.node k a b c d mn mx subs)=.agg [.i k,.d (.val (.int .u64 a)),.d (.val (.int .u64 b)),.d (.val (.int .u64 c)),.d (.val (.int .u64 d)),.i mn,.i mx,.d (.sl (encL subs) subs.length)]:=rfl
    rw [e0] at h45 h32 ⊢
    refine b76 (by simp) (by simp) (w_init ?_)
    unfold x76
    repeat' (first|(apply r_mvV;rfl)|(apply r_callA (f:=45);rfl;rfl;exact h45)|(apply r_callA (f:=32);rfl;rfl;exact h32)|(apply r_ldL;rfl;rfl;rfl)|(apply r_leq;rfl;rfl;(first|(apply dT;omega)|(apply dF;omega)|rfl))|(apply r_not;rfl;rfl)|(apply r_pickT;rfl)|(apply r_lenT;rfl)|(apply r_gT;rfl)|(apply r_gF';rfl;rfl)|(apply r_box;((conv=>lhs;simp only [Nat.reduceAdd])<;>rfl);rfl;rfl;rfl)|(apply r_nilK)|(apply k_V;rfl)|(apply k_PL;rfl)|(apply k_nil)|(apply e_ret (vs:=[.d (.val _)]);rfl)|(apply w_seq)|(apply w_ops;((conv=>lhs;simp only [Nat.reduceAdd])<;>rfl))|(apply e_thenN)|(apply w_ret))
    exact retB rfl
  have ev : few12 s t=decide (t.cnt≤60):=by simp [few12,hf,h40,hr]
  rw [ev]
  rw [hr] at h32
  clear ev hf hr
  generalize t.cnt=ct at h48 hc ⊢
  obtain ⟨k,a,b,c,d,mn,mx,subs⟩:=t
  have e0 : nodeA (T.node k a b c d mn mx subs)=.agg [.i k,.d (.val (.int .u64 a)),.d (.val (.int .u64 b)),.d (.val (.int .u64 c)),.d (.val (.int .u64 d)),.i mn,.i mx,.d (.sl (encL subs) subs.length)]:=rfl
  rw [e0] at h45 h32 h48 ⊢
  by_cases hv : ct≤60
  · refine b76 (by simp) (by simp) (w_init ?_)
    unfold x76
    repeat' (first|(apply r_mvV;rfl)|(apply r_callA (f:=45);rfl;rfl;exact h45)|(apply r_callA (f:=32);rfl;rfl;exact h32)|(apply r_callA (f:=48);rfl;rfl;exact h48)|(apply r_ldL;rfl;rfl;rfl)|(apply r_leq;rfl;rfl;(first|(apply dT;omega)|(apply dF;omega)|rfl))|(apply r_not;rfl;rfl)|(apply r_pickT;rfl)|(apply r_pickF;rfl)|(apply r_lenT;rfl)|(apply r_gT;rfl)|(apply r_box;((conv=>lhs;simp only [Nat.reduceAdd])<;>rfl);rfl;rfl;rfl)|(apply r_nilK)|(apply k_V;rfl)|(apply k_PL;rfl)|(apply k_nil)|(apply e_ret (vs:=[.d (.val _)]);rfl)|(apply w_seq)|(apply w_ops;((conv=>lhs;simp only [Nat.reduceAdd])<;>rfl))|(apply e_thenN)|(apply w_ret))
    exact retB (by simp [hv])
  · refine b76 (by simp) (by simp) (w_init ?_)
    unfold x76
    repeat' (first|(apply r_mvV;rfl)|(apply r_callA (f:=45);rfl;rfl;exact h45)|(apply r_callA (f:=32);rfl;rfl;exact h32)|(apply r_callA (f:=48);rfl;rfl;exact h48)|(apply r_ldL;rfl;rfl;rfl)|(apply r_leq;rfl;rfl;(first|(apply dT;omega)|(apply dF;omega)|rfl))|(apply r_not;rfl;rfl)|(apply r_pickT;rfl)|(apply r_pickF;rfl)|(apply r_lenT;rfl)|(apply r_gT;rfl)|(apply r_box;((conv=>lhs;simp only [Nat.reduceAdd])<;>rfl);rfl;rfl;rfl)|(apply r_nilK)|(apply k_V;rfl)|(apply k_PL;rfl)|(apply k_nil)|(apply e_ret (vs:=[.d (.val _)]);rfl)|(apply w_seq)|(apply w_ops;((conv=>lhs;simp only [Nat.reduceAdd])<;>rfl))|(apply e_thenN)|(apply w_ret))
    exact retB (by simp [hv])
end Go.Sv
namespace Go.Sv
open Go Go.Proofs
def x24 : XC:=(.seq (.ops 2 [ (0,⟨some 3,none,.box (.t 0)⟩),(1,⟨some 6,none,.mv (.k (.d (.val (.bool false))))⟩)] (some [1,2,3])) (.seq (.seq (.ops 8 [ (0,⟨some 13,none,.call 75 [] none false⟩),(1,⟨some 14,none,.un .not (.t 13)⟩),(2,⟨some 15,none,.mv (.t 14)⟩),(3,⟨some 16,(some (15,false)),.load (some 8) (.t 3)⟩),(4,⟨some 17,(some (15,false)),.mv (.t 1)⟩),(5,⟨some 18,(some (15,false)),.call 76 [(.t 16),(.t 17)] none false⟩),(6,⟨some 19,(some (15,false)),.un .not (.t 18)⟩),(7,⟨some 20,none,.pick (.t 15) (.k (.d (.val (.bool true)))) (.t 19)⟩)] (some [1,2,3,20])) (.cond (.t 20) (.seq (.ops 2 [ (0,⟨some 21,none,.call 75 [] none false⟩),(1,⟨some 6,none,.mv (.t 21)⟩)] (some [6])) .ret) .skip)) (.seq (.ops 9 [ (0,⟨some 23,none,.load (some 8) (.t 3)⟩),(1,⟨some 24,none,.mv (.t 2)⟩),(2,⟨some 25,none,.call 77 [(.t 23),(.t 24)] none false⟩),(3,⟨some 22,none,.mv (.t 25)⟩),(4,⟨some 26,none,.ext (.t 22) 0⟩),(5,⟨some 27,none,.ext (.t 22) 1⟩),(6,⟨some 7,none,.alloc [(.int .i64 0),(.int .u64 0),(.int .u64 0),(.int .u64 0),(.int .u64 0),(.int .i64 0),(.int .i64 0),(.slice none 0 0)]⟩),(7,⟨none,none,.store 8 (.t 7) (.t 26)⟩),(8,⟨some 8,none,.mv (.t 27)⟩)] (some [1,2,3,7,8])) (.seq (.ops 9 [ (0,⟨some 29,none,.load (some 8) (.t 3)⟩),(1,⟨some 30,none,.mv (.t 1)⟩),(2,⟨some 31,none,.call 78 [(.t 29),(.t 30)] none false⟩),(3,⟨some 28,none,.mv (.t 31)⟩),(4,⟨some 32,none,.ext (.t 28) 0⟩),(5,⟨some 33,none,.ext (.t 28) 1⟩),(6,⟨some 9,none,.alloc [(.int .i64 0),(.int .u64 0),(.int .u64 0),(.int .u64 0),(.int .u64 0),(.int .i64 0),(.int .i64 0),(.slice none 0 0)]⟩),(7,⟨none,none,.store 8 (.t 9) (.t 32)⟩),(8,⟨some 10,none,.mv (.t 33)⟩)] (some [1,2,3,7,8,9,10])) (.seq (.seq (.ops 3 [ (0,⟨some 34,none,.load (some 8) (.t 3)⟩),(1,⟨some 35,none,.call 32 [(.t 34)] none false⟩),(2,⟨some 36,none,.un .not (.t 35)⟩)] (some [1,2,3,7,8,9,10,36])) (.cond (.t 36) (.seq (.ops 17 [ (0,⟨some 37,none,.mv (.t 8)⟩),(1,⟨some 38,none,.arith .eql (.t 37) (.k (.d (.val (.int .i64 1))))⟩),(2,⟨some 39,none,.mv (.t 38)⟩),(3,⟨some 40,(some (39,true)),.mv (.t 10)⟩),(4,⟨some 41,(some (39,true)),.arith .eql (.t 40) (.k (.d (.val (.int .i64 1))))⟩),(5,⟨some 42,none,.pick (.t 39) (.t 41) (.k (.d (.val (.bool false))))⟩),(6,⟨some 43,none,.mv (.t 42)⟩),(7,⟨some 44,(some (43,true)),.load (some 8) (.t 7)⟩),(8,⟨some 45,(some (43,true)),.build [(.int .i64 0),(.int .u64 0),(.int .u64 0),(.int .u64 0),(.int .u64 0),(.int .i64 0),(.int .i64 0),(.slice none 0 0)] []⟩),(9,⟨some 46,(some (43,true)),.call 47 [(.t 44),(.t 45)] none false⟩),(10,⟨some 47,none,.pick (.t 43) (.t 46) (.k (.d (.val (.bool false))))⟩),(11,⟨some 48,none,.mv (.t 47)⟩),(12,⟨some 49,(some (48,true)),.load (some 8) (.t 9)⟩),(13,⟨some 50,(some (48,true)),.build [(.int .i64 0),(.int .u64 0),(.int .u64 0),(.int .u64 0),(.int .u64 0),(.int .i64 0),(.int .i64 0),(.slice none 0 0)] []⟩),(14,⟨some 51,(some (48,true)),.call 47 [(.t 49),(.t 50)] none false⟩),(15,⟨some 52,none,.pick (.t 48) (.t 51) (.k (.d (.val (.bool false))))⟩),(16,⟨some 6,none,.mv (.t 52)⟩)] (some [6])) .ret) .skip)) (.seq (.ops 9 [ (0,⟨some 54,none,.load (some 8) (.t 3)⟩),(1,⟨some 55,none,.mv (.t 1)⟩),(2,⟨some 56,none,.call 79 [(.t 54),(.t 55)] none false⟩),(3,⟨some 53,none,.mv (.t 56)⟩),(4,⟨some 57,none,.ext (.t 53) 0⟩),(5,⟨some 58,none,.ext (.t 53) 1⟩),(6,⟨some 11,none,.alloc [(.int .i64 0),(.int .u64 0),(.int .u64 0),(.int .u64 0),(.int .u64 0),(.int .i64 0),(.int .i64 0),(.slice none 0 0)]⟩),(7,⟨none,none,.store 8 (.t 11) (.t 57)⟩),(8,⟨some 12,none,.mv (.t 58)⟩)] (some [2,3,7,8,9,10,11,12])) (.seq (.ops 30 [ (0,⟨some 59,none,.mv (.t 8)⟩),(1,⟨some 60,none,.arith .eql (.t 59) (.k (.d (.val (.int .i64 0))))⟩),(2,⟨some 61,none,.mv (.t 60)⟩),(3,⟨some 62,(some (61,true)),.load (some 8) (.t 7)⟩),(4,⟨some 63,(some (61,true)),.load (some 8) (.t 3)⟩),(5,⟨some 64,(some (61,true)),.call 40 [(.t 63)] none false⟩),(6,⟨some 65,(some (61,true)),.mv (.t 2)⟩),(7,⟨some 66,(some (61,true)),.conv .i64 (.t 65)⟩),(8,⟨some 67,(some (61,true)),.call 80 [(.t 64),(.t 66)] none false⟩),(9,⟨some 68,(some (61,true)),.call 47 [(.t 62),(.t 67)] none false⟩),(10,⟨some 69,none,.pick (.t 61) (.t 68) (.k (.d (.val (.bool false))))⟩),(11,⟨some 70,none,.mv (.t 69)⟩),(12,⟨some 71,(some (70,true)),.load (some 8) (.t 9)⟩),(13,⟨some 72,(some (70,true)),.load (some 8) (.t 11)⟩),(14,⟨some 73,(some (70,true)),.call 47 [(.t 71),(.t 72)] none false⟩),(15,⟨some 74,none,.pick (.t 70) (.t 73) (.k (.d (.val (.bool false))))⟩),(16,⟨some 75,none,.mv (.t 74)⟩),(17,⟨some 76,(some (75,true)),.mv (.t 10)⟩),(18,⟨some 77,(some (75,true)),.arith .eql (.t 76) (.k (.d (.val (.int .i64 0))))⟩),(19,⟨some 78,(some (75,true)),.mv (.t 12)⟩),(20,⟨some 79,(some (75,true)),.beq false (.t 77) (.t 78)⟩),(21,⟨some 80,none,.pick (.t 75) (.t 79) (.k (.d (.val (.bool false))))⟩),(22,⟨some 81,none,.mv (.t 80)⟩),(23,⟨some 82,(some (81,true)),.mv (.t 12)⟩),(24,⟨some 83,(some (81,true)),.mv (.t 82)⟩),(25,⟨some 84,(some (83,false)),.mv (.t 10)⟩),(26,⟨some 85,(some (83,false)),.arith .eql (.t 84) (.k (.d (.val (.int .i64 11))))⟩),(27,⟨some 86,(some (81,true)),.pick (.t 83) (.k (.d (.val (.bool true)))) (.t 85)⟩),(28,⟨some 87,none,.pick (.t 81) (.t 86) (.k (.d (.val (.bool false))))⟩),(29,⟨some 6,none,.mv (.t 87)⟩)] (some [6])) .ret)))))))
def md24 : FuncId→Option Nat × Bool
  | _=>(none,false)
def od24 : Nat→List (List Nat) × List Nat × Option (List Nat)
  | 0=>([],[],some [1,2,3])
  | 1=>([],[],some [1,2,3,20])
  | 2=>([],[],some [6])
  | 3=>([],[],some [1,2,3,7,8])
  | 4=>([],[],some [1,2,3,7,8,9,10])
  | 5=>([],[],some [1,2,3,7,8,9,10,36])
  | 6=>([],[],some [6])
  | 7=>([],[],some [2,3,7,8,9,10,11,12])
  | 8=>([[],[0],[0,1],[0,1,2],[0,1,2],[0,1,2,4],[0,1,2],[0,1,2,6],[0,1,2,4,5,6,7],[0,1,2,3,4,5,6,7,8],[0,1,2,3,4,5,6,7,8,9],[0,1,2,3,4,5,6,7,8,9,10],[0,1,2,3,4,5,6,7,8,9,10,11],[0,1,2,3,4,5,6,7,8,9,10,11],[0,1,2,3,4,5,6,7,8,9,10,11,12,13],[0,1,2,3,4,5,6,7,8,9,10,11,12,13,14],[0,1,2,3,4,5,6,7,8,9,10,11,12,13,14,15],[0,1,2,3,4,5,6,7,8,9,10,11,12,13,14,15,16],[0,1,2,3,4,5,6,7,8,9,10,11,12,13,14,15,16,17],[0,1,2,3,4,5,6,7,8,9,10,11,12,13,14,15,16],[0,1,2,3,4,5,6,7,8,9,10,11,12,13,14,15,16,17,18,19],[0,1,2,3,4,5,6,7,8,9,10,11,12,13,14,15,16,17,18,19,20],[0,1,2,3,4,5,6,7,8,9,10,11,12,13,14,15,16,17,18,19,20,21],[0,1,2,3,4,5,6,7,8,9,10,11,12,13,14,15,16,17,18,19,20,21,22],[0,1,2,3,4,5,6,7,8,9,10,11,12,13,14,15,16,17,18,19,20,21,22,23],[0,1,2,3,4,5,6,7,8,9,10,11,12,13,14,15,16,17,18,19,20,21,22,23,24],[0,1,2,3,4,5,6,7,8,9,10,11,12,13,14,15,16,17,18,19,20,21,22,23,24,25],[0,1,2,3,4,5,6,7,8,9,10,11,12,13,14,15,16,17,18,19,20,21,22,23,24,25,26],[0,1,2,3,4,5,6,7,8,9,10,11,12,13,14,15,16,17,18,19,20,21,22,23,24,25,26,27],[0,1,2,3,4,5,6,7,8,9,10,11,12,13,14,15,16,17,18,19,20,21,22,23,24,25,26,27,28]],[0,1,2,3,4,5,6,7,8,9,10,11,12,13,14,15,16,17,18,19,20,21,22,23,24,25,26,27,28,29],some [6])
  | _=>([],[],none)
theorem b24 {ags : List AV} {row : Option (List DV)} {r : AV} {row' nw : Option (List DV)} (hal : ags.length≤88) (hrow : row'.isSome=true→row.isSome=true) (h : xwp Try.prog x24 (retK [.tmp 6] row.isSome r row' nw) (St.init ags row)) : Good Try.prog 24 ags row r row' nw :=
  good_of_body' (md:=md24) (od:=od24) Try.f24 (by kernel_rfl) (by kernel_rfl) (by kernel_rfl) (by kernel_rfl) (by kernel_rfl) hal hrow h

theorem few12_of {s : ByteArray} {t : T} (h : few12 s t=true) : t.cnt≤200∧s.size≤16:=by
  simp only [few12,Bool.and_eq_true,decide_eq_true_eq] at h
  exact ⟨few_cnt h.1,h.2.1⟩
theorem cnt_zT : zT.cnt=1:=by simp [zT,T.cnt,cntL]
theorem wdT_cnt {s : ByteArray} {t : T} (h : DOK t) : (wdT s t).cnt≤4000:=by
  unfold wdT
  cases hq : dS s t 0 s.size with
  | none=>rw [Option.getD_none,cnt_zT];omega
  | some u=>rw [Option.getD_some];exact (dS_ok h _ _ hq).1.2.2
set_option maxRecDepth 100000
set_option maxHeartbeats 4000000
attribute [local irreducible] W E R KP thenK blockK retK Good xwp aRun
theorem law24 (t : T) (s : ByteArray) (b : Int) (ht : inT t) (hs : s.size≤140737488355328) (hb : 0≤b∧b < 256) : Good Try.prog 24 [nodeA t,.d (.val (.string s)),.d (.val (.int .u8 b))] none (.b true) none none:=by
  obtain ⟨x,rfl⟩:=Int.eq_ofNat_of_zero_le hb.1
  have hx : x < 256:=by omega
  have haw:=awake75_good
  have h76:=few76_good s (by omega) t
  have ez : nodeA zT=.agg [.i 0,.d (.val (.int .u64 0)),.d (.val (.int .u64 0)),.d (.val (.int .u64 0)),.d (.val (.int .u64 0)),.i 0,.i 0,.d (.sl [] 0)]:=rfl
  by_cases hf : few12 s t=true
  case neg =>
    have hf : few12 s t=false:=by simpa using hf
    rw [hf] at h76
    clear ht hs hb hf
    obtain ⟨k,a,b,c,d,mn,mx,subs⟩:=t
    have e0 : nodeA (T.node k a b c d mn mx subs)=.agg [.i k,.d (.val (.int .u64 a)),.d (.val (.int .u64 b)),.d (.val (.int .u64 c)),.d (.val (.int .u64 d)),.i mn,.i mx,.d (.sl (encL subs) subs.length)]:=rfl
    rw [e0] at h76 ⊢
    refine b24 (by simp) (by simp) (w_init ?_)
    unfold x24
    repeat' (first|(apply r_mvV;rfl)|(apply r_ldL (v:=.agg [.i k,.d (.val (.int .u64 a)),.d (.val (.int .u64 b)),.d (.val (.int .u64 c)),.d (.val (.int .u64 d)),.i mn,.i mx,.d (.sl (encL subs) subs.length)]);rfl;rfl;rfl)|(apply r_callA (f:=75) (ags:=[]);rfl;rfl;exact haw)|(apply r_callA (f:=76);rfl;rfl;exact h76)|(apply r_not;rfl;rfl)|(apply r_pickF;rfl)|(apply r_gT;rfl)|(apply r_box;((conv=>lhs;simp only [Nat.reduceAdd])<;>rfl);rfl;rfl;rfl)|(apply r_nilK)|(apply k_V;rfl)|(apply k_PL;rfl)|(apply k_nil)|(apply e_ret (vs:=[.d (.val _)]);rfl)|(apply w_seq)|(apply w_ops;((conv=>lhs;simp only [Nat.reduceAdd])<;>rfl))|(apply w_condT;rfl)|(apply e_thenN)|(apply e_thenR)|(apply w_ret))
    exact retB rfl
  obtain ⟨hc,hsz⟩:=few12_of hf
  rw [hf] at h76
  have hokt : fitsT t 12=true→okT t:=fun h=>ok_of_right ht (by rw [right_fits];exact h)
  have h77:=By77_good hx t (by omega) hokt
  have h78:=Word78_good s (by omega) t (by omega) hokt
  have h32:=right8_good t (by omega)
  by_cases hr : rightT t=true
  case neg =>
    have hr : rightT t=false:=by simpa using hr
    have hfi : fitsT t 12=false:=by rw [← right_fits];exact hr
    rw [hr] at h32
    have e1 : sE t=1:=by simp [sE,hfi]
    have e2 : dbN x t=zT:=by simp [dbN,hfi]
    have e3 : wrN s t=zT:=by simp [wrN,hfi]
    have e4 : wrE s t=1:=by simp [wrE,hfi]
    rw [e1,e2,ez] at h77
    rw [e3,e4,ez] at h78
    have h47:=same47g_good 100 zT zT (by rw [cnt_zT];omega) (by omega)
    rw [sameT_self,ez] at h47
    clear ht hs hb hf hr hfi e1 e2 e3 e4 hokt hc
    obtain ⟨k,a,b,c,d,mn,mx,subs⟩:=t
    have e0 : nodeA (T.node k a b c d mn mx subs)=.agg [.i k,.d (.val (.int .u64 a)),.d (.val (.int .u64 b)),.d (.val (.int .u64 c)),.d (.val (.int .u64 d)),.i mn,.i mx,.d (.sl (encL subs) subs.length)]:=rfl
    rw [e0] at h76 h77 h78 h32 ⊢
    refine b24 (by simp) (by simp) (w_init ?_)
    unfold x24
    repeat' (first|(apply r_mvV;rfl)|(apply r_mvT;rfl)|(apply r_ldL (v:=.agg [.i k,.d (.val (.int .u64 a)),.d (.val (.int .u64 b)),.d (.val (.int .u64 c)),.d (.val (.int .u64 d)),.i mn,.i mx,.d (.sl (encL subs) subs.length)]);rfl;rfl;rfl)|(apply r_callA (f:=75) (ags:=[]);rfl;rfl;exact haw)|(apply r_callA (f:=76);rfl;rfl;exact h76)|(apply r_callA (f:=32) (ags:=[.agg [.i k,.d (.val (.int .u64 a)),.d (.val (.int .u64 b)),.d (.val (.int .u64 c)),.d (.val (.int .u64 d)),.i mn,.i mx,.d (.sl (encL subs) subs.length)]]);rfl;rfl;exact h32)|(apply r_callA (f:=77);rfl;rfl;exact h77)|(apply r_callA (f:=78);rfl;rfl;exact h78)|(apply r_p (v:=.agg [.i 0,.d (.val (.int .u64 0)),.d (.val (.int .u64 0)),.d (.val (.int .u64 0)),.d (.val (.int .u64 0)),.i 0,.i 0,.d (.val (.slice none 0 0))]);rfl)|(apply r_call (f:=47) (bs:=[.agg [.i 0,.d (.val (.int .u64 0)),.d (.val (.int .u64 0)),.d (.val (.int .u64 0)),.d (.val (.int .u64 0)),.i 0,.i 0,.d (.sl [] 0)],.agg [.i 0,.d (.val (.int .u64 0)),.d (.val (.int .u64 0)),.d (.val (.int .u64 0)),.d (.val (.int .u64 0)),.i 0,.i 0,.d (.sl [] 0)]]) (us:=[]);rfl;rfl;exact h47;rfl)|(apply r_ldL (v:=.agg [.i 0,.d (.val (.int .u64 0)),.d (.val (.int .u64 0)),.d (.val (.int .u64 0)),.d (.val (.int .u64 0)),.i 0,.i 0,.d (.sl [] 0)]);rfl;rfl;rfl)|(apply r_eql;rfl;rfl;(first|(apply dT;omega)|(apply dF;omega)|rfl))|(apply r_not;rfl;rfl)|(apply r_pickT;rfl)|(apply r_pickF;rfl)|(apply r_ext;rfl;rfl)|(apply r_gT;rfl)|(apply r_alloc;((conv=>lhs;simp only [Nat.reduceAdd])<;>rfl);rfl)|(apply r_box;((conv=>lhs;simp only [Nat.reduceAdd])<;>rfl);rfl;rfl;rfl)|(apply r_stL;rfl;rfl;rfl;rfl;(first|rfl|(simp only [z_nil,z_add]<;>rfl));rfl;rfl)|(apply r_nilK)|(apply k_V;rfl)|(apply k_PL;rfl)|(apply k_nil)|(apply e_ret (vs:=[.d (.val _)]);rfl)|(apply w_seq)|(apply w_ops;((conv=>lhs;simp only [Nat.reduceAdd])<;>rfl))|(apply w_condT;rfl)|(apply w_condF;rfl)|(apply e_thenN)|(apply e_thenR)|(apply w_ret)|(apply w_skip))
    exact retB rfl
  have hfi : fitsT t 12=true:=by rw [← right_fits];exact hr
  have hok:=hokt hfi
  rw [hr] at h32
  have hd:=DOK_sim hok (by omega)
  have e1 : sE t=0:=by simp [sE,hfi]
  have e2 : dbN x t=byT x (simT t):=by simp [dbN,hfi]
  have e3 : wrN s t=wdT s (simT t):=by simp [wrN,hfi]
  have e4 : wrE s t=if (dS s (simT t) 0 s.size).isSome=true then 0 else 11:=by simp [wrE,wdE,hfi]
  rw [e1,e2] at h77
  rw [e3,e4] at h78
  have h79:=Word79_good s (by omega) t (by omega) hok
  have h40:=simple40_good 4000 t (by omega) (by omega) hok
  have h80:=(rby_row hx 4000 (Nat.le_refl _)).1 (simT t) hd.1 hd.2.1 hd.2.2
  obtain ⟨_,_,_,d4⟩:=byT_ok x (simT t) hd.1 hd.2.1
  have hq:=sq_le hd.2.2
  have h47x:=same47g_good 100000000 (byT x (simT t)) (byT x (simT t)) (by omega) (Nat.le_refl _)
  have h47y:=same47g_good 100000000 (wdT s (simT t)) (wdT s (simT t)) (by have:=wdT_cnt (s:=s) hd;omega) (Nat.le_refl _)
  rw [sameT_self] at h47x h47y
  clear ht hs hb hf hr hfi e1 e2 e3 e4 hokt hc hd d4 hq hok
  generalize byT x (simT t)=u2 at h77 h80 h47x
  generalize wdT s (simT t)=u3 at h78 h79 h47y
  generalize (dS s (simT t) 0 s.size).isSome=q at h78 h79
  generalize simT t=u4 at h40 h80
  obtain ⟨k,a,b,c,d,mn,mx,subs⟩:=t
  obtain ⟨k2,a2,b2,c2,d2,mn2,mx2,subs2⟩:=u2
  obtain ⟨k3,a3,b3,c3,d3,mn3,mx3,subs3⟩:=u3
  obtain ⟨k4,a4,b4,c4,d4,mn4,mx4,subs4⟩:=u4
  have e0 : nodeA (T.node k a b c d mn mx subs)=.agg [.i k,.d (.val (.int .u64 a)),.d (.val (.int .u64 b)),.d (.val (.int .u64 c)),.d (.val (.int .u64 d)),.i mn,.i mx,.d (.sl (encL subs) subs.length)]:=rfl
  have e2 : nodeA (T.node k2 a2 b2 c2 d2 mn2 mx2 subs2)=.agg [.i k2,.d (.val (.int .u64 a2)),.d (.val (.int .u64 b2)),.d (.val (.int .u64 c2)),.d (.val (.int .u64 d2)),.i mn2,.i mx2,.d (.sl (encL subs2) subs2.length)]:=rfl
  have e3 : nodeA (T.node k3 a3 b3 c3 d3 mn3 mx3 subs3)=.agg [.i k3,.d (.val (.int .u64 a3)),.d (.val (.int .u64 b3)),.d (.val (.int .u64 c3)),.d (.val (.int .u64 d3)),.i mn3,.i mx3,.d (.sl (encL subs3) subs3.length)]:=rfl
  have e4 : nodeA (T.node k4 a4 b4 c4 d4 mn4 mx4 subs4)=.agg [.i k4,.d (.val (.int .u64 a4)),.d (.val (.int .u64 b4)),.d (.val (.int .u64 c4)),.d (.val (.int .u64 d4)),.i mn4,.i mx4,.d (.sl (encL subs4) subs4.length)]:=rfl
  rw [e0] at h76 h77 h78 h79 h32 h40 ⊢
  rw [e2] at h77 h80 h47x
  rw [e3] at h78 h79 h47y
  rw [e4] at h40 h80
  cases q with
  | true =>
    rw [if_pos rfl] at h78
    refine b24 (by simp) (by simp) (w_init ?_)
    unfold x24
    repeat' (first|(apply r_mvV;rfl)|(apply r_mvT;rfl)|(apply r_callA (f:=75) (ags:=[]);rfl;rfl;exact haw)|(apply r_callA (f:=76);rfl;rfl;exact h76)|(apply r_callA (f:=32) (ags:=[.agg [.i k,.d (.val (.int .u64 a)),.d (.val (.int .u64 b)),.d (.val (.int .u64 c)),.d (.val (.int .u64 d)),.i mn,.i mx,.d (.sl (encL subs) subs.length)]]);rfl;rfl;exact h32)|(apply r_callA (f:=77);rfl;rfl;exact h77)|(apply r_callA (f:=78);rfl;rfl;exact h78)|(apply r_callA (f:=79);rfl;rfl;exact h79)|(apply r_callA (f:=40);rfl;rfl;exact h40)|(apply r_cv64;rfl;exact hx)|(apply r_callA (f:=80);rfl;rfl;exact h80)|(apply r_callA (f:=47) (ags:=[.agg [.i k2,.d (.val (.int .u64 a2)),.d (.val (.int .u64 b2)),.d (.val (.int .u64 c2)),.d (.val (.int .u64 d2)),.i mn2,.i mx2,.d (.sl (encL subs2) subs2.length)],.agg [.i k2,.d (.val (.int .u64 a2)),.d (.val (.int .u64 b2)),.d (.val (.int .u64 c2)),.d (.val (.int .u64 d2)),.i mn2,.i mx2,.d (.sl (encL subs2) subs2.length)]]);rfl;rfl;exact h47x)|(apply r_callA (f:=47) (ags:=[.agg [.i k3,.d (.val (.int .u64 a3)),.d (.val (.int .u64 b3)),.d (.val (.int .u64 c3)),.d (.val (.int .u64 d3)),.i mn3,.i mx3,.d (.sl (encL subs3) subs3.length)],.agg [.i k3,.d (.val (.int .u64 a3)),.d (.val (.int .u64 b3)),.d (.val (.int .u64 c3)),.d (.val (.int .u64 d3)),.i mn3,.i mx3,.d (.sl (encL subs3) subs3.length)]]);rfl;rfl;exact h47y)|(apply r_ldL (v:=.agg [.i k,.d (.val (.int .u64 a)),.d (.val (.int .u64 b)),.d (.val (.int .u64 c)),.d (.val (.int .u64 d)),.i mn,.i mx,.d (.sl (encL subs) subs.length)]);rfl;rfl;rfl)|(apply r_ldL (v:=.agg [.i k2,.d (.val (.int .u64 a2)),.d (.val (.int .u64 b2)),.d (.val (.int .u64 c2)),.d (.val (.int .u64 d2)),.i mn2,.i mx2,.d (.sl (encL subs2) subs2.length)]);rfl;rfl;rfl)|(apply r_ldL (v:=.agg [.i k3,.d (.val (.int .u64 a3)),.d (.val (.int .u64 b3)),.d (.val (.int .u64 c3)),.d (.val (.int .u64 d3)),.i mn3,.i mx3,.d (.sl (encL subs3) subs3.length)]);rfl;rfl;rfl)|(apply r_eql;rfl;rfl;(first|(apply dT;omega)|(apply dF;omega)|rfl))|(apply r_not;rfl;rfl)|(apply r_beq;rfl;rfl;rfl)|(apply r_pickT;rfl)|(apply r_pickF;rfl)|(apply r_ext;rfl;rfl)|(apply r_gT;rfl)|(apply r_gF';rfl;rfl)|(apply r_alloc;((conv=>lhs;simp only [Nat.reduceAdd])<;>rfl);rfl)|(apply r_box;((conv=>lhs;simp only [Nat.reduceAdd])<;>rfl);rfl;rfl;rfl)|(apply r_stL;rfl;rfl;rfl;rfl;(first|rfl|(simp only [z_nil,z_add]<;>rfl));rfl;rfl)|(apply r_nilK)|(apply k_V;rfl)|(apply k_PL;rfl)|(apply k_nil)|(apply e_ret (vs:=[.d (.val _)]);rfl)|(apply w_seq)|(apply w_ops;((conv=>lhs;simp only [Nat.reduceAdd])<;>rfl))|(apply w_condF;rfl)|(apply e_thenN)|(apply w_ret)|(apply w_skip))
    exact retB rfl
  | false =>
    rw [if_neg (by simp)] at h78
    refine b24 (by simp) (by simp) (w_init ?_)
    unfold x24
    repeat' (first|(apply r_mvV;rfl)|(apply r_mvT;rfl)|(apply r_callA (f:=75) (ags:=[]);rfl;rfl;exact haw)|(apply r_callA (f:=76);rfl;rfl;exact h76)|(apply r_callA (f:=32) (ags:=[.agg [.i k,.d (.val (.int .u64 a)),.d (.val (.int .u64 b)),.d (.val (.int .u64 c)),.d (.val (.int .u64 d)),.i mn,.i mx,.d (.sl (encL subs) subs.length)]]);rfl;rfl;exact h32)|(apply r_callA (f:=77);rfl;rfl;exact h77)|(apply r_callA (f:=78);rfl;rfl;exact h78)|(apply r_callA (f:=79);rfl;rfl;exact h79)|(apply r_callA (f:=40);rfl;rfl;exact h40)|(apply r_cv64;rfl;exact hx)|(apply r_callA (f:=80);rfl;rfl;exact h80)|(apply r_callA (f:=47) (ags:=[.agg [.i k2,.d (.val (.int .u64 a2)),.d (.val (.int .u64 b2)),.d (.val (.int .u64 c2)),.d (.val (.int .u64 d2)),.i mn2,.i mx2,.d (.sl (encL subs2) subs2.length)],.agg [.i k2,.d (.val (.int .u64 a2)),.d (.val (.int .u64 b2)),.d (.val (.int .u64 c2)),.d (.val (.int .u64 d2)),.i mn2,.i mx2,.d (.sl (encL subs2) subs2.length)]]);rfl;rfl;exact h47x)|(apply r_callA (f:=47) (ags:=[.agg [.i k3,.d (.val (.int .u64 a3)),.d (.val (.int .u64 b3)),.d (.val (.int .u64 c3)),.d (.val (.int .u64 d3)),.i mn3,.i mx3,.d (.sl (encL subs3) subs3.length)],.agg [.i k3,.d (.val (.int .u64 a3)),.d (.val (.int .u64 b3)),.d (.val (.int .u64 c3)),.d (.val (.int .u64 d3)),.i mn3,.i mx3,.d (.sl (encL subs3) subs3.length)]]);rfl;rfl;exact h47y)|(apply r_ldL (v:=.agg [.i k,.d (.val (.int .u64 a)),.d (.val (.int .u64 b)),.d (.val (.int .u64 c)),.d (.val (.int .u64 d)),.i mn,.i mx,.d (.sl (encL subs) subs.length)]);rfl;rfl;rfl)|(apply r_ldL (v:=.agg [.i k2,.d (.val (.int .u64 a2)),.d (.val (.int .u64 b2)),.d (.val (.int .u64 c2)),.d (.val (.int .u64 d2)),.i mn2,.i mx2,.d (.sl (encL subs2) subs2.length)]);rfl;rfl;rfl)|(apply r_ldL (v:=.agg [.i k3,.d (.val (.int .u64 a3)),.d (.val (.int .u64 b3)),.d (.val (.int .u64 c3)),.d (.val (.int .u64 d3)),.i mn3,.i mx3,.d (.sl (encL subs3) subs3.length)]);rfl;rfl;rfl)|(apply r_eql;rfl;rfl;(first|(apply dT;omega)|(apply dF;omega)|rfl))|(apply r_not;rfl;rfl)|(apply r_beq;rfl;rfl;rfl)|(apply r_pickT;rfl)|(apply r_pickF;rfl)|(apply r_ext;rfl;rfl)|(apply r_gT;rfl)|(apply r_alloc;((conv=>lhs;simp only [Nat.reduceAdd])<;>rfl);rfl)|(apply r_box;((conv=>lhs;simp only [Nat.reduceAdd])<;>rfl);rfl;rfl;rfl)|(apply r_stL;rfl;rfl;rfl;rfl;(first|rfl|(simp only [z_nil,z_add]<;>rfl));rfl;rfl)|(apply r_nilK)|(apply k_V;rfl)|(apply k_PL;rfl)|(apply k_nil)|(apply e_ret (vs:=[.d (.val _)]);rfl)|(apply w_seq)|(apply w_ops;((conv=>lhs;simp only [Nat.reduceAdd])<;>rfl))|(apply w_condF;rfl)|(apply e_thenN)|(apply w_ret)|(apply w_skip))
    exact retB rfl
end Go.Sv
namespace Go.Sv
open Go Go.Proofs Go.Proofs.Ytcnlgmajkclgjaa Go.ChangeShapes Go.WideShapes Go.ChangeAt Go.RowKit
set_option linter.unusedVariables false
set_option maxRecDepth 100000

theorem try_own : ownKnob Try.prog.godebug=none:=by kernel_rfl
theorem try_laidOut : laidOutB Try.prog=true:=by kernel_rfl
theorem rowed : ∀ t ∈ [27,9,3,5,41],Try.prog.readableRec t=true∧t < Try.prog.types.size:=by
  intro t ht
  simp only [List.mem_cons,List.not_mem_nil,or_false] at ht
  rcases ht with rfl | rfl | rfl | rfl | rfl
  all_goals exact ⟨by kernel_rfl,of_decide_eq_true (by kernel_rfl)⟩

section
variable {H : Type} {enc : TypeId × Value→H}
theorem stays_all {W W' : World} {sp : Nat→Bool} (hsame : ∀ p : MemPlace,p.block < W.heap.size→W.sameAt W' p) : ∀ {ts : List TypeId} {vs : List Value} {ds : List (DataW H)} {ps : List MemPlace},(∀ t ∈ ts,Try.prog.readableRec t=true∧t < Try.prog.types.size) →
    DataW.TrodAll enc Try.prog W 0 (fun _=>true) true ts vs ds ps→(∀ p ∈ ps,p.block < W.heap.size)→(∀ p ∈ ps,sp p.block=true)→DataW.TrodAll enc Try.prog W' 0 sp true ts vs ds ps
  | [],[],[],ps,_,h,_,_=>h
  | t :: ts,v :: vs,d :: ds,ps,hr,h,hl,hs=>by
    obtain ⟨p,q,h1,h2,rfl⟩:=h
    refine ⟨p,q,WideElems.Trod_stays try_laidOut (hr t (by simp)).1 (hr t (by simp)).2 h1 (fun x hx=>hsame x (hl x (by simp [hx]))) (fun x hx=>hs x (by simp [hx])),?_,rfl⟩
    exact stays_all hsame (fun t ht=>hr t (by simp [ht])) h2 (fun x hx=>hl x (by simp [hx])) (fun x hx=>hs x (by simp [hx]))

theorem law_post {s : ChangeSpec} {f : Func} {W W' : World} {args : Array Value} {ds gs : List (DataW H)} {before : List MemPlace} (hW : DataW.Whole enc Try.prog f.params.toList s.vars false W args.toList ds gs before) (hsv : s.vars=[])
    (h1 : (s.fn H (ds++gs)).results=[.lit (.bool true)]) (h2 : (s.fn H (ds++gs)).args=ds) (h3 : (s.fn H (ds++gs)).vars=[]) (hrt : f.resultTypes=#[4]) (hb : Below W.heap.size W W')
    (hr : ∀ t ∈ f.params.toList,Try.prog.readableRec t=true∧t < Try.prog.types.size) : s.post enc Try.prog f false true false false W args (.bool true) W':=by
  have hlt:=hW.lt
  have hW0:=hW
  obtain ⟨p,q,hA,hV,rfl,_,_⟩:=hW
  rw [hsv] at hV
  obtain ⟨rfl,rfl⟩:=trodVars_none hV
  have hlt' : ∀ x ∈ p,x.block < W.heap.size:=fun x hx=>by simpa using hlt x (by simp [hx])
  refine ⟨ds,[],p++[],[],p,[],hW0,?_,?_,?_,hb.frame _,fun h=>by cases h⟩
  · rw [hrt,h1]
    exact trodAll_mk1 (shut_bool Try.underlying4 true)
  · rw [h2]
    exact stays_all (fun x hx=>hb.same hx) hr hA hlt' (fun x hx=>by simpa using hlt' x hx)
  · rw [hsv,h3];rfl

theorem Kept.below {w w' : World} (h : Kept w w' (fun k=>(none : Option (List DV)).isSome=true∧(none : Option Nat)=some k)) : Below w.heap.size w w' :=
  ⟨h.os,h.tape,h.output,h.size,fun k hk=>h.keep k hk (by simp)⟩

theorem law_calls {f : FuncId} {ags : List AV} (hg : Good Try.prog f ags none (.b true) none none) {W : World} {args : Array Value} (ha : RAs W NoA (fun _=>none) NoA args ags) : Calls Try.prog f args W fun e W'=>e=.returned (.bool true)∧Below W.heap.size W W':=by
  have hNo : (fun k=>NoA k ∨ ((none : Option (List DV)).isSome=true∧(none : Option Nat)=some k))=NoA:=by
    funext k;simp [NoA]
  have hU : (fun b : Nat=>(none : Option (List DV)).isSome=true∧b=0)=NoA:=by
    funext k;simp [NoA]
  have:=hg.2.2 W NoA none args (fun k h=>h.elim) (fun k h=>by simp at h) (fun ds h=>by cases h) (by rw [hNo,hU];exact ha)
  refine this.mono fun e W' ⟨v,nm,he,hk,_,_,_,hv⟩=>?_
  have:=hv.val_eq
  subst this
  exact ⟨he,hk.below⟩
theorem RAs.nil {W : World} : RAs W NoA (fun _=>none) NoA #[] []:=⟨rfl,fun j h=>by simp at h⟩
theorem RAs.mk : ∀ {W : World} {vs : List Value} {ags : List AV},vs.length=ags.length→(∀ (j : Nat) v a,vs[j]?=some v→ags[j]?=some a→RA W NoA (fun _=>none) NoA v a)→RAs W NoA (fun _=>none) NoA vs.toArray ags:=by
  intro W vs ags hl h
  refine ⟨by simpa using hl,fun j hj=>?_⟩
  have hj2 : j < vs.length:=by omega
  have : vs.toArray.getD j undef=vs[j]:=by simp [Array.getD,hj2]
  rw [this]
  exact h j _ _ (List.getElem?_eq_getElem hj2) (List.getElem?_eq_getElem hj)
theorem RDs.toA {W : World} {vs : List Value} {ds : List DV} (h : RDs W vs ds) : RA W NoA (fun _=>none) NoA (.agg vs.toArray) (.agg (ds.map AV.d)):=by
  refine .agg _ _ (by simpa using h.1) fun j hj=>?_
  have hj1 : j < ds.length:=by simpa using hj
  have hj2 : j < vs.length:=by rw [h.1];exact hj1
  have : vs.toArray.getD j undef=vs[j]:=by simp [Array.getD,hj2]
  rw [this,List.getElem_map]
  exact .d _ _ (h.2 j _ _ (List.getElem?_eq_getElem hj2) (List.getElem?_eq_getElem hj1))
theorem arg_node {W : World} {base : Nat} {v : Value} {d : DataW H} {p : List MemPlace} (hok : Value.okWide Try.prog W .any base 27 v) (h : DataW.Trod enc Try.prog W 0 (fun _=>true) true 27 v d p) : ∃ t : T,inT t∧RA W NoA (fun _=>none) NoA v (nodeA t):=by
  obtain ⟨n,hn⟩:=h
  obtain ⟨t,h1,h2⟩:=node_open n _ _ hn
  have hs : ∃ cs,v=.agg cs:=by
    unfold Value.okWide at hok
    rw [Try.underlying27] at hok
    obtain ⟨cs,h,_⟩:=hok
    exact ⟨cs,h⟩
  obtain ⟨cs,rfl⟩:=hs
  exact ⟨t,h1,h2.toA⟩
theorem arg_int {W : World} {n : Int} {k : IntKind} : RA W NoA (fun _=>none) NoA (.int k n) (.d (.val (.int k n))):=.d _ _ (.val _ rfl)
theorem arg_str {W : World} {s : ByteArray} : RA W NoA (fun _=>none) NoA (.string s) (.d (.val (.string s))):=.d _ _ (.val _ rfl)
end
theorem weights_str {H : Type} {P : Program} : ∀ {ts : List TypeId} {ds : List (DataW H)} (j : Nat) {t : TypeId} {s : ByteArray},(DataW.weightsEach P ts ds).all (·≤reachBytes)=true→ts[j]?=some t→ds[j]?=some (.lit (.string s.data.toList))→s.size≤140737488355328
  | [],_,j,t,s,_,h,_=>by simp at h
  | _ :: _,[],j,t,s,_,_,h=>by simp at h
  | t0 :: ts,d :: ds,0,t,s,h,h1,h2=>by
    simp at h1 h2
    subst h2
    simp only [DataW.weightsEach,DataW.weights,List.all_append,List.all_cons,Bool.and_eq_true,decide_eq_true_eq] at h
    have h3:=h.1.1
    have e : s.data.toList.length=s.size:=by simp
    rw [e] at h3
    unfold reachBytes at h3
    omega
  | t0 :: ts,d :: ds,j + 1,t,s,h,h1,h2=>by
    simp only [DataW.weightsEach,List.all_append,Bool.and_eq_true] at h
    exact weights_str j h.2 (by simpa using h1) (by simpa using h2)
theorem joined_of {P : Program} {f : FuncId} {fn : Func} {s : ChangeSpec} {c : OpenClaim}
    (k1 : (c.wf (OpenSpec.ofChange s) && laidOutB P && mapsRowed P && fn.params.all (P.readableRec ·) && namedTie P c.named s.vars && (c.stops == []) && (P.stops == []) && (c.knobs == []) && (P.stopKnobs == []))=true)
    (k2 : (c.inPlace == P.inPlace f)=true) (k3 : (c.unfollowed == P.unfollowed f)=true) (k4 : (c.recurses == P.recurses f)=true) (k5 : (c.named == P.varsNamed f)=true)
    (k6 : ((c.maps == (fn.params.toList++s.plain.varTypes P).any (P.mapsRec ·)) && (c.ifaces == (fn.params.toList++s.plain.varTypes P).any (P.ifacesRec ·)) && (c.mapsOut == P.mapsAmong fn.resultTypes.toList) &&
  (c.loops == (fn.params.toList++s.plain.varTypes P).any (P.loopsFrom ·)) && (c.wideKeys == (fn.params.toList++s.plain.varTypes P++fn.resultTypes.toList).any (P.wideKeysFrom ·)) &&
  s.vars.all (P.varReadable ·) && fn.resultTypes.all (fun t=>P.readableRec t && decide (t < P.types.size)) && (c.ifacesOut == fn.resultTypes.toList.any (P.ifacesRec ·)) && (c.loopsOut == fn.resultTypes.toList.any (P.loopsFrom ·)))=true)
    (hm : P.mayEnter=true) (hl : P.liftsFinal=c.lifted) (hk : P.make=some c.make) (k7 : ((c.plainKeys == P.plainKeys) && c.shortTexts.isNone && P.stopsHeard && (c.kinds == (if c.domain.isEmpty then [] else fn.params.toList.map fun t=>match P.underlying t with | some (.int k)=>some k | _=>none)) && (c.pinned == c.pinnedBy) &&
  (c.veiled == (fn.params.toList++s.plain.varTypes P++fn.resultTypes.toList).any (P.veiledRec ·)) && c.veiledFits P fn.params.toList (fn.params.toList++s.plain.varTypes P++fn.resultTypes.toList))=true) : joinedFacts P f fn s c=true:=by
  unfold joinedFacts
  simp only [Bool.and_eq_true] at k1 k6 k7 ⊢
  obtain ⟨⟨⟨⟨⟨⟨⟨⟨a1,a2⟩,a3⟩,a4⟩,a5⟩,a6⟩,a7⟩,a8⟩,a9⟩:=k1
  obtain ⟨⟨⟨⟨⟨⟨⟨⟨b1,b2⟩,b3⟩,b4⟩,b5⟩,b6⟩,b7⟩,b8⟩,b9⟩:=k6
  obtain ⟨⟨⟨⟨⟨⟨c1,c2⟩,c3⟩,c4⟩,c5⟩,c6⟩,c7⟩:=k7
  have d1 : (c.lifted == P.liftsFinal)=true:=by rw [hl];exact beq_self_eq_true _
  have d2 : (P.make == some c.make)=true:=by rw [hk];exact beq_self_eq_true _
  repeat' apply And.intro
  all_goals assumption
end Go.Sv
namespace Go.Sv
open Go Go.Proofs Go.Proofs.Ytcnlgmajkclgjaa
set_option maxRecDepth 100000
def orderN : List Nat:=[104,97,114,110,101,115,115,32,52,100,99,102,50,98,101,99,57,54,53,101,49,53,55,56,102,100,97,52,56,101,99,52,97,101,57,98,98,50,100,98,101,100,51,97,52,98,99,100,100,51,97,57,56,98,50,102,51,57,102,50,50,101,97,100,48,54,49,51,100,51,56,56,32,99,117,116,32,97,116,32,115,105,101,118,101,47,115,105,101,118,101,108,97,119,49,49,46,69,110,100,115,84,101,108,108,32,115,105,101,118,101,47,115,105,101,118,101,108,97,119,49,49,46,69,110,100,115,77,97,116,99,104,32,115,105,101,118,101,47,115,105,101,118,101,108,97,119,49,49,46,69,110,100,115,83,105,109,112,108,101,32,115,105,101,118,101,47,115,105,101,118,101,108,97,119,49,49,46,69,110,100,115,66,101,115,116,32,115,105,101,118,101,47,115,105,101,118,101,108,97,119,49,49,46,69,110,100,115,76,111,110,103,101,114,32,115,105,101,118,101,47,115,105,101,118,101,108,97,119,49,49,46,69,110,100,115,80,97,114,116,115,32,115,105,101,118,101,47,115,105,101,118,101,108,97,119,49,49,46,69,110,100,115,83,116,97,114,32,115,105,101,118,101,47,115,105,101,118,101,108,97,119,49,48,46,83,105,109,112,108,105,102,121,84,101,108,108,115,32,115,105,101,118,101,47,115,105,101,118,101,108,97,119,49,48,46,83,105,109,112,108,105,102,121,65,103,97,105,110,32,115,105,101,118,101,47,115,105,101,118,101,108,97,119,49,48,46,83,105,109,112,108,105,102,121,75,101,101,112,115,32,115,105,101,118,101,47,115,105,101,118,101,108,97,119,49,48,46,83,105,109,112,108,105,102,121,79,110,101,32,115,105,101,118,101,47,115,105,101,118,101,108,97,119,49,51,46,69,120,112,97,110,100,84,101,108,108,115,32,115,105,101,118,101,47,115,105,101,118,101,108,97,119,49,51,46,69,120,112,97,110,100,83,97,109,101,32,115,105,101,118,101,47,115,105,101,118,101,108,97,119,49,51,46,69,120,112,97,110,100,80,108,97,105,110,32,115,105,101,118,101,47,115,105,101,118,101,108,97,119,49,51,46,69,120,112,97,110,100,66,117,100,103,101,116,32,115,105,101,118,101,47,115,105,101,118,101,108,97,119,49,51,46,69,120,112,97,110,100,70,105,114,115,116,32,115,105,101,118,101,47,115,105,101,118,101,108,97,119,48,57,46,77,101,97,115,117,114,101,84,101,108,108,115,32,115,105,101,118,101,47,115,105,101,118,101,108,97,119,48,57,46,77,101,97,115,117,114,101,75,110,111,119,115,32,115,105,101,118,101,47,115,105,101,118,101,108,97,119,48,57,46,77,101,97,115,117,114,101,76,101,110,103,116,104,115,32,115,105,101,118,101,47,115,105,101,118,101,108,97,119,48,57,46,77,101,97,115,117,114,101,80,97,114,116,115,32,115,105,101,118,101,47,115,105,101,118,101,108,97,119,48,57,46,77,101,97,115,117,114,101,82,101,112,32,115,105,101,118,101,47,115,105,101,118,101,108,97,119,49,50,46,68,101,114,105,118,101,84,101,108,108,115,32,115,105,101,118,101,47,115,105,101,118,101,108,97,119,49,50,46,68,101,114,105,118,101,76,111,110,103,101,115,116,32,115,105,101,118,101,47,115,105,101,118,101,108,97,119,49,50,46,68,101,114,105,118,101,87,111,114,100,115,32,115,105,101,118,101,47,115,105,101,118,101,108,97,119,49,50,46,68,101,114,105,118,101,70,105,114,115,116,32,115,105,101,118,101,47,115,105,101,118,101,108,97,119,49,50,46,68,101,114,105,118,101,83,105,109,112,108,101]
theorem order_eq : Try.prog.initOrder=String.ofList (orderN.map Char.ofNat):=by kernel_rfl
theorem order_list : Try.prog.initOrder.toList=orderN.map Char.ofNat:=by rw [order_eq,String.toList_ofList]
theorem ow1 : (stripLifts liftWords (behindMainWord (wordsSigns (orderN.map Char.ofNat)))).1=[]:=by kernel_rfl
theorem ow2 : ((stripLifts liftWords (behindMainWord (wordsSigns (orderN.map Char.ofNat)))).2.head? == some "cut".toList)=true:=by kernel_rfl
theorem ow3 : ((behindMainWord (wordsSigns (orderN.map Char.ofNat))).isEmpty=false):=by kernel_rfl
theorem ow4 : ((behindMainWord (wordsSigns (orderN.map Char.ofNat))).head? == some "cut".toList)=true:=by kernel_rfl
theorem ow5 : ((behindMainWord (wordsSigns (orderN.map Char.ofNat))).head? == some "carried".toList)=false:=by kernel_rfl
theorem ow6 : ((behindMainWord (wordsSigns (orderN.map Char.ofNat))).head? == some "gc".toList)=false:=by kernel_rfl
theorem ow7 : ((behindMainWord (wordsSigns (orderN.map Char.ofNat))).head? == some "spec".toList)=false:=by kernel_rfl
theorem try_lays : Try.prog.laysLater=false:=by kernel_rfl
theorem try_refl : Try.prog.bearsReflect=false:=by kernel_rfl
theorem try_door : Try.prog.doorFits []=true:=by kernel_rfl
theorem headLifts_of {P : Program} {l : List Char} (h : P.initOrder.toList=l) (h1 : (stripLifts liftWords (behindMainWord (wordsSigns l))).1=[]) (h2 : ((stripLifts liftWords (behindMainWord (wordsSigns l))).2.head? == some "cut".toList)=true) : P.headLifts=[]:=by
  subst h
  unfold Program.headLifts
  simp only [h2,if_true,h1]
theorem try_headLifts : Try.prog.headLifts=[]:=headLifts_of order_list ow1 ow2
theorem mayEnter_of {P : Program} {l : List Char} (h : P.initOrder.toList=l) (h1 : (stripLifts liftWords (behindMainWord (wordsSigns l))).1=[]) (h2 : ((stripLifts liftWords (behindMainWord (wordsSigns l))).2.head? == some "cut".toList)=true)
    (h3 : (behindMainWord (wordsSigns l)).isEmpty=false) (k1 : P.laysLater=false) (k2 : P.bearsReflect=false) (k3 : P.doorFits []=true) : P.mayEnter=true:=by
  subst h
  unfold Program.mayEnter
  generalize behindMainWord (wordsSigns P.initOrder.toList)=q at h1 h2 h3 ⊢
  cases q with
  | nil=>cases h3
  | cons c rest =>
    have e1 : ([] : List String).contains "finals"=false:=rfl
    have e2 : ([] : List String).contains "reflectrows"=false:=rfl
    have e3 : ([] : List String).contains "leanrows"=false:=rfl
    simp only [h1,h2,k1,k2,k3,e1,e2,e3,Bool.not_false,Bool.or_true,Bool.and_true,Bool.or_self,Bool.and_self]
theorem try_mayEnter : Try.prog.mayEnter=true:=mayEnter_of order_list ow1 ow2 ow3 try_lays try_refl try_door
theorem lifts_of {P : Program} {l : List Char} (h : P.initOrder.toList=l) (h5 : ((behindMainWord (wordsSigns l)).head? == some "carried".toList)=false) (k : P.headLifts=[]) : P.liftsFinal=false:=by
  subst h
  unfold Program.liftsFinal
  rw [k]
  have e1 : ([] : List String).contains "finals"=false:=rfl
  simp only [h5,e1,Bool.false_and,Bool.or_self]
theorem try_lifts : Try.prog.liftsFinal=false:=lifts_of order_list ow5 try_headLifts
theorem make_of {P : Program} {l : List Char} (h : P.initOrder.toList=l) (h3 : (behindMainWord (wordsSigns l)).isEmpty=false) (h4 : ((behindMainWord (wordsSigns l)).head? == some "cut".toList)=true)
    (h6 : ((behindMainWord (wordsSigns l)).head? == some "gc".toList)=false) (h7 : ((behindMainWord (wordsSigns l)).head? == some "spec".toList)=false) : P.make=some .cut:=by
  subst h
  unfold Program.make
  generalize behindMainWord (wordsSigns P.initOrder.toList)=q at h3 h4 h6 h7 ⊢
  cases q with
  | nil=>cases h3
  | cons c rest =>
    simp only [List.head?_cons] at h4 h6 h7
    have g : ∀ x : List Char,(some c == some x)=(c == x):=fun x=>rfl
    rw [g] at h4 h6 h7
    simp only [h4,h6,h7,Bool.or_self,Bool.false_eq_true,if_false,Bool.true_or,if_true]
theorem try_make : Try.prog.make=some .cut:=make_of order_list ow3 ow4 ow6 ow7
end Go.Sv
