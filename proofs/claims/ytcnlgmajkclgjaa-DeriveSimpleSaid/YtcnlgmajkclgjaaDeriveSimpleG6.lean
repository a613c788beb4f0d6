/- A part of the proof of the law DeriveSimple: that it answers true for every input, and that the input reads behind the call as before (no condition). -/
import Derived.Test.YtcnlgmajkclgjaaDeriveSimpleG5
set_option linter.all false
set_option linter.unusedSectionVars false
set_option linter.unusedVariables false
set_option linter.unusedSimpArgs false
namespace Go.Sv
open Go Go.Proofs
def x93 : XC:=(.seq (.ops 1 [ (0,⟨some 2,none,.alloc [(.int .i64 0),(.int .u64 0),(.int .u64 0),(.int .u64 0),(.int .u64 0),(.int .i64 0),(.int .i64 0),(.slice none 0 0)]⟩)] (some [0,2])) (.seq (.ops 1 [ (0,⟨some 3,none,.mv (.k (.d (.val (.slice none 0 0))))⟩)] (some [0,2,3])) (.seq (.seq (.ops 1 [ (0,⟨some 4,none,.mv (.k (.d (.val (.int .i64 0))))⟩)] (some [0,2,3,4])) (.block 0 (.loop (.seq (.seq (.ops 4 [ (0,⟨some 11,none,.mv (.t 4)⟩),(1,⟨some 12,none,.mv (.t 0)⟩),(2,⟨some 13,none,.lenS (.t 12)⟩),(3,⟨some 14,none,.arith .lss (.t 11) (.t 13)⟩)] (some [0,2,3,4,14])) (.cond (.t 14) .skip (.exit 0))) (.seq (.block 1 (.seq (.ops 6 [ (0,⟨some 17,none,.mv (.t 0)⟩),(1,⟨some 18,none,.mv (.t 4)⟩),(2,⟨some 19,none,.idxS 8 (.t 17) (.t 18)⟩),(3,⟨some 20,none,.fadd 0 (.t 19)⟩),(4,⟨some 21,none,.load none (.t 20)⟩),(5,⟨some 22,none,.arith .eql (.t 21) (.k (.d (.val (.int .i64 4))))⟩)] (some [0,2,3,4,22])) (.cond (.t 22) (.ops 8 [ (0,⟨some 23,none,.mv (.t 3)⟩),(1,⟨some 24,none,.mv (.t 0)⟩),(2,⟨some 25,none,.mv (.t 4)⟩),(3,⟨some 26,none,.idxS 8 (.t 24) (.t 25)⟩),(4,⟨some 27,none,.fadd 7 (.t 26)⟩),(5,⟨some 28,none,.load none (.t 27)⟩),(6,⟨some 29,none,.app [(.int .i64 0),(.int .u64 0),(.int .u64 0),(.int .u64 0),(.int .u64 0),(.int .i64 0),(.int .i64 0),(.slice none 0 0)] 80 (.t 23) (.t 28)⟩),(7,⟨some 3,none,.mv (.t 29)⟩)] (some [0,2,3,4])) (.ops 8 [ (0,⟨some 30,none,.mv (.t 3)⟩),(1,⟨some 31,none,.mv (.t 0)⟩),(2,⟨some 32,none,.mv (.t 4)⟩),(3,⟨some 33,none,.idxS 8 (.t 31) (.t 32)⟩),(4,⟨some 34,none,.load (some 8) (.t 33)⟩),(5,⟨some 35,none,.mkrow [(.int .i64 0),(.int .u64 0),(.int .u64 0),(.int .u64 0),(.int .u64 0),(.int .i64 0),(.int .i64 0),(.slice none 0 0)] 1 8 [(0,8,(.t 34))]⟩),(6,⟨some 36,none,.app [(.int .i64 0),(.int .u64 0),(.int .u64 0),(.int .u64 0),(.int .u64 0),(.int .i64 0),(.int .i64 0),(.slice none 0 0)] 80 (.t 30) (.t 35)⟩),(7,⟨some 3,none,.mv (.t 36)⟩)] (some [0,2,3,4]))))) (.ops 3 [ (0,⟨some 15,none,.mv (.t 4)⟩),(1,⟨some 16,none,.arith .add (.t 15) (.k (.d (.val (.int .i64 1))))⟩),(2,⟨some 4,none,.mv (.t 16)⟩)] (some [0,2,3,4]))))))) (.seq (.ops 1 [ (0,⟨some 5,none,.mv (.k (.d (.val (.slice none 0 0))))⟩)] (some [2,3,5])) (.seq (.ops 1 [ (0,⟨some 6,none,.mv (.k (.d (.val (.slice none 0 0))))⟩)] (some [2,3,5,6])) (.seq (.ops 1 [ (0,⟨some 7,none,.mv (.k (.d (.val (.int .i64 (-1)))))⟩)] (some [2,3,5,6,7])) (.seq (.seq (.ops 1 [ (0,⟨some 8,none,.mv (.k (.d (.val (.int .i64 0))))⟩)] (some [2,3,5,6,7,8])) (.block 2 (.loop (.seq (.seq (.ops 4 [ (0,⟨some 37,none,.mv (.t 8)⟩),(1,⟨some 38,none,.mv (.t 3)⟩),(2,⟨some 39,none,.lenS (.t 38)⟩),(3,⟨some 40,none,.arith .lss (.t 37) (.t 39)⟩)] (some [2,3,5,6,7,8,40])) (.cond (.t 40) .skip (.exit 2))) (.seq (.block 3 (.seq (.seq (.ops 5 [ (0,⟨some 43,none,.mv (.t 3)⟩),(1,⟨some 44,none,.mv (.t 8)⟩),(2,⟨some 45,none,.idxS 8 (.t 43) (.t 44)⟩),(3,⟨some 46,none,.load (some 8) (.t 45)⟩),(4,⟨some 47,none,.call 138 [(.t 46)] none false⟩)] (some [2,3,5,6,7,8,47])) (.cond (.t 47) (.exit 3) .skip)) (.seq (.seq (.ops 6 [ (0,⟨some 48,none,.mv (.t 3)⟩),(1,⟨some 49,none,.mv (.t 8)⟩),(2,⟨some 50,none,.idxS 8 (.t 48) (.t 49)⟩),(3,⟨some 51,none,.fadd 0 (.t 50)⟩),(4,⟨some 52,none,.load none (.t 51)⟩),(5,⟨some 53,none,.arith .eql (.t 52) (.k (.d (.val (.int .i64 2))))⟩)] (some [2,3,5,6,7,8,53])) (.cond (.t 53) (.seq (.ops 9 [ (0,⟨some 54,none,.mv (.t 6)⟩),(1,⟨some 55,none,.mv (.t 3)⟩),(2,⟨some 56,none,.mv (.t 8)⟩),(3,⟨some 57,none,.idxS 8 (.t 55) (.t 56)⟩),(4,⟨some 58,none,.fadd 1 (.t 57)⟩),(5,⟨some 59,none,.load (some 4) (.t 58)⟩),(6,⟨some 60,none,.call 74 [(.t 59)] none false⟩),(7,⟨some 61,none,.app [(.int .i64 0)] 8 (.t 54) (.t 60)⟩),(8,⟨some 6,none,.mv (.t 61)⟩)] (some [2,3,5,6,7,8])) (.seq (.seq (.ops 2 [ (0,⟨some 62,none,.mv (.t 7)⟩),(1,⟨some 63,none,.arith .lss (.t 62) (.k (.d (.val (.int .i64 0))))⟩)] (some [2,3,5,6,7,8,63])) (.cond (.t 63) (.seq (.ops 3 [ (0,⟨some 64,none,.mv (.t 5)⟩),(1,⟨some 65,none,.lenS (.t 64)⟩),(2,⟨some 7,none,.mv (.t 65)⟩)] (some [2,3,5,6,7,8])) (.ops 8 [ (0,⟨some 66,none,.mv (.t 5)⟩),(1,⟨some 67,none,.mv (.t 3)⟩),(2,⟨some 68,none,.mv (.t 8)⟩),(3,⟨some 69,none,.idxS 8 (.t 67) (.t 68)⟩),(4,⟨some 70,none,.load (some 8) (.t 69)⟩),(5,⟨some 71,none,.mkrow [(.int .i64 0),(.int .u64 0),(.int .u64 0),(.int .u64 0),(.int .u64 0),(.int .i64 0),(.int .i64 0),(.slice none 0 0)] 1 8 [(0,8,(.t 70))]⟩),(6,⟨some 72,none,.app [(.int .i64 0),(.int .u64 0),(.int .u64 0),(.int .u64 0),(.int .u64 0),(.int .i64 0),(.int .i64 0),(.slice none 0 0)] 80 (.t 66) (.t 71)⟩),(7,⟨some 5,none,.mv (.t 72)⟩)] (some [2,3,5,6,7,8]))) .skip)) (.exit 3))) .skip)) (.seq (.ops 1 [ (0,⟨some 9,none,.mv (.k (.d (.val (.bool false))))⟩)] (some [2,3,5,6,7,8,9])) (.seq (.seq (.ops 1 [ (0,⟨some 10,none,.mv (.k (.d (.val (.int .i64 0))))⟩)] (some [2,3,5,6,7,8,9,10])) (.block 4 (.loop (.seq (.seq (.ops 4 [ (0,⟨some 73,none,.mv (.t 10)⟩),(1,⟨some 74,none,.mv (.t 5)⟩),(2,⟨some 75,none,.lenS (.t 74)⟩),(3,⟨some 76,none,.arith .lss (.t 73) (.t 75)⟩)] (some [2,3,5,6,7,8,9,10,76])) (.cond (.t 76) .skip (.exit 4))) (.seq (.block 5 (.ops 13 [ (0,⟨some 79,none,.mv (.t 9)⟩),(1,⟨some 80,none,.mv (.t 79)⟩),(2,⟨some 81,(some (80,false)),.mv (.t 5)⟩),(3,⟨some 82,(some (80,false)),.mv (.t 10)⟩),(4,⟨some 83,(some (80,false)),.idxS 8 (.t 81) (.t 82)⟩),(5,⟨some 84,(some (80,false)),.load (some 8) (.t 83)⟩),(6,⟨some 85,(some (80,false)),.mv (.t 3)⟩),(7,⟨some 86,(some (80,false)),.mv (.t 8)⟩),(8,⟨some 87,(some (80,false)),.idxS 8 (.t 85) (.t 86)⟩),(9,⟨some 88,(some (80,false)),.load (some 8) (.t 87)⟩),(10,⟨some 89,(some (80,false)),.call 47 [(.t 84),(.t 88)] none false⟩),(11,⟨some 90,none,.pick (.t 80) (.k (.d (.val (.bool true)))) (.t 89)⟩),(12,⟨some 9,none,.mv (.t 90)⟩)] (some [2,3,5,6,7,8,9,10]))) (.ops 3 [ (0,⟨some 77,none,.mv (.t 10)⟩),(1,⟨some 78,none,.arith .add (.t 77) (.k (.d (.val (.int .i64 1))))⟩),(2,⟨some 10,none,.mv (.t 78)⟩)] (some [2,3,5,6,7,8,9,10]))))))) (.seq (.ops 2 [ (0,⟨some 91,none,.mv (.t 9)⟩),(1,⟨some 92,none,.un .not (.t 91)⟩)] (some [2,3,5,6,7,8,92])) (.cond (.t 92) (.ops 8 [ (0,⟨some 93,none,.mv (.t 5)⟩),(1,⟨some 94,none,.mv (.t 3)⟩),(2,⟨some 95,none,.mv (.t 8)⟩),(3,⟨some 96,none,.idxS 8 (.t 94) (.t 95)⟩),(4,⟨some 97,none,.load (some 8) (.t 96)⟩),(5,⟨some 98,none,.mkrow [(.int .i64 0),(.int .u64 0),(.int .u64 0),(.int .u64 0),(.int .u64 0),(.int .i64 0),(.int .i64 0),(.slice none 0 0)] 1 8 [(0,8,(.t 97))]⟩),(6,⟨some 99,none,.app [(.int .i64 0),(.int .u64 0),(.int .u64 0),(.int .u64 0),(.int .u64 0),(.int .i64 0),(.int .i64 0),(.slice none 0 0)] 80 (.t 93) (.t 98)⟩),(7,⟨some 5,none,.mv (.t 99)⟩)] (some [2,3,5,6,7,8])) .skip))))))) (.ops 3 [ (0,⟨some 41,none,.mv (.t 8)⟩),(1,⟨some 42,none,.arith .add (.t 41) (.k (.d (.val (.int .i64 1))))⟩),(2,⟨some 8,none,.mv (.t 42)⟩)] (some [2,3,5,6,7,8]))))))) (.seq (.seq (.ops 2 [ (0,⟨some 100,none,.mv (.t 7)⟩),(1,⟨some 101,none,.arith .geq (.t 100) (.k (.d (.val (.int .i64 0))))⟩)] (some [2,5,6,7,101])) (.cond (.t 101) (.ops 7 [ (0,⟨some 102,none,.mv (.t 5)⟩),(1,⟨some 103,none,.mv (.t 7)⟩),(2,⟨some 104,none,.mv (.t 6)⟩),(3,⟨some 105,none,.call 99 [(.t 104)] none false⟩),(4,⟨some 106,none,.build [(.int .i64 0),(.int .u64 0),(.int .u64 0),(.int .u64 0),(.int .u64 0),(.int .i64 0),(.int .i64 0),(.slice none 0 0)] [(0,1,(.k (.d (.val (.int .i64 2))))),(1,4,(.t 105))]⟩),(5,⟨some 107,none,.idxS 8 (.t 102) (.t 103)⟩),(6,⟨none,none,.store 8 (.t 107) (.t 106)⟩)] (some [2,5])) .skip)) (.seq (.ops 4 [ (0,⟨some 108,none,.mv (.t 5)⟩),(1,⟨some 109,none,.build [(.int .i64 0),(.int .u64 0),(.int .u64 0),(.int .u64 0),(.int .u64 0),(.int .i64 0),(.int .i64 0),(.slice none 0 0)] [(0,1,(.k (.d (.val (.int .i64 2)))))]⟩),(2,⟨some 110,none,.call 139 [(.k (.d (.val (.int .i64 4)))),(.t 108),(.t 109)] none false⟩),(3,⟨none,none,.store 8 (.t 2) (.t 110)⟩)] (some [2])) .ret)))))))))
def md93 : FuncId→Option Nat × Bool
  | _=>(none,false)
def od93 : Nat→List (List Nat) × List Nat × Option (List Nat)
  | 0=>([],[],some [0,2])
  | 1=>([],[],some [0,2,3])
  | 2=>([],[],some [0,2,3,4])
  | 3=>([],[],some [0,2,3,4,14])
  | 4=>([],[],some [0,2,3,4])
  | 5=>([],[],some [0,2,3,4,22])
  | 6=>([],[],some [0,2,3,4])
  | 7=>([],[],some [0,2,3,4])
  | 8=>([],[],some [2,3,5])
  | 9=>([],[],some [2,3,5,6])
  | 10=>([],[],some [2,3,5,6,7])
  | 11=>([],[],some [2,3,5,6,7,8])
  | 12=>([],[],some [2,3,5,6,7,8,40])
  | 13=>([],[],some [2,3,5,6,7,8])
  | 14=>([],[],some [2,3,5,6,7,8,47])
  | 15=>([],[],some [2,3,5,6,7,8,53])
  | 16=>([],[],some [2,3,5,6,7,8])
  | 17=>([],[],some [2,3,5,6,7,8,63])
  | 18=>([],[],some [2,3,5,6,7,8])
  | 19=>([],[],some [2,3,5,6,7,8])
  | 20=>([],[],some [2,3,5,6,7,8,9])
  | 21=>([],[],some [2,3,5,6,7,8,9,10])
  | 22=>([],[],some [2,3,5,6,7,8,9,10,76])
  | 23=>([],[],some [2,3,5,6,7,8,9,10])
  | 24=>([[],[0],[0,1],[0,1],[0,1,2,3],[0,1,2,3,4],[0,1],[0,1],[0,1,6,7],[0,1,6,7,8],[0,1,2,3,4,5,6,7,8,9],[0,1,2,3,4,5,6,7,8,9,10],[0,1,2,3,4,5,6,7,8,9,10,11]],[0,1,2,3,4,5,6,7,8,9,10,11,12],some [2,3,5,6,7,8,9,10])
  | 25=>([],[],some [2,3,5,6,7,8,92])
  | 26=>([],[],some [2,3,5,6,7,8])
  | 27=>([],[],some [2,5,6,7,101])
  | 28=>([],[],some [2,5])
  | 29=>([],[],some [2])
  | _=>([],[],none)
theorem b93 {ags : List AV} {row : Option (List DV)} {r : AV} {row' nw : Option (List DV)} (hal : ags.length≤111) (hrow : row'.isSome=true→row.isSome=true) (h : xwp Try.prog x93 (retK [.cell 2 (some 8)] row.isSome r row' nw) (St.init ags row)) : Good Try.prog 93 ags row r row' nw :=
  good_of_body' (md:=md93) (od:=od93) Try.f93 (by kernel_rfl) (by kernel_rfl) (by kernel_rfl) (by kernel_rfl) (by kernel_rfl) hal hrow h

def atI : Option Nat→Int
  | none=>-1
  | some i=>(i : Nat)
section
variable {P : Program} {Q : Cont} {fr : Fr} {C : Heap} {Z : Frz} {nx : Nat} {base n d : Nat} {l : List (Nat × XO)} {kp : Option (List Nat)} {x i y s : X}
theorem r_appI {b m j id : Nat} {K L : List Int} (hs : s.ev fr=.slL b 0 m 1) (hx : x.ev fr=.d (.sl (encI L) j)) (hC : C b=some ((encI K).map AV.d)) (hz : Z b=false) (hid : base + n=id) (hm : K.length=m) (hj : L.length=j) (hb : m + j≤100000000000)
    (k : R P l base kp Q nx (fr.put d (.slL id 0 (m + j) 1)) ((C.del b).put id ((encI (K++L)).map AV.d)) Z) : R P ((n,⟨some d,none,.app [(.int .i64 0)] 8 s x⟩) :: l) base kp Q nx fr C Z:=by
  subst hid hm hj
  refine r_w (v:=.slL (base + n) 0 (K.length + L.length) 1) (C':=(C.del b).put (base + n) ((encI (K++L)).map AV.d)) ?_ k
  have h2 : srcOf C 1 (.d (.sl (encI L) L.length))=some ((encI L).map AV.d,L.length):=by
    unfold srcOf
    split
    · rename_i e;cases e
    · rename_i e;cases e;rw [if_pos (by rw [encI_len];omega)]
    · rename_i e;cases e
    · rename_i h1 h2 h3;exact absurd rfl (h2 _ _)
  have hone : ((encI L).map AV.d).all AV.one=true:=by simp [encI,AV.one]
  simp only [xw,List.length_cons,List.length_nil,Nat.zero_add,hx,h2,Option.bind_some,hs,hC]
  rw [if_pos hone,if_pos ⟨trivial,hz,by simp [encI],by omega⟩,List.take_of_length_le (by simp [encI])]
  simp [encI]
theorem encL_set : ∀ (K : List T) (j : Nat) (t : T),j < K.length→encL (K.set j t)=splice (encL K) (j * 8) (encN t)
  | u :: K,0,t,_=>by
    simp only [List.set_cons_zero,encL,splice,Nat.zero_mul,List.take_zero,List.nil_append,Nat.zero_add,encN_len]
    rw [List.drop_append_of_le_length (by rw [encN_len];omega),List.drop_of_length_le (by rw [encN_len];omega),List.nil_append]
  | u :: K,j + 1,t,h=>by
    have ih:=encL_set K j t (by simpa using h)
    simp only [List.set_cons_succ,encL,ih,splice,encN_len]
    rw [List.take_append,List.drop_append,encN_len,List.take_of_length_le (l:=encN u) (by rw [encN_len];omega),List.drop_of_length_le (l:=encN u) (by rw [encN_len];omega),List.nil_append,show (j + 1) * 8 - 8=j * 8 by omega,show (j + 1) * 8 + 8 - 8=j * 8 + 8 by omega]
    simp only [List.append_assoc]
theorem r_callS3 {f : FuncId} {xs : List X} {pre pre' post post' row : List AV} {b m : Nat} {L : List T} {r : AV} {us us' : List Nat} (ha : xs.map (X.ev fr)=pre++.slL b 0 m 8 :: post) (hn : convAs C (fun _=>false) pre=some (pre',[])) (hp : convAs C (fun _=>false) post=some (post',[])) (hC : C b=some row) (hl : row.length=m * 8) (h0 : 0 < m) (hr : mapO (convC C (fun _=>false) 8) row=some (encL L,us')) (hg : Good P f (pre'++.d (.sl (encL L) m) :: post') none r none none) (hu : (if r.scalar=true then [] else b :: us')=us)
    (k : R P l base kp Q nx (fr.put d r) C (Z.add us)) : R P ((n,⟨some d,none,.call f xs none false⟩) :: l) base kp Q nx fr C Z:=by
  subst hu
  refine r_call (bs:=pre'++.d (.sl (encL L) m) :: post') (us:=[]++((b :: us')++[])) ha ?_ hg (by simp) k
  refine convAs_app hn ?_
  simp only [convAs,convA,conv_row (ex:=fun _=>false) hC hl h0 rfl hr,Option.map_some,Option.bind_some,hp]
theorem r_callLI {f : FuncId} {xs : List X} {b m : Nat} {L : List Int} {r : AV} {us : List Nat} (ha : xs.map (X.ev fr)=[.slL b 0 m 1]) (hC : C b=some ((encI L).map AV.d)) (hm : L.length=m) (hg : Good P f [.d (.sl (encI L) m)] none r none none) (hu : (if r.scalar=true then [] else if m=0 then [] else [b])=us)
    (k : R P l base kp Q nx (fr.put d r) C (Z.add us)) : R P ((n,⟨some d,none,.call f xs none false⟩) :: l) base kp Q nx fr C Z:=by
  subst hu
  refine r_call (bs:=[.d (.sl (encI L) m)]) (us:=(if m=0 then [] else [b])++[]) ha ?_ hg (by simp) k
  simp only [convAs,convA,conv_slI (ex:=fun _=>false) rfl hC hm,Option.map_some,Option.bind_some]
end
set_option maxRecDepth 100000
set_option maxHeartbeats 4000000
attribute [local irreducible] W E R KP thenK blockK retK Good xwp aRun
theorem alt93_good (l : List T) (hc : cntL l≤30000000) (hok : ∀ t ∈ flatL 4 l,okS t) : Good Try.prog 93 [.d (.sl (encL l) l.length)] none (nodeA (altS l)) none none:=by
  have hll:=cntL_len l
  have hfl:=flatL_len 4 l
  have hfc:=cntL_flat 4 l
  have hft : ∀ i,(flatL 4 (l.take i)).length≤50000000:=fun i=>by
    have h1:=flatL_len 4 (l.take i)
    have h2:=cntL_take_le l i
    omega
  refine b93 (by simp) (by simp) (w_init ?_)
  unfold x93
  repeat' (first|(apply r_mvV;rfl)|(apply r_alloc;((conv=>lhs;simp only [Nat.reduceAdd])<;>rfl);rfl)|(apply r_nilK)|(apply k_V;rfl)|(apply k_PL;rfl)|(apply k_S;rfl)|(apply k_nil)|(apply w_seq)|(apply w_ops;((conv=>lhs;simp only [Nat.reduceAdd])<;>rfl))|(apply e_thenN)|(apply w_block))
  apply w_loopI (S:=fun i : Nat=>⟨(((Fr.nil.put 0 (.d (.sl (encL l) l.length))).put 2 (.ptrL 1 0)).put 3 (.slL 50 0 (flatL 4 (l.take i)).length 8)).put 4 (.i i),rowsOf [(1,zeroA zsN),(50,(encL (flatL 4 (l.take i))).map AV.d)],Frz.buts 100 [1,50],100⟩) (m:=fun i=>l.length - i) (I:=fun i=>i≤l.length) (i0:=0)
  · exact Nat.zero_le _
  · refine wkM [] [50] rfl ?_ ?_ rfl ?_
    · intro p hp
      simp only [List.mem_cons,List.not_mem_nil,or_false] at hp
      rcases hp with rfl | rfl
      · exact ⟨by omega,.inr ⟨rfl,_,rfl,.data rfl⟩⟩
      · exact ⟨by omega,.inl ⟨rfl,rfl⟩⟩
    · intro q hq;simp only [List.mem_cons,List.not_mem_nil,or_false] at hq;rcases hq with rfl | rfl<;>rfl
    · repeat' (first|exact FWk.nil|(apply FWk.i;rfl;(first|rfl|omega|(simp;done)))|(apply FWk.ptr;rfl;rfl;rfl;omega;rfl)|(apply FWk.d;rfl;rfl)|(apply FWk.slN;rfl;omega;rfl))
  intro i K hi hK
  dsimp only
  rcases Nat.lt_or_ge i l.length with hlt | hge
  · have hs:=NodeAt.sub hlt
    have htk:=flatL_take 4 l i hlt
    have h1:=hft i
    have h2:=hft (i + 1)
    have hsub : l[i].subs.length≤50000000:=by
      have h3:=cntL_get l i hlt
      have h4:=cntL_len l[i].subs
      have h5 : cntL l[i].subs≤l[i].cnt:=by cases l[i];simp [T.subs,T.cnt]
      omega
    by_cases hk : l[i].kind=4
    · have e : flatO 4 l[i]=l[i].subs:=by rw [flatO,if_pos hk]
      rw [e] at htk
      generalize l[i]=v at hs hk htk hsub
      repeat' (first|(apply r_mvV;rfl)|(apply r_mvS;rfl)|(apply r_mvSL;rfl)|(apply r_faddD;rfl)|(apply r_p;apply ix_sub;rfl;rfl;omega)|(apply r_l;apply ld_kind';exact hs;rfl)|(apply r_l;apply ld_subs';exact hs;rfl)|(apply r_appD (b:=50) (id:=116) (K:=flatL 4 (l.take i)) (L:=v.subs);rfl;rfl;rfl;rfl;rfl;rfl;rfl;omega)|(apply r_eql;rfl;rfl;(first|(apply dT;omega)|(apply dF;omega)|rfl))|(apply r_lss;rfl;rfl;(first|(apply dT;omega)|(apply dF;omega)|rfl))|(apply r_add;rfl;rfl;rfl;omega)|(apply r_lenD;rfl)|(apply r_nilK)|(apply k_V;rfl)|(apply k_PL;rfl)|(apply k_S;rfl)|(apply k_SL;rfl)|(apply k_nil)|(apply w_seq)|(apply w_ops;((conv=>lhs;simp only [Nat.reduceAdd])<;>rfl))|(apply w_condT;rfl)|(apply e_thenN)|(apply w_block)|(apply e_blkN)|(apply w_skip))
      apply e_thenK
      apply hK (i + 1)
      · omega
      · omega
      · rw [htk]
        refine wkM [(50,116)] [] rfl ?_ ?_ rfl ?_
        · intro p hp
          simp only [List.mem_cons,List.not_mem_nil,or_false] at hp
          rcases hp with rfl | rfl
          · exact ⟨by omega,.inr ⟨rfl,_,rfl,.data rfl⟩⟩
          · exact ⟨by omega,.inr ⟨rfl,_,rfl,.data (isD_encL _)⟩⟩
        · intro q hq;simp only [List.mem_cons,List.not_mem_nil,or_false] at hq;rcases hq with rfl | rfl<;>rfl
        · rw [List.length_append]
          repeat' (first|exact FWk.nil|(apply FWk.i;rfl;(first|rfl|omega|(simp;done)))|(apply FWk.sl;rfl;rfl;rfl;rfl;omega;rfl)|(apply FWk.ptr;rfl;rfl;rfl;omega;rfl)|(apply FWk.d;rfl;rfl))
    · have e : flatO 4 l[i]=[l[i]]:=by rw [flatO,if_neg hk]
      rw [e] at htk
      generalize l[i]=v at hs hk htk hsub
      repeat' (first|(apply r_mvV;rfl)|(apply r_mvS;rfl)|(apply r_mvSL;rfl)|(apply r_faddD;rfl)|(apply r_p;apply ix_sub;rfl;rfl;omega)|(apply r_l;apply ld_kind';exact hs;rfl)|(apply r_l;apply ld_node';exact hs;rfl)|(apply r_mkN (t:=v) (id:=115);rfl;rfl)|(apply r_appE (b:=50) (c:=115) (id:=116) (K:=flatL 4 (l.take i)) (L:=[v]) (j:=1);rfl;rfl;rfl;rfl;rfl;rfl;rfl;rfl;omega)|(apply r_eql;rfl;rfl;(first|(apply dT;omega)|(apply dF;omega)|rfl))|(apply r_lss;rfl;rfl;(first|(apply dT;omega)|(apply dF;omega)|rfl))|(apply r_add;rfl;rfl;rfl;omega)|(apply r_lenD;rfl)|(apply r_nilK)|(apply k_V;rfl)|(apply k_PL;rfl)|(apply k_S;rfl)|(apply k_SL;rfl)|(apply k_nil)|(apply w_seq)|(apply w_ops;((conv=>lhs;simp only [Nat.reduceAdd])<;>rfl))|(apply w_condT;rfl)|(apply w_condF;rfl)|(apply e_thenN)|(apply w_block)|(apply e_blkN)|(apply w_skip))
      apply e_thenK
      apply hK (i + 1)
      · omega
      · omega
      · rw [htk]
        refine wkM [(50,116)] [] rfl ?_ ?_ rfl ?_
        · intro p hp
          simp only [List.mem_cons,List.not_mem_nil,or_false] at hp
          rcases hp with rfl | rfl
          · exact ⟨by omega,.inr ⟨rfl,_,rfl,.data rfl⟩⟩
          · exact ⟨by omega,.inr ⟨rfl,_,rfl,.data (isD_encL _)⟩⟩
        · intro q hq;simp only [List.mem_cons,List.not_mem_nil,or_false] at hq;rcases hq with rfl | rfl<;>rfl
        · rw [List.length_append]
          repeat' (first|exact FWk.nil|(apply FWk.i;rfl;(first|rfl|omega|(simp;done)))|(apply FWk.sl;rfl;rfl;rfl;rfl;omega;rfl)|(apply FWk.ptr;rfl;rfl;rfl;omega;rfl)|(apply FWk.d;rfl;rfl))
  have ei : i=l.length:=by omega
  subst ei
  rw [List.take_length]
  rw [← rAlt_eq hok]
  have hcnt : ∀ t ∈ flatL 4 l,t.cnt≤30000000:=fun t ht=>by
    obtain ⟨j,hj,rfl⟩:=List.getElem_of_mem ht
    have:=cntL_get (flatL 4 l) j hj
    omega
  clear hK hft hge hi hfc
  generalize flatL 4 l=out at hfl hok hcnt ⊢
  have hrl:=rFold_len out
  have hra:=fun j=>rFold_at (out.take j)
  repeat' (first|(apply r_mvV;rfl)|(apply r_mvS;rfl)|(apply r_lss;rfl;rfl;(first|(apply dT;omega)|(apply dF;omega)|rfl))|(apply r_lenD;rfl)|(apply r_nilK)|(apply k_V;rfl)|(apply k_PL;rfl)|(apply k_S;rfl)|(apply k_SL;rfl)|(apply k_nil)|(apply w_seq)|(apply w_ops;((conv=>lhs;simp only [Nat.reduceAdd])<;>rfl))|(apply w_condF;rfl)|(apply e_thenN)|(apply w_block)|(apply e_thenX)|(apply e_blkE)|(apply w_exit))
  apply w_loopI (ι:=Nat × RS) (S:=fun p=>(fun (j : Nat) (s : RS)=>(⟨(((((Fr.nil.put 2 (.ptrL 1 0)).put 3 (.slL 50 0 out.length 8)).put 5 (.slL 51 0 s.1.length 8)).put 6 (.slL 52 0 s.2.2.length 1)).put 7 (.i (atI s.2.1))).put 8 (.i j),rowsOf [(1,zeroA zsN),(50,(encL out).map AV.d),(51,(encL s.1).map AV.d),(52,(encI (encJ s.2.2)).map AV.d)],Frz.buts 100 [1,51,52],100⟩ : St)) p.1 p.2) (m:=fun p=>out.length - p.1) (I:=fun p=>p.1≤out.length∧p.2=rFold (out.take p.1)) (i0:=(0,([],none,[])))
  · exact ⟨Nat.zero_le _,rfl⟩
  · refine wkM [(51,1000000),(52,1000001)] [51,52] rfl ?_ ?_ rfl ?_
    · intro p hp
      simp only [List.mem_cons,List.not_mem_nil,or_false] at hp
      rcases hp with rfl | rfl | rfl | rfl
      · exact ⟨by omega,.inr ⟨rfl,_,rfl,.data rfl⟩⟩
      · exact ⟨by omega,.inr ⟨rfl,_,rfl,.data (isD_encL _)⟩⟩
      · exact ⟨by omega,.inl ⟨rfl,rfl⟩⟩
      · exact ⟨by omega,.inl ⟨rfl,rfl⟩⟩
    · intro q hq;simp only [List.mem_cons,List.not_mem_nil,or_false] at hq;rcases hq with rfl | rfl | rfl<;>rfl
    · dsimp only
      repeat' (first|exact FWk.nil|(apply FWk.i;rfl;(first|rfl|omega|(simp;done)))|(apply FWk.sl;rfl;rfl;rfl;rfl;omega;rfl)|(apply FWk.ptr;rfl;rfl;rfl;omega;rfl)|(apply FWk.slN;rfl;omega;rfl))
  rintro ⟨j,s⟩ K ⟨hj,hs0⟩ hK
  dsimp only at hj hs0 hK ⊢
  have hb:=hrl j hj
  rw [← hs0] at hb
  rcases Nat.lt_or_ge j out.length with hlt | hge
  · have hs:=NodeAt.sub hlt
    have hn:=no138_good out[j]
    have hna : [nodeA out[j]].all AV.nrm=true:=by rw [List.all_cons,nodeA_nrm];rfl
    have hov:=hok out[j] (List.getElem_mem hlt)
    have hcv:=hcnt out[j] (List.getElem_mem hlt)
    have hstep : rFold (out.take (j + 1))=rStep s out[j]:=by rw [List.take_succ_eq_append_getElem hlt,rFold_snoc,hs0]
    have hb2:=hrl (j + 1) (by omega)
    have fin : ∀ s' fr C Z nx,rStep s out[j]=s'→Wk ⟨fr,C,Z,nx⟩ ((fun (j : Nat) (s : RS)=>(⟨(((((Fr.nil.put 2 (.ptrL 1 0)).put 3 (.slL 50 0 out.length 8)).put 5 (.slL 51 0 s.1.length 8)).put 6 (.slL 52 0 s.2.2.length 1)).put 7 (.i (atI s.2.1))).put 8 (.i j),rowsOf [(1,zeroA zsN),(50,(encL out).map AV.d),(51,(encL s.1).map AV.d),(52,(encI (encJ s.2.2)).map AV.d)],Frz.buts 100 [1,51,52],100⟩ : St)) (j + 1) s')→K ⟨fr,C,Z,nx⟩:=by
      intro s' fr C Z nx h1 h2
      exact hK (j + 1,s') fr C Z nx ⟨by dsimp only;omega,by rw [hstep,h1]⟩ (by dsimp only;omega) h2
    have hcl : ∀ u ∈ s.1,u.cnt≤100000000:=fun u hu=>by
      rw [hs0] at hu
      have:=hcnt u (List.mem_of_mem_take (rFold_mem _ u hu))
      omega
    clear hK hs0 hstep hok hcnt hrl hra hb2
    rcases Bool.eq_false_or_eq_true (isNo out[j]) with hq | hq
    · rw [hq] at hn
      have fin:=fun fr C Z nx=>fin s fr C Z nx (by unfold rStep;rw [if_pos hq])
      generalize out[j]=v at hs hn hna
      repeat' (first|(apply r_mvV;rfl)|(apply r_mvSL;rfl)|(apply r_ixN (j:=j);rfl;rfl;rfl;omega)|(apply r_ldN;rfl;rfl;exact hs)|(apply r_callA (ags:=[nodeA v]);rfl;exact hna;exact hn)|(apply r_lss;rfl;rfl;(first|(apply dT;omega)|(apply dF;omega)|rfl))|(apply r_add;rfl;rfl;rfl;omega)|(apply r_lenL;rfl)|(apply r_nilK)|(apply k_V;rfl)|(apply k_PL;rfl)|(apply k_SL;rfl)|(apply k_nil)|(apply w_seq)|(apply w_ops;((conv=>lhs;simp only [Nat.reduceAdd])<;>rfl))|(apply w_condT;rfl)|(apply e_thenN)|(apply w_block)|(apply e_thenX)|(apply e_blkE)|(apply w_exit)|(apply w_skip))
      apply e_thenK;apply fin
      dsimp only
      refine wkM [] [] rfl ?_ ?_ rfl ?_
      · intro p hp;simp only [List.mem_cons,List.not_mem_nil,or_false] at hp;rcases hp with rfl | rfl | rfl | rfl<;>first | exact ⟨by omega,.inr ⟨rfl,_,rfl,.data rfl⟩⟩ | exact ⟨by omega,.inr ⟨rfl,_,rfl,.data (isD_encL _)⟩⟩ | exact ⟨by omega,.inr ⟨rfl,_,rfl,.data encI_isD⟩⟩
      · intro q hq;simp only [List.mem_cons,List.not_mem_nil,or_false] at hq;rcases hq with rfl | rfl | rfl<;>rfl
      · repeat' (first|exact FWk.nil|(apply FWk.i;rfl;(first|rfl|omega|(simp;done)))|(apply FWk.sl;rfl;rfl;rfl;rfl;omega;rfl)|(apply FWk.ptr;rfl;rfl;rfl;omega;rfl))
    rw [hq] at hn
    by_cases hk : out[j].kind=2
    · have fin : ∀ s' fr C Z nx,(match s.2.1 with
          | some i=>(s.1,some i,s.2.2++bytesT out[j])
          | none=>(s.1++[out[j]],some s.1.length,s.2.2++bytesT out[j]))=s'→Wk ⟨fr,C,Z,nx⟩ ((fun (j : Nat) (s : RS)=>(⟨(((((Fr.nil.put 2 (.ptrL 1 0)).put 3 (.slL 50 0 out.length 8)).put 5 (.slL 51 0 s.1.length 8)).put 6 (.slL 52 0 s.2.2.length 1)).put 7 (.i (atI s.2.1))).put 8 (.i j),rowsOf [(1,zeroA zsN),(50,(encL out).map AV.d),(51,(encL s.1).map AV.d),(52,(encI (encJ s.2.2)).map AV.d)],Frz.buts 100 [1,51,52],100⟩ : St)) (j + 1) s')→K ⟨fr,C,Z,nx⟩:=by
        intro s' fr C Z nx h1 h2
        refine fin s' fr C Z nx ?_ h2
        unfold rStep
        rw [if_neg (by simp [hq]),if_pos hk]
        exact h1
      generalize out[j]=v at hs hn hna hov fin hk
      obtain ⟨k,a,b,c,d,mn,mx,subs⟩:=v
      simp only [T.kind] at hk
      have h74:=list74_good hov.1 hov.2.1 hov.2.2.1 hov.2.2.2
      unfold setA at h74
      have hbl:=listTo_len a b c d 256
      obtain ⟨left,at',bytes⟩:=s
      dsimp only at hb fin ⊢
      simp only [bytesT] at fin
      cases at' with
      | some q =>
        dsimp only at fin
        have fin:=fun fr C Z nx=>fin _ fr C Z nx rfl
        simp only [atI]
        repeat' (first|(apply r_mvV;rfl)|(apply r_mvSL;rfl)|(apply r_faddL;rfl)|(apply r_ixN (j:=j);rfl;rfl;rfl;omega)|(apply r_ldN;rfl;rfl;exact hs)|(apply r_callA (ags:=[nodeA (.node k a b c d mn mx subs)]);rfl;exact hna;exact hn)|(apply r_ldNk;rfl;rfl;exact hs)|(apply r_eql (r:=true);rfl;rfl;exact decide_eq_true hk)|(apply r_ldNw;rfl;rfl;exact hs)|(apply r_callA;rfl;rfl;exact h74)|(apply r_appI (b:=52) (id:=122) (K:=encJ bytes) (L:=encJ (listTo a b c d 256));rfl;rfl;rfl;rfl;rfl;exact encJ_len _;exact encJ_len _;omega)|(apply r_lss;rfl;rfl;(first|(apply dT;omega)|(apply dF;omega)|rfl))|(apply r_add;rfl;rfl;rfl;omega)|(apply r_lenL;rfl)|(apply r_nilK)|(apply k_V;rfl)|(apply k_PL;rfl)|(apply k_SL;rfl)|(apply k_nil)|(apply w_seq)|(apply w_ops;((conv=>lhs;simp only [Nat.reduceAdd])<;>rfl))|(apply w_condT;rfl)|(apply w_condF;rfl)|(apply e_thenN)|(apply w_block)|(apply e_thenX)|(apply e_blkE)|(apply w_exit)|(apply w_skip))
        apply e_thenK;apply fin
        dsimp only
        rw [← encJ_app]
        refine wkM [(52,122)] [] rfl ?_ ?_ rfl ?_
        · intro p hp;simp only [List.mem_cons,List.not_mem_nil,or_false] at hp;rcases hp with rfl | rfl | rfl | rfl<;>first | exact ⟨by omega,.inr ⟨rfl,_,rfl,.data rfl⟩⟩ | exact ⟨by omega,.inr ⟨rfl,_,rfl,.data (isD_encL _)⟩⟩ | exact ⟨by omega,.inr ⟨rfl,_,rfl,.data encI_isD⟩⟩
        · intro q hq;simp only [List.mem_cons,List.not_mem_nil,or_false] at hq;rcases hq with rfl | rfl | rfl<;>rfl
        · simp only [atI,List.length_append]
          repeat' (first|exact FWk.nil|(apply FWk.i;rfl;(first|rfl|omega|(simp;done)))|(apply FWk.sl;rfl;rfl;rfl;rfl;omega;rfl)|(apply FWk.ptr;rfl;rfl;rfl;omega;rfl))
      | none =>
        dsimp only at fin
        have fin:=fun fr C Z nx=>fin _ fr C Z nx rfl
        simp only [atI]
        repeat' (first|(apply r_mvV;rfl)|(apply r_mvSL;rfl)|(apply r_faddL;rfl)|(apply r_ixN (j:=j);rfl;rfl;rfl;omega)|(apply r_ldN;rfl;rfl;exact hs)|(apply r_callA (ags:=[nodeA (.node k a b c d mn mx subs)]);rfl;exact hna;exact hn)|(apply r_ldNk;rfl;rfl;exact hs)|(apply r_eql (r:=true);rfl;rfl;exact decide_eq_true hk)|(apply r_ldNw;rfl;rfl;exact hs)|(apply r_callA;rfl;rfl;exact h74)|(apply r_appI (b:=52) (id:=122) (K:=encJ bytes) (L:=encJ (listTo a b c d 256));rfl;rfl;rfl;rfl;rfl;exact encJ_len _;exact encJ_len _;omega)|(apply r_mkN (t:=.node k a b c d mn mx subs) (id:=134);rfl;rfl)|(apply r_appE (b:=51) (c:=134) (id:=135) (K:=left) (L:=[.node k a b c d mn mx subs]) (j:=1);rfl;rfl;rfl;rfl;rfl;rfl;rfl;rfl;omega)|(apply r_lss;rfl;rfl;(first|(apply dT;omega)|(apply dF;omega)|rfl))|(apply r_add;rfl;rfl;rfl;omega)|(apply r_lenL;rfl)|(apply r_nilK)|(apply k_V;rfl)|(apply k_PL;rfl)|(apply k_SL;rfl)|(apply k_nil)|(apply w_seq)|(apply w_ops;((conv=>lhs;simp only [Nat.reduceAdd])<;>rfl))|(apply w_condT;rfl)|(apply w_condF;rfl)|(apply e_thenN)|(apply w_block)|(apply e_thenX)|(apply e_blkE)|(apply w_exit)|(apply w_skip))
        apply e_thenK;apply fin
        dsimp only
        rw [← encJ_app]
        refine wkM [(52,122),(51,135)] [] rfl ?_ ?_ rfl ?_
        · intro p hp;simp only [List.mem_cons,List.not_mem_nil,or_false] at hp;rcases hp with rfl | rfl | rfl | rfl<;>first | exact ⟨by omega,.inr ⟨rfl,_,rfl,.data rfl⟩⟩ | exact ⟨by omega,.inr ⟨rfl,_,rfl,.data (isD_encL _)⟩⟩ | exact ⟨by omega,.inr ⟨rfl,_,rfl,.data encI_isD⟩⟩
        · intro q hq;simp only [List.mem_cons,List.not_mem_nil,or_false] at hq;rcases hq with rfl | rfl | rfl<;>rfl
        · simp only [atI,List.length_append,List.length_cons,List.length_nil]
          repeat' (first|exact FWk.nil|(apply FWk.i;rfl;(first|rfl|omega|(simp;done)))|(apply FWk.sl;rfl;rfl;rfl;rfl;omega;rfl)|(apply FWk.ptr;rfl;rfl;rfl;omega;rfl))
    · have fin : ∀ s' fr C Z nx,(if (s.1.any fun u=>sameT u out[j])=true then s else (s.1++[out[j]],s.2.1,s.2.2))=s'→Wk ⟨fr,C,Z,nx⟩ ((fun (j : Nat) (s : RS)=>(⟨(((((Fr.nil.put 2 (.ptrL 1 0)).put 3 (.slL 50 0 out.length 8)).put 5 (.slL 51 0 s.1.length 8)).put 6 (.slL 52 0 s.2.2.length 1)).put 7 (.i (atI s.2.1))).put 8 (.i j),rowsOf [(1,zeroA zsN),(50,(encL out).map AV.d),(51,(encL s.1).map AV.d),(52,(encI (encJ s.2.2)).map AV.d)],Frz.buts 100 [1,51,52],100⟩ : St)) (j + 1) s')→K ⟨fr,C,Z,nx⟩:=by
        intro s' fr C Z nx h1 h2
        refine fin s' fr C Z nx ?_ h2
        unfold rStep
        rw [if_neg (by simp [hq]),if_neg hk]
        exact h1
      generalize out[j]=v at hs hn hna hov fin hk hcv
      obtain ⟨left,at',bytes⟩:=s
      dsimp only at hb fin ⊢
      repeat' (first|(apply r_mvV;rfl)|(apply r_mvSL;rfl)|(apply r_faddL;rfl)|(apply r_ixN (j:=j);rfl;rfl;rfl;omega)|(apply r_ldN;rfl;rfl;exact hs)|(apply r_callA (ags:=[nodeA v]);rfl;exact hna;exact hn)|(apply r_ldNk;rfl;rfl;exact hs)|(apply r_eql (r:=false);rfl;rfl;exact decide_eq_false hk)|(apply r_lss;rfl;rfl;(first|(apply dT;omega)|(apply dF;omega)|rfl))|(apply r_lenL;rfl)|(apply r_nilK)|(apply k_V;rfl)|(apply k_PL;rfl)|(apply k_SL;rfl)|(apply k_nil)|(apply w_seq)|(apply w_ops;((conv=>lhs;simp only [Nat.reduceAdd])<;>rfl))|(apply w_condT;rfl)|(apply w_condF;rfl)|(apply e_thenN)|(apply w_block)|(apply w_skip))
      apply w_loopI (S:=fun q : Nat=>⟨(((((((Fr.nil.put 2 (.ptrL 1 0)).put 3 (.slL 50 0 out.length 8)).put 5 (.slL 51 0 left.length 8)).put 6 (.slL 52 0 bytes.length 1)).put 7 (.i (atI at'))).put 8 (.i j)).put 9 (.b ((left.take q).any fun u=>sameT u v))).put 10 (.i q),rowsOf [(1,zeroA zsN),(50,(encL out).map AV.d),(51,(encL left).map AV.d),(52,(encI (encJ bytes)).map AV.d)],Frz.buts 200 [1,51,52],200⟩) (m:=fun q=>left.length - q) (I:=fun q=>q≤left.length) (i0:=0)
      · exact Nat.zero_le _
      · refine wkM [] [] rfl ?_ ?_ rfl ?_
        · intro p hp;simp only [List.mem_cons,List.not_mem_nil,or_false] at hp;rcases hp with rfl | rfl | rfl | rfl<;>first | exact ⟨by omega,.inr ⟨rfl,_,rfl,.data rfl⟩⟩ | exact ⟨by omega,.inr ⟨rfl,_,rfl,.data (isD_encL _)⟩⟩ | exact ⟨by omega,.inr ⟨rfl,_,rfl,.data encI_isD⟩⟩
        · intro q hq;simp only [List.mem_cons,List.not_mem_nil,or_false] at hq;rcases hq with rfl | rfl | rfl<;>rfl
        · repeat' (first|exact FWk.nil|(apply FWk.i;rfl;(first|rfl|omega|(simp;done)))|(apply FWk.sl;rfl;rfl;rfl;rfl;omega;rfl)|(apply FWk.ptr;rfl;rfl;rfl;omega;rfl)|(apply FWk.d;rfl;rfl))
      intro q K2 hq2 hK2
      dsimp only
      rcases Nat.lt_or_ge q left.length with hlq | hgq
      · have hsq:=NodeAt.sub hlq
        have hat:=any_take (fun u=>sameT u v) left q hlq
        have h47:=same47g_good 100000000 left[q] v (hcl _ (List.getElem_mem hlq)) (by omega)
        have hnb : [nodeA left[q],nodeA v].all AV.nrm=true:=by rw [List.all_cons,nodeA_nrm,List.all_cons,nodeA_nrm];rfl
        generalize hr : sameT left[q] v=r at h47 hat
        generalize left[q]=u at hsq h47 hnb
        have fin2 : ∀ r' fr C Z nx,((left.take (q + 1)).any fun u=>sameT u v)=r'→Wk ⟨fr,C,Z,nx⟩ ⟨(((((((Fr.nil.put 2 (.ptrL 1 0)).put 3 (.slL 50 0 out.length 8)).put 5 (.slL 51 0 left.length 8)).put 6 (.slL 52 0 bytes.length 1)).put 7 (.i (atI at'))).put 8 (.i j)).put 9 (.b r')).put 10 (.i ((q + 1 : Nat) : Int)),rowsOf [(1,zeroA zsN),(50,(encL out).map AV.d),(51,(encL left).map AV.d),(52,(encI (encJ bytes)).map AV.d)],Frz.buts 200 [1,51,52],200⟩→K2 ⟨fr,C,Z,nx⟩:=by
          intro r' fr C Z nx h1 h2
          subst h1
          exact hK2 (q + 1) fr C Z nx (by omega) (by omega) h2
        rcases Bool.eq_false_or_eq_true ((left.take q).any fun u=>sameT u v) with hb0 | hb0
        · rw [hb0,Bool.true_or] at hat
          rw [hb0]
          repeat' (first|(apply r_mvV;rfl)|(apply r_mvSL;rfl)|(apply r_lss;rfl;rfl;(first|(apply dT;omega)|(apply dF;omega)|rfl))|(apply r_add;rfl;rfl;rfl;omega)|(apply r_pickT;rfl)|(apply r_lenL;rfl)|(apply r_gF';rfl;rfl)|(apply r_nilK)|(apply k_V;rfl)|(apply k_PL;rfl)|(apply k_SL;rfl)|(apply k_nil)|(apply w_seq)|(apply w_ops;((conv=>lhs;simp only [Nat.reduceAdd])<;>rfl))|(apply w_condT;rfl)|(apply e_thenN)|(apply w_block)|(apply e_blkN)|(apply w_skip))
          apply e_thenK;apply fin2 true _ _ _ _ hat
          refine wkM [] [] rfl ?_ ?_ rfl ?_
          · intro p hp;simp only [List.mem_cons,List.not_mem_nil,or_false] at hp;rcases hp with rfl | rfl | rfl | rfl<;>first | exact ⟨by omega,.inr ⟨rfl,_,rfl,.data rfl⟩⟩ | exact ⟨by omega,.inr ⟨rfl,_,rfl,.data (isD_encL _)⟩⟩ | exact ⟨by omega,.inr ⟨rfl,_,rfl,.data encI_isD⟩⟩
          · intro q hq;simp only [List.mem_cons,List.not_mem_nil,or_false] at hq;rcases hq with rfl | rfl | rfl<;>rfl
          · repeat' (first|exact FWk.nil|(apply FWk.i;rfl;(first|rfl|omega|(simp;done)))|(apply FWk.sl;rfl;rfl;rfl;rfl;omega;rfl)|(apply FWk.ptr;rfl;rfl;rfl;omega;rfl)|(apply FWk.d;rfl;rfl))
        · rw [hb0,Bool.false_or] at hat
          rw [hb0]
          repeat' (first|(apply r_mvV;rfl)|(apply r_mvSL;rfl)|(apply r_ixN (j:=q) (b:=51);rfl;rfl;rfl;omega)|(apply r_ixN (j:=j) (b:=50);rfl;rfl;rfl;omega)|(apply r_ldN;rfl;rfl;exact hsq)|(apply r_ldN;rfl;rfl;exact hs)|(apply r_callA (ags:=[nodeA u,nodeA v]);rfl;exact hnb;exact h47)|(apply r_lss;rfl;rfl;(first|(apply dT;omega)|(apply dF;omega)|rfl))|(apply r_add;rfl;rfl;rfl;omega)|(apply r_pickF;rfl)|(apply r_lenL;rfl)|(apply r_gT;rfl)|(apply r_nilK)|(apply k_V;rfl)|(apply k_PL;rfl)|(apply k_SL;rfl)|(apply k_nil)|(apply w_seq)|(apply w_ops;((conv=>lhs;simp only [Nat.reduceAdd])<;>rfl))|(apply w_condT;rfl)|(apply e_thenN)|(apply w_block)|(apply e_blkN)|(apply w_skip))
          apply e_thenK;apply fin2 r _ _ _ _ hat
          refine wkM [] [] rfl ?_ ?_ rfl ?_
          · intro p hp;simp only [List.mem_cons,List.not_mem_nil,or_false] at hp;rcases hp with rfl | rfl | rfl | rfl<;>first | exact ⟨by omega,.inr ⟨rfl,_,rfl,.data rfl⟩⟩ | exact ⟨by omega,.inr ⟨rfl,_,rfl,.data (isD_encL _)⟩⟩ | exact ⟨by omega,.inr ⟨rfl,_,rfl,.data encI_isD⟩⟩
          · intro q hq;simp only [List.mem_cons,List.not_mem_nil,or_false] at hq;rcases hq with rfl | rfl | rfl<;>rfl
          · repeat' (first|exact FWk.nil|(apply FWk.i;rfl;(first|rfl|omega|(simp;done)))|(apply FWk.sl;rfl;rfl;rfl;rfl;omega;rfl)|(apply FWk.ptr;rfl;rfl;rfl;omega;rfl)|(apply FWk.d;rfl;rfl))
      · have eq : q=left.length:=by omega
        subst eq
        rw [List.take_length]
        rcases Bool.eq_false_or_eq_true (left.any fun u=>sameT u v) with hb0 | hb0
        · rw [hb0] at fin ⊢
          have fin:=fun fr C Z nx=>fin _ fr C Z nx (if_pos rfl)
          repeat' (first|(apply r_mvV;rfl)|(apply r_mvSL;rfl)|(apply r_lss;rfl;rfl;(first|(apply dT;omega)|(apply dF;omega)|rfl))|(apply r_add;rfl;rfl;rfl;omega)|(apply r_not;rfl;rfl)|(apply r_lenL;rfl)|(apply r_nilK)|(apply k_V;rfl)|(apply k_PL;rfl)|(apply k_SL;rfl)|(apply k_nil)|(apply w_seq)|(apply w_ops;((conv=>lhs;simp only [Nat.reduceAdd])<;>rfl))|(apply w_condF;rfl)|(apply e_thenN)|(apply e_thenX)|(apply e_blkN)|(apply e_blkE)|(apply w_exit)|(apply w_skip))
          apply e_thenK;apply fin
          dsimp only
          refine wkM [] [] rfl ?_ ?_ rfl ?_
          · intro p hp;simp only [List.mem_cons,List.not_mem_nil,or_false] at hp;rcases hp with rfl | rfl | rfl | rfl<;>first | exact ⟨by omega,.inr ⟨rfl,_,rfl,.data rfl⟩⟩ | exact ⟨by omega,.inr ⟨rfl,_,rfl,.data (isD_encL _)⟩⟩ | exact ⟨by omega,.inr ⟨rfl,_,rfl,.data encI_isD⟩⟩
          · intro q hq;simp only [List.mem_cons,List.not_mem_nil,or_false] at hq;rcases hq with rfl | rfl | rfl<;>rfl
          · repeat' (first|exact FWk.nil|(apply FWk.i;rfl;(first|rfl|omega|(simp;done)))|(apply FWk.sl;rfl;rfl;rfl;rfl;omega;rfl)|(apply FWk.ptr;rfl;rfl;rfl;omega;rfl))
        · rw [hb0] at fin ⊢
          have fin:=fun fr C Z nx=>fin _ fr C Z nx (if_neg (by simp))
          repeat' (first|(apply r_mvV;rfl)|(apply r_mvSL;rfl)|(apply r_ixN (j:=j);rfl;rfl;rfl;omega)|(apply r_ldN;rfl;rfl;exact hs)|(apply r_mkN (t:=v) (id:=211);rfl;rfl)|(apply r_appE (b:=51) (c:=211) (id:=212) (K:=left) (L:=[v]) (j:=1);rfl;rfl;rfl;rfl;rfl;rfl;rfl;rfl;omega)|(apply r_lss;rfl;rfl;(first|(apply dT;omega)|(apply dF;omega)|rfl))|(apply r_add;rfl;rfl;rfl;omega)|(apply r_not;rfl;rfl)|(apply r_lenL;rfl)|(apply r_nilK)|(apply k_V;rfl)|(apply k_PL;rfl)|(apply k_SL;rfl)|(apply k_nil)|(apply w_seq)|(apply w_ops;((conv=>lhs;simp only [Nat.reduceAdd])<;>rfl))|(apply w_condT;rfl)|(apply w_condF;rfl)|(apply e_thenN)|(apply e_thenX)|(apply e_blkN)|(apply e_blkE)|(apply w_exit))
          apply e_thenK;apply fin
          dsimp only
          refine wkM [(51,212)] [] rfl ?_ ?_ rfl ?_
          · intro p hp;simp only [List.mem_cons,List.not_mem_nil,or_false] at hp;rcases hp with rfl | rfl | rfl | rfl<;>first | exact ⟨by omega,.inr ⟨rfl,_,rfl,.data rfl⟩⟩ | exact ⟨by omega,.inr ⟨rfl,_,rfl,.data (isD_encL _)⟩⟩ | exact ⟨by omega,.inr ⟨rfl,_,rfl,.data encI_isD⟩⟩
          · intro q hq;simp only [List.mem_cons,List.not_mem_nil,or_false] at hq;rcases hq with rfl | rfl | rfl<;>rfl
          · simp only [List.length_append,List.length_cons,List.length_nil]
            repeat' (first|exact FWk.nil|(apply FWk.i;rfl;(first|rfl|omega|(simp;done)))|(apply FWk.sl;rfl;rfl;rfl;rfl;omega;rfl)|(apply FWk.ptr;rfl;rfl;rfl;omega;rfl))
  · have ej : j=out.length:=by omega
    subst ej
    rw [List.take_length] at hs0
    have hs1:=rFold_at out
    have hlt256 : ∀ x ∈ s.2.2,x < 256:=by rw [hs0];exact rFold_lt out
    rw [← hs0] at hs1 ⊢
    clear hK hj hge hs0 hrl hra hok hcnt
    obtain ⟨left,at',bytes⟩:=s
    dsimp only at hb hs1 hlt256 ⊢
    cases at' with
    | none =>
      simp only [atI,rFin]
      have hof:=of139_good 4 left noneT (by omega)
      generalize ofT 4 left noneT=u at hof
      obtain ⟨k2,a2,b2,c2,d2,mn2,mx2,subs2⟩:=u
      match left,hof with
      | [],hof =>
        simp only [List.length_nil] at hof ⊢
        repeat' (first|(apply r_mvV;rfl)|(apply r_mvSL;rfl)|(apply r_p (v:=.agg [.i 2,.d (.val (.int .u64 0)),.d (.val (.int .u64 0)),.d (.val (.int .u64 0)),.d (.val (.int .u64 0)),.i 0,.i 0,.d (.val (.slice none 0 0))]);rfl)|(apply r_callS2 (pre:=[.i 4]) (pre':=[.i 4]) (post:=[.agg [.i 2,.d (.val (.int .u64 0)),.d (.val (.int .u64 0)),.d (.val (.int .u64 0)),.d (.val (.int .u64 0)),.i 0,.i 0,.d (.val (.slice none 0 0))]]) (post':=[nodeA noneT]) (b:=51) (L:=[]) (us:=[]);rfl;rfl;rfl;rfl;rfl;exact hof;rfl)|(apply r_lss;rfl;rfl;(first|(apply dT;omega)|(apply dF;omega)|rfl))|(apply r_geq;rfl;rfl;(first|(apply dT;omega)|(apply dF;omega)|rfl))|(apply r_lenL;rfl)|(apply r_stL;rfl;rfl;rfl;rfl;(first|rfl|(simp only [z_nil,z_add]<;>rfl));rfl;rfl)|(apply r_nilK)|(apply k_V;rfl)|(apply k_PL;rfl)|(apply k_SL;rfl)|(apply k_nil)|(apply e_ret;rfl)|(apply w_seq)|(apply w_ops;((conv=>lhs;simp only [Nat.reduceAdd])<;>rfl))|(apply w_condF;rfl)|(apply e_thenN)|(apply e_thenX)|(apply e_blkE)|(apply w_exit)|(apply w_ret)|(apply w_skip))
        exact .data _ rfl
      | x :: r,hof =>
        simp only [List.length_cons] at hof ⊢
        repeat' (first|(apply r_mvV;rfl)|(apply r_mvSL;rfl)|(apply r_p (v:=.agg [.i 2,.d (.val (.int .u64 0)),.d (.val (.int .u64 0)),.d (.val (.int .u64 0)),.d (.val (.int .u64 0)),.i 0,.i 0,.d (.val (.slice none 0 0))]);rfl)|(apply r_callS2 (pre:=[.i 4]) (pre':=[.i 4]) (post:=[.agg [.i 2,.d (.val (.int .u64 0)),.d (.val (.int .u64 0)),.d (.val (.int .u64 0)),.d (.val (.int .u64 0)),.i 0,.i 0,.d (.val (.slice none 0 0))]]) (post':=[nodeA noneT]) (b:=51) (L:=x :: r) (us:=[51]);rfl;rfl;rfl;rfl;rfl;exact hof;rfl)|(apply r_lss;rfl;rfl;(first|(apply dT;omega)|(apply dF;omega)|rfl))|(apply r_geq;rfl;rfl;(first|(apply dT;omega)|(apply dF;omega)|rfl))|(apply r_lenL;rfl)|(apply r_stL;rfl;rfl;rfl;rfl;(first|rfl|(simp only [z_nil,z_add]<;>rfl));rfl;rfl)|(apply r_nilK)|(apply k_V;rfl)|(apply k_PL;rfl)|(apply k_SL;rfl)|(apply k_nil)|(apply e_ret;rfl)|(apply w_seq)|(apply w_ops;((conv=>lhs;simp only [Nat.reduceAdd])<;>rfl))|(apply w_condF;rfl)|(apply e_thenN)|(apply e_thenX)|(apply e_blkE)|(apply w_exit)|(apply w_ret)|(apply w_skip))
        exact .data _ rfl
    | some q =>
      have hq:=hs1 q rfl
      have h99:=set99_good bytes hlt256 (by omega)
      have hsl : (left.set q (setN (setWs bytes))).length=left.length:=List.length_set
      have hof:=of139_good 4 (left.set q (setN (setWs bytes))) noneT (by omega)
      obtain ⟨hwk,_⟩:=setWs_ok hlt256
      simp only [atI,rFin]
      generalize ofT 4 (left.set q (setN (setWs bytes))) noneT=u at hof
      rw [hsl] at hof
      generalize setWs bytes=ws at h99 hof hwk hsl
      match ws,hwk.1,h99,hof,hsl with
      | [w0,w1,w2,w3],_,h99,hof,hsl =>
      obtain ⟨k2,a2,b2,c2,d2,mn2,mx2,subs2⟩:=u
      have hrow : splice ((encL left).map AV.d) (q * 8) [.i 2,.d (.val (.int .u64 w0)),.d (.val (.int .u64 w1)),.d (.val (.int .u64 w2)),.d (.val (.int .u64 w3)),.i 0,.i 0,.d (.val (.slice none 0 0))]=((encL left).take (q * 8)).map AV.d++([.i 2,.d (.val (.int .u64 w0)),.d (.val (.int .u64 w1)),.d (.val (.int .u64 w2)),.d (.val (.int .u64 w3)),.i 0,.i 0,.d (.val (.slice none 0 0))]++((encL left).drop (q * 8 + 8)).map AV.d):=by
        simp only [splice,List.map_take,List.map_drop,List.length_cons,List.length_nil,List.append_assoc]
      have hcv : ∀ C,mapO (convC C (fun _=>false) 8) (splice ((encL left).map AV.d) (q * 8) [.i 2,.d (.val (.int .u64 w0)),.d (.val (.int .u64 w1)),.d (.val (.int .u64 w2)),.d (.val (.int .u64 w3)),.i 0,.i 0,.d (.val (.slice none 0 0))])=some (encL (left.set q (setN [w0,w1,w2,w3])),[]):=by
        intro C
        rw [hrow,encL_set left q _ hq,splice,encN_len,List.append_assoc]
        have hn1 : ∀ l : List DV,(∀ x ∈ l,x.norm=x)→mapO (convC C (fun _=>false) 8) (l.map AV.d)=some (l,[]):=by
          intro l hl
          rw [mapO_d]
          congr 2
          exact (List.map_congr_left hl).trans (List.map_id l)
        have hnn : ∀ x ∈ encL left,x.norm=x:=by
          intro x hx
          have h:=encL_norm left
          exact List.map_inj_left.1 (h.trans (List.map_id _).symm) x hx
        have e1:=hn1 ((encL left).take (q * 8)) fun x hx=>hnn x (List.mem_of_mem_take hx)
        have e2 : mapO (convC C (fun _=>false) 8) [.i 2,.d (.val (.int .u64 w0)),.d (.val (.int .u64 w1)),.d (.val (.int .u64 w2)),.d (.val (.int .u64 w3)),.i 0,.i 0,.d (.val (.slice none 0 0))]=some (encN (setN [w0,w1,w2,w3]),[]):=rfl
        have e3:=hn1 ((encL left).drop (q * 8 + 8)) fun x hx=>hnn x (List.mem_of_mem_drop hx)
        exact mapO_app _ _ _ _ _ _ _ e1 (mapO_app _ _ _ _ _ _ _ e2 e3)
      have hrl : (splice ((encL left).map AV.d) (q * 8) [.i 2,.d (.val (.int .u64 w0)),.d (.val (.int .u64 w1)),.d (.val (.int .u64 w2)),.d (.val (.int .u64 w3)),.i 0,.i 0,.d (.val (.slice none 0 0))]).length=left.length * 8:=by
        rw [splice_length _ _ _ (by rw [List.length_map,encL_length];simp;omega),List.length_map,encL_length]
      have hst : ([AV.i 2,.d (.val (.int .u64 w0)),.d (.val (.int .u64 w1)),.d (.val (.int .u64 w2)),.d (.val (.int .u64 w3)),.i 0,.i 0,.d (.val (.slice none 0 0))].length == 8 && Nat.ble (q * 8 + 8) ((encL left).map AV.d).length && [AV.i 2,.d (.val (.int .u64 w0)),.d (.val (.int .u64 w1)),.d (.val (.int .u64 w2)),.d (.val (.int .u64 w3)),.i 0,.i 0,.d (.val (.slice none 0 0))].all AV.one)=true:=by
        have : Nat.ble (q * 8 + 8) ((encL left).map AV.d).length=true:=by
          rw [List.length_map,encL_length]
          exact Eq.mpr Nat.ble_eq (by omega)
        rw [this];rfl
      match bytes,h99 with
      | [],h99 =>
        simp only [List.length_nil] at h99 ⊢
        repeat' (first|(apply r_mvV;rfl)|(apply r_mvSL;rfl)|(apply r_callLI (b:=52) (L:=[]) (us:=[]);rfl;rfl;rfl;exact h99;rfl)|(apply r_p (v:=.agg [.i 2,.d (.val (.int .u64 w0)),.d (.val (.int .u64 w1)),.d (.val (.int .u64 w2)),.d (.val (.int .u64 w3)),.i 0,.i 0,.d (.val (.slice none 0 0))]);rfl)|(apply r_ixN (j:=q) (b:=51);rfl;rfl;rfl;exact hq)|(apply r_stL (b:=51) (off:=q * 8);rfl;rfl;rfl;rfl;rfl;exact hst;rfl)|(apply r_p (v:=.agg [.i 2,.d (.val (.int .u64 0)),.d (.val (.int .u64 0)),.d (.val (.int .u64 0)),.d (.val (.int .u64 0)),.i 0,.i 0,.d (.val (.slice none 0 0))]);rfl)|(apply r_callS3 (pre:=[.i 4]) (pre':=[.i 4]) (post:=[.agg [.i 2,.d (.val (.int .u64 0)),.d (.val (.int .u64 0)),.d (.val (.int .u64 0)),.d (.val (.int .u64 0)),.i 0,.i 0,.d (.val (.slice none 0 0))]]) (post':=[nodeA noneT]) (b:=51) (L:=left.set q (setN [w0,w1,w2,w3])) (us:=[51]) (us':=[]);rfl;rfl;rfl;rfl;exact hrl;omega;exact hcv _;exact hof;rfl)|(apply r_lss;rfl;rfl;(first|(apply dT;omega)|(apply dF;omega)|rfl))|(apply r_geq;rfl;rfl;(first|(apply dT;omega)|(apply dF;omega)|rfl))|(apply r_lenL;rfl)|(apply r_stL;rfl;rfl;rfl;rfl;(first|rfl|(simp only [z_nil,z_add]<;>rfl));rfl;rfl)|(apply r_nilK)|(apply k_V;rfl)|(apply k_PL;rfl)|(apply k_SL;rfl)|(apply k_nil)|(apply e_ret;rfl)|(apply w_seq)|(apply w_ops;((conv=>lhs;simp only [Nat.reduceAdd])<;>rfl))|(apply w_condT;rfl)|(apply w_condF;rfl)|(apply e_thenN)|(apply e_thenX)|(apply e_blkE)|(apply w_exit)|(apply w_ret))
        exact .data _ rfl
      | x :: r,h99 =>
        simp only [List.length_cons] at h99 ⊢
        repeat' (first|(apply r_mvV;rfl)|(apply r_mvSL;rfl)|(apply r_callLI (b:=52) (L:=encJ (x :: r)) (us:=[]);rfl;rfl;exact encJ_len _;exact h99;rfl)|(apply r_p (v:=.agg [.i 2,.d (.val (.int .u64 w0)),.d (.val (.int .u64 w1)),.d (.val (.int .u64 w2)),.d (.val (.int .u64 w3)),.i 0,.i 0,.d (.val (.slice none 0 0))]);rfl)|(apply r_ixN (j:=q) (b:=51);rfl;rfl;rfl;exact hq)|(apply r_stL (b:=51) (off:=q * 8);rfl;rfl;rfl;rfl;rfl;exact hst;rfl)|(apply r_p (v:=.agg [.i 2,.d (.val (.int .u64 0)),.d (.val (.int .u64 0)),.d (.val (.int .u64 0)),.d (.val (.int .u64 0)),.i 0,.i 0,.d (.val (.slice none 0 0))]);rfl)|(apply r_callS3 (pre:=[.i 4]) (pre':=[.i 4]) (post:=[.agg [.i 2,.d (.val (.int .u64 0)),.d (.val (.int .u64 0)),.d (.val (.int .u64 0)),.d (.val (.int .u64 0)),.i 0,.i 0,.d (.val (.slice none 0 0))]]) (post':=[nodeA noneT]) (b:=51) (L:=left.set q (setN [w0,w1,w2,w3])) (us:=[51]) (us':=[]);rfl;rfl;rfl;rfl;exact hrl;omega;exact hcv _;exact hof;rfl)|(apply r_lss;rfl;rfl;(first|(apply dT;omega)|(apply dF;omega)|rfl))|(apply r_geq;rfl;rfl;(first|(apply dT;omega)|(apply dF;omega)|rfl))|(apply r_lenL;rfl)|(apply r_stL;rfl;rfl;rfl;rfl;(first|rfl|(simp only [z_nil,z_add]<;>rfl));rfl;rfl)|(apply r_nilK)|(apply k_V;rfl)|(apply k_PL;rfl)|(apply k_SL;rfl)|(apply k_nil)|(apply e_ret;rfl)|(apply w_seq)|(apply w_ops;((conv=>lhs;simp only [Nat.reduceAdd])<;>rfl))|(apply w_condT;rfl)|(apply w_condF;rfl)|(apply e_thenN)|(apply e_thenX)|(apply e_blkE)|(apply w_exit)|(apply w_ret))
        exact .data _ rfl
end Go.Sv
namespace Go.Sv
open Go Go.Proofs
def x105 : XC:=(.seq (.ops 2 [ (0,⟨some 1,none,.box (.t 0)⟩),(1,⟨some 2,none,.mv (.k (.d (.val (.bool false))))⟩)] (some [1])) (.seq (.ops 10 [ (0,⟨some 3,none,.fadd 0 (.t 1)⟩),(1,⟨some 4,none,.load none (.t 3)⟩),(2,⟨some 5,none,.arith .eql (.t 4) (.k (.d (.val (.int .i64 2))))⟩),(3,⟨some 6,none,.mv (.t 5)⟩),(4,⟨some 7,(some (6,true)),.fadd 1 (.t 1)⟩),(5,⟨some 8,(some (6,true)),.load (some 4) (.t 7)⟩),(6,⟨some 9,(some (6,true)),.build [(.int .u64 0),(.int .u64 0),(.int .u64 0),(.int .u64 0)] []⟩),(7,⟨some 10,(some (6,true)),.eqAgg 4 false (.t 8) (.t 9)⟩),(8,⟨some 11,none,.pick (.t 6) (.t 10) (.k (.d (.val (.bool false))))⟩),(9,⟨some 2,none,.mv (.t 11)⟩)] (some [2])) .ret))
def md105 : FuncId→Option Nat × Bool
  | _=>(none,false)
def od105 : Nat→List (List Nat) × List Nat × Option (List Nat)
  | 0=>([],[],some [1])
  | 1=>([],[],some [2])
  | _=>([],[],none)
theorem b105 {ags : List AV} {row : Option (List DV)} {r : AV} {row' nw : Option (List DV)} (hal : ags.length≤12) (hrow : row'.isSome=true→row.isSome=true) (h : xwp Try.prog x105 (retK [.tmp 2] row.isSome r row' nw) (St.init ags row)) : Good Try.prog 105 ags row r row' nw :=
  good_of_body' (md:=md105) (od:=od105) Try.f105 (by kernel_rfl) (by kernel_rfl) (by kernel_rfl) (by kernel_rfl) (by kernel_rfl) hal hrow h

def x108 : XC:=(.seq (.ops 2 [ (0,⟨some 1,none,.box (.t 0)⟩),(1,⟨some 2,none,.mv (.k (.d (.val (.bool false))))⟩)] (some [1])) (.seq (.ops 4 [ (0,⟨some 3,none,.fadd 0 (.t 1)⟩),(1,⟨some 4,none,.load none (.t 3)⟩),(2,⟨some 5,none,.arith .eql (.t 4) (.k (.d (.val (.int .i64 1))))⟩),(3,⟨some 2,none,.mv (.t 5)⟩)] (some [2])) .ret))
def md108 : FuncId→Option Nat × Bool
  | _=>(none,false)
def od108 : Nat→List (List Nat) × List Nat × Option (List Nat)
  | 0=>([],[],some [1])
  | 1=>([],[],some [2])
  | _=>([],[],none)
theorem b108 {ags : List AV} {row : Option (List DV)} {r : AV} {row' nw : Option (List DV)} (hal : ags.length≤6) (hrow : row'.isSome=true→row.isSome=true) (h : xwp Try.prog x108 (retK [.tmp 2] row.isSome r row' nw) (St.init ags row)) : Good Try.prog 108 ags row r row' nw :=
  good_of_body' (md:=md108) (od:=od108) Try.f108 (by kernel_rfl) (by kernel_rfl) (by kernel_rfl) (by kernel_rfl) (by kernel_rfl) hal hrow h

def x110 : XC:=(.seq (.ops 1 [ (0,⟨some 0,none,.alloc [(.int .i64 0),(.int .u64 0),(.int .u64 0),(.int .u64 0),(.int .u64 0),(.int .i64 0),(.int .i64 0),(.slice none 0 0)]⟩)] (some [0])) (.seq (.ops 2 [ (0,⟨some 1,none,.build [(.int .i64 0),(.int .u64 0),(.int .u64 0),(.int .u64 0),(.int .u64 0),(.int .i64 0),(.int .i64 0),(.slice none 0 0)] [(0,1,(.k (.d (.val (.int .i64 1)))))]⟩),(1,⟨none,none,.store 8 (.t 0) (.t 1)⟩)] (some [0])) .ret))
def md110 : FuncId→Option Nat × Bool
  | _=>(none,false)
def od110 : Nat→List (List Nat) × List Nat × Option (List Nat)
  | 0=>([],[],some [0])
  | 1=>([],[],some [0])
  | _=>([],[],none)
theorem b110 {ags : List AV} {row : Option (List DV)} {r : AV} {row' nw : Option (List DV)} (hal : ags.length≤2) (hrow : row'.isSome=true→row.isSome=true) (h : xwp Try.prog x110 (retK [.cell 0 (some 8)] row.isSome r row' nw) (St.init ags row)) : Good Try.prog 110 ags row r row' nw :=
  good_of_body' (md:=md110) (od:=od110) Try.f110 (by kernel_rfl) (by kernel_rfl) (by kernel_rfl) (by kernel_rfl) (by kernel_rfl) hal hrow h

def x106 : XC:=(.seq (.ops 1 [ (0,⟨some 0,none,.alloc [(.int .i64 0),(.int .u64 0),(.int .u64 0),(.int .u64 0),(.int .u64 0),(.int .i64 0),(.int .i64 0),(.slice none 0 0)]⟩)] (some [0])) (.seq (.ops 2 [ (0,⟨some 1,none,.build [(.int .i64 0),(.int .u64 0),(.int .u64 0),(.int .u64 0),(.int .u64 0),(.int .i64 0),(.int .i64 0),(.slice none 0 0)] [(0,1,(.k (.d (.val (.int .i64 2)))))]⟩),(1,⟨none,none,.store 8 (.t 0) (.t 1)⟩)] (some [0])) .ret))
def md106 : FuncId→Option Nat × Bool
  | _=>(none,false)
def od106 : Nat→List (List Nat) × List Nat × Option (List Nat)
  | 0=>([],[],some [0])
  | 1=>([],[],some [0])
  | _=>([],[],none)
theorem b106 {ags : List AV} {row : Option (List DV)} {r : AV} {row' nw : Option (List DV)} (hal : ags.length≤2) (hrow : row'.isSome=true→row.isSome=true) (h : xwp Try.prog x106 (retK [.cell 0 (some 8)] row.isSome r row' nw) (St.init ags row)) : Good Try.prog 106 ags row r row' nw :=
  good_of_body' (md:=md106) (od:=od106) Try.f106 (by kernel_rfl) (by kernel_rfl) (by kernel_rfl) (by kernel_rfl) (by kernel_rfl) hal hrow h

def x109 : XC:=(.seq (.ops 2 [ (0,⟨some 5,none,.box (.t 2)⟩),(1,⟨some 6,none,.alloc [(.int .i64 0),(.int .u64 0),(.int .u64 0),(.int .u64 0),(.int .u64 0),(.int .i64 0),(.int .i64 0),(.slice none 0 0)]⟩)] (some [0,1,5,6])) (.seq (.seq (.ops 2 [ (0,⟨some 7,none,.mv (.t 1)⟩),(1,⟨some 8,none,.lenS (.t 7)⟩)] (some [0,1,5,6,8])) (.block 0 (.seq (.ops 2 [ (0,⟨some 10,none,.arith .eql (.t 8) (.k (.d (.val (.int .i64 0))))⟩),(1,⟨some 9,none,.mv (.t 10)⟩)] (some [0,1,5,6,8,9])) (.cond (.t 9) (.seq (.ops 2 [ (0,⟨some 11,none,.load (some 8) (.t 5)⟩),(1,⟨none,none,.store 8 (.t 6) (.t 11)⟩)] (some [6])) .ret) (.seq (.ops 2 [ (0,⟨some 13,none,.arith .eql (.t 8) (.k (.d (.val (.int .i64 1))))⟩),(1,⟨some 12,none,.mv (.t 13)⟩)] (some [0,1,6,12])) (.cond (.t 12) (.seq (.ops 4 [ (0,⟨some 14,none,.mv (.t 1)⟩),(1,⟨some 15,none,.idxS 8 (.t 14) (.k (.d (.val (.int .i64 0))))⟩),(2,⟨some 16,none,.load (some 8) (.t 15)⟩),(3,⟨none,none,.store 8 (.t 6) (.t 16)⟩)] (some [6])) .ret) .skip)))))) (.seq (.ops 4 [ (0,⟨some 17,none,.mv (.t 0)⟩),(1,⟨some 18,none,.mv (.t 1)⟩),(2,⟨some 19,none,.build [(.int .i64 0),(.int .u64 0),(.int .u64 0),(.int .u64 0),(.int .u64 0),(.int .i64 0),(.int .i64 0),(.slice none 0 0)] [(0,1,(.t 17)),(7,1,(.t 18))]⟩),(3,⟨none,none,.store 8 (.t 6) (.t 19)⟩)] (some [6])) .ret)))
def md109 : FuncId→Option Nat × Bool
  | _=>(none,false)
def od109 : Nat→List (List Nat) × List Nat × Option (List Nat)
  | 0=>([],[],some [0,1,5,6])
  | 1=>([],[],some [0,1,5,6,8])
  | 2=>([],[],some [0,1,5,6,8,9])
  | 3=>([],[],some [6])
  | 4=>([],[],some [0,1,6,12])
  | 5=>([],[],some [6])
  | 6=>([],[],some [6])
  | _=>([],[],none)
theorem b109 {ags : List AV} {row : Option (List DV)} {r : AV} {row' nw : Option (List DV)} (hal : ags.length≤20) (hrow : row'.isSome=true→row.isSome=true) (h : xwp Try.prog x109 (retK [.cell 6 (some 8)] row.isSome r row' nw) (St.init ags row)) : Good Try.prog 109 ags row r row' nw :=
  good_of_body' (md:=md109) (od:=od109) Try.f109 (by kernel_rfl) (by kernel_rfl) (by kernel_rfl) (by kernel_rfl) (by kernel_rfl) hal hrow h

def x113 : XC:=(.seq (.ops 2 [ (0,⟨some 1,none,.box (.t 0)⟩),(1,⟨some 2,none,.mv (.k (.d (.val (.bool false))))⟩)] (some [1])) (.seq (.ops 14 [ (0,⟨some 3,none,.fadd 0 (.t 1)⟩),(1,⟨some 4,none,.load none (.t 3)⟩),(2,⟨some 5,none,.arith .eql (.t 4) (.k (.d (.val (.int .i64 5))))⟩),(3,⟨some 6,none,.mv (.t 5)⟩),(4,⟨some 7,(some (6,true)),.fadd 5 (.t 1)⟩),(5,⟨some 8,(some (6,true)),.load none (.t 7)⟩),(6,⟨some 9,(some (6,true)),.arith .eql (.t 8) (.k (.d (.val (.int .i64 0))))⟩),(7,⟨some 10,none,.pick (.t 6) (.t 9) (.k (.d (.val (.bool false))))⟩),(8,⟨some 11,none,.mv (.t 10)⟩),(9,⟨some 12,(some (11,true)),.fadd 6 (.t 1)⟩),(10,⟨some 13,(some (11,true)),.load none (.t 12)⟩),(11,⟨some 14,(some (11,true)),.arith .eql (.t 13) (.k (.d (.val (.int .i64 (-1)))))⟩),(12,⟨some 15,none,.pick (.t 11) (.t 14) (.k (.d (.val (.bool false))))⟩),(13,⟨some 2,none,.mv (.t 15)⟩)] (some [2])) .ret))
def md113 : FuncId→Option Nat × Bool
  | _=>(none,false)
def od113 : Nat→List (List Nat) × List Nat × Option (List Nat)
  | 0=>([],[],some [1])
  | 1=>([],[],some [2])
  | _=>([],[],none)
theorem b113 {ags : List AV} {row : Option (List DV)} {r : AV} {row' nw : Option (List DV)} (hal : ags.length≤16) (hrow : row'.isSome=true→row.isSome=true) (h : xwp Try.prog x113 (retK [.tmp 2] row.isSome r row' nw) (St.init ags row)) : Good Try.prog 113 ags row r row' nw :=
  good_of_body' (md:=md113) (od:=od113) Try.f113 (by kernel_rfl) (by kernel_rfl) (by kernel_rfl) (by kernel_rfl) (by kernel_rfl) hal hrow h

def x103 : XC:=(.seq (.ops 1 [ (0,⟨some 4,none,.mv (.k (.d (.val (.slice none 0 0))))⟩)] (some [0,1,4])) (.seq (.seq (.ops 3 [ (0,⟨some 7,none,.mv (.t 1)⟩),(1,⟨some 8,none,.lenS (.t 7)⟩),(2,⟨some 9,none,.mv (.k (.d (.val (.int .i64 0))))⟩)] (some [0,4,7,8,9])) (.block 0 (.loop (.seq (.ops 1 [ (0,⟨some 10,none,.arith .lss (.t 9) (.t 8)⟩)] (some [0,4,7,8,9,10])) (.seq (.cond (.t 10) .skip (.exit 0)) (.seq (.block 1 (.seq (.ops 4 [ (0,⟨some 11,none,.idxS 8 (.t 7) (.t 9)⟩),(1,⟨some 12,none,.load (some 8) (.t 11)⟩),(2,⟨some 6,none,.alloc [(.int .i64 0),(.int .u64 0),(.int .u64 0),(.int .u64 0),(.int .u64 0),(.int .i64 0),(.int .i64 0),(.slice none 0 0)]⟩),(3,⟨none,none,.store 8 (.t 6) (.t 12)⟩)] (some [0,4,6,7,8,9])) (.seq (.ops 4 [ (0,⟨some 13,none,.fadd 0 (.t 6)⟩),(1,⟨some 14,none,.load none (.t 13)⟩),(2,⟨some 15,none,.mv (.t 0)⟩),(3,⟨some 16,none,.arith .eql (.t 14) (.t 15)⟩)] (some [0,4,6,7,8,9,16])) (.cond (.t 16) (.ops 5 [ (0,⟨some 17,none,.mv (.t 4)⟩),(1,⟨some 18,none,.fadd 7 (.t 6)⟩),(2,⟨some 19,none,.load none (.t 18)⟩),(3,⟨some 20,none,.app [(.int .i64 0),(.int .u64 0),(.int .u64 0),(.int .u64 0),(.int .u64 0),(.int .i64 0),(.int .i64 0),(.slice none 0 0)] 80 (.t 17) (.t 19)⟩),(4,⟨some 4,none,.mv (.t 20)⟩)] (some [0,4,7,8,9])) (.ops 5 [ (0,⟨some 21,none,.mv (.t 4)⟩),(1,⟨some 22,none,.load (some 8) (.t 6)⟩),(2,⟨some 23,none,.mkrow [(.int .i64 0),(.int .u64 0),(.int .u64 0),(.int .u64 0),(.int .u64 0),(.int .i64 0),(.int .i64 0),(.slice none 0 0)] 1 8 [(0,8,(.t 22))]⟩),(3,⟨some 24,none,.app [(.int .i64 0),(.int .u64 0),(.int .u64 0),(.int .u64 0),(.int .u64 0),(.int .i64 0),(.int .i64 0),(.slice none 0 0)] 80 (.t 21) (.t 23)⟩),(4,⟨some 4,none,.mv (.t 24)⟩)] (some [0,4,7,8,9])))))) (.ops 2 [ (0,⟨some 25,none,.arith .add (.t 9) (.k (.d (.val (.int .i64 1))))⟩),(1,⟨some 9,none,.mv (.t 25)⟩)] (some [0,4,7,8,9])))))))) (.seq (.ops 2 [ (0,⟨some 26,none,.mv (.t 4)⟩),(1,⟨some 4,none,.mv (.t 26)⟩)] (some [4])) .ret)))
def md103 : FuncId→Option Nat × Bool
  | _=>(none,false)
def od103 : Nat→List (List Nat) × List Nat × Option (List Nat)
  | 0=>([],[],some [0,1,4])
  | 1=>([],[],some [0,4,7,8,9])
  | 2=>([],[],some [0,4,7,8,9,10])
  | 3=>([],[],some [0,4,6,7,8,9])
  | 4=>([],[],some [0,4,6,7,8,9,16])
  | 5=>([],[],some [0,4,7,8,9])
  | 6=>([],[],some [0,4,7,8,9])
  | 7=>([],[],some [0,4,7,8,9])
  | 8=>([],[],some [4])
  | _=>([],[],none)
theorem b103 {ags : List AV} {row : Option (List DV)} {r : AV} {row' nw : Option (List DV)} (hal : ags.length≤27) (hrow : row'.isSome=true→row.isSome=true) (h : xwp Try.prog x103 (retK [.tmp 4] row.isSome r row' nw) (St.init ags row)) : Good Try.prog 103 ags row r row' nw :=
  good_of_body' (md:=md103) (od:=od103) Try.f103 (by kernel_rfl) (by kernel_rfl) (by kernel_rfl) (by kernel_rfl) (by kernel_rfl) hal hrow h

set_option maxRecDepth 100000
set_option maxHeartbeats 4000000
attribute [local irreducible] W E R KP thenK blockK retK Good xwp aRun
theorem no105_good (t : T) : Good Try.prog 105 [nodeA t] none (.b (isNo t)) none none:=by
  obtain ⟨k,a,b,c,d,mn,mx,subs⟩:=t
  have e0 : nodeA (.node k a b c d mn mx subs)=.agg [.i k,.d (.val (.int .u64 a)),.d (.val (.int .u64 b)),.d (.val (.int .u64 c)),.d (.val (.int .u64 d)),.i mn,.i mx,.d (.sl (encL subs) subs.length)]:=rfl
  rw [e0]
  by_cases hk : k=2
  · refine b105 (by simp) (by simp) (w_init ?_)
    unfold x105
    repeat' (first|(apply r_mvV;rfl)|(apply r_faddL;rfl)|(apply r_ldL (v:=.agg [.d (.val (.int .u64 a)),.d (.val (.int .u64 b)),.d (.val (.int .u64 c)),.d (.val (.int .u64 d))]);rfl;rfl;rfl)|(apply r_p (v:=.agg [.d (.val (.int .u64 0)),.d (.val (.int .u64 0)),.d (.val (.int .u64 0)),.d (.val (.int .u64 0))]);rfl)|(apply r_eqX;rfl;rfl;rfl)|(apply r_ldL;rfl;rfl;rfl)|(apply r_eql;rfl;rfl;(first|(apply dT;omega)|(apply dF;omega)|rfl))|(apply r_pickT;rfl)|(apply r_gT;rfl)|(apply r_box;((conv=>lhs;simp only [Nat.reduceAdd])<;>rfl);rfl;rfl;rfl)|(apply r_nilK)|(apply k_V;rfl)|(apply k_PL;rfl)|(apply k_nil)|(apply e_ret (vs:=[.d (.val _)]);rfl)|(apply w_seq)|(apply w_ops;((conv=>lhs;simp only [Nat.reduceAdd])<;>rfl))|(apply e_thenN)|(apply w_ret))
    exact retB (by simp [isNo,isZero,hk])
  · refine b105 (by simp) (by simp) (w_init ?_)
    unfold x105
    repeat' (first|(apply r_mvV;rfl)|(apply r_faddL;rfl)|(apply r_ldL;rfl;rfl;rfl)|(apply r_eql;rfl;rfl;(first|(apply dT;omega)|(apply dF;omega)|rfl))|(apply r_pickF;rfl)|(apply r_gF';rfl;rfl)|(apply r_box;((conv=>lhs;simp only [Nat.reduceAdd])<;>rfl);rfl;rfl;rfl)|(apply r_nilK)|(apply k_V;rfl)|(apply k_PL;rfl)|(apply k_nil)|(apply e_ret (vs:=[.d (.val _)]);rfl)|(apply w_seq)|(apply w_ops;((conv=>lhs;simp only [Nat.reduceAdd])<;>rfl))|(apply e_thenN)|(apply w_ret))
    exact retB (by simp [isNo,hk])
theorem e108_good (t : T) : Good Try.prog 108 [nodeA t] none (.b (!notE t)) none none:=by
  obtain ⟨k,a,b,c,d,mn,mx,subs⟩:=t
  have e0 : nodeA (.node k a b c d mn mx subs)=.agg [.i k,.d (.val (.int .u64 a)),.d (.val (.int .u64 b)),.d (.val (.int .u64 c)),.d (.val (.int .u64 d)),.i mn,.i mx,.d (.sl (encL subs) subs.length)]:=rfl
  rw [e0]
  by_cases hk : k=1
  · refine b108 (by simp) (by simp) (w_init ?_)
    unfold x108
    repeat' (first|(apply r_mvV;rfl)|(apply r_faddL;rfl)|(apply r_ldL;rfl;rfl;rfl)|(apply r_eql;rfl;rfl;(first|(apply dT;omega)|(apply dF;omega)|rfl))|(apply r_box;((conv=>lhs;simp only [Nat.reduceAdd])<;>rfl);rfl;rfl;rfl)|(apply r_nilK)|(apply k_V;rfl)|(apply k_PL;rfl)|(apply k_nil)|(apply e_ret (vs:=[.d (.val _)]);rfl)|(apply w_seq)|(apply w_ops;((conv=>lhs;simp only [Nat.reduceAdd])<;>rfl))|(apply e_thenN)|(apply w_ret))
    exact retB (by simp [notE,T.kind,hk])
  · refine b108 (by simp) (by simp) (w_init ?_)
    unfold x108
    repeat' (first|(apply r_mvV;rfl)|(apply r_faddL;rfl)|(apply r_ldL;rfl;rfl;rfl)|(apply r_eql;rfl;rfl;(first|(apply dT;omega)|(apply dF;omega)|rfl))|(apply r_box;((conv=>lhs;simp only [Nat.reduceAdd])<;>rfl);rfl;rfl;rfl)|(apply r_nilK)|(apply k_V;rfl)|(apply k_PL;rfl)|(apply k_nil)|(apply e_ret (vs:=[.d (.val _)]);rfl)|(apply w_seq)|(apply w_ops;((conv=>lhs;simp only [Nat.reduceAdd])<;>rfl))|(apply e_thenN)|(apply w_ret))
    exact retB (by simp [notE,T.kind,hk])
theorem empty110_good : Good Try.prog 110 [] none (nodeA emptyT) none none:=by
  refine b110 (by simp) (by simp) (w_init ?_)
  unfold x110
  repeat' (first|(apply r_alloc;((conv=>lhs;simp only [Nat.reduceAdd])<;>rfl);rfl)|(apply r_stL;rfl;rfl;rfl;rfl;(first|rfl|(simp only [z_nil,z_add]<;>rfl));rfl;rfl)|(apply r_p;rfl)|(apply r_nilK)|(apply k_PL;rfl)|(apply k_nil)|(apply e_ret;rfl)|(apply w_seq)|(apply w_ops;((conv=>lhs;simp only [Nat.reduceAdd])<;>rfl))|(apply e_thenN)|(apply w_ret))
  exact .data _ rfl
theorem no106_good : Good Try.prog 106 [] none (nodeA noneT) none none:=by
  refine b106 (by simp) (by simp) (w_init ?_)
  unfold x106
  repeat' (first|(apply r_alloc;((conv=>lhs;simp only [Nat.reduceAdd])<;>rfl);rfl)|(apply r_stL;rfl;rfl;rfl;rfl;(first|rfl|(simp only [z_nil,z_add]<;>rfl));rfl;rfl)|(apply r_p;rfl)|(apply r_nilK)|(apply k_PL;rfl)|(apply k_nil)|(apply e_ret;rfl)|(apply w_seq)|(apply w_ops;((conv=>lhs;simp only [Nat.reduceAdd])<;>rfl))|(apply e_thenN)|(apply w_ret))
  exact .data _ rfl
theorem star113_good (t : T) : Good Try.prog 113 [nodeA t] none (.b (isStar t)) none none:=by
  obtain ⟨k,a,b,c,d,mn,mx,subs⟩:=t
  have e0 : nodeA (.node k a b c d mn mx subs)=.agg [.i k,.d (.val (.int .u64 a)),.d (.val (.int .u64 b)),.d (.val (.int .u64 c)),.d (.val (.int .u64 d)),.i mn,.i mx,.d (.sl (encL subs) subs.length)]:=rfl
  rw [e0]
  refine b113 (by simp) (by simp) (w_init ?_)
  unfold x113
  repeat' (first|(apply r_mvV;rfl)|(apply r_faddL;rfl)|(apply r_ldL;rfl;rfl;rfl)|(apply r_eql;rfl;rfl;(first|(apply dT;omega)|(apply dF;omega)|rfl))|(apply r_pickT;rfl)|(apply r_pickF;rfl)|(apply r_gT;rfl)|(apply r_gF';rfl;rfl)|((apply r_gS (o:=default);rfl)<;>(intro h;try simp only [decide_eq_true_eq,decide_eq_false_iff_not,Bool.not_eq_true,Bool.not_eq_false] at h))|(apply r_box;((conv=>lhs;simp only [Nat.reduceAdd])<;>rfl);rfl;rfl;rfl)|(apply r_nilK)|(apply k_V;rfl)|(apply k_PL;rfl)|(apply k_nil)|(apply e_ret (vs:=[.d (.val _)]);rfl)|(apply w_seq)|(apply w_ops;((conv=>lhs;simp only [Nat.reduceAdd])<;>rfl))|(apply e_thenN)|(apply w_ret))
  all_goals refine retB (Bool.eq_iff_iff.2 ?_)
  all_goals (simp_all [isStar,T.kind,T.mn,T.mx]<;>omega)
theorem put109_good (k : Int) (l : List T) (e : T) (hl : l.length≤100000000) : Good Try.prog 109 [.i k,.d (.sl (encL l) l.length),nodeA e] none (nodeA (ofT k l e)) none none:=by
  obtain ⟨k1,a1,b1,c1,d1,mn1,mx1,subs1⟩:=e
  have e1 : nodeA (.node k1 a1 b1 c1 d1 mn1 mx1 subs1)=.agg [.i k1,.d (.val (.int .u64 a1)),.d (.val (.int .u64 b1)),.d (.val (.int .u64 c1)),.d (.val (.int .u64 d1)),.i mn1,.i mx1,.d (.sl (encL subs1) subs1.length)]:=rfl
  rw [e1]
  match l,hl with
  | [],_ =>
    refine b109 (by simp) (by simp) (w_init ?_)
    unfold x109
    simp only [List.length_nil]
    repeat' (first|(apply r_mvV;rfl)|(apply r_mvS;rfl)|(apply r_ldL (v:=.agg [.i k1,.d (.val (.int .u64 a1)),.d (.val (.int .u64 b1)),.d (.val (.int .u64 c1)),.d (.val (.int .u64 d1)),.i mn1,.i mx1,.d (.sl (encL subs1) subs1.length)]);rfl;rfl;rfl)|(apply r_eql;rfl;rfl;(first|(apply dT;omega)|(apply dF;omega)|rfl))|(apply r_lenD;rfl)|(apply r_alloc;((conv=>lhs;simp only [Nat.reduceAdd])<;>rfl);rfl)|(apply r_box;((conv=>lhs;simp only [Nat.reduceAdd])<;>rfl);rfl;rfl;rfl)|(apply r_stL;rfl;rfl;rfl;rfl;(first|rfl|(simp only [z_nil,z_add]<;>rfl));rfl;rfl)|(apply r_nilK)|(apply k_V;rfl)|(apply k_PL;rfl)|(apply k_S;rfl)|(apply k_nil)|(apply e_ret;rfl)|(apply w_seq)|(apply w_ops;((conv=>lhs;simp only [Nat.reduceAdd])<;>rfl))|(apply w_condT;rfl)|(apply e_thenN)|(apply w_block)|(apply e_thenR)|(apply e_blkR)|(apply w_ret))
    exact .data _ rfl
  | [u],_ =>
    obtain ⟨k2,a2,b2,c2,d2,mn2,mx2,subs2⟩:=u
    refine b109 (by simp) (by simp) (w_init ?_)
    unfold x109
    simp only [List.length_cons,List.length_nil,Nat.zero_add]
    repeat' (first|(apply r_mvV;rfl)|(apply r_mvS;rfl)|(apply r_p (v:=.d (.ptr (encL [.node k2 a2 b2 c2 d2 mn2 mx2 subs2]) 0));rfl)|(apply r_l (v:=.agg [.i k2,.d (.val (.int .u64 a2)),.d (.val (.int .u64 b2)),.d (.val (.int .u64 c2)),.d (.val (.int .u64 d2)),.i mn2,.i mx2,.d (.sl (encL subs2) subs2.length)]);rfl)|(apply r_eql;rfl;rfl;(first|(apply dT;omega)|(apply dF;omega)|rfl))|(apply r_lenD;rfl)|(apply r_alloc;((conv=>lhs;simp only [Nat.reduceAdd])<;>rfl);rfl)|(apply r_box;((conv=>lhs;simp only [Nat.reduceAdd])<;>rfl);rfl;rfl;rfl)|(apply r_stL;rfl;rfl;rfl;rfl;(first|rfl|(simp only [z_nil,z_add]<;>rfl));rfl;rfl)|(apply r_nilK)|(apply k_V;rfl)|(apply k_PL;rfl)|(apply k_S;rfl)|(apply k_nil)|(apply e_ret;rfl)|(apply w_seq)|(apply w_ops;((conv=>lhs;simp only [Nat.reduceAdd])<;>rfl))|(apply w_condT;rfl)|(apply w_condF;rfl)|(apply e_thenN)|(apply w_block)|(apply e_thenR)|(apply e_blkR)|(apply w_ret))
    exact .data _ rfl
  | x :: y :: z,hl =>
    refine b109 (by simp) (by simp) (w_init ?_)
    unfold x109
    simp only [List.length_cons] at hl ⊢
    repeat' (first|(apply r_mvV;rfl)|(apply r_mvS;rfl)|(apply r_p (v:=.agg [.i k,.d (.val (.int .u64 0)),.d (.val (.int .u64 0)),.d (.val (.int .u64 0)),.d (.val (.int .u64 0)),.i 0,.i 0,.d (.sl (encL (x :: y :: z)) (z.length + 1 + 1))]);rfl)|(apply r_eql;rfl;rfl;(first|(apply dT;omega)|(apply dF;omega)|rfl))|(apply r_lenD;rfl)|(apply r_alloc;((conv=>lhs;simp only [Nat.reduceAdd])<;>rfl);rfl)|(apply r_box;((conv=>lhs;simp only [Nat.reduceAdd])<;>rfl);rfl;rfl;rfl)|(apply r_stL;rfl;rfl;rfl;rfl;(first|rfl|(simp only [z_nil,z_add]<;>rfl));rfl;rfl)|(apply r_nilK)|(apply k_V;rfl)|(apply k_PL;rfl)|(apply k_S;rfl)|(apply k_nil)|(apply e_ret;rfl)|(apply w_seq)|(apply w_ops;((conv=>lhs;simp only [Nat.reduceAdd])<;>rfl))|(apply w_condF;rfl)|(apply e_thenN)|(apply w_block)|(apply e_blkN)|(apply w_ret)|(apply w_skip))
    exact .data _ rfl
theorem flat103_good (k : Int) (l : List T) (hc : cntL l≤50000000) : Good Try.prog 103 [.i k,.d (.sl (encL l) l.length)] none (.slL 1 0 (flatL k l).length 8) none (some (encL (flatL k l))):=by
  have hll:=cntL_len l
  have hft : ∀ i,(flatL k (l.take i)).length≤50000000:=fun i=>by
    have h1:=flatL_len k (l.take i)
    have h2:=cntL_take_le l i
    omega
  refine b103 (by simp) (by simp) (w_init ?_)
  unfold x103
  repeat' (first|(apply r_mvV;rfl)|(apply r_mvS;rfl)|(apply r_lenD;rfl)|(apply r_nilK)|(apply k_V;rfl)|(apply k_S;rfl)|(apply k_nil)|(apply w_seq)|(apply w_ops;((conv=>lhs;simp only [Nat.reduceAdd])<;>rfl))|(apply e_thenN)|(apply w_block))
  apply w_loopI (S:=fun i : Nat=>⟨((((Fr.nil.put 0 (.i k)).put 4 (.slL 50 0 (flatL k (l.take i)).length 8)).put 7 (.d (.sl (encL l) l.length))).put 8 (.i l.length)).put 9 (.i i),rowsOf [(50,(encL (flatL k (l.take i))).map AV.d)],Frz.buts 100 [50],100⟩) (m:=fun i=>l.length - i) (I:=fun i=>i≤l.length) (i0:=0)
  · exact Nat.zero_le _
  · refine wkM [] [50] rfl ?_ ?_ rfl ?_
    · intro p hp
      simp only [List.mem_cons,List.not_mem_nil,or_false] at hp
      rcases hp with rfl
      · exact ⟨by omega,.inl ⟨rfl,rfl⟩⟩
    · intro q hq;simp only [List.mem_cons,List.not_mem_nil,or_false] at hq;rcases hq with rfl<;>rfl
    · repeat' (first|exact FWk.nil|(apply FWk.i;rfl;(first|rfl|omega|(simp;done)))|(apply FWk.d;rfl;rfl)|(apply FWk.slN;rfl;omega;rfl))
  intro i K hi hK
  dsimp only
  rcases Nat.lt_or_ge i l.length with hlt | hge
  · have hs:=NodeAt.sub hlt
    have htk:=flatL_take k l i hlt
    have h1:=hft i
    have h2:=hft (i + 1)
    have hsub : l[i].subs.length≤50000000:=by
      have h3:=cntL_get l i hlt
      have h4:=cntL_len l[i].subs
      have h5 : cntL l[i].subs≤l[i].cnt:=by cases l[i];simp [T.subs,T.cnt]
      omega
    by_cases hk : l[i].kind=k
    · have e : flatO k l[i]=l[i].subs:=by rw [flatO,if_pos hk]
      rw [e] at htk
      generalize l[i]=v at hs hk htk hsub
      obtain ⟨k2,a2,b2,c2,d2,mn2,mx2,subs2⟩:=v
      simp only [T.kind] at hk
      simp only [T.subs] at htk hsub
      repeat' (first|(apply r_mvV;rfl)|(apply r_mvSL;rfl)|(apply r_faddL;rfl)|(apply r_p;apply ix_sub;rfl;rfl;omega)|(apply r_l (v:=.agg [.i k2,.d (.val (.int .u64 a2)),.d (.val (.int .u64 b2)),.d (.val (.int .u64 c2)),.d (.val (.int .u64 d2)),.i mn2,.i mx2,.d (.sl (encL subs2) subs2.length)]);exact ld_node hs rfl)|(apply r_ldL (v:=.d (.sl (encL subs2) subs2.length));rfl;rfl;rfl)|(apply r_appD (b:=50) (id:=112) (K:=flatL k (l.take i)) (L:=subs2);rfl;rfl;rfl;rfl;rfl;rfl;rfl;omega)|(apply r_ldL;rfl;rfl;rfl)|(apply r_eql;rfl;rfl;(first|(apply dT;omega)|(apply dF;omega)|rfl))|(apply r_lss;rfl;rfl;(first|(apply dT;omega)|(apply dF;omega)|rfl))|(apply r_add;rfl;rfl;rfl;omega)|(apply r_alloc;((conv=>lhs;simp only [Nat.reduceAdd])<;>rfl);rfl)|(apply r_stL;rfl;rfl;rfl;rfl;(first|rfl|(simp only [z_nil,z_add]<;>rfl));rfl;rfl)|(apply r_nilK)|(apply k_V;rfl)|(apply k_PL;rfl)|(apply k_S;rfl)|(apply k_SL;rfl)|(apply k_nil)|(apply w_seq)|(apply w_ops;((conv=>lhs;simp only [Nat.reduceAdd])<;>rfl))|(apply w_condT;rfl)|(apply e_thenN)|(apply w_block)|(apply e_blkN)|(apply w_skip))
      apply e_thenK
      apply hK (i + 1)
      · omega
      · omega
      · rw [htk]
        refine wkM [(50,112)] [] rfl ?_ ?_ rfl ?_
        · intro p hp
          simp only [List.mem_cons,List.not_mem_nil,or_false] at hp
          rcases hp with rfl
          · exact ⟨by omega,.inr ⟨rfl,_,rfl,.data (isD_encL _)⟩⟩
        · intro q hq;simp only [List.mem_cons,List.not_mem_nil,or_false] at hq;rcases hq with rfl<;>rfl
        · rw [List.length_append]
          repeat' (first|exact FWk.nil|(apply FWk.i;rfl;(first|rfl|omega|(simp;done)))|(apply FWk.sl;rfl;rfl;rfl;rfl;omega;rfl)|(apply FWk.d;rfl;rfl))
    · have e : flatO k l[i]=[l[i]]:=by rw [flatO,if_neg hk]
      rw [e] at htk
      generalize l[i]=v at hs hk htk hsub
      obtain ⟨k2,a2,b2,c2,d2,mn2,mx2,subs2⟩:=v
      simp only [T.kind] at hk
      repeat' (first|(apply r_mvV;rfl)|(apply r_mvSL;rfl)|(apply r_faddL;rfl)|(apply r_p;apply ix_sub;rfl;rfl;omega)|(apply r_l (v:=.agg [.i k2,.d (.val (.int .u64 a2)),.d (.val (.int .u64 b2)),.d (.val (.int .u64 c2)),.d (.val (.int .u64 d2)),.i mn2,.i mx2,.d (.sl (encL subs2) subs2.length)]);exact ld_node hs rfl)|(apply r_ldL (v:=.agg [.i k2,.d (.val (.int .u64 a2)),.d (.val (.int .u64 b2)),.d (.val (.int .u64 c2)),.d (.val (.int .u64 d2)),.i mn2,.i mx2,.d (.sl (encL subs2) subs2.length)]);rfl;rfl;rfl)|(apply r_mkN (t:=.node k2 a2 b2 c2 d2 mn2 mx2 subs2) (id:=111);rfl;rfl)|(apply r_appE (b:=50) (c:=111) (id:=112) (K:=flatL k (l.take i)) (L:=[.node k2 a2 b2 c2 d2 mn2 mx2 subs2]) (j:=1);rfl;rfl;rfl;rfl;rfl;rfl;rfl;rfl;omega)|(apply r_ldL;rfl;rfl;rfl)|(apply r_eql;rfl;rfl;(first|(apply dT;omega)|(apply dF;omega)|rfl))|(apply r_lss;rfl;rfl;(first|(apply dT;omega)|(apply dF;omega)|rfl))|(apply r_add;rfl;rfl;rfl;omega)|(apply r_alloc;((conv=>lhs;simp only [Nat.reduceAdd])<;>rfl);rfl)|(apply r_stL;rfl;rfl;rfl;rfl;(first|rfl|(simp only [z_nil,z_add]<;>rfl));rfl;rfl)|(apply r_nilK)|(apply k_V;rfl)|(apply k_PL;rfl)|(apply k_S;rfl)|(apply k_SL;rfl)|(apply k_nil)|(apply w_seq)|(apply w_ops;((conv=>lhs;simp only [Nat.reduceAdd])<;>rfl))|(apply w_condT;rfl)|(apply w_condF;rfl)|(apply e_thenN)|(apply w_block)|(apply e_blkN)|(apply w_skip))
      apply e_thenK
      apply hK (i + 1)
      · omega
      · omega
      · rw [htk]
        refine wkM [(50,112)] [] rfl ?_ ?_ rfl ?_
        · intro p hp
          simp only [List.mem_cons,List.not_mem_nil,or_false] at hp
          rcases hp with rfl
          · exact ⟨by omega,.inr ⟨rfl,_,rfl,.data (isD_encL _)⟩⟩
        · intro q hq;simp only [List.mem_cons,List.not_mem_nil,or_false] at hq;rcases hq with rfl<;>rfl
        · rw [List.length_append]
          repeat' (first|exact FWk.nil|(apply FWk.i;rfl;(first|rfl|omega|(simp;done)))|(apply FWk.sl;rfl;rfl;rfl;rfl;omega;rfl)|(apply FWk.d;rfl;rfl))
  have ei : i=l.length:=by omega
  subst ei
  rw [List.take_length]
  repeat' (first|(apply r_mvSL;rfl)|(apply r_lss;rfl;rfl;(first|(apply dT;omega)|(apply dF;omega)|rfl))|(apply r_nilK)|(apply k_V;rfl)|(apply k_S;rfl)|(apply k_SL;rfl)|(apply k_nil)|(apply e_ret;rfl)|(apply w_seq)|(apply w_ops;((conv=>lhs;simp only [Nat.reduceAdd])<;>rfl))|(apply w_condF;rfl)|(apply e_thenN)|(apply e_thenX)|(apply e_blkE)|(apply w_exit)|(apply w_ret))
  exact .new 50 _ _ _ _ rfl rfl rfl
end Go.Sv
namespace Go.Sv
open Go Go.Proofs
section
variable {P : Program} {Q : Cont} {fr : Fr} {C : Heap} {Z : Frz} {nx : Nat} {base n d0 : Nat} {l : List (Nat × XO)} {kp : Option (List Nat)} {x y : X}
theorem r_callvC {f : FuncId} {g : X} {xs : List X} {ags : List AV} {caps : List DV} {r : AV} (hf : g.ev fr=.d (.fn f caps)) (ha : xs.map (X.ev fr)=ags) (hn : (ags++caps.map AV.d).all AV.nrm=true) (hg : Good P f (ags++caps.map AV.d) none r none none)
    (k : R P l base kp Q nx (fr.put d0 r) C Z) : R P ((n,⟨some d0,none,.callv g xs⟩) :: l) base kp Q nx fr C Z:=by
  refine ⟨r,C,Z,.inl ⟨rfl,f,caps.map AV.d,.inr ⟨caps,hf,rfl⟩,?_⟩,k⟩
  subst ha
  refine ⟨_,[],r,none,none,convAs_nrm _ hn,hg,rfl,fun h=>(by cases h),rfl,rfl,?_⟩
  simp [Frz.add_nil]
end
def firstP (p : T→Bool) : List T→Nat→Int
  | [],_=>-1
  | t :: l,i=>if p t=true then i else firstP p l (i + 1)
theorem firstP_drop (p : T→Bool) (l : List T) (i : Nat) (h : i < l.length) : firstP p (l.drop i) i=if p l[i]=true then (i : Int) else firstP p (l.drop (i + 1)) (i + 1):=by
  rw [List.drop_eq_getElem_cons h,firstP]
theorem firstP_any (p : T→Bool) : ∀ (l : List T) (i : Nat),decide (0≤firstP p l i)=l.any p
  | [],_=>by simp [firstP]
  | t :: l,i=>by
    rw [firstP,List.any_cons]
    rcases Bool.eq_false_or_eq_true (p t) with h | h
    · rw [if_pos h,h];simp
    · rw [if_neg (by simp [h]),firstP_any p l (i + 1),h,Bool.false_or]
theorem firstP_spec (p : T→Bool) : ∀ (l : List T) (i : Nat),(firstP p l i=-1∧l.any p=false) ∨ ∃ j,firstP p l i=((i + j : Nat) : Int)∧j < l.length∧(l.take j).any p=false∧∀ h : j < l.length,p l[j]=true
  | [],i=>.inl ⟨rfl,rfl⟩
  | t :: l,i=>by
    rw [firstP]
    rcases Bool.eq_false_or_eq_true (p t) with h | h
    · rw [if_pos h]
      exact .inr ⟨0,by simp,by simp,rfl,fun _=>h⟩
    · rw [if_neg (by simp [h])]
      rcases firstP_spec p l (i + 1) with ⟨h1,h2⟩ | ⟨j,h1,h2,h3,h4⟩
      · exact .inl ⟨h1,by rw [List.any_cons,h,h2];rfl⟩
      · refine .inr ⟨j + 1,by rw [h1];congr 1;omega,by simp;omega,?_,fun hj=>?_⟩
        · rw [List.take_succ_cons,List.any_cons,h,h3];rfl
        · simpa using h4 h2
set_option maxRecDepth 100000
set_option maxHeartbeats 4000000
attribute [local irreducible] W E R KP thenK blockK retK Good xwp aRun
def PredOK (f : FuncId) (caps : List DV) (p : T→Bool) (l : List T) : Prop:=(caps.map AV.d).all AV.nrm=true∧∀ i (hi : i < l.length),Good Try.prog f (nodeA l[i] :: caps.map AV.d) none (.b (p l[i])) none none
theorem idx145_good {f : FuncId} {caps : List DV} {p : T→Bool} {l : List T} (hp : PredOK f caps p l) (hl : l.length≤100000000) : Good Try.prog 145 [.d (.sl (encL l) l.length),.d (.fn f caps)] none (.i (firstP p l 0)) none none:=by
  refine b145 (by simp) (by simp) (w_init ?_)
  unfold x145
  repeat' (first|(apply r_mvV;rfl)|(apply r_mvS;rfl)|(apply k_E (v:=.d (.fn f caps));rfl)|(apply r_lenD;rfl)|(apply r_nilK)|(apply k_V;rfl)|(apply k_S;rfl)|(apply k_nil)|(apply w_seq)|(apply w_ops;((conv=>lhs;simp only [Nat.reduceAdd])<;>rfl))|(apply e_thenN)|(apply w_block))
  apply w_loopI (S:=fun i : Nat=>⟨(((Fr.nil.put 0 (.d (.sl (encL l) l.length))).put 1 (.d (.fn f caps))).put 7 (.i l.length)).put 8 (.i i),Heap.nil,Frz.lo 100,100⟩) (m:=fun i=>l.length - i) (I:=fun i=>i≤l.length∧firstP p l 0=firstP p (l.drop i) i) (i0:=0)
  · exact ⟨Nat.zero_le _,rfl⟩
  · refine wk0 (by omega) ?_
    repeat' (first|exact FWk.nil|(apply FWk.i;rfl;(first|rfl|omega|(simp;done)))|(apply FWk.d;rfl;rfl))
  rintro i K ⟨hi,hpp⟩ hK
  dsimp only
  rcases Nat.lt_or_ge i l.length with hlt | hge
  · have hs:=NodeAt.sub hlt
    have hg:=hp.2 i hlt
    have hd:=firstP_drop p l i hlt
    have hna : ([nodeA l[i]]++caps.map AV.d).all AV.nrm=true:=by rw [List.singleton_append,List.all_cons,nodeA_nrm,hp.1];rfl
    rcases Bool.eq_false_or_eq_true (p l[i]) with hq | hq
    · rw [hq] at hg
      rw [if_pos hq] at hd
      repeat' (first|(apply r_mvV;rfl)|(apply r_mvS;rfl)|(apply k_E (v:=.d (.fn f caps));rfl)|(apply r_p;apply ix_sub;rfl;rfl;omega)|(apply r_l;apply ld_node';exact hs;rfl)|(apply r_callvC (ags:=[nodeA l[i]]) (caps:=caps);rfl;rfl;exact hna;exact hg)|(apply r_lss;rfl;rfl;(first|(apply dT;omega)|(apply dF;omega)|rfl))|(apply r_p;rfl)|(apply r_nilK)|(apply k_V;rfl)|(apply k_S;rfl)|(apply k_nil)|(apply e_ret (vs:=[.d (.val _)]);rfl)|(apply w_seq)|(apply w_ops;((conv=>lhs;simp only [Nat.reduceAdd])<;>rfl))|(apply w_condT;rfl)|(apply e_thenN)|(apply w_block)|(apply e_thenR)|(apply e_blkR)|(apply w_ret)|(apply w_skip))
      exact retI (by rw [hpp,hd])
    · rw [hq] at hg
      rw [if_neg (by simp [hq])] at hd
      repeat' (first|(apply r_mvV;rfl)|(apply r_mvS;rfl)|(apply k_E (v:=.d (.fn f caps));rfl)|(apply r_p;apply ix_sub;rfl;rfl;omega)|(apply r_l;apply ld_node';exact hs;rfl)|(apply r_callvC (ags:=[nodeA l[i]]) (caps:=caps);rfl;rfl;exact hna;exact hg)|(apply r_lss;rfl;rfl;(first|(apply dT;omega)|(apply dF;omega)|rfl))|(apply r_add;rfl;rfl;rfl;omega)|(apply r_p;rfl)|(apply r_nilK)|(apply k_V;rfl)|(apply k_S;rfl)|(apply k_nil)|(apply w_seq)|(apply w_ops;((conv=>lhs;simp only [Nat.reduceAdd])<;>rfl))|(apply w_condT;rfl)|(apply w_condF;rfl)|(apply e_thenN)|(apply w_block)|(apply e_blkN)|(apply w_skip))
      apply e_thenK
      apply hK (i + 1)
      · exact ⟨by omega,by rw [hpp,hd]⟩
      · omega
      · refine wk0 (by omega) ?_
        repeat' (first|exact FWk.nil|(apply FWk.i;rfl;(first|rfl|omega|(simp;done)))|(apply FWk.d;rfl;rfl))
  · have e : firstP p l 0=-1:=by rw [hpp,List.drop_of_length_le hge,firstP]
    repeat' (first|(apply r_mvV;rfl)|(apply k_E (v:=.d (.fn f caps));rfl)|(apply r_lss;rfl;rfl;(first|(apply dT;omega)|(apply dF;omega)|rfl))|(apply r_nilK)|(apply k_V;rfl)|(apply k_S;rfl)|(apply k_nil)|(apply e_ret (vs:=[.d (.val _)]);rfl)|(apply w_seq)|(apply w_ops;((conv=>lhs;simp only [Nat.reduceAdd])<;>rfl))|(apply w_condF;rfl)|(apply e_thenN)|(apply e_thenX)|(apply e_blkE)|(apply w_exit)|(apply w_ret))
    exact retI e.symm
theorem contains104_good {f : FuncId} {caps : List DV} {p : T→Bool} {l : List T} (hp : PredOK f caps p l) (hl : l.length≤100000000) : Good Try.prog 104 [.d (.sl (encL l) l.length),.d (.fn f caps)] none (.b (l.any p)) none none:=by
  have h:=idx145_good hp hl
  have hq:=firstP_any p l 0
  generalize firstP p l 0=q at h hq
  refine b104 (by simp) (by simp) (w_init ?_)
  unfold x104
  have hna : [AV.d (.sl (encL l) l.length),.d (.fn f caps)].all AV.nrm=true:=rfl
  repeat' (first|(apply r_mvV;rfl)|(apply r_mvS;rfl)|(apply k_E (v:=.d (.fn f caps));rfl)|(apply r_mv (v:=.d (.fn f caps));rfl)|(apply r_callA (ags:=[.d (.sl (encL l) l.length),.d (.fn f caps)]);rfl;exact hna;exact h)|(apply r_geq;rfl;rfl;(first|(apply dT;omega)|(apply dF;omega)|rfl))|(apply r_nilK)|(apply k_V;rfl)|(apply k_S;rfl)|(apply k_nil)|(apply e_ret (vs:=[.d (.val _)]);rfl)|(apply w_seq)|(apply w_ops;((conv=>lhs;simp only [Nat.reduceAdd])<;>rfl))|(apply e_thenN)|(apply w_ret))
  all_goals exact retB hq
end Go.Sv
namespace Go.Sv
open Go Go.Proofs
def x112 : XC:=(.seq (.ops 3 [ (0,⟨some 2,none,.box (.t 0)⟩),(1,⟨some 3,none,.box (.t 1)⟩),(2,⟨some 4,none,.mv (.k (.d (.val (.bool false))))⟩)] (some [2,3])) (.seq (.ops 34 [ (0,⟨some 5,none,.fadd 0 (.t 2)⟩),(1,⟨some 6,none,.load none (.t 5)⟩),(2,⟨some 7,none,.fadd 0 (.t 3)⟩),(3,⟨some 8,none,.load none (.t 7)⟩),(4,⟨some 9,none,.arith .eql (.t 6) (.t 8)⟩),(5,⟨some 10,none,.mv (.t 9)⟩),(6,⟨some 11,(some (10,true)),.fadd 1 (.t 2)⟩),(7,⟨some 12,(some (10,true)),.load (some 4) (.t 11)⟩),(8,⟨some 13,(some (10,true)),.fadd 1 (.t 3)⟩),(9,⟨some 14,(some (10,true)),.load (some 4) (.t 13)⟩),(10,⟨some 15,(some (10,true)),.eqAgg 4 false (.t 12) (.t 14)⟩),(11,⟨some 16,none,.pick (.t 10) (.t 15) (.k (.d (.val (.bool false))))⟩),(12,⟨some 17,none,.mv (.t 16)⟩),(13,⟨some 18,(some (17,true)),.fadd 5 (.t 2)⟩),(14,⟨some 19,(some (17,true)),.load none (.t 18)⟩),(15,⟨some 20,(some (17,true)),.fadd 5 (.t 3)⟩),(16,⟨some 21,(some (17,true)),.load none (.t 20)⟩),(17,⟨some 22,(some (17,true)),.arith .eql (.t 19) (.t 21)⟩),(18,⟨some 23,none,.pick (.t 17) (.t 22) (.k (.d (.val (.bool false))))⟩),(19,⟨some 24,none,.mv (.t 23)⟩),(20,⟨some 25,(some (24,true)),.fadd 6 (.t 2)⟩),(21,⟨some 26,(some (24,true)),.load none (.t 25)⟩),(22,⟨some 27,(some (24,true)),.fadd 6 (.t 3)⟩),(23,⟨some 28,(some (24,true)),.load none (.t 27)⟩),(24,⟨some 29,(some (24,true)),.arith .eql (.t 26) (.t 28)⟩),(25,⟨some 30,none,.pick (.t 24) (.t 29) (.k (.d (.val (.bool false))))⟩),(26,⟨some 31,none,.mv (.t 30)⟩),(27,⟨some 32,(some (31,true)),.fadd 7 (.t 2)⟩),(28,⟨some 33,(some (31,true)),.load none (.t 32)⟩),(29,⟨some 34,(some (31,true)),.fadd 7 (.t 3)⟩),(30,⟨some 35,(some (31,true)),.load none (.t 34)⟩),(31,⟨some 36,(some (31,true)),.call 146 [(.t 33),(.t 35),(.k (.d (.fn 112 [])))] none false⟩),(32,⟨some 37,none,.pick (.t 31) (.t 36) (.k (.d (.val (.bool false))))⟩),(33,⟨some 4,none,.mv (.t 37)⟩)] (some [4])) .ret))
def md112 : FuncId→Option Nat × Bool
  | _=>(none,false)
def od112 : Nat→List (List Nat) × List Nat × Option (List Nat)
  | 0=>([],[],some [2,3])
  | 1=>([],[],some [4])
  | _=>([],[],none)
theorem b112 {ags : List AV} {row : Option (List DV)} {r : AV} {row' nw : Option (List DV)} (hal : ags.length≤38) (hrow : row'.isSome=true→row.isSome=true) (h : xwp Try.prog x112 (retK [.tmp 4] row.isSome r row' nw) (St.init ags row)) : Good Try.prog 112 ags row r row' nw :=
  good_of_body' (md:=md112) (od:=od112) Try.f112 (by kernel_rfl) (by kernel_rfl) (by kernel_rfl) (by kernel_rfl) (by kernel_rfl) hal hrow h

def x146 : XC:=(.seq (.ops 1 [ (0,⟨some 6,none,.mv (.k (.d (.val (.bool false))))⟩)] (some [0,1,2])) (.seq (.seq (.ops 5 [ (0,⟨some 10,none,.mv (.t 0)⟩),(1,⟨some 11,none,.lenS (.t 10)⟩),(2,⟨some 12,none,.mv (.t 1)⟩),(3,⟨some 13,none,.lenS (.t 12)⟩),(4,⟨some 14,none,.arith .neq (.t 11) (.t 13)⟩)] (some [0,1,2,14])) (.cond (.t 14) (.seq (.ops 1 [ (0,⟨some 6,none,.mv (.k (.d (.val (.bool false))))⟩)] (some [6])) .ret) .skip)) (.seq (.seq (.ops 3 [ (0,⟨some 15,none,.mv (.t 0)⟩),(1,⟨some 16,none,.lenS (.t 15)⟩),(2,⟨some 17,none,.mv (.k (.d (.val (.int .i64 0))))⟩)] (some [1,2,15,16,17])) (.block 0 (.loop (.seq (.ops 1 [ (0,⟨some 18,none,.arith .lss (.t 17) (.t 16)⟩)] (some [1,2,15,16,17,18])) (.seq (.cond (.t 18) .skip (.exit 0)) (.seq (.block 1 (.seq (.ops 6 [ (0,⟨some 19,none,.mv (.t 17)⟩),(1,⟨some 20,none,.idxS 8 (.t 15) (.t 17)⟩),(2,⟨some 21,none,.load (some 8) (.t 20)⟩),(3,⟨some 8,none,.alloc [(.int .i64 0),(.int .u64 0),(.int .u64 0),(.int .u64 0),(.int .u64 0),(.int .i64 0),(.int .i64 0),(.slice none 0 0)]⟩),(4,⟨some 7,none,.mv (.t 19)⟩),(5,⟨none,none,.store 8 (.t 8) (.t 21)⟩)] (some [1,2,7,8,15,16,17])) (.seq (.ops 6 [ (0,⟨some 22,none,.mv (.t 1)⟩),(1,⟨some 23,none,.mv (.t 7)⟩),(2,⟨some 24,none,.idxS 8 (.t 22) (.t 23)⟩),(3,⟨some 25,none,.load (some 8) (.t 24)⟩),(4,⟨some 9,none,.alloc [(.int .i64 0),(.int .u64 0),(.int .u64 0),(.int .u64 0),(.int .u64 0),(.int .i64 0),(.int .i64 0),(.slice none 0 0)]⟩),(5,⟨none,none,.store 8 (.t 9) (.t 25)⟩)] (some [1,2,8,9,15,16,17])) (.seq (.ops 5 [ (0,⟨some 26,none,.mv (.t 2)⟩),(1,⟨some 27,none,.load (some 8) (.t 8)⟩),(2,⟨some 28,none,.load (some 8) (.t 9)⟩),(3,⟨some 29,none,.callv (.t 26) [(.t 27),(.t 28)]⟩),(4,⟨some 30,none,.un .not (.t 29)⟩)] (some [1,2,15,16,17,30])) (.cond (.t 30) (.seq (.ops 1 [ (0,⟨some 6,none,.mv (.k (.d (.val (.bool false))))⟩)] (some [6])) .ret) .skip))))) (.ops 2 [ (0,⟨some 31,none,.arith .add (.t 17) (.k (.d (.val (.int .i64 1))))⟩),(1,⟨some 17,none,.mv (.t 31)⟩)] (some [1,2,15,16,17])))))))) (.seq (.ops 1 [ (0,⟨some 6,none,.mv (.k (.d (.val (.bool true))))⟩)] (some [6])) .ret))))
def md146 : FuncId→Option Nat × Bool
  | _=>(none,false)
def od146 : Nat→List (List Nat) × List Nat × Option (List Nat)
  | 0=>([],[],some [0,1,2])
  | 1=>([],[],some [0,1,2,14])
  | 2=>([],[],some [6])
  | 3=>([],[],some [1,2,15,16,17])
  | 4=>([],[],some [1,2,15,16,17,18])
  | 5=>([],[],some [1,2,7,8,15,16,17])
  | 6=>([],[],some [1,2,8,9,15,16,17])
  | 7=>([],[],some [1,2,15,16,17,30])
  | 8=>([],[],some [6])
  | 9=>([],[],some [1,2,15,16,17])
  | 10=>([],[],some [6])
  | _=>([],[],none)
theorem b146 {ags : List AV} {row : Option (List DV)} {r : AV} {row' nw : Option (List DV)} (hal : ags.length≤32) (hrow : row'.isSome=true→row.isSome=true) (h : xwp Try.prog x146 (retK [.tmp 6] row.isSome r row' nw) (St.init ags row)) : Good Try.prog 146 ags row r row' nw :=
  good_of_body' (md:=md146) (od:=od146) Try.f146 (by kernel_rfl) (by kernel_rfl) (by kernel_rfl) (by kernel_rfl) (by kernel_rfl) hal hrow h

def x111 : XC:=(.seq (.ops 2 [ (0,⟨some 2,none,.box (.t 0)⟩),(1,⟨some 3,none,.mv (.k (.d (.val (.bool false))))⟩)] (some [1,2])) (.seq (.ops 4 [ (0,⟨some 4,none,.load (some 8) (.t 2)⟩),(1,⟨some 5,none,.load (some 8) (.t 1)⟩),(2,⟨some 6,none,.call 112 [(.t 4),(.t 5)] none false⟩),(3,⟨some 3,none,.mv (.t 6)⟩)] (some [3])) .ret))
def md111 : FuncId→Option Nat × Bool
  | _=>(none,false)
def od111 : Nat→List (List Nat) × List Nat × Option (List Nat)
  | 0=>([],[],some [1,2])
  | 1=>([],[],some [3])
  | _=>([],[],none)
theorem b111 {ags : List AV} {row : Option (List DV)} {r : AV} {row' nw : Option (List DV)} (hal : ags.length≤7) (hrow : row'.isSome=true→row.isSome=true) (h : xwp Try.prog x111 (retK [.tmp 3] row.isSome r row' nw) (St.init ags row)) : Good Try.prog 111 ags row r row' nw :=
  good_of_body' (md:=md111) (od:=od111) Try.f111 (by kernel_rfl) (by kernel_rfl) (by kernel_rfl) (by kernel_rfl) (by kernel_rfl) hal hrow h

set_option maxRecDepth 100000
set_option maxHeartbeats 4000000
attribute [local irreducible] W E R KP thenK blockK retK Good xwp aRun
theorem eq146_of (l r : List T) (hl : l.length≤100000000) (h : ∀ i (h1 : i < l.length) (h2 : i < r.length),Good Try.prog 112 [nodeA l[i],nodeA r[i]] none (.b (sameT l[i] r[i])) none none) : Good Try.prog 146 [.d (.sl (encL l) l.length),.d (.sl (encL r) r.length),.d (.fn 112 [])] none (.b (sameL l r)) none none:=by
  by_cases hlen : l.length=r.length
  case neg =>
    refine b146 (by simp) (by simp) (w_init ?_)
    unfold x146
    repeat' (first|(apply r_mvV;rfl)|(apply r_mvS;rfl)|(apply k_E (v:=.d (.fn 112 []));rfl)|(apply r_neq;rfl;rfl;(first|(apply dT;omega)|(apply dF;omega)|rfl))|(apply r_lenD;rfl)|(apply r_nilK)|(apply k_V;rfl)|(apply k_S;rfl)|(apply k_nil)|(apply e_ret (vs:=[.d (.val _)]);rfl)|(apply w_seq)|(apply w_ops;((conv=>lhs;simp only [Nat.reduceAdd])<;>rfl))|(apply w_condT;rfl)|(apply e_thenN)|(apply e_thenR)|(apply w_ret))
    exact retB (sameL_len hlen).symm
  refine b146 (by simp) (by simp) (w_init ?_)
  unfold x146
  repeat' (first|(apply r_mvV;rfl)|(apply r_mvS;rfl)|(apply k_E (v:=.d (.fn 112 []));rfl)|(apply r_neq;rfl;rfl;(first|(apply dT;omega)|(apply dF;omega)|rfl))|(apply r_lenD;rfl)|(apply r_nilK)|(apply k_V;rfl)|(apply k_S;rfl)|(apply k_nil)|(apply w_seq)|(apply w_ops;((conv=>lhs;simp only [Nat.reduceAdd])<;>rfl))|(apply w_condF;rfl)|(apply e_thenN)|(apply w_block)|(apply w_skip))
  apply w_loopI (S:=fun i : Nat=>⟨((((Fr.nil.put 1 (.d (.sl (encL r) r.length))).put 2 (.d (.fn 112 []))).put 15 (.d (.sl (encL l) l.length))).put 16 (.i l.length)).put 17 (.i i),Heap.nil,Frz.lo 100,100⟩) (m:=fun i=>l.length - i) (I:=fun i=>i≤l.length∧sameL l r=sameL (l.drop i) (r.drop i)) (i0:=0)
  · exact ⟨Nat.zero_le _,rfl⟩
  · refine wk0 (by omega) ?_
    repeat' (first|exact FWk.nil|(apply FWk.i;rfl;(first|rfl|omega|(simp;done)))|(apply FWk.d;rfl;rfl))
  rintro i K ⟨hi,hp⟩ hK
  dsimp only
  rcases Nat.lt_or_ge i l.length with hlt | hge
  · have hlt2 : i < r.length:=by omega
    have hs:=NodeAt.sub hlt
    have hs2:=NodeAt.sub hlt2
    have hg:=h i hlt hlt2
    have hd:=sameL_drop l r i hlt hlt2
    rcases Bool.eq_false_or_eq_true (sameT l[i] r[i]) with hq | hq
    · rw [hq] at hg hd
      generalize l[i]=v at hs hg
      generalize r[i]=w at hs2 hg
      obtain ⟨k,a,b,c,d,mn,mx,subs⟩:=v
      obtain ⟨k2,a2,b2,c2,d2,mn2,mx2,subs2⟩:=w
      repeat' (first|(apply r_mvV;rfl)|(apply r_mvS;rfl)|(apply k_E (v:=.d (.fn 112 []));rfl)|(apply r_mv (v:=.d (.fn 112 []));rfl)|(apply r_p;apply ix_sub;rfl;rfl;omega)|(apply r_l (v:=.agg [.i k,.d (.val (.int .u64 a)),.d (.val (.int .u64 b)),.d (.val (.int .u64 c)),.d (.val (.int .u64 d)),.i mn,.i mx,.d (.sl (encL subs) subs.length)]);exact ld_node hs rfl)|(apply r_l (v:=.agg [.i k2,.d (.val (.int .u64 a2)),.d (.val (.int .u64 b2)),.d (.val (.int .u64 c2)),.d (.val (.int .u64 d2)),.i mn2,.i mx2,.d (.sl (encL subs2) subs2.length)]);exact ld_node hs2 rfl)|(apply r_ldL (v:=.agg [.i k,.d (.val (.int .u64 a)),.d (.val (.int .u64 b)),.d (.val (.int .u64 c)),.d (.val (.int .u64 d)),.i mn,.i mx,.d (.sl (encL subs) subs.length)]);rfl;rfl;rfl)|(apply r_ldL (v:=.agg [.i k2,.d (.val (.int .u64 a2)),.d (.val (.int .u64 b2)),.d (.val (.int .u64 c2)),.d (.val (.int .u64 d2)),.i mn2,.i mx2,.d (.sl (encL subs2) subs2.length)]);rfl;rfl;rfl)|(apply r_callv (ags:=[.agg [.i k,.d (.val (.int .u64 a)),.d (.val (.int .u64 b)),.d (.val (.int .u64 c)),.d (.val (.int .u64 d)),.i mn,.i mx,.d (.sl (encL subs) subs.length)],.agg [.i k2,.d (.val (.int .u64 a2)),.d (.val (.int .u64 b2)),.d (.val (.int .u64 c2)),.d (.val (.int .u64 d2)),.i mn2,.i mx2,.d (.sl (encL subs2) subs2.length)]]);rfl;rfl;rfl;exact hg)|(apply r_lss;rfl;rfl;(first|(apply dT;omega)|(apply dF;omega)|rfl))|(apply r_add;rfl;rfl;rfl;omega)|(apply r_not;rfl;rfl)|(apply r_alloc;((conv=>lhs;simp only [Nat.reduceAdd])<;>rfl);rfl)|(apply r_stL;rfl;rfl;rfl;rfl;(first|rfl|(simp only [z_nil,z_add]<;>rfl));rfl;rfl)|(apply r_nilK)|(apply k_V;rfl)|(apply k_PL;rfl)|(apply k_S;rfl)|(apply k_nil)|(apply w_seq)|(apply w_ops;((conv=>lhs;simp only [Nat.reduceAdd])<;>rfl))|(apply w_condT;rfl)|(apply w_condF;rfl)|(apply e_thenN)|(apply w_block)|(apply e_blkN)|(apply w_skip))
      apply e_thenK
      apply hK (i + 1)
      · exact ⟨by omega,by rw [hp,hd,Bool.true_and]⟩
      · omega
      · refine wk0 (by omega) ?_
        repeat' (first|exact FWk.nil|(apply FWk.i;rfl;(first|rfl|omega|(simp;done)))|(apply FWk.d;rfl;rfl))
    · rw [hq] at hg hd
      generalize l[i]=v at hs hg
      generalize r[i]=w at hs2 hg
      obtain ⟨k,a,b,c,d,mn,mx,subs⟩:=v
      obtain ⟨k2,a2,b2,c2,d2,mn2,mx2,subs2⟩:=w
      repeat' (first|(apply r_mvV;rfl)|(apply r_mvS;rfl)|(apply k_E (v:=.d (.fn 112 []));rfl)|(apply r_mv (v:=.d (.fn 112 []));rfl)|(apply r_p;apply ix_sub;rfl;rfl;omega)|(apply r_l (v:=.agg [.i k,.d (.val (.int .u64 a)),.d (.val (.int .u64 b)),.d (.val (.int .u64 c)),.d (.val (.int .u64 d)),.i mn,.i mx,.d (.sl (encL subs) subs.length)]);exact ld_node hs rfl)|(apply r_l (v:=.agg [.i k2,.d (.val (.int .u64 a2)),.d (.val (.int .u64 b2)),.d (.val (.int .u64 c2)),.d (.val (.int .u64 d2)),.i mn2,.i mx2,.d (.sl (encL subs2) subs2.length)]);exact ld_node hs2 rfl)|(apply r_ldL (v:=.agg [.i k,.d (.val (.int .u64 a)),.d (.val (.int .u64 b)),.d (.val (.int .u64 c)),.d (.val (.int .u64 d)),.i mn,.i mx,.d (.sl (encL subs) subs.length)]);rfl;rfl;rfl)|(apply r_ldL (v:=.agg [.i k2,.d (.val (.int .u64 a2)),.d (.val (.int .u64 b2)),.d (.val (.int .u64 c2)),.d (.val (.int .u64 d2)),.i mn2,.i mx2,.d (.sl (encL subs2) subs2.length)]);rfl;rfl;rfl)|(apply r_callv (ags:=[.agg [.i k,.d (.val (.int .u64 a)),.d (.val (.int .u64 b)),.d (.val (.int .u64 c)),.d (.val (.int .u64 d)),.i mn,.i mx,.d (.sl (encL subs) subs.length)],.agg [.i k2,.d (.val (.int .u64 a2)),.d (.val (.int .u64 b2)),.d (.val (.int .u64 c2)),.d (.val (.int .u64 d2)),.i mn2,.i mx2,.d (.sl (encL subs2) subs2.length)]]);rfl;rfl;rfl;exact hg)|(apply r_lss;rfl;rfl;(first|(apply dT;omega)|(apply dF;omega)|rfl))|(apply r_not;rfl;rfl)|(apply r_alloc;((conv=>lhs;simp only [Nat.reduceAdd])<;>rfl);rfl)|(apply r_stL;rfl;rfl;rfl;rfl;(first|rfl|(simp only [z_nil,z_add]<;>rfl));rfl;rfl)|(apply r_nilK)|(apply k_V;rfl)|(apply k_PL;rfl)|(apply k_S;rfl)|(apply k_nil)|(apply e_ret (vs:=[.d (.val _)]);rfl)|(apply w_seq)|(apply w_ops;((conv=>lhs;simp only [Nat.reduceAdd])<;>rfl))|(apply w_condT;rfl)|(apply e_thenN)|(apply w_block)|(apply e_thenR)|(apply e_blkR)|(apply w_ret)|(apply w_skip))
      exact retB (by rw [hp,hd,Bool.false_and])
  · have e : sameL l r=true:=by rw [hp,List.drop_of_length_le hge,List.drop_of_length_le (by omega),sameL]
    repeat' (first|(apply r_mvV;rfl)|(apply k_E (v:=.d (.fn 112 []));rfl)|(apply r_lss;rfl;rfl;(first|(apply dT;omega)|(apply dF;omega)|rfl))|(apply r_nilK)|(apply k_V;rfl)|(apply k_S;rfl)|(apply k_nil)|(apply e_ret (vs:=[.d (.val _)]);rfl)|(apply w_seq)|(apply w_ops;((conv=>lhs;simp only [Nat.reduceAdd])<;>rfl))|(apply w_condF;rfl)|(apply e_thenN)|(apply e_thenX)|(apply e_blkE)|(apply w_exit)|(apply w_ret))
    exact retB e.symm
theorem same112_good : ∀ (n : Nat) (t u : T),t.cnt≤n→n≤100000000→Good Try.prog 112 [nodeA t,nodeA u] none (.b (sameT t u)) none none:=by
  intro n
  induction n with
  | zero=>intro t u ht;have:=cnt_pos t;omega
  | succ n ih =>
  intro t u ht hc
  obtain ⟨k,a,b,c,d,mn,mx,subs⟩:=t
  obtain ⟨k2,a2,b2,c2,d2,mn2,mx2,subs2⟩:=u
  have hlen : subs.length≤100000000:=by
    have:=cntL_len subs
    simp only [T.cnt] at ht
    omega
  have h146:=eq146_of subs subs2 hlen fun i h1 h2=>by
    refine ih _ _ ?_ (by omega)
    have:=cntL_get subs i h1
    simp only [T.cnt] at ht
    omega
  have e0 : nodeA (.node k a b c d mn mx subs)=.agg [.i k,.d (.val (.int .u64 a)),.d (.val (.int .u64 b)),.d (.val (.int .u64 c)),.d (.val (.int .u64 d)),.i mn,.i mx,.d (.sl (encL subs) subs.length)]:=rfl
  have e1 : nodeA (.node k2 a2 b2 c2 d2 mn2 mx2 subs2)=.agg [.i k2,.d (.val (.int .u64 a2)),.d (.val (.int .u64 b2)),.d (.val (.int .u64 c2)),.d (.val (.int .u64 d2)),.i mn2,.i mx2,.d (.sl (encL subs2) subs2.length)]:=rfl
  rw [e0,e1]
  clear ih ht
  by_cases hk : k=k2
  case neg =>
    refine b112 (by simp) (by simp) (w_init ?_)
    unfold x112
    repeat' (first|(apply r_mvV;rfl)|(apply r_faddL;rfl)|(apply r_ldL;rfl;rfl;rfl)|(apply r_eql;rfl;rfl;(first|(apply dT;omega)|(apply dF;omega)|rfl))|(apply r_pickF;rfl)|(apply r_gF';rfl;rfl)|(apply r_box;((conv=>lhs;simp only [Nat.reduceAdd])<;>rfl);rfl;rfl;rfl)|(apply r_nilK)|(apply k_V;rfl)|(apply k_PL;rfl)|(apply k_nil)|(apply e_ret (vs:=[.d (.val _)]);rfl)|(apply w_seq)|(apply w_ops;((conv=>lhs;simp only [Nat.reduceAdd])<;>rfl))|(apply e_thenN)|(apply w_ret))
    exact retB (by simp [sameT,hk])
  subst hk
  rcases Bool.eq_false_or_eq_true (a == a2 && (b == b2 && (c == c2 && d == d2))) with hw | hw
  case inr =>
    refine b112 (by simp) (by simp) (w_init ?_)
    unfold x112
    repeat' (first|(apply r_mvV;rfl)|(apply r_faddL;rfl)|(apply r_ldL (v:=.agg [.d (.val (.int .u64 a)),.d (.val (.int .u64 b)),.d (.val (.int .u64 c)),.d (.val (.int .u64 d))]);rfl;rfl;rfl)|(apply r_ldL (v:=.agg [.d (.val (.int .u64 a2)),.d (.val (.int .u64 b2)),.d (.val (.int .u64 c2)),.d (.val (.int .u64 d2))]);rfl;rfl;rfl)|(apply r_eqX (r:=false);rfl;rfl;(rw [if_neg (by simp),hw]))|(apply r_ldL;rfl;rfl;rfl)|(apply r_eql;rfl;rfl;(first|(apply dT;omega)|(apply dF;omega)|rfl))|(apply r_pickT;rfl)|(apply r_pickF;rfl)|(apply r_gT;rfl)|(apply r_gF';rfl;rfl)|(apply r_box;((conv=>lhs;simp only [Nat.reduceAdd])<;>rfl);rfl;rfl;rfl)|(apply r_nilK)|(apply k_V;rfl)|(apply k_PL;rfl)|(apply k_nil)|(apply e_ret (vs:=[.d (.val _)]);rfl)|(apply w_seq)|(apply w_ops;((conv=>lhs;simp only [Nat.reduceAdd])<;>rfl))|(apply e_thenN)|(apply w_ret))
    refine retB ?_
    simp only [Bool.and_eq_false_iff,beq_eq_false_iff_ne] at hw
    simp only [sameT]
    symm
    simp only [Bool.and_eq_false_iff,beq_eq_false_iff_ne]
    rcases hw with h | h | h | h
    · exact .inl (.inl (.inl (.inr (.inl (.inl (.inl h))))))
    · exact .inl (.inl (.inl (.inr (.inl (.inl (.inr h))))))
    · exact .inl (.inl (.inl (.inr (.inl (.inr h)))))
    · exact .inl (.inl (.inl (.inr (.inr h))))
  have hs : sameT (.node k a b c d mn mx subs) (.node k a2 b2 c2 d2 mn2 mx2 subs2)=(mn == mn2 && mx == mx2 && sameL subs subs2):=by
    simp only [Bool.and_eq_true,beq_iff_eq] at hw
    obtain ⟨h1,h2,h3,h4⟩:=hw
    simp [sameT,h1,h2,h3,h4]
  rw [hs]
  clear hs
  by_cases hm : mn=mn2
  case neg =>
    refine b112 (by simp) (by simp) (w_init ?_)
    unfold x112
    repeat' (first|(apply r_mvV;rfl)|(apply r_faddL;rfl)|(apply r_ldL (v:=.agg [.d (.val (.int .u64 a)),.d (.val (.int .u64 b)),.d (.val (.int .u64 c)),.d (.val (.int .u64 d))]);rfl;rfl;rfl)|(apply r_ldL (v:=.agg [.d (.val (.int .u64 a2)),.d (.val (.int .u64 b2)),.d (.val (.int .u64 c2)),.d (.val (.int .u64 d2))]);rfl;rfl;rfl)|(apply r_eqX (r:=true);rfl;rfl;(rw [if_neg (by simp),hw]))|(apply r_ldL;rfl;rfl;rfl)|(apply r_eql;rfl;rfl;(first|(apply dT;omega)|(apply dF;omega)|rfl))|(apply r_pickT;rfl)|(apply r_pickF;rfl)|(apply r_gT;rfl)|(apply r_gF';rfl;rfl)|(apply r_box;((conv=>lhs;simp only [Nat.reduceAdd])<;>rfl);rfl;rfl;rfl)|(apply r_nilK)|(apply k_V;rfl)|(apply k_PL;rfl)|(apply k_nil)|(apply e_ret (vs:=[.d (.val _)]);rfl)|(apply w_seq)|(apply w_ops;((conv=>lhs;simp only [Nat.reduceAdd])<;>rfl))|(apply e_thenN)|(apply w_ret))
    exact retB (by simp [hm])
  by_cases hx : mx=mx2
  case neg =>
    refine b112 (by simp) (by simp) (w_init ?_)
    unfold x112
    repeat' (first|(apply r_mvV;rfl)|(apply r_faddL;rfl)|(apply r_ldL (v:=.agg [.d (.val (.int .u64 a)),.d (.val (.int .u64 b)),.d (.val (.int .u64 c)),.d (.val (.int .u64 d))]);rfl;rfl;rfl)|(apply r_ldL (v:=.agg [.d (.val (.int .u64 a2)),.d (.val (.int .u64 b2)),.d (.val (.int .u64 c2)),.d (.val (.int .u64 d2))]);rfl;rfl;rfl)|(apply r_eqX (r:=true);rfl;rfl;(rw [if_neg (by simp),hw]))|(apply r_ldL;rfl;rfl;rfl)|(apply r_eql;rfl;rfl;(first|(apply dT;omega)|(apply dF;omega)|rfl))|(apply r_pickT;rfl)|(apply r_pickF;rfl)|(apply r_gT;rfl)|(apply r_gF';rfl;rfl)|(apply r_box;((conv=>lhs;simp only [Nat.reduceAdd])<;>rfl);rfl;rfl;rfl)|(apply r_nilK)|(apply k_V;rfl)|(apply k_PL;rfl)|(apply k_nil)|(apply e_ret (vs:=[.d (.val _)]);rfl)|(apply w_seq)|(apply w_ops;((conv=>lhs;simp only [Nat.reduceAdd])<;>rfl))|(apply e_thenN)|(apply w_ret))
    exact retB (by simp [hx])
  subst hm hx
  rw [show (mn == mn && mx == mx && sameL subs subs2)=sameL subs subs2 by simp]
  generalize sameL subs subs2=q at h146
  refine b112 (by simp) (by simp) (w_init ?_)
  unfold x112
  repeat' (first|(apply r_mvV;rfl)|(apply r_faddL;rfl)|(apply r_ldL (v:=.agg [.d (.val (.int .u64 a)),.d (.val (.int .u64 b)),.d (.val (.int .u64 c)),.d (.val (.int .u64 d))]);rfl;rfl;rfl)|(apply r_ldL (v:=.agg [.d (.val (.int .u64 a2)),.d (.val (.int .u64 b2)),.d (.val (.int .u64 c2)),.d (.val (.int .u64 d2))]);rfl;rfl;rfl)|(apply r_eqX (r:=true);rfl;rfl;(rw [if_neg (by simp),hw]))|(apply r_callA (ags:=[.d (.sl (encL subs) subs.length),.d (.sl (encL subs2) subs2.length),.d (.fn 112 [])]);rfl;rfl;exact h146)|(apply r_ldL;rfl;rfl;rfl)|(apply r_eql;rfl;rfl;(first|(apply dT;omega)|(apply dF;omega)|rfl))|(apply r_pickT;rfl)|(apply r_gT;rfl)|(apply r_box;((conv=>lhs;simp only [Nat.reduceAdd])<;>rfl);rfl;rfl;rfl)|(apply r_nilK)|(apply k_V;rfl)|(apply k_PL;rfl)|(apply k_nil)|(apply e_ret (vs:=[.d (.val _)]);rfl)|(apply w_seq)|(apply w_ops;((conv=>lhs;simp only [Nat.reduceAdd])<;>rfl))|(apply e_thenN)|(apply w_ret))
  exact retB rfl
theorem clo111_good (o v : T) (h : o.cnt≤100000000) : Good Try.prog 111 [nodeA o,.d (.ptr (encN v) 0)] none (.b (sameT o v)) none none:=by
  have h112:=same112_good 100000000 o v h (Nat.le_refl _)
  obtain ⟨k,a,b,c,d,mn,mx,subs⟩:=o
  obtain ⟨k2,a2,b2,c2,d2,mn2,mx2,subs2⟩:=v
  have e0 : nodeA (.node k a b c d mn mx subs)=.agg [.i k,.d (.val (.int .u64 a)),.d (.val (.int .u64 b)),.d (.val (.int .u64 c)),.d (.val (.int .u64 d)),.i mn,.i mx,.d (.sl (encL subs) subs.length)]:=rfl
  have e1 : nodeA (.node k2 a2 b2 c2 d2 mn2 mx2 subs2)=.agg [.i k2,.d (.val (.int .u64 a2)),.d (.val (.int .u64 b2)),.d (.val (.int .u64 c2)),.d (.val (.int .u64 d2)),.i mn2,.i mx2,.d (.sl (encL subs2) subs2.length)]:=rfl
  rw [e0,e1] at h112
  rw [e0]
  refine b111 (by simp) (by simp) (w_init ?_)
  unfold x111
  repeat' (first|(apply r_mvV;rfl)|(apply r_ldL (v:=.agg [.i k,.d (.val (.int .u64 a)),.d (.val (.int .u64 b)),.d (.val (.int .u64 c)),.d (.val (.int .u64 d)),.i mn,.i mx,.d (.sl (encL subs) subs.length)]);rfl;rfl;rfl)|(apply r_l (v:=.agg [.i k2,.d (.val (.int .u64 a2)),.d (.val (.int .u64 b2)),.d (.val (.int .u64 c2)),.d (.val (.int .u64 d2)),.i mn2,.i mx2,.d (.sl (encL subs2) subs2.length)]);rfl)|(apply r_callA (ags:=[.agg [.i k,.d (.val (.int .u64 a)),.d (.val (.int .u64 b)),.d (.val (.int .u64 c)),.d (.val (.int .u64 d)),.i mn,.i mx,.d (.sl (encL subs) subs.length)],.agg [.i k2,.d (.val (.int .u64 a2)),.d (.val (.int .u64 b2)),.d (.val (.int .u64 c2)),.d (.val (.int .u64 d2)),.i mn2,.i mx2,.d (.sl (encL subs2) subs2.length)]]);rfl;rfl;exact h112)|(apply r_box;((conv=>lhs;simp only [Nat.reduceAdd])<;>rfl);rfl;rfl;rfl)|(apply r_nilK)|(apply k_V;rfl)|(apply k_P;rfl)|(apply k_PL;rfl)|(apply k_nil)|(apply e_ret (vs:=[.d (.val _)]);rfl)|(apply w_seq)|(apply w_ops;((conv=>lhs;simp only [Nat.reduceAdd])<;>rfl))|(apply e_thenN)|(apply w_ret))
  exact retB rfl
end Go.Sv
namespace Go.Sv
open Go Go.Proofs
def x107 : XC:=(.seq (.ops 1 [ (0,⟨some 4,none,.mv (.k (.d (.val (.slice none 0 0))))⟩)] (some [0,1])) (.seq (.ops 4 [ (0,⟨some 8,none,.mv (.t 0)⟩),(1,⟨some 9,none,.mv (.t 1)⟩),(2,⟨some 10,none,.call 145 [(.t 8),(.t 9)] none false⟩),(3,⟨some 5,none,.mv (.t 10)⟩)] (some [0,1,5])) (.seq (.seq (.ops 2 [ (0,⟨some 11,none,.mv (.t 5)⟩),(1,⟨some 12,none,.arith .eql (.t 11) (.k (.d (.val (.int .i64 (-1)))))⟩)] (some [0,1,5,12])) (.cond (.t 12) (.seq (.ops 2 [ (0,⟨some 13,none,.mv (.t 0)⟩),(1,⟨some 4,none,.mv (.t 13)⟩)] (some [4])) .ret) .skip)) (.seq (.seq (.ops 3 [ (0,⟨some 14,none,.mv (.t 5)⟩),(1,⟨some 15,none,.arith .add (.t 14) (.k (.d (.val (.int .i64 1))))⟩),(2,⟨some 6,none,.mv (.t 15)⟩)] (some [0,1,5,6])) (.block 0 (.loop (.seq (.seq (.ops 4 [ (0,⟨some 16,none,.mv (.t 6)⟩),(1,⟨some 17,none,.mv (.t 0)⟩),(2,⟨some 18,none,.lenS (.t 17)⟩),(3,⟨some 19,none,.arith .lss (.t 16) (.t 18)⟩)] (some [0,1,5,6,19])) (.cond (.t 19) .skip (.exit 0))) (.seq (.block 1 (.seq (.ops 6 [ (0,⟨some 22,none,.mv (.t 0)⟩),(1,⟨some 23,none,.mv (.t 6)⟩),(2,⟨some 24,none,.idxS 8 (.t 22) (.t 23)⟩),(3,⟨some 25,none,.load (some 8) (.t 24)⟩),(4,⟨some 7,none,.alloc [(.int .i64 0),(.int .u64 0),(.int .u64 0),(.int .u64 0),(.int .u64 0),(.int .i64 0),(.int .i64 0),(.slice none 0 0)]⟩),(5,⟨none,none,.store 8 (.t 7) (.t 25)⟩)] (some [0,1,5,6,7])) (.seq (.ops 4 [ (0,⟨some 26,none,.mv (.t 1)⟩),(1,⟨some 27,none,.load (some 8) (.t 7)⟩),(2,⟨some 28,none,.callv (.t 26) [(.t 27)]⟩),(3,⟨some 29,none,.un .not (.t 28)⟩)] (some [0,1,5,6,7,29])) (.cond (.t 29) (.seq (.ops 5 [ (0,⟨some 30,none,.mv (.t 0)⟩),(1,⟨some 31,none,.mv (.t 5)⟩),(2,⟨some 32,none,.load (some 8) (.t 7)⟩),(3,⟨some 33,none,.idxS 8 (.t 30) (.t 31)⟩),(4,⟨none,none,.store 8 (.t 33) (.t 32)⟩)] (some [0,1,5,6])) (.ops 3 [ (0,⟨some 34,none,.mv (.t 5)⟩),(1,⟨some 35,none,.arith .add (.t 34) (.k (.d (.val (.int .i64 1))))⟩),(2,⟨some 5,none,.mv (.t 35)⟩)] (some [0,1,5,6]))) .skip)))) (.ops 3 [ (0,⟨some 20,none,.mv (.t 6)⟩),(1,⟨some 21,none,.arith .add (.t 20) (.k (.d (.val (.int .i64 1))))⟩),(2,⟨some 6,none,.mv (.t 21)⟩)] (some [0,1,5,6]))))))) (.seq (.ops 4 [ (0,⟨some 36,none,.mv (.t 0)⟩),(1,⟨some 37,none,.mv (.t 5)⟩),(2,⟨some 38,none,.slS 8 (.t 36) (some (.t 37)) none⟩),(3,⟨none,none,.clr [(.int .i64 0),(.int .u64 0),(.int .u64 0),(.int .u64 0),(.int .u64 0),(.int .i64 0),(.int .i64 0),(.slice none 0 0)] (.t 38)⟩)] (some [0,5])) (.seq (.ops 4 [ (0,⟨some 39,none,.mv (.t 0)⟩),(1,⟨some 40,none,.mv (.t 5)⟩),(2,⟨some 41,none,.slS 8 (.t 39) none (some (.t 40))⟩),(3,⟨some 4,none,.mv (.t 41)⟩)] (some [4])) .ret))))))
def md107 : FuncId→Option Nat × Bool
  | _=>(none,false)
def od107 : Nat→List (List Nat) × List Nat × Option (List Nat)
  | 0=>([],[],some [0,1])
  | 1=>([],[],some [0,1,5])
  | 2=>([],[],some [0,1,5,12])
  | 3=>([],[],some [4])
  | 4=>([],[],some [0,1,5,6])
  | 5=>([],[],some [0,1,5,6,19])
  | 6=>([],[],some [0,1,5,6])
  | 7=>([],[],some [0,1,5,6,7])
  | 8=>([],[],some [0,1,5,6,7,29])
  | 9=>([],[],some [0,1,5,6])
  | 10=>([],[],some [0,1,5,6])
  | 11=>([],[],some [0,5])
  | 12=>([],[],some [4])
  | _=>([],[],none)
theorem b107 {ags : List AV} {row : Option (List DV)} {r : AV} {row' nw : Option (List DV)} (hal : ags.length≤42) (hrow : row'.isSome=true→row.isSome=true) (h : xwp Try.prog x107 (retK [.tmp 4] row.isSome r row' nw) (St.init ags row)) : Good Try.prog 107 ags row r row' nw :=
  good_of_body' (md:=md107) (od:=od107) Try.f107 (by kernel_rfl) (by kernel_rfl) (by kernel_rfl) (by kernel_rfl) (by kernel_rfl) hal hrow h

def zDV : List DV:=[.val (.int .i64 0),.val (.int .u64 0),.val (.int .u64 0),.val (.int .u64 0),.val (.int .u64 0),.val (.int .i64 0),.val (.int .i64 0),.val (.slice none 0 0)]
def zerosD : Nat→List DV
  | 0=>[]
  | n + 1=>zDV++zerosD n
theorem repl_zeros : ∀ n,repl (zeroA zsN) n=(zerosD n).map AV.d
  | 0=>rfl
  | n + 1=>by rw [repl,repl_zeros n,zerosD,List.map_append];rfl
theorem zerosD_len : ∀ n,(zerosD n).length=n * 8
  | 0=>rfl
  | n + 1=>by rw [zerosD,List.length_append,zerosD_len n,show zDV.length=8 from rfl];omega
section
variable {P : Program} {Q : Cont} {fr : Fr} {C : Heap} {Z : Frz} {nx : Nat} {base n d : Nat} {l : List (Nat × XO)} {kp : Option (List Nat)} {x i y s : X} {j : Nat}
theorem r_stN {a : X} {b : Nat} {t : T} {K : List T} (ha : a.ev fr=.ptrL b (j * 8)) (hx : x.ev fr=nodeA t) (hC : C b=some ((encL K).map AV.d)) (hz : Z b=false) (hj : j < K.length) (k : R P l base kp Q nx fr (C.put b ((encL (K.set j t)).map AV.d)) Z) : R P ((n,⟨none,none,.store 8 a x⟩) :: l) base kp Q nx fr C Z:=by
  refine r_stL (cs:=(encN t).map AV.d) ha hC hx rfl hz ?_ ?_ k
  · have h1 : (((encN t).map AV.d).length == 8)=true:=by rw [List.length_map,encN_len];rfl
    have h2 : Nat.ble (j * 8 + 8) ((encL K).map AV.d).length=true:=by
      rw [List.length_map,encL_length]
      exact Eq.mpr Nat.ble_eq (by omega)
    have h3 : ((encN t).map AV.d).all AV.one=true:=by cases t;rfl
    rw [h1,h2,h3];rfl
  · rw [encL_set K j t hj]
    simp [splice,List.map_take,List.map_drop]
theorem encL_take : ∀ (K : List T) (j : Nat),(encL K).take (j * 8)=encL (K.take j)
  | [],j=>by simp [encL]
  | t :: K,0=>by simp [encL]
  | t :: K,j + 1=>by
    rw [List.take_succ_cons,encL,encL,List.take_append,encN_len,List.take_of_length_le (l:=encN t) (by rw [encN_len];omega),show (j + 1) * 8 - 8=j * 8 by omega,encL_take K j]
theorem r_clrN {b m : Nat} {K : List T} (hx : x.ev fr=.slL b (j * 8) m 8) (hC : C b=some ((encL K).map AV.d)) (hz : Z b=false) (hj : j + m=K.length) (k : R P l base kp Q nx fr (C.put b ((encL (K.take j)++zerosD m).map AV.d)) Z) : R P ((n,⟨none,none,.clr [.int .i64 0,.int .u64 0,.int .u64 0,.int .u64 0,.int .u64 0,.int .i64 0,.int .i64 0,.slice none 0 0] x⟩) :: l) base kp Q nx fr C Z:=by
  refine r_w (v:=.tup []) (C':=C.put b ((encL (K.take j)++zerosD m).map AV.d)) ?_ k
  have hl : ((encL K).map AV.d).length=K.length * 8:=by rw [List.length_map,encL_length]
  have h1 : (8=([.int .i64 0,.int .u64 0,.int .u64 0,.int .u64 0,.int .u64 0,.int .i64 0,.int .i64 0,.slice none 0 0] : List Value).length∧Z b=false∧j * 8 + m * 8≤((encL K).map AV.d).length∧([.int .i64 0,.int .u64 0,.int .u64 0,.int .u64 0,.int .u64 0,.int .i64 0,.int .i64 0,.slice none 0 0] : List Value).all (·.oneCell')=true):=⟨rfl,hz,by omega,rfl⟩
  simp only [xw,hx,hC,Option.bind_some]
  rw [if_pos h1]
  congr 3
  have hr : repl (zeroA [.int .i64 0,.int .u64 0,.int .u64 0,.int .u64 0,.int .u64 0,.int .i64 0,.int .i64 0,.slice none 0 0]) m=(zerosD m).map AV.d:=repl_zeros m
  rw [hr,splice,List.drop_of_length_le (by rw [hl,List.length_map,zerosD_len];omega),List.append_nil,← List.map_take,encL_take,List.map_append]
theorem r_slLo {b m : Nat} {e : Int} (hx : x.ev fr=.slL b 0 m 8) (hi : i.ev fr=.i e) (he : e=(j : Nat)) (hj : j < m) (k : R P l base kp Q nx (fr.put d (.slL b (j * 8) (m - j) 8)) C Z) : R P ((n,⟨some d,none,.slS 8 x (some i) none⟩) :: l) base kp Q nx fr C Z:=by
  subst he
  refine r_p ?_ k
  have h1 : (0 : Int)≤(j : Int)∧(j : Int)≤(m : Int):=by omega
  simp only [xp,hx,if_true,hiOf,loOf,Option.bind_some,hi,intUpto,h1,and_self,Option.map_some,Int.toNat_natCast,Nat.zero_add]
  by_cases h0 : j=0
  · subst h0;simp
  · rw [if_neg h0,if_neg (by omega)]
theorem r_slHi {b m : Nat} {e : Int} (hx : x.ev fr=.slL b 0 m 8) (hi : i.ev fr=.i e) (he : e=(j : Nat)) (hj : j≤m) (k : R P l base kp Q nx (fr.put d (.slL b 0 j 8)) C Z) : R P ((n,⟨some d,none,.slS 8 x none (some i)⟩) :: l) base kp Q nx fr C Z:=by
  subst he
  refine r_p ?_ k
  have h1 : (0 : Int)≤(j : Int)∧(j : Int)≤(m : Int):=by omega
  simp only [xp,hx,if_true,hiOf,loOf,Option.bind_some,hi,intUpto,h1,and_self,Option.map_some,Int.toNat_natCast]
end
set_option maxRecDepth 100000
set_option maxHeartbeats 4000000
attribute [local irreducible] W E R KP thenK blockK retK Good xwp aRun
theorem filter_any {p : T→Bool} {l : List T} (h : l.any p=false) : l.filter (fun t=>!p t)=l:=by
  rw [List.filter_eq_self]
  intro t ht
  rw [List.any_eq_false] at h
  have:=h t ht
  simpa using this
theorem del107_good {f : FuncId} {caps : List DV} {p : T→Bool} {l : List T} (hp : PredOK f caps p l) (hl : l.length≤100000000) :
    Good Try.prog 107 [.slL 0 0 l.length 8,.d (.fn f caps)] (some (encL l)) (.slL 0 0 (l.filter fun t=>!p t).length 8) (some (encL (l.filter fun t=>!p t)++zerosD (l.length - (l.filter fun t=>!p t).length))) none:=by
  have h145:=idx145_good hp hl
  rcases firstP_spec p l 0 with ⟨h1,h2⟩ | ⟨j0,h1,h2,h3,h4⟩
  · rw [h1] at h145
    rw [filter_any h2,Nat.sub_self,zerosD,List.append_nil]
    refine b107 (by simp) (by simp) (w_init ?_)
    unfold x107
    repeat' (first|(apply r_mvV;rfl)|(apply r_mvSL;rfl)|(apply k_E (v:=.d (.fn f caps));rfl)|(apply r_mv (v:=.d (.fn f caps));rfl)|(apply r_callS2 (pre:=[]) (pre':=[]) (post:=[.d (.fn f caps)]) (post':=[.d (.fn f caps)]) (b:=0) (L:=l) (us:=[]);rfl;rfl;rfl;rfl;rfl;exact h145;rfl)|(apply r_eql;rfl;rfl;(first|(apply dT;omega)|(apply dF;omega)|rfl))|(apply r_nilK)|(apply k_V;rfl)|(apply k_SL;rfl)|(apply k_nil)|(apply e_ret;rfl)|(apply w_seq)|(apply w_ops;((conv=>lhs;simp only [Nat.reduceAdd])<;>rfl))|(apply w_condT;rfl)|(apply e_thenN)|(apply e_thenR)|(apply w_ret))
    exact .own 0 _ _ _ rfl rfl rfl rfl
  · rw [h1,Nat.zero_add] at h145
    refine b107 (by simp) (by simp) (w_init ?_)
    unfold x107
    repeat' (first|(apply r_mvV;rfl)|(apply r_mvSL;rfl)|(apply k_E (v:=.d (.fn f caps));rfl)|(apply r_mv (v:=.d (.fn f caps));rfl)|(apply r_callS2 (pre:=[]) (pre':=[]) (post:=[.d (.fn f caps)]) (post':=[.d (.fn f caps)]) (b:=0) (L:=l) (us:=[]);rfl;rfl;rfl;rfl;rfl;exact h145;rfl)|(apply r_eql;rfl;rfl;(first|(apply dT;omega)|(apply dF;omega)|rfl))|(apply r_add;rfl;rfl;rfl;omega)|(apply r_nilK)|(apply k_V;rfl)|(apply k_SL;rfl)|(apply k_nil)|(apply w_seq)|(apply w_ops;((conv=>lhs;simp only [Nat.reduceAdd])<;>rfl))|(apply w_condF;rfl)|(apply e_thenN)|(apply w_block)|(apply w_skip))
    apply w_loopI (ι:=Nat × Nat × List T) (S:=fun q=>⟨(((Fr.nil.put 0 (.slL 0 0 l.length 8)).put 1 (.d (.fn f caps))).put 5 (.i q.1)).put 6 (.i q.2.1),rowsOf [(0,(encL q.2.2).map AV.d)],Frz.buts 100 [0],100⟩) (m:=fun q=>l.length - q.2.1)
      (I:=fun q=>q.1 < q.2.1∧q.2.1≤l.length∧q.2.2.length=l.length∧q.2.2.take q.1=(l.take q.2.1).filter (fun t=>!p t)∧∀ x,q.2.1≤x→q.2.2[x]?=l[x]?) (i0:=(j0,j0 + 1,l))
    · refine ⟨by dsimp only;omega,by dsimp only;omega,rfl,?_,fun x _=>rfl⟩
      dsimp only
      rw [filter_take _ l j0 h2,if_neg (by simp [h4 h2]),List.append_nil,filter_any h3]
    · refine wkM [] [] rfl ?_ ?_ rfl ?_
      · intro p hp
        simp only [List.mem_cons,List.not_mem_nil,or_false] at hp
        rcases hp with rfl
        exact ⟨by omega,.inr ⟨rfl,_,rfl,.data (isD_encL _)⟩⟩
      · intro q hq;simp only [List.mem_cons,List.not_mem_nil,or_false] at hq;rcases hq with rfl<;>rfl
      · dsimp only
        repeat' (first|exact FWk.nil|(apply FWk.i;rfl;(first|rfl|omega|(simp;done)))|(apply FWk.sl;rfl;rfl;rfl;rfl;omega;rfl)|(apply FWk.d;rfl;rfl))
    rintro ⟨i,j,D⟩ K ⟨q1,q2,q3,q4,q5⟩ hK
    dsimp only at q1 q2 q3 q4 q5 hK ⊢
    rcases Nat.lt_or_ge j l.length with hlt | hge
    · have hltD : j < D.length:=by omega
      have hDj : D[j]=l[j]:=by
        have:=q5 j (Nat.le_refl _)
        rw [List.getElem?_eq_getElem hltD,List.getElem?_eq_getElem hlt] at this
        exact Option.some.inj this
      have hs:=NodeAt.sub hltD
      rw [hDj] at hs
      have hg:=hp.2 j hlt
      have hft : (l.take (j + 1)).filter (fun t=>!p t)=(l.take j).filter (fun t=>!p t)++(if (!p l[j])=true then [l[j]] else []):=filter_take (fun t=>!p t) l j hlt
      have hna : ([nodeA l[j]]++caps.map AV.d).all AV.nrm=true:=by rw [List.singleton_append,List.all_cons,nodeA_nrm,hp.1];rfl
      have hDx : ∀ x,j + 1≤x→D[x]?=l[x]?:=fun x hx=>q5 x (by omega)
      generalize hpv : p l[j]=b at hg hft
      generalize l[j]=v at hs hg hna hft
      obtain ⟨k2,a2,b2,c2,d2,mn2,mx2,subs2⟩:=v
      have e1 : nodeA (.node k2 a2 b2 c2 d2 mn2 mx2 subs2)=.agg [.i k2,.d (.val (.int .u64 a2)),.d (.val (.int .u64 b2)),.d (.val (.int .u64 c2)),.d (.val (.int .u64 d2)),.i mn2,.i mx2,.d (.sl (encL subs2) subs2.length)]:=rfl
      rw [e1] at hg hna
      cases b
      · simp only [Bool.not_false,if_true] at hft
        have hset : (D.set i (.node k2 a2 b2 c2 d2 mn2 mx2 subs2)).take (i + 1)=D.take i++[.node k2 a2 b2 c2 d2 mn2 mx2 subs2]:=by
          rw [List.take_succ_eq_append_getElem (by rw [List.length_set];omega),List.getElem_set_self,List.take_set_of_le (Nat.le_refl _)]
        repeat' (first|(apply r_mvV;rfl)|(apply r_mvSL;rfl)|(apply k_E (v:=.d (.fn f caps));rfl)|(apply r_mv (v:=.d (.fn f caps));rfl)|(apply r_ixN (j:=j);rfl;rfl;rfl;omega)|(apply r_ldN;rfl;rfl;exact hs)|(apply r_ldL (v:=.agg [.i k2,.d (.val (.int .u64 a2)),.d (.val (.int .u64 b2)),.d (.val (.int .u64 c2)),.d (.val (.int .u64 d2)),.i mn2,.i mx2,.d (.sl (encL subs2) subs2.length)]);rfl;rfl;rfl)|(apply r_callvC (ags:=[.agg [.i k2,.d (.val (.int .u64 a2)),.d (.val (.int .u64 b2)),.d (.val (.int .u64 c2)),.d (.val (.int .u64 d2)),.i mn2,.i mx2,.d (.sl (encL subs2) subs2.length)]]) (caps:=caps);rfl;rfl;exact hna;exact hg)|(apply r_ixN (j:=i);rfl;rfl;rfl;omega)|(apply r_stN (j:=i) (t:=.node k2 a2 b2 c2 d2 mn2 mx2 subs2) (K:=D);rfl;rfl;rfl;rfl;omega)|(apply r_lss;rfl;rfl;(first|(apply dT;omega)|(apply dF;omega)|rfl))|(apply r_add;rfl;rfl;rfl;omega)|(apply r_not;rfl;rfl)|(apply r_lenL;rfl)|(apply r_alloc;((conv=>lhs;simp only [Nat.reduceAdd])<;>rfl);rfl)|(apply r_stL;rfl;rfl;rfl;rfl;(first|rfl|(simp only [z_nil,z_add]<;>rfl));rfl;rfl)|(apply r_nilK)|(apply k_V;rfl)|(apply k_PL;rfl)|(apply k_SL;rfl)|(apply k_nil)|(apply w_seq)|(apply w_ops;((conv=>lhs;simp only [Nat.reduceAdd])<;>rfl))|(apply w_condT;rfl)|(apply e_thenN)|(apply w_block)|(apply e_blkN)|(apply w_skip))
        apply e_thenK
        apply hK (i + 1,j + 1,D.set i (.node k2 a2 b2 c2 d2 mn2 mx2 subs2))
        · refine ⟨by dsimp only;omega,by dsimp only;omega,by dsimp only;rw [List.length_set];exact q3,?_,fun x hx=>?_⟩
          · dsimp only
            rw [hft,← q4,hset]
          · dsimp only at hx ⊢
            rw [List.getElem?_set_ne (by omega)]
            exact hDx x hx
        · dsimp only;omega
        · refine wkM [] [] rfl ?_ ?_ rfl ?_
          · intro p hp
            simp only [List.mem_cons,List.not_mem_nil,or_false] at hp
            rcases hp with rfl
            exact ⟨by omega,.inr ⟨rfl,_,rfl,.data (isD_encL _)⟩⟩
          · intro q hq;simp only [List.mem_cons,List.not_mem_nil,or_false] at hq;rcases hq with rfl<;>rfl
          · dsimp only
            repeat' (first|exact FWk.nil|(apply FWk.i;rfl;(first|rfl|omega|(simp;done)))|(apply FWk.sl;rfl;rfl;rfl;rfl;omega;rfl)|(apply FWk.d;rfl;rfl))
      · simp only [Bool.not_true,Bool.false_eq_true,if_false,List.append_nil] at hft
        repeat' (first|(apply r_mvV;rfl)|(apply r_mvSL;rfl)|(apply k_E (v:=.d (.fn f caps));rfl)|(apply r_mv (v:=.d (.fn f caps));rfl)|(apply r_ixN (j:=j);rfl;rfl;rfl;omega)|(apply r_ldN;rfl;rfl;exact hs)|(apply r_ldL (v:=.agg [.i k2,.d (.val (.int .u64 a2)),.d (.val (.int .u64 b2)),.d (.val (.int .u64 c2)),.d (.val (.int .u64 d2)),.i mn2,.i mx2,.d (.sl (encL subs2) subs2.length)]);rfl;rfl;rfl)|(apply r_callvC (ags:=[.agg [.i k2,.d (.val (.int .u64 a2)),.d (.val (.int .u64 b2)),.d (.val (.int .u64 c2)),.d (.val (.int .u64 d2)),.i mn2,.i mx2,.d (.sl (encL subs2) subs2.length)]]) (caps:=caps);rfl;rfl;exact hna;exact hg)|(apply r_lss;rfl;rfl;(first|(apply dT;omega)|(apply dF;omega)|rfl))|(apply r_add;rfl;rfl;rfl;omega)|(apply r_not;rfl;rfl)|(apply r_lenL;rfl)|(apply r_alloc;((conv=>lhs;simp only [Nat.reduceAdd])<;>rfl);rfl)|(apply r_stL;rfl;rfl;rfl;rfl;(first|rfl|(simp only [z_nil,z_add]<;>rfl));rfl;rfl)|(apply r_nilK)|(apply k_V;rfl)|(apply k_PL;rfl)|(apply k_SL;rfl)|(apply k_nil)|(apply w_seq)|(apply w_ops;((conv=>lhs;simp only [Nat.reduceAdd])<;>rfl))|(apply w_condT;rfl)|(apply w_condF;rfl)|(apply e_thenN)|(apply w_block)|(apply e_blkN)|(apply w_skip))
        apply e_thenK
        apply hK (i,j + 1,D)
        · exact ⟨by dsimp only;omega,by dsimp only;omega,q3,by dsimp only;rw [hft,q4],hDx⟩
        · dsimp only;omega
        · refine wkM [] [] rfl ?_ ?_ rfl ?_
          · intro p hp
            simp only [List.mem_cons,List.not_mem_nil,or_false] at hp
            rcases hp with rfl
            exact ⟨by omega,.inr ⟨rfl,_,rfl,.data (isD_encL _)⟩⟩
          · intro q hq;simp only [List.mem_cons,List.not_mem_nil,or_false] at hq;rcases hq with rfl<;>rfl
          · dsimp only
            repeat' (first|exact FWk.nil|(apply FWk.i;rfl;(first|rfl|omega|(simp;done)))|(apply FWk.sl;rfl;rfl;rfl;rfl;omega;rfl)|(apply FWk.d;rfl;rfl))
    · have ej : j=l.length:=by omega
      subst ej
      rw [List.take_length] at q4
      rw [← q4]
      have hil : (D.take i).length=i:=by rw [List.length_take];omega
      rw [hil]
      repeat' (first|(apply r_mvV;rfl)|(apply r_mvSL;rfl)|(apply k_E (v:=.d (.fn f caps));rfl)|(apply r_slLo (j:=i);rfl;rfl;rfl;omega)|(apply r_clrN (j:=i) (K:=D);rfl;rfl;rfl;omega)|(apply r_slHi (j:=i);rfl;rfl;rfl;omega)|(apply r_lss;rfl;rfl;(first|(apply dT;omega)|(apply dF;omega)|rfl))|(apply r_lenL;rfl)|(apply r_nilK)|(apply k_V;rfl)|(apply k_SL;rfl)|(apply k_nil)|(apply e_ret;rfl)|(apply w_seq)|(apply w_ops;((conv=>lhs;simp only [Nat.reduceAdd])<;>rfl))|(apply w_condF;rfl)|(apply e_thenN)|(apply e_thenX)|(apply e_blkE)|(apply w_exit)|(apply w_ret))
      exact .own 0 _ _ _ rfl rfl rfl rfl
end Go.Sv
namespace Go.Sv
open Go Go.Proofs
def x53 : XC:=(.seq (.ops 1 [ (0,⟨some 2,none,.alloc [(.int .i64 0),(.int .u64 0),(.int .u64 0),(.int .u64 0),(.int .u64 0),(.int .i64 0),(.int .i64 0),(.slice none 0 0)]⟩)] (some [0,2])) (.seq (.ops 3 [ (0,⟨some 3,none,.mv (.t 0)⟩),(1,⟨some 4,none,.call 103 [(.k (.d (.val (.int .i64 3)))),(.t 3)] none true⟩),(2,⟨some 0,none,.mv (.t 4)⟩)] (some [0,2])) (.seq (.seq (.ops 2 [ (0,⟨some 5,none,.mv (.t 0)⟩),(1,⟨some 6,none,.call 104 [(.t 5),(.k (.d (.fn 105 [])))] none false⟩)] (some [0,2,6])) (.cond (.t 6) (.seq (.ops 2 [ (0,⟨some 7,none,.call 106 [] none false⟩),(1,⟨none,none,.store 8 (.t 2) (.t 7)⟩)] (some [2])) .ret) .skip)) (.seq (.ops 3 [ (0,⟨some 8,none,.mv (.t 0)⟩),(1,⟨some 9,none,.call 107 [(.t 8),(.k (.d (.fn 108 [])))] (some 0) false⟩),(2,⟨some 0,none,.mv (.t 9)⟩)] (some [0,2])) (.seq (.ops 4 [ (0,⟨some 10,none,.mv (.t 0)⟩),(1,⟨some 11,none,.call 110 [] none false⟩),(2,⟨some 12,none,.call 109 [(.k (.d (.val (.int .i64 3)))),(.t 10),(.t 11)] none false⟩),(3,⟨none,none,.store 8 (.t 2) (.t 12)⟩)] (some [2])) .ret)))))
def md53 : FuncId→Option Nat × Bool
  | 103=>(none,true)
  | 107=>(some 0,false)
  | _=>(none,false)
def od53 : Nat→List (List Nat) × List Nat × Option (List Nat)
  | 0=>([],[],some [0,2])
  | 1=>([],[],some [0,2])
  | 2=>([],[],some [0,2,6])
  | 3=>([],[],some [2])
  | 4=>([],[],some [0,2])
  | 5=>([],[],some [2])
  | _=>([],[],none)
theorem b53 {ags : List AV} {row : Option (List DV)} {r : AV} {row' nw : Option (List DV)} (hal : ags.length≤13) (hrow : row'.isSome=true→row.isSome=true) (h : xwp Try.prog x53 (retK [.cell 2 (some 8)] row.isSome r row' nw) (St.init ags row)) : Good Try.prog 53 ags row r row' nw :=
  good_of_body' (md:=md53) (od:=od53) Try.f53 (by kernel_rfl) (by kernel_rfl) (by kernel_rfl) (by kernel_rfl) (by kernel_rfl) hal hrow h

section
variable {P : Program} {Q : Cont} {fr : Fr} {C : Heap} {Z : Frz} {nx : Nat} {base n d : Nat} {l : List (Nat × XO)} {kp : Option (List Nat)} {x i y s : X} {j : Nat}
theorem conv_rowT {ex : Nat→Bool} {id m : Nat} {L : List T} {M : List DV} (hC : C id=some ((encL L++M).map AV.d)) (hm : L.length=m) (hex : ex id=false) : convC C ex 9 (.slL id 0 m 8)=some (.sl (encL L) m,if m=0 then [] else [id]):=by
  subst hm
  rcases Nat.eq_zero_or_pos L.length with h | h
  · have : L=[]:=List.length_eq_zero_iff.1 h
    subst this
    simp [convC,encL]
  · have hl : ((encL L++M).map AV.d).length=L.length * 8 + M.length:=by rw [List.length_map,List.length_append,encL_length]
    simp only [convC]
    rw [if_neg (by omega),if_neg (by simp [hex]),if_neg (by omega)]
    simp only [hC,Option.bind_some]
    rw [if_pos (by omega),List.drop_zero,List.map_append,List.take_append_of_le_length (by rw [List.length_map,encL_length];omega),List.take_of_length_le (by rw [List.length_map,encL_length];omega),mapO_encL]
    rfl
theorem r_callS4 {f : FuncId} {xs : List X} {pre pre' post post' : List AV} {b m : Nat} {L : List T} {M : List DV} {r : AV} {us : List Nat} (ha : xs.map (X.ev fr)=pre++.slL b 0 m 8 :: post) (hn : convAs C (fun _=>false) pre=some (pre',[])) (hp : convAs C (fun _=>false) post=some (post',[])) (hC : C b=some ((encL L++M).map AV.d)) (hm : L.length=m) (hg : Good P f (pre'++.d (.sl (encL L) m) :: post') none r none none) (hu : (if r.scalar=true then [] else if m=0 then [] else [b])=us)
    (k : R P l base kp Q nx (fr.put d r) C (Z.add us)) : R P ((n,⟨some d,none,.call f xs none false⟩) :: l) base kp Q nx fr C Z:=by
  subst hu
  refine r_call (bs:=pre'++.d (.sl (encL L) m) :: post') (us:=[]++((if m=0 then [] else [b])++[])) ha ?_ hg (by simp) k
  refine convAs_app hn ?_
  simp only [convAs,convA,conv_rowT (ex:=fun _=>false) hC hm rfl,Option.map_some,Option.bind_some,hp]
theorem r_callOwn {f : FuncId} {xs : List X} {ags : List AV} {b m m' : Nat} {ds ds' : List DV} (ha : xs.map (X.ev fr)=.slL b 0 m 8 :: ags) (hn : ags.all AV.nrm=true) (hC : C b=some (ds.map AV.d)) (hz : Z b=false) (hg : Good P f (.slL 0 0 m 8 :: ags) (some ds) (.slL 0 0 m' 8) (some ds') none)
    (k : R P l base kp Q nx (fr.put d (.slL b 0 m' 8)) (C.put b (ds'.map AV.d)) Z) : R P ((n,⟨some d,none,.call f xs (some 0) false⟩) :: l) base kp Q nx fr C Z:=by
  have hcv : convAsL C b 0 (.slL b 0 m 8 :: ags)=some (.slL 0 0 m 8 :: ags,[]):=by
    simp only [convAsL,convAs_nrm ags hn,Option.map_some,toZ]
  exact s_callL (Z':=Z) ha rfl hC hz hcv hg (by simp [Frz.add_nil]) rfl k
end
set_option maxRecDepth 100000
set_option maxHeartbeats 4000000
attribute [local irreducible] W E R KP thenK blockK retK Good xwp aRun
theorem cat53_good (l : List T) (hc : cntL l≤50000000) : Good Try.prog 53 [.d (.sl (encL l) l.length)] none (nodeA (catS l)) none none:=by
  have hll:=cntL_len l
  have hfl:=flatL_len 3 l
  have h103:=flat103_good 3 l hc
  have hpn : PredOK 105 [] isNo (flatL 3 l):=⟨rfl,fun i _=>no105_good _⟩
  have hpe : PredOK 108 [] (fun t=>!notE t) (flatL 3 l):=⟨rfl,fun i _=>e108_good _⟩
  have h104:=contains104_good hpn (by omega)
  have h107:=del107_good hpe (by omega)
  have h110:=empty110_good
  have h106:=no106_good
  have e1 : (flatL 3 l).filter (fun t=>!(fun t=>!notE t) t)=(flatL 3 l).filter notE:=by
    congr 1;funext t;simp
  rw [e1] at h107
  have hfle:=List.length_filter_le notE (flatL 3 l)
  have hof:=put109_good 3 ((flatL 3 l).filter notE) emptyT (by omega)
  have hcat : catS l=if (flatL 3 l).any isNo=true then noneT else ofT 3 ((flatL 3 l).filter notE) emptyT:=rfl
  rw [hcat]
  clear hcat hpn hpe e1
  generalize hq : (flatL 3 l).any isNo=q at h104 ⊢
  generalize (flatL 3 l).filter notE=r at h107 hof hfle ⊢
  generalize flatL 3 l=out at h103 h104 h107 hfl hfle
  have hE : nodeA emptyT=.agg [.i 1,.d (.val (.int .u64 0)),.d (.val (.int .u64 0)),.d (.val (.int .u64 0)),.d (.val (.int .u64 0)),.i 0,.i 0,.d (.sl [] 0)]:=rfl
  rw [hE] at h110 hof
  cases q
  · rw [if_neg (by simp)]
    generalize ofT 3 r emptyT=u at hof
    obtain ⟨k2,a2,b2,c2,d2,mn2,mx2,subs2⟩:=u
    match out,r,h103,h104,h107,hof with
    | [],[],h103,h104,h107,hof =>
      simp only [List.length_nil] at h103 h104 h107 hof ⊢
      refine b53 (by simp) (by simp) (w_init ?_)
      unfold x53
      repeat' (first|(apply r_mvS;rfl)|(apply r_mvSL;rfl)|(apply r_callMN (id:=3) (us:=[]);rfl;rfl;rfl;exact h103;rfl)|(apply r_callS2 (pre:=[]) (pre':=[]) (post:=[.d (.fn 105 [])]) (post':=[.d (.fn 105 [])]) (b:=3) (L:=[]) (us:=[]);rfl;rfl;rfl;rfl;rfl;exact h104;rfl)|(apply r_callOwn (b:=3) (ags:=[.d (.fn 108 [])]) (ds:=encL []);rfl;rfl;rfl;rfl;exact h107)|(apply r_callA (ags:=[]);rfl;rfl;exact h110)|(apply r_callS4 (pre:=[.i 3]) (pre':=[.i 3]) (post:=[.agg [.i 1,.d (.val (.int .u64 0)),.d (.val (.int .u64 0)),.d (.val (.int .u64 0)),.d (.val (.int .u64 0)),.i 0,.i 0,.d (.sl [] 0)]]) (post':=[.agg [.i 1,.d (.val (.int .u64 0)),.d (.val (.int .u64 0)),.d (.val (.int .u64 0)),.d (.val (.int .u64 0)),.i 0,.i 0,.d (.sl [] 0)]]) (b:=3) (L:=[]) (us:=[]);rfl;rfl;rfl;rfl;rfl;exact hof;rfl)|(apply r_alloc;((conv=>lhs;simp only [Nat.reduceAdd])<;>rfl);rfl)|(apply r_stL;rfl;rfl;rfl;rfl;(first|rfl|(simp only [z_nil,z_add]<;>rfl));rfl;rfl)|(apply r_nilK)|(apply k_V;rfl)|(apply k_PL;rfl)|(apply k_S;rfl)|(apply k_SL;rfl)|(apply k_nil)|(apply e_ret;rfl)|(apply w_seq)|(apply w_ops;((conv=>lhs;simp only [Nat.reduceAdd])<;>rfl))|(apply w_condF;rfl)|(apply e_thenN)|(apply w_ret)|(apply w_skip))
      exact .data _ rfl
    | x :: o,[],h103,h104,h107,hof =>
      simp only [List.length_nil,List.length_cons] at h103 h104 h107 hof ⊢
      refine b53 (by simp) (by simp) (w_init ?_)
      unfold x53
      repeat' (first|(apply r_mvS;rfl)|(apply r_mvSL;rfl)|(apply r_callMN (id:=3) (us:=[]);rfl;rfl;rfl;exact h103;rfl)|(apply r_callS2 (pre:=[]) (pre':=[]) (post:=[.d (.fn 105 [])]) (post':=[.d (.fn 105 [])]) (b:=3) (L:=x :: o) (us:=[]);rfl;rfl;rfl;rfl;rfl;exact h104;rfl)|(apply r_callOwn (b:=3) (ags:=[.d (.fn 108 [])]) (ds:=encL (x :: o));rfl;rfl;rfl;rfl;exact h107)|(apply r_callA (ags:=[]);rfl;rfl;exact h110)|(apply r_callS4 (pre:=[.i 3]) (pre':=[.i 3]) (post:=[.agg [.i 1,.d (.val (.int .u64 0)),.d (.val (.int .u64 0)),.d (.val (.int .u64 0)),.d (.val (.int .u64 0)),.i 0,.i 0,.d (.sl [] 0)]]) (post':=[.agg [.i 1,.d (.val (.int .u64 0)),.d (.val (.int .u64 0)),.d (.val (.int .u64 0)),.d (.val (.int .u64 0)),.i 0,.i 0,.d (.sl [] 0)]]) (b:=3) (L:=[]) (us:=[]);rfl;rfl;rfl;rfl;rfl;exact hof;rfl)|(apply r_alloc;((conv=>lhs;simp only [Nat.reduceAdd])<;>rfl);rfl)|(apply r_stL;rfl;rfl;rfl;rfl;(first|rfl|(simp only [z_nil,z_add]<;>rfl));rfl;rfl)|(apply r_nilK)|(apply k_V;rfl)|(apply k_PL;rfl)|(apply k_S;rfl)|(apply k_SL;rfl)|(apply k_nil)|(apply e_ret;rfl)|(apply w_seq)|(apply w_ops;((conv=>lhs;simp only [Nat.reduceAdd])<;>rfl))|(apply w_condF;rfl)|(apply e_thenN)|(apply w_ret)|(apply w_skip))
      exact .data _ rfl
    | x :: o,y :: r,h103,h104,h107,hof =>
      simp only [List.length_cons] at h103 h104 h107 hof ⊢
      refine b53 (by simp) (by simp) (w_init ?_)
      unfold x53
      repeat' (first|(apply r_mvS;rfl)|(apply r_mvSL;rfl)|(apply r_callMN (id:=3) (us:=[]);rfl;rfl;rfl;exact h103;rfl)|(apply r_callS2 (pre:=[]) (pre':=[]) (post:=[.d (.fn 105 [])]) (post':=[.d (.fn 105 [])]) (b:=3) (L:=x :: o) (us:=[]);rfl;rfl;rfl;rfl;rfl;exact h104;rfl)|(apply r_callOwn (b:=3) (ags:=[.d (.fn 108 [])]) (ds:=encL (x :: o));rfl;rfl;rfl;rfl;exact h107)|(apply r_callA (ags:=[]);rfl;rfl;exact h110)|(apply r_callS4 (pre:=[.i 3]) (pre':=[.i 3]) (post:=[.agg [.i 1,.d (.val (.int .u64 0)),.d (.val (.int .u64 0)),.d (.val (.int .u64 0)),.d (.val (.int .u64 0)),.i 0,.i 0,.d (.sl [] 0)]]) (post':=[.agg [.i 1,.d (.val (.int .u64 0)),.d (.val (.int .u64 0)),.d (.val (.int .u64 0)),.d (.val (.int .u64 0)),.i 0,.i 0,.d (.sl [] 0)]]) (b:=3) (L:=y :: r) (us:=[3]);rfl;rfl;rfl;rfl;rfl;exact hof;rfl)|(apply r_alloc;((conv=>lhs;simp only [Nat.reduceAdd])<;>rfl);rfl)|(apply r_stL;rfl;rfl;rfl;rfl;(first|rfl|(simp only [z_nil,z_add]<;>rfl));rfl;rfl)|(apply r_nilK)|(apply k_V;rfl)|(apply k_PL;rfl)|(apply k_S;rfl)|(apply k_SL;rfl)|(apply k_nil)|(apply e_ret;rfl)|(apply w_seq)|(apply w_ops;((conv=>lhs;simp only [Nat.reduceAdd])<;>rfl))|(apply w_condF;rfl)|(apply e_thenN)|(apply w_ret)|(apply w_skip))
      exact .data _ rfl
  · rw [if_pos rfl]
    have hN : nodeA noneT=.agg [.i 2,.d (.val (.int .u64 0)),.d (.val (.int .u64 0)),.d (.val (.int .u64 0)),.d (.val (.int .u64 0)),.i 0,.i 0,.d (.sl [] 0)]:=rfl
    rw [hN] at h106
    refine b53 (by simp) (by simp) (w_init ?_)
    unfold x53
    repeat' (first|(apply r_mvS;rfl)|(apply r_mvSL;rfl)|(apply r_callMN (id:=3) (us:=[]);rfl;rfl;rfl;exact h103;rfl)|(apply r_callS2 (pre:=[]) (pre':=[]) (post:=[.d (.fn 105 [])]) (post':=[.d (.fn 105 [])]) (b:=3) (L:=out) (us:=[]);rfl;rfl;rfl;rfl;rfl;exact h104;rfl)|(apply r_callA (ags:=[]);rfl;rfl;exact h106)|(apply r_alloc;((conv=>lhs;simp only [Nat.reduceAdd])<;>rfl);rfl)|(apply r_stL;rfl;rfl;rfl;rfl;(first|rfl|(simp only [z_nil,z_add]<;>rfl));rfl;rfl)|(apply r_nilK)|(apply k_V;rfl)|(apply k_PL;rfl)|(apply k_S;rfl)|(apply k_SL;rfl)|(apply k_nil)|(apply e_ret;rfl)|(apply w_seq)|(apply w_ops;((conv=>lhs;simp only [Nat.reduceAdd])<;>rfl))|(apply w_condT;rfl)|(apply e_thenN)|(apply e_thenR)|(apply w_ret))
    exact .data _ rfl
end Go.Sv
namespace Go.Sv
open Go Go.Proofs

section
variable {P : Program} {Q : Cont} {fr : Fr} {C : Heap} {Z : Frz} {nx : Nat} {base n d : Nat} {l : List (Nat × XO)} {kp : Option (List Nat)} {x i y s : X} {j : Nat}
theorem r_orW {a b : Int} (hx : x.ev fr=.d (.val (.int .u64 a))) (hy : y.ev fr=.d (.val (.int .u64 b))) (ha : okW a) (hb : okW b) (k : R P l base kp Q nx (fr.put d (.d (.val (.int .u64 (orW a b))))) C Z) : R P ((n,⟨some d,none,.arith .or x y⟩) :: l) base kp Q nx fr C Z:=by
  refine r_p ?_ k
  have e : IntKind.wrap .u64 (orW a b)=orW a b:=by
    obtain ⟨h1,h2⟩:=okW_or ha hb
    generalize orW a b=w at h1 h2
    simp [IntKind.wrap,IntKind.signed,IntKind.bits];omega
  simp only [xp,hx,hy,arith,if_true]
  exact congrArg (fun z=>some (AV.d (DV.val (Value.int .u64 z)))) e
end
def zipO (a b c d a' b' c' d' : Int) (i : Nat) : List Int:=[orW a a',orW b b',orW c c',orW d d'].take i++[a,b,c,d].drop i
theorem encL_setW : ∀ (K : List T) (j : Nat) (a b c d w0 w1 w2 w3 : Int),K[j]?=some (.node 2 a b c d 0 0 [])→splice ((encL K).map AV.d) (j * 8 + 1) [.d (.val (.int .u64 w0)),.d (.val (.int .u64 w1)),.d (.val (.int .u64 w2)),.d (.val (.int .u64 w3))]=(encL (K.set j (.node 2 w0 w1 w2 w3 0 0 []))).map AV.d
  | t :: K,0,a,b,c,d,w0,w1,w2,w3,h=>by
    simp only [List.getElem?_cons_zero,Option.some.injEq] at h
    subst h
    simp [splice,encL,encN]
  | t :: K,j + 1,a,b,c,d,w0,w1,w2,w3,h=>by
    have ih:=encL_setW K j a b c d w0 w1 w2 w3 (by simpa using h)
    have hl : ((encN t).map AV.d).length=8:=by rw [List.length_map,encN_len]
    simp only [List.set_cons_succ,encL,List.map_append,← ih,splice]
    rw [List.take_append,List.drop_append,hl,List.take_of_length_le (l:=(encN t).map AV.d) (by rw [hl];omega),List.drop_of_length_le (l:=(encN t).map AV.d) (by rw [hl];simp;omega),List.nil_append,show (j + 1) * 8 + 1 - 8=j * 8 + 1 by omega]
    simp only [List.append_assoc,List.length_cons,List.length_nil]
    rw [show (j + 1) * 8 + 1 + (0 + 1 + 1 + 1 + 1) - 8=j * 8 + 1 + (0 + 1 + 1 + 1 + 1) by omega]
set_option maxRecDepth 100000
set_option maxHeartbeats 4000000
attribute [local irreducible] W E R KP thenK blockK retK Good xwp aRun
theorem or73_good {a b c d a' b' c' d' : Int} (ha : okW a) (hb : okW b) (hc : okW c) (hd : okW d) (ha' : okW a') (hb' : okW b') (hc' : okW c') (hd' : okW d') :
    Good Try.prog 73 [setA a b c d,setA a' b' c' d'] none (setA (orW a a') (orW b b') (orW c c') (orW d d')) none none:=by
  unfold setA
  refine b73 (by simp) (by simp) (w_init ?_)
  unfold x73
  repeat' (first|(apply r_mvV;rfl)|(apply r_alloc;((conv=>lhs;simp only [Nat.reduceAdd])<;>rfl);rfl)|(apply r_box;((conv=>lhs;simp only [Nat.reduceAdd])<;>rfl);rfl;rfl;rfl)|(apply r_nilK)|(apply k_V;rfl)|(apply k_PL;rfl)|(apply k_nil)|(apply w_seq)|(apply w_ops;((conv=>lhs;simp only [Nat.reduceAdd])<;>rfl))|(apply e_thenN)|(apply w_block))
  apply w_loopI (S:=fun i : Nat=>⟨(((Fr.nil.put 2 (.ptrL 1 0)).put 3 (.ptrL 2 0)).put 4 (.ptrL 3 0)).put 6 (.i i),rowsOf [(1,encW (zipO a b c d a' b' c' d' i)),(2,encW [a',b',c',d']),(3,encW [0,0,0,0])],Frz.buts 100 [1,3],100⟩) (m:=fun i=>4 - i) (I:=fun i=>i≤4) (i0:=0)
  · exact Nat.zero_le _
  · refine wkM [] [] rfl ?_ ?_ rfl ?_
    · intro p hp
      simp only [List.mem_cons,List.not_mem_nil,or_false] at hp
      rcases hp with rfl | rfl | rfl
      · exact ⟨by omega,.inr ⟨rfl,_,rfl,.data rfl⟩⟩
      · exact ⟨by omega,.inr ⟨rfl,_,rfl,.data rfl⟩⟩
      · exact ⟨by omega,.inr ⟨rfl,_,rfl,.data rfl⟩⟩
    · intro q hq;simp only [List.mem_cons,List.not_mem_nil,or_false] at hq;rcases hq with rfl | rfl<;>rfl
    · repeat' (first|exact FWk.nil|(apply FWk.i;rfl;(first|rfl|omega|(simp;done)))|(apply FWk.ptr;rfl;rfl;rfl;omega;rfl))
  intro i K hi hK
  dsimp only
  rcases Nat.lt_or_ge i 4 with hlt | hge
  · have hzl : (zipO a b c d a' b' c' d' i).length=4:=by
      match i,hlt with
      | 0,_=>rfl
      | 1,_=>rfl
      | 2,_=>rfl
      | 3,_=>rfl
    have h1 : okW ((zipO a b c d a' b' c' d' i).getD i 0)∧okW ([a',b',c',d'].getD i 0):=by
      match i,hlt with
      | 0,_=>exact ⟨ha,ha'⟩
      | 1,_=>exact ⟨hb,hb'⟩
      | 2,_=>exact ⟨hc,hc'⟩
      | 3,_=>exact ⟨hd,hd'⟩
    have h2 : (zipO a b c d a' b' c' d' i).set i (orW ((zipO a b c d a' b' c' d' i).getD i 0) ([a',b',c',d'].getD i 0))=zipO a b c d a' b' c' d' (i + 1):=by
      match i,hlt with
      | 0,_=>rfl
      | 1,_=>rfl
      | 2,_=>rfl
      | 3,_=>rfl
    repeat' (first|(apply r_mvV;rfl)|(apply r_ixPL (j:=i);rfl;rfl;omega)|(apply r_ldWs (b:=1) (ws:=zipO a b c d a' b' c' d' i) (j:=i);rfl;rfl;omega)|(apply r_ldWs (b:=2) (ws:=[a',b',c',d']) (j:=i);rfl;rfl;(simp;omega))|(apply r_orW;rfl;rfl;exact h1.1;exact h1.2)|(apply r_stWs (b:=1) (ws:=zipO a b c d a' b' c' d' i) (j:=i);rfl;rfl;rfl;rfl;omega)|(apply r_lss;rfl;rfl;(first|(apply dT;omega)|(apply dF;omega)|rfl))|(apply r_add;rfl;rfl;rfl;omega)|(apply r_nilK)|(apply k_V;rfl)|(apply k_PL;rfl)|(apply k_nil)|(apply w_seq)|(apply w_ops;((conv=>lhs;simp only [Nat.reduceAdd])<;>rfl))|(apply w_condT;rfl)|(apply e_thenN)|(apply w_block)|(apply e_blkN)|(apply w_skip))
    apply e_thenK
    apply hK (i + 1)
    · omega
    · omega
    · rw [← h2]
      refine wkM [] [] rfl ?_ ?_ rfl ?_
      · intro p hp
        simp only [List.mem_cons,List.not_mem_nil,or_false] at hp
        rcases hp with rfl | rfl | rfl
        · exact ⟨by omega,.inr ⟨rfl,_,rfl,.data (encW_isD _)⟩⟩
        · exact ⟨by omega,.inr ⟨rfl,_,rfl,.data rfl⟩⟩
        · exact ⟨by omega,.inr ⟨rfl,_,rfl,.data rfl⟩⟩
      · intro q hq;simp only [List.mem_cons,List.not_mem_nil,or_false] at hq;rcases hq with rfl | rfl<;>rfl
      · repeat' (first|exact FWk.nil|(apply FWk.i;rfl;(first|rfl|omega|(simp;done)))|(apply FWk.ptr;rfl;rfl;rfl;omega;rfl))
  · have ei : i=4:=by omega
    subst ei
    repeat' (first|(apply r_ldL (v:=.agg [.d (.val (.int .u64 (orW a a'))),.d (.val (.int .u64 (orW b b'))),.d (.val (.int .u64 (orW c c'))),.d (.val (.int .u64 (orW d d')))]);rfl;rfl;rfl)|(apply r_lss;rfl;rfl;(first|(apply dT;omega)|(apply dF;omega)|rfl))|(apply r_stL;rfl;rfl;rfl;rfl;(first|rfl|(simp only [z_nil,z_add]<;>rfl));rfl;rfl)|(apply r_nilK)|(apply k_V;rfl)|(apply k_PL;rfl)|(apply k_nil)|(apply e_ret;rfl)|(apply w_seq)|(apply w_ops;((conv=>lhs;simp only [Nat.reduceAdd])<;>rfl))|(apply w_condF;rfl)|(apply e_thenN)|(apply e_thenX)|(apply e_blkE)|(apply w_exit)|(apply w_ret))
    exact .data _ rfl
end Go.Sv
namespace Go.Sv
open Go Go.Proofs
def x54 : XC:=(.seq (.ops 1 [ (0,⟨some 2,none,.alloc [(.int .i64 0),(.int .u64 0),(.int .u64 0),(.int .u64 0),(.int .u64 0),(.int .i64 0),(.int .i64 0),(.slice none 0 0)]⟩)] (some [0,2])) (.seq (.ops 1 [ (0,⟨some 3,none,.mv (.k (.d (.val (.slice none 0 0))))⟩)] (some [0,2,3])) (.seq (.ops 1 [ (0,⟨some 4,none,.mv (.k (.d (.val (.int .i64 (-1)))))⟩)] (some [0,2,3,4])) (.seq (.seq (.ops 4 [ (0,⟨some 7,none,.mv (.t 0)⟩),(1,⟨some 8,none,.call 103 [(.k (.d (.val (.int .i64 4)))),(.t 7)] none true⟩),(2,⟨some 9,none,.lenS (.t 8)⟩),(3,⟨some 10,none,.mv (.k (.d (.val (.int .i64 0))))⟩)] (some [2,3,4,8,9,10])) (.block 0 (.loop (.seq (.ops 1 [ (0,⟨some 11,none,.arith .lss (.t 10) (.t 9)⟩)] (some [2,3,4,8,9,10,11])) (.seq (.cond (.t 11) .skip (.exit 0)) (.seq (.block 1 (.seq (.ops 4 [ (0,⟨some 12,none,.idxS 8 (.t 8) (.t 10)⟩),(1,⟨some 13,none,.load (some 8) (.t 12)⟩),(2,⟨some 6,none,.alloc [(.int .i64 0),(.int .u64 0),(.int .u64 0),(.int .u64 0),(.int .u64 0),(.int .i64 0),(.int .i64 0),(.slice none 0 0)]⟩),(3,⟨none,none,.store 8 (.t 6) (.t 13)⟩)] (some [2,3,4,6,8,9,10])) (.block 2 (.seq (.ops 3 [ (0,⟨some 15,none,.load (some 8) (.t 6)⟩),(1,⟨some 16,none,.call 105 [(.t 15)] none false⟩),(2,⟨some 14,none,.mv (.t 16)⟩)] (some [2,3,4,6,8,9,10,14])) (.cond (.t 14) .skip (.seq (.ops 8 [ (0,⟨some 18,none,.fadd 0 (.t 6)⟩),(1,⟨some 19,none,.load none (.t 18)⟩),(2,⟨some 20,none,.arith .eql (.t 19) (.k (.d (.val (.int .i64 2))))⟩),(3,⟨some 21,none,.mv (.t 20)⟩),(4,⟨some 22,(some (21,true)),.mv (.t 4)⟩),(5,⟨some 23,(some (21,true)),.arith .geq (.t 22) (.k (.d (.val (.int .i64 0))))⟩),(6,⟨some 24,none,.pick (.t 21) (.t 23) (.k (.d (.val (.bool false))))⟩),(7,⟨some 17,none,.mv (.t 24)⟩)] (some [2,3,4,6,8,9,10,17])) (.cond (.t 17) (.ops 13 [ (0,⟨some 25,none,.mv (.t 3)⟩),(1,⟨some 26,none,.mv (.t 4)⟩),(2,⟨some 27,none,.mv (.t 3)⟩),(3,⟨some 28,none,.mv (.t 4)⟩),(4,⟨some 29,none,.idxS 8 (.t 27) (.t 28)⟩),(5,⟨some 30,none,.fadd 1 (.t 29)⟩),(6,⟨some 31,none,.load (some 4) (.t 30)⟩),(7,⟨some 32,none,.fadd 1 (.t 6)⟩),(8,⟨some 33,none,.load (some 4) (.t 32)⟩),(9,⟨some 34,none,.call 73 [(.t 31),(.t 33)] none false⟩),(10,⟨some 35,none,.idxS 8 (.t 25) (.t 26)⟩),(11,⟨some 36,none,.fadd 1 (.t 35)⟩),(12,⟨none,none,.store 4 (.t 36) (.t 34)⟩)] (some [2,3,4,8,9,10])) (.seq (.ops 4 [ (0,⟨some 38,none,.fadd 0 (.t 6)⟩),(1,⟨some 39,none,.load none (.t 38)⟩),(2,⟨some 40,none,.arith .eql (.t 39) (.k (.d (.val (.int .i64 2))))⟩),(3,⟨some 37,none,.mv (.t 40)⟩)] (some [2,3,4,6,8,9,10,37])) (.cond (.t 37) (.seq (.ops 3 [ (0,⟨some 41,none,.mv (.t 3)⟩),(1,⟨some 42,none,.lenS (.t 41)⟩),(2,⟨some 4,none,.mv (.t 42)⟩)] (some [2,3,4,6,8,9,10])) (.ops 7 [ (0,⟨some 43,none,.mv (.t 3)⟩),(1,⟨some 44,none,.fadd 1 (.t 6)⟩),(2,⟨some 45,none,.load (some 4) (.t 44)⟩),(3,⟨some 46,none,.build [(.int .i64 0),(.int .u64 0),(.int .u64 0),(.int .u64 0),(.int .u64 0),(.int .i64 0),(.int .i64 0),(.slice none 0 0)] [(0,1,(.k (.d (.val (.int .i64 2))))),(1,4,(.t 45))]⟩),(4,⟨some 47,none,.mkrow [(.int .i64 0),(.int .u64 0),(.int .u64 0),(.int .u64 0),(.int .u64 0),(.int .i64 0),(.int .i64 0),(.slice none 0 0)] 1 8 [(0,8,(.t 46))]⟩),(5,⟨some 48,none,.app [(.int .i64 0),(.int .u64 0),(.int .u64 0),(.int .u64 0),(.int .u64 0),(.int .i64 0),(.int .i64 0),(.slice none 0 0)] 80 (.t 43) (.t 47)⟩),(6,⟨some 3,none,.mv (.t 48)⟩)] (some [2,3,4,8,9,10]))) (.seq (.ops 5 [ (0,⟨some 50,none,.mv (.t 3)⟩),(1,⟨some 51,none,.mkfn 111 [(.t 6)]⟩),(2,⟨some 52,none,.call 104 [(.t 50),(.t 51)] none false⟩),(3,⟨some 53,none,.un .not (.t 52)⟩),(4,⟨some 49,none,.mv (.t 53)⟩)] (some [2,3,4,6,8,9,10,49])) (.cond (.t 49) (.ops 5 [ (0,⟨some 54,none,.mv (.t 3)⟩),(1,⟨some 55,none,.load (some 8) (.t 6)⟩),(2,⟨some 56,none,.mkrow [(.int .i64 0),(.int .u64 0),(.int .u64 0),(.int .u64 0),(.int .u64 0),(.int .i64 0),(.int .i64 0),(.slice none 0 0)] 1 8 [(0,8,(.t 55))]⟩),(3,⟨some 57,none,.app [(.int .i64 0),(.int .u64 0),(.int .u64 0),(.int .u64 0),(.int .u64 0),(.int .i64 0),(.int .i64 0),(.slice none 0 0)] 80 (.t 54) (.t 56)⟩),(4,⟨some 3,none,.mv (.t 57)⟩)] (some [2,3,4,8,9,10])) .skip))))))))))) (.ops 2 [ (0,⟨some 58,none,.arith .add (.t 10) (.k (.d (.val (.int .i64 1))))⟩),(1,⟨some 10,none,.mv (.t 58)⟩)] (some [2,3,4,8,9,10])))))))) (.seq (.ops 4 [ (0,⟨some 59,none,.mv (.t 3)⟩),(1,⟨some 60,none,.call 106 [] none false⟩),(2,⟨some 61,none,.call 109 [(.k (.d (.val (.int .i64 4)))),(.t 59),(.t 60)] none false⟩),(3,⟨none,none,.store 8 (.t 2) (.t 61)⟩)] (some [2])) .ret)))))
def md54 : FuncId→Option Nat × Bool
  | 103=>(none,true)
  | _=>(none,false)
def od54 : Nat→List (List Nat) × List Nat × Option (List Nat)
  | 0=>([],[],some [0,2])
  | 1=>([],[],some [0,2,3])
  | 2=>([],[],some [0,2,3,4])
  | 3=>([],[],some [2,3,4,8,9,10])
  | 4=>([],[],some [2,3,4,8,9,10,11])
  | 5=>([],[],some [2,3,4,6,8,9,10])
  | 6=>([],[],some [2,3,4,6,8,9,10,14])
  | 7=>([],[],some [2,3,4,6,8,9,10,17])
  | 8=>([[],[],[],[],[2,3],[2,3,4],[2,3,4,5],[],[7],[2,3,4,5,6,7,8],[0,1,2,3,4,5,6,7,8,9],[0,1,2,3,4,5,6,7,8,9,10],[0,1,2,3,4,5,6,7,8,9,10,11]],[0,1,2,3,4,5,6,7,8,9,10,11,12],some [2,3,4,8,9,10])
  | 9=>([],[],some [2,3,4,6,8,9,10,37])
  | 10=>([],[],some [2,3,4,6,8,9,10])
  | 11=>([],[],some [2,3,4,8,9,10])
  | 12=>([],[],some [2,3,4,6,8,9,10,49])
  | 13=>([],[],some [2,3,4,8,9,10])
  | 14=>([],[],some [2,3,4,8,9,10])
  | 15=>([],[],some [2])
  | _=>([],[],none)
theorem b54 {ags : List AV} {row : Option (List DV)} {r : AV} {row' nw : Option (List DV)} (hal : ags.length≤62) (hrow : row'.isSome=true→row.isSome=true) (h : xwp Try.prog x54 (retK [.cell 2 (some 8)] row.isSome r row' nw) (St.init ags row)) : Good Try.prog 54 ags row r row' nw :=
  good_of_body' (md:=md54) (od:=od54) Try.f54 (by kernel_rfl) (by kernel_rfl) (by kernel_rfl) (by kernel_rfl) (by kernel_rfl) hal hrow h

set_option maxRecDepth 100000
set_option maxHeartbeats 4000000
attribute [local irreducible] W E R KP thenK blockK retK Good xwp aRun
theorem encL_end (l : List T) (t : T) : encL (l++[t])=encL l++encN t:=by rw [encL_app,encL,encL,List.append_nil]
theorem altP_cnt : ∀ (l : List T) (s : List T × Option Nat),(∀ u ∈ s.1,u.cnt≤100000000)→(∀ u ∈ l,u.cnt≤100000000)→∀ u ∈ (l.foldl altStep s).1,u.cnt≤100000000
  | [],s,h,_=>h
  | t :: l,s,h,ht=>altP_cnt l _ (altStep_mem (P:=fun u=>u.cnt≤100000000) (fun t _=>by rw [cnt_cls];omega) (fun t u=>by rw [cnt_or];omega) h (ht t (by simp))) fun u hu=>ht u (by simp [hu])
theorem altP_I : ∀ (l : List T) (s : List T × Option Nat),AltI s→(∀ t ∈ l,okS t)→AltI (l.foldl altStep s)
  | [],s,h,_=>h
  | t :: l,s,h,ht=>altP_I l _ (altStep_I h (ht t (by simp))) fun u hu=>ht u (by simp [hu])
theorem altStep_len (s : List T × Option Nat) (t : T) : (altStep s t).1.length≤s.1.length + 1:=by
  unfold altStep
  split
  · omega
  split
  · split
    · simp
    · simp
  · split
    · omega
    · simp
theorem altP_len (l : List T) : ∀ i,i≤l.length→((l.take i).foldl altStep ([],none)).1.length≤i
  | 0,_=>by simp
  | i + 1,h=>by
    have ih:=altP_len l i (by omega)
    have h2:=altStep_len ((l.take i).foldl altStep ([],none)) (l[i]'(by omega))
    rw [List.take_succ_eq_append_getElem (by omega),List.foldl_append]
    simp only [List.foldl_cons,List.foldl_nil]
    omega
theorem alt54_good (l : List T) (hc : cntL l≤50000000) (hok : ∀ t ∈ flatL 4 l,okS t) : Good Try.prog 54 [.d (.sl (encL l) l.length)] none (nodeA (altS l)) none none:=by
  have hll:=cntL_len l
  have hfl:=flatL_len 4 l
  have hfc:=cntL_flat 4 l
  have h103:=flat103_good 4 l hc
  have h106:=no106_good
  have hN : nodeA noneT=.agg [.i 2,.d (.val (.int .u64 0)),.d (.val (.int .u64 0)),.d (.val (.int .u64 0)),.d (.val (.int .u64 0)),.i 0,.i 0,.d (.sl [] 0)]:=rfl
  rw [hN] at h106
  have hcnt : ∀ t ∈ flatL 4 l,t.cnt≤100000000:=fun t ht=>by
    obtain ⟨j,hj,rfl⟩:=List.getElem_of_mem ht
    have:=cntL_get (flatL 4 l) j hj
    omega
  have hfin : altS l=ofT 4 ((flatL 4 l).foldl altStep ([],none)).1 noneT:=rfl
  rw [hfin]
  clear hfin hfc
  generalize flatL 4 l=F at h103 hfl hok hcnt ⊢
  refine b54 (by simp) (by simp) (w_init ?_)
  unfold x54
  repeat' (first|(apply r_mvV;rfl)|(apply r_mvS;rfl)|(apply r_callMN (id:=5) (us:=[]);rfl;rfl;rfl;exact h103;rfl)|(apply r_lenL;rfl)|(apply r_alloc;((conv=>lhs;simp only [Nat.reduceAdd])<;>rfl);rfl)|(apply r_nilK)|(apply k_V;rfl)|(apply k_PL;rfl)|(apply k_S;rfl)|(apply k_SL;rfl)|(apply k_nil)|(apply w_seq)|(apply w_ops;((conv=>lhs;simp only [Nat.reduceAdd])<;>rfl))|(apply e_thenN)|(apply w_block))
  apply w_loopF (ι:=Nat × (List T × Option Nat)) (S:=fun p=>(fun (i : Nat) (s : List T × Option Nat)=>(⟨(((((Fr.nil.put 2 (.ptrL 1 0)).put 3 (.slL 51 0 s.1.length 8)).put 4 (.i (atI s.2))).put 8 (.slL 50 0 F.length 8)).put 9 (.i F.length)).put 10 (.i i),rowsOf [(1,zeroA zsN),(50,(encL F).map AV.d),(51,(encL s.1).map AV.d)],Frz.buts 100 [1,51],100⟩ : St)) p.1 p.2) (m:=fun p=>F.length - p.1) (I:=fun p=>p.1≤F.length∧p.2=(F.take p.1).foldl altStep ([],none)) (i0:=(0,([],none)))
  · exact ⟨Nat.zero_le _,rfl⟩
  · refine Wk.f (wkM [(50,5),(51,1000000)] [51] rfl ?_ ?_ rfl ?_)
    · intro p hp
      simp only [List.mem_cons,List.not_mem_nil,or_false] at hp
      rcases hp with rfl | rfl | rfl
      · exact ⟨by omega,.inr ⟨rfl,_,rfl,.data rfl⟩⟩
      · exact ⟨by omega,.inr ⟨rfl,_,rfl,.data (isD_encL _)⟩⟩
      · exact ⟨by omega,.inl ⟨rfl,rfl⟩⟩
    · intro q hq;simp only [List.mem_cons,List.not_mem_nil,or_false] at hq;rcases hq with rfl | rfl<;>rfl
    · dsimp only
      repeat' (first|exact FWk.nil|(apply FWk.i;rfl;(first|rfl|omega|(simp;done)))|(apply FWk.sl;rfl;rfl;rfl;rfl;omega;rfl)|(apply FWk.ptr;rfl;rfl;rfl;omega;rfl)|(apply FWk.slN;rfl;omega;rfl))
  rintro ⟨i,s⟩ K ⟨hi,hs0⟩ hK
  dsimp only at hi hs0 hK ⊢
  have hlen:=altP_len F i hi
  rw [← hs0] at hlen
  rcases Nat.lt_or_ge i F.length with hlt | hge
  · have hs:=NodeAt.sub hlt
    have hn:=no105_good F[i]
    have hov:=hok F[i] (List.getElem_mem hlt)
    have hI : AltI s:=by rw [hs0];exact altP_I _ _ (fun i hi=>by cases hi) fun t ht=>hok t (List.mem_of_mem_take ht)
    have hcs : ∀ u ∈ s.1,u.cnt≤100000000:=by rw [hs0];exact altP_cnt _ _ (by simp) fun t ht=>hcnt t (List.mem_of_mem_take ht)
    have hstep : (F.take (i + 1)).foldl altStep ([],none)=altStep s F[i]:=by rw [List.take_succ_eq_append_getElem hlt,List.foldl_append,← hs0];rfl
    have fin : ∀ s' fr C Z nx,altStep s F[i]=s'→Wkf ⟨fr,C,Z,nx⟩ ((fun (i : Nat) (s : List T × Option Nat)=>(⟨(((((Fr.nil.put 2 (.ptrL 1 0)).put 3 (.slL 51 0 s.1.length 8)).put 4 (.i (atI s.2))).put 8 (.slL 50 0 F.length 8)).put 9 (.i F.length)).put 10 (.i i),rowsOf [(1,zeroA zsN),(50,(encL F).map AV.d),(51,(encL s.1).map AV.d)],Frz.buts 100 [1,51],100⟩ : St)) (i + 1) s')→K ⟨fr,C,Z,nx⟩:=by
      intro s' fr C Z nx h1 h2
      exact hK (i + 1,s') fr C Z nx ⟨by dsimp only;omega,by rw [hstep,h1]⟩ (by dsimp only;omega) h2
    clear hK hs0 hstep hok hcnt
    generalize F[i]=v at hs hn hov fin
    obtain ⟨k,a,b,c,d,mn,mx,subs⟩:=v
    have e0 : nodeA (T.node k a b c d mn mx subs)=.agg [.i k,.d (.val (.int .u64 a)),.d (.val (.int .u64 b)),.d (.val (.int .u64 c)),.d (.val (.int .u64 d)),.i mn,.i mx,.d (.sl (encL subs) subs.length)]:=rfl
    rw [e0] at hn
    rcases Bool.eq_false_or_eq_true (isNo (T.node k a b c d mn mx subs)) with hq | hq
    · rw [hq] at hn
      have fin:=fun fr C Z nx=>fin s fr C Z nx (by unfold altStep;rw [if_pos hq])
      repeat' (first|(apply r_mvV;rfl)|(apply r_ixN (j:=i) (b:=50);rfl;rfl;rfl;omega)|(apply r_ldN (t:=(T.node k a b c d mn mx subs));rfl;rfl;exact hs)|(apply r_ldL (v:=.agg [.i k,.d (.val (.int .u64 a)),.d (.val (.int .u64 b)),.d (.val (.int .u64 c)),.d (.val (.int .u64 d)),.i mn,.i mx,.d (.sl (encL subs) subs.length)]);rfl;rfl;rfl)|(apply r_callA (ags:=[.agg [.i k,.d (.val (.int .u64 a)),.d (.val (.int .u64 b)),.d (.val (.int .u64 c)),.d (.val (.int .u64 d)),.i mn,.i mx,.d (.sl (encL subs) subs.length)]]);rfl;rfl;exact hn)|(apply r_lss;rfl;rfl;(first|(apply dT;omega)|(apply dF;omega)|rfl))|(apply r_add;rfl;rfl;rfl;omega)|(apply r_alloc;((conv=>lhs;simp only [Nat.reduceAdd])<;>rfl);rfl)|(apply r_stL;rfl;rfl;rfl;rfl;(first|rfl|(simp only [z_nil,z_add]<;>rfl));rfl;rfl)|(apply r_nilK)|(apply k_V;rfl)|(apply k_PL;rfl)|(apply k_SL;rfl)|(apply k_nil)|(apply w_seq)|(apply w_ops;((conv=>lhs;simp only [Nat.reduceAdd])<;>rfl))|(apply w_condT;rfl)|(apply e_thenN)|(apply w_block)|(apply e_blkN)|(apply w_skip))
      apply e_thenK;apply fin
      dsimp only
      refine Wk.f (wkM [] [] rfl ?_ ?_ rfl ?_)
      · intro p hp;simp only [List.mem_cons,List.not_mem_nil,or_false] at hp;rcases hp with rfl | rfl | rfl<;>first | exact ⟨by omega,.inr ⟨rfl,_,rfl,.data rfl⟩⟩ | exact ⟨by omega,.inr ⟨rfl,_,rfl,.data (isD_encL _)⟩⟩
      · intro q hq;simp only [List.mem_cons,List.not_mem_nil,or_false] at hq;rcases hq with rfl | rfl<;>rfl
      · repeat' (first|exact FWk.nil|(apply FWk.i;rfl;(first|rfl|omega|(simp;done)))|(apply FWk.sl;rfl;rfl;rfl;rfl;omega;rfl)|(apply FWk.ptr;rfl;rfl;rfl;omega;rfl))
    rw [hq] at hn
    by_cases hk : k=2
    · obtain ⟨P,at'⟩:=s
      dsimp only at hlen hI hcs fin ⊢
      cases at' with
      | some q =>
        obtain ⟨ac,bc,cc,dc,hP,hac,hbc,hcc,hdc⟩:=hI q rfl
        simp only at hP
        have hql:=(List.getElem?_eq_some_iff.1 hP).1
        have hPd : P.getD q noneT=.node 2 ac bc cc dc 0 0 []:=by rw [List.getD_eq_getElem?_getD,hP];rfl
        have fin:=fun fr C Z nx=>fin (P.set q (.node 2 (orW ac a) (orW bc b) (orW cc c) (orW dc d) 0 0 []),some q) fr C Z nx (by
          unfold altStep
          rw [if_neg (by simp [hq]),if_pos (by simpa [T.kind] using hk)]
          simp only [hPd,orN])
        have hor:=or73_good hac hbc hcc hdc hov.1 hov.2.1 hov.2.2.1 hov.2.2.2
        unfold setA at hor
        have hsq : NodeAt (encL P) (q * 8) (.node 2 ac bc cc dc 0 0 []):=by
          have:=NodeAt.sub hql
          rwa [show P[q]=.node 2 ac bc cc dc 0 0 [] from (List.getElem?_eq_some_iff.1 hP).2] at this
        have hspl:=encL_setW P q ac bc cc dc (orW ac a) (orW bc b) (orW cc c) (orW dc d) hP
        have hst : (([.d (.val (.int .u64 (orW ac a))),.d (.val (.int .u64 (orW bc b))),.d (.val (.int .u64 (orW cc c))),.d (.val (.int .u64 (orW dc d)))] : List AV).length == 4 && Nat.ble (q * 8 + 1 + 4) ((encL P).map AV.d).length && ([.d (.val (.int .u64 (orW ac a))),.d (.val (.int .u64 (orW bc b))),.d (.val (.int .u64 (orW cc c))),.d (.val (.int .u64 (orW dc d)))] : List AV).all AV.one)=true:=by
          have : Nat.ble (q * 8 + 1 + 4) ((encL P).map AV.d).length=true:=by
            rw [List.length_map,encL_length]
            exact Eq.mpr Nat.ble_eq (by omega)
          rw [this];rfl
        simp only [atI]
        repeat' (first|(apply r_mvV;rfl)|(apply r_mvSL;rfl)|(apply r_faddL;rfl)|(apply r_ixN (j:=i) (b:=50);rfl;rfl;rfl;omega)|(apply r_ldN (t:=(T.node k a b c d mn mx subs));rfl;rfl;exact hs)|(apply r_ixN (j:=q) (b:=51);rfl;rfl;rfl;exact hql)|(apply r_ldNw;rfl;rfl;exact hsq)|(apply r_ldL (v:=.agg [.d (.val (.int .u64 a)),.d (.val (.int .u64 b)),.d (.val (.int .u64 c)),.d (.val (.int .u64 d))]);rfl;rfl;rfl)|(apply r_ldL (v:=.agg [.i k,.d (.val (.int .u64 a)),.d (.val (.int .u64 b)),.d (.val (.int .u64 c)),.d (.val (.int .u64 d)),.i mn,.i mx,.d (.sl (encL subs) subs.length)]);rfl;rfl;rfl)|(apply r_callA (ags:=[.agg [.i k,.d (.val (.int .u64 a)),.d (.val (.int .u64 b)),.d (.val (.int .u64 c)),.d (.val (.int .u64 d)),.i mn,.i mx,.d (.sl (encL subs) subs.length)]]);rfl;rfl;exact hn)|(apply r_callA (ags:=[.agg [.d (.val (.int .u64 ac)),.d (.val (.int .u64 bc)),.d (.val (.int .u64 cc)),.d (.val (.int .u64 dc))],.agg [.d (.val (.int .u64 a)),.d (.val (.int .u64 b)),.d (.val (.int .u64 c)),.d (.val (.int .u64 d))]]);rfl;rfl;exact hor)|(apply r_stL (b:=51) (off:=q * 8 + 1) (cs:=[.d (.val (.int .u64 (orW ac a))),.d (.val (.int .u64 (orW bc b))),.d (.val (.int .u64 (orW cc c))),.d (.val (.int .u64 (orW dc d)))]);rfl;rfl;rfl;rfl;rfl;exact hst;exact hspl)|(apply r_ldL;rfl;rfl;rfl)|(apply r_eql;rfl;rfl;(first|(apply dT;omega)|(apply dF;omega)|rfl))|(apply r_lss;rfl;rfl;(first|(apply dT;omega)|(apply dF;omega)|rfl))|(apply r_geq;rfl;rfl;(first|(apply dT;omega)|(apply dF;omega)|rfl))|(apply r_add;rfl;rfl;rfl;omega)|(apply r_pickT;rfl)|(apply r_gT;rfl)|(apply r_alloc;((conv=>lhs;simp only [Nat.reduceAdd])<;>rfl);rfl)|(apply r_stL;rfl;rfl;rfl;rfl;(first|rfl|(simp only [z_nil,z_add]<;>rfl));rfl;rfl)|(apply r_nilK)|(apply k_V;rfl)|(apply k_PL;rfl)|(apply k_SL;rfl)|(apply k_nil)|(apply w_seq)|(apply w_ops;((conv=>lhs;simp only [Nat.reduceAdd])<;>rfl))|(apply w_condT;rfl)|(apply w_condF;rfl)|(apply e_thenN)|(apply w_block)|(apply e_blkN)|(apply w_skip))
        apply e_thenK;apply fin
        dsimp only
        refine Wk.f (wkM [] [] rfl ?_ ?_ rfl ?_)
        · intro p hp;simp only [List.mem_cons,List.not_mem_nil,or_false] at hp;rcases hp with rfl | rfl | rfl<;>first | exact ⟨by omega,.inr ⟨rfl,_,rfl,.data rfl⟩⟩ | exact ⟨by omega,.inr ⟨rfl,_,rfl,.data (isD_encL _)⟩⟩
        · intro q hq;simp only [List.mem_cons,List.not_mem_nil,or_false] at hq;rcases hq with rfl | rfl<;>rfl
        · simp only [List.length_set,atI]
          repeat' (first|exact FWk.nil|(apply FWk.i;rfl;(first|rfl|omega|(simp;done)))|(apply FWk.sl;rfl;rfl;rfl;rfl;omega;rfl)|(apply FWk.ptr;rfl;rfl;rfl;omega;rfl))
      | none =>
        have fin:=fun fr C Z nx=>fin (P++[.node 2 a b c d 0 0 []],some P.length) fr C Z nx (by
          unfold altStep
          rw [if_neg (by simp [hq]),if_pos (by simpa [T.kind] using hk)]
          rfl)
        have hPl : ((encL P).map AV.d).length=P.length * 8:=by rw [List.length_map,encL_length]
        simp only [atI]
        repeat' (first|(apply r_mvV;rfl)|(apply r_mvSL;rfl)|(apply r_faddL;rfl)|(apply r_ixN (j:=i) (b:=50);rfl;rfl;rfl;omega)|(apply r_ldN (t:=(T.node k a b c d mn mx subs));rfl;rfl;exact hs)|(apply r_ldL (v:=.agg [.d (.val (.int .u64 a)),.d (.val (.int .u64 b)),.d (.val (.int .u64 c)),.d (.val (.int .u64 d))]);rfl;rfl;rfl)|(apply r_ldL (v:=.agg [.i k,.d (.val (.int .u64 a)),.d (.val (.int .u64 b)),.d (.val (.int .u64 c)),.d (.val (.int .u64 d)),.i mn,.i mx,.d (.sl (encL subs) subs.length)]);rfl;rfl;rfl)|(apply r_callA (ags:=[.agg [.i k,.d (.val (.int .u64 a)),.d (.val (.int .u64 b)),.d (.val (.int .u64 c)),.d (.val (.int .u64 d)),.i mn,.i mx,.d (.sl (encL subs) subs.length)]]);rfl;rfl;exact hn)|(apply r_p (v:=.agg [.i 2,.d (.val (.int .u64 a)),.d (.val (.int .u64 b)),.d (.val (.int .u64 c)),.d (.val (.int .u64 d)),.i 0,.i 0,.d (.val (.slice none 0 0))]);rfl)|(apply r_n (v:=.slL 127 0 1 8) (r:=[.i 2,.d (.val (.int .u64 a)),.d (.val (.int .u64 b)),.d (.val (.int .u64 c)),.d (.val (.int .u64 d)),.i 0,.i 0,.d (.val (.slice none 0 0))]);rfl)|(apply r_appN (b:=51) (c:=127) (id:=128) (m:=P.length) (j:=1) (r:=(encL P).map AV.d) (src:=[.i 2,.d (.val (.int .u64 a)),.d (.val (.int .u64 b)),.d (.val (.int .u64 c)),.d (.val (.int .u64 d)),.i 0,.i 0,.d (.val (.slice none 0 0))]);rfl;rfl;rfl;rfl;exact hPl;rfl;rfl;rfl;rfl;omega)|(apply r_ldL;rfl;rfl;rfl)|(apply r_eql;rfl;rfl;(first|(apply dT;omega)|(apply dF;omega)|rfl))|(apply r_lss;rfl;rfl;(first|(apply dT;omega)|(apply dF;omega)|rfl))|(apply r_geq;rfl;rfl;(first|(apply dT;omega)|(apply dF;omega)|rfl))|(apply r_add;rfl;rfl;rfl;omega)|(apply r_pickT;rfl)|(apply r_lenL;rfl)|(apply r_gT;rfl)|(apply r_alloc;((conv=>lhs;simp only [Nat.reduceAdd])<;>rfl);rfl)|(apply r_stL;rfl;rfl;rfl;rfl;(first|rfl|(simp only [z_nil,z_add]<;>rfl));rfl;rfl)|(apply r_nilK)|(apply k_V;rfl)|(apply k_PL;rfl)|(apply k_SL;rfl)|(apply k_nil)|(apply w_seq)|(apply w_ops;((conv=>lhs;simp only [Nat.reduceAdd])<;>rfl))|(apply w_condT;rfl)|(apply w_condF;rfl)|(apply e_thenN)|(apply w_block)|(apply e_blkN)|(apply w_skip))
        apply e_thenK;apply fin
        dsimp only
        have erow : (encL (P++[.node 2 a b c d 0 0 []])).map AV.d=(encL P).map AV.d++(encN (.node 2 a b c d 0 0 [])).map AV.d:=by rw [encL_end,List.map_append]
        refine fzRow (b:=128) (r':=(encL (P++[.node 2 a b c d 0 0 []])).map AV.d) (u:=[]++[]) rfl (by rw [erow];exact convAs_app (convAs_encL _) rfl) (Wk.f ?_)
        refine wkM [(51,128)] [] rfl ?_ ?_ rfl ?_
        · intro p hp;simp only [List.mem_cons,List.not_mem_nil,or_false] at hp;rcases hp with rfl | rfl | rfl<;>first | exact ⟨by omega,.inr ⟨rfl,_,rfl,.data rfl⟩⟩ | exact ⟨by omega,.inr ⟨rfl,_,rfl,.data (isD_encL _)⟩⟩
        · intro q hq;simp only [List.mem_cons,List.not_mem_nil,or_false] at hq;rcases hq with rfl | rfl<;>rfl
        · simp only [atI,List.length_append,List.length_cons,List.length_nil]
          repeat' (first|exact FWk.nil|(apply FWk.i;rfl;(first|rfl|omega|(simp;done)))|(apply FWk.sl;rfl;rfl;rfl;rfl;omega;rfl)|(apply FWk.ptr;rfl;rfl;rfl;omega;rfl))
    · have fin : ∀ s' fr C Z nx,(if (s.1.any fun u=>sameT u (T.node k a b c d mn mx subs))=true then s else (s.1++[(T.node k a b c d mn mx subs)],s.2))=s'→Wkf ⟨fr,C,Z,nx⟩ ((fun (i : Nat) (s : List T × Option Nat)=>(⟨(((((Fr.nil.put 2 (.ptrL 1 0)).put 3 (.slL 51 0 s.1.length 8)).put 4 (.i (atI s.2))).put 8 (.slL 50 0 F.length 8)).put 9 (.i F.length)).put 10 (.i i),rowsOf [(1,zeroA zsN),(50,(encL F).map AV.d),(51,(encL s.1).map AV.d)],Frz.buts 100 [1,51],100⟩ : St)) (i + 1) s')→K ⟨fr,C,Z,nx⟩:=by
        intro s' fr C Z nx h1 h2
        refine fin s' fr C Z nx ?_ h2
        unfold altStep
        rw [if_neg (by simp [hq]),if_neg (by simpa [T.kind] using hk)]
        exact h1
      obtain ⟨P,at'⟩:=s
      dsimp only at hlen hI hcs fin ⊢
      have hpo : PredOK 111 [.ptr (encN (T.node k a b c d mn mx subs)) 0] (fun u=>sameT u (T.node k a b c d mn mx subs)) P:=⟨rfl,fun j hj=>clo111_good _ _ (hcs _ (List.getElem_mem hj))⟩
      have h104:=contains104_good hpo (by omega)
      clear hpo
      generalize hany : (P.any fun u=>sameT u (T.node k a b c d mn mx subs))=q at h104 fin
      cases q
      · have fin:=fun fr C Z nx=>fin _ fr C Z nx (if_neg (by simp))
        match P,hlen,h104,fin with
        | [],hlen,h104,fin =>
          simp only [List.length_nil] at h104 ⊢
          repeat' (first|(apply r_mvV;rfl)|(apply r_mvSL;rfl)|(apply r_faddL;rfl)|(apply r_ixN (j:=i) (b:=50);rfl;rfl;rfl;omega)|(apply r_ldN (t:=(T.node k a b c d mn mx subs));rfl;rfl;exact hs)|(apply r_ldL (v:=.agg [.i k,.d (.val (.int .u64 a)),.d (.val (.int .u64 b)),.d (.val (.int .u64 c)),.d (.val (.int .u64 d)),.i mn,.i mx,.d (.sl (encL subs) subs.length)]);rfl;rfl;rfl)|(apply r_callA (ags:=[.agg [.i k,.d (.val (.int .u64 a)),.d (.val (.int .u64 b)),.d (.val (.int .u64 c)),.d (.val (.int .u64 d)),.i mn,.i mx,.d (.sl (encL subs) subs.length)]]);rfl;rfl;exact hn)|(apply r_p (v:=.fnL 111 [.ptrL 103 0]);rfl)|(apply r_call (bs:=[.d (.sl (encL []) 0),.d (.fn 111 [.ptr (encN (T.node k a b c d mn mx subs)) 0])]) (us:=[103]);rfl;rfl;exact h104;rfl)|(apply r_mkN (t:=(T.node k a b c d mn mx subs)) (id:=127);rfl;rfl)|(apply r_appE (b:=51) (c:=127) (id:=128) (K:=[]) (L:=[(T.node k a b c d mn mx subs)]) (m:=0) (j:=1);rfl;rfl;rfl;rfl;rfl;rfl;rfl;rfl;omega)|(apply r_ldL;rfl;rfl;rfl)|(apply r_eql;rfl;rfl;(first|(apply dT;omega)|(apply dF;omega)|rfl))|(apply r_lss;rfl;rfl;(first|(apply dT;omega)|(apply dF;omega)|rfl))|(apply r_add;rfl;rfl;rfl;omega)|(apply r_not;rfl;rfl)|(apply r_pickF;rfl)|(apply r_gF';rfl;rfl)|(apply r_alloc;((conv=>lhs;simp only [Nat.reduceAdd])<;>rfl);rfl)|(apply r_stL;rfl;rfl;rfl;rfl;(first|rfl|(simp only [z_nil,z_add]<;>rfl));rfl;rfl)|(apply r_nilK)|(apply k_V;rfl)|(apply k_PL;rfl)|(apply k_SL;rfl)|(apply k_nil)|(apply w_seq)|(apply w_ops;((conv=>lhs;simp only [Nat.reduceAdd])<;>rfl))|(apply w_condT;rfl)|(apply w_condF;rfl)|(apply e_thenN)|(apply w_block)|(apply e_blkN)|(apply w_skip))
          apply e_thenK;apply fin
          dsimp only
          refine Wk.f (wkM [(51,128)] [] rfl ?_ ?_ rfl ?_)
          · intro p hp;simp only [List.mem_cons,List.not_mem_nil,or_false] at hp;rcases hp with rfl | rfl | rfl<;>first | exact ⟨by omega,.inr ⟨rfl,_,rfl,.data rfl⟩⟩ | exact ⟨by omega,.inr ⟨rfl,_,rfl,.data (isD_encL _)⟩⟩
          · intro q hq;simp only [List.mem_cons,List.not_mem_nil,or_false] at hq;rcases hq with rfl | rfl<;>rfl
          · simp only [List.length_append,List.length_cons,List.length_nil]
            repeat' (first|exact FWk.nil|(apply FWk.i;rfl;(first|rfl|omega|(simp;done)))|(apply FWk.sl;rfl;rfl;rfl;rfl;omega;rfl)|(apply FWk.ptr;rfl;rfl;rfl;omega;rfl))
        | x :: r,hlen,h104,fin =>
          simp only [List.length_cons] at h104 hlen ⊢
          have hcr : ∀ C : Heap,C 51=some ((encL (x :: r)).map AV.d)→C 103=some ((encN (T.node k a b c d mn mx subs)).map AV.d)→convAs C (fun _=>false) [.slL 51 0 (r.length + 1) 8,.fnL 111 [.ptrL 103 0]]=some ([.d (.sl (encL (x :: r)) (r.length + 1)),.d (.fn 111 [.ptr (encN (T.node k a b c d mn mx subs)) 0])],[51]++([103]++[])):=by
            intro C h1 h2
            have h3:=conv_rowA (ex:=fun _=>false) h1 (by simp) rfl (m:=r.length + 1)
            have h4 : convA C (fun _=>false) (.fnL 111 [.ptrL 103 0])=some (.d (.fn 111 [.ptr (encN (T.node k a b c d mn mx subs)) 0]),[103]):=by
              have h5 : mapO (convC C (fun _=>false) 7) ((encN (T.node k a b c d mn mx subs)).map AV.d)=some (encN (T.node k a b c d mn mx subs),[]):=rfl
              simp only [convA,convC,mapO,h2,Option.bind_some,h5,Option.map_some]
              rfl
            rw [if_neg (by omega)] at h3
            simp only [convAs,h3,h4,Option.bind_some,Option.map_some]
          repeat' (first|(apply r_mvV;rfl)|(apply r_mvSL;rfl)|(apply r_faddL;rfl)|(apply r_ixN (j:=i) (b:=50);rfl;rfl;rfl;omega)|(apply r_ldN (t:=(T.node k a b c d mn mx subs));rfl;rfl;exact hs)|(apply r_ldL (v:=.agg [.i k,.d (.val (.int .u64 a)),.d (.val (.int .u64 b)),.d (.val (.int .u64 c)),.d (.val (.int .u64 d)),.i mn,.i mx,.d (.sl (encL subs) subs.length)]);rfl;rfl;rfl)|(apply r_callA (ags:=[.agg [.i k,.d (.val (.int .u64 a)),.d (.val (.int .u64 b)),.d (.val (.int .u64 c)),.d (.val (.int .u64 d)),.i mn,.i mx,.d (.sl (encL subs) subs.length)]]);rfl;rfl;exact hn)|(apply r_p (v:=.fnL 111 [.ptrL 103 0]);rfl)|(apply r_call (bs:=[.d (.sl (encL (x :: r)) (r.length + 1)),.d (.fn 111 [.ptr (encN (T.node k a b c d mn mx subs)) 0])]) (us:=[51]++([103]++[]));rfl;exact hcr _ rfl rfl;exact h104;rfl)|(apply r_mkN (t:=(T.node k a b c d mn mx subs)) (id:=127);rfl;rfl)|(apply r_appE (b:=51) (c:=127) (id:=128) (K:=x :: r) (L:=[(T.node k a b c d mn mx subs)]) (m:=r.length + 1) (j:=1);rfl;rfl;rfl;rfl;rfl;rfl;rfl;rfl;omega)|(apply r_ldL;rfl;rfl;rfl)|(apply r_eql;rfl;rfl;(first|(apply dT;omega)|(apply dF;omega)|rfl))|(apply r_lss;rfl;rfl;(first|(apply dT;omega)|(apply dF;omega)|rfl))|(apply r_add;rfl;rfl;rfl;omega)|(apply r_not;rfl;rfl)|(apply r_pickF;rfl)|(apply r_gF';rfl;rfl)|(apply r_alloc;((conv=>lhs;simp only [Nat.reduceAdd])<;>rfl);rfl)|(apply r_stL;rfl;rfl;rfl;rfl;(first|rfl|(simp only [z_nil,z_add]<;>rfl));rfl;rfl)|(apply r_nilK)|(apply k_V;rfl)|(apply k_PL;rfl)|(apply k_SL;rfl)|(apply k_nil)|(apply w_seq)|(apply w_ops;((conv=>lhs;simp only [Nat.reduceAdd])<;>rfl))|(apply w_condT;rfl)|(apply w_condF;rfl)|(apply e_thenN)|(apply w_block)|(apply e_blkN)|(apply w_skip))
          apply e_thenK;apply fin
          dsimp only
          refine Wk.f (wkM [(51,128)] [] rfl ?_ ?_ rfl ?_)
          · intro p hp;simp only [List.mem_cons,List.not_mem_nil,or_false] at hp;rcases hp with rfl | rfl | rfl<;>first | exact ⟨by omega,.inr ⟨rfl,_,rfl,.data rfl⟩⟩ | exact ⟨by omega,.inr ⟨rfl,_,rfl,.data (isD_encL _)⟩⟩
          · intro q hq;simp only [List.mem_cons,List.not_mem_nil,or_false] at hq;rcases hq with rfl | rfl<;>rfl
          · simp only [List.length_append,List.length_cons,List.length_nil]
            repeat' (first|exact FWk.nil|(apply FWk.i;rfl;(first|rfl|omega|(simp;done)))|(apply FWk.sl;rfl;rfl;rfl;rfl;omega;rfl)|(apply FWk.ptr;rfl;rfl;rfl;omega;rfl))
      · have fin:=fun fr C Z nx=>fin _ fr C Z nx (if_pos rfl)
        match P,hlen,h104,fin,hany with
        | [],_,_,_,hany=>simp at hany
        | x :: r,hlen,h104,fin,_ =>
          simp only [List.length_cons] at h104 hlen ⊢
          have hcr : ∀ C : Heap,C 51=some ((encL (x :: r)).map AV.d)→C 103=some ((encN (T.node k a b c d mn mx subs)).map AV.d)→convAs C (fun _=>false) [.slL 51 0 (r.length + 1) 8,.fnL 111 [.ptrL 103 0]]=some ([.d (.sl (encL (x :: r)) (r.length + 1)),.d (.fn 111 [.ptr (encN (T.node k a b c d mn mx subs)) 0])],[51]++([103]++[])):=by
            intro C h1 h2
            have h3:=conv_rowA (ex:=fun _=>false) h1 (by simp) rfl (m:=r.length + 1)
            have h4 : convA C (fun _=>false) (.fnL 111 [.ptrL 103 0])=some (.d (.fn 111 [.ptr (encN (T.node k a b c d mn mx subs)) 0]),[103]):=by
              have h5 : mapO (convC C (fun _=>false) 7) ((encN (T.node k a b c d mn mx subs)).map AV.d)=some (encN (T.node k a b c d mn mx subs),[]):=rfl
              simp only [convA,convC,mapO,h2,Option.bind_some,h5,Option.map_some]
              rfl
            rw [if_neg (by omega)] at h3
            simp only [convAs,h3,h4,Option.bind_some,Option.map_some]
          repeat' (first|(apply r_mvV;rfl)|(apply r_mvSL;rfl)|(apply r_faddL;rfl)|(apply r_ixN (j:=i) (b:=50);rfl;rfl;rfl;omega)|(apply r_ldN (t:=(T.node k a b c d mn mx subs));rfl;rfl;exact hs)|(apply r_ldL (v:=.agg [.i k,.d (.val (.int .u64 a)),.d (.val (.int .u64 b)),.d (.val (.int .u64 c)),.d (.val (.int .u64 d)),.i mn,.i mx,.d (.sl (encL subs) subs.length)]);rfl;rfl;rfl)|(apply r_callA (ags:=[.agg [.i k,.d (.val (.int .u64 a)),.d (.val (.int .u64 b)),.d (.val (.int .u64 c)),.d (.val (.int .u64 d)),.i mn,.i mx,.d (.sl (encL subs) subs.length)]]);rfl;rfl;exact hn)|(apply r_p (v:=.fnL 111 [.ptrL 103 0]);rfl)|(apply r_call (bs:=[.d (.sl (encL (x :: r)) (r.length + 1)),.d (.fn 111 [.ptr (encN (T.node k a b c d mn mx subs)) 0])]) (us:=[51]++([103]++[]));rfl;exact hcr _ rfl rfl;exact h104;rfl)|(apply r_ldL;rfl;rfl;rfl)|(apply r_eql;rfl;rfl;(first|(apply dT;omega)|(apply dF;omega)|rfl))|(apply r_lss;rfl;rfl;(first|(apply dT;omega)|(apply dF;omega)|rfl))|(apply r_add;rfl;rfl;rfl;omega)|(apply r_not;rfl;rfl)|(apply r_pickF;rfl)|(apply r_gF';rfl;rfl)|(apply r_alloc;((conv=>lhs;simp only [Nat.reduceAdd])<;>rfl);rfl)|(apply r_stL;rfl;rfl;rfl;rfl;(first|rfl|(simp only [z_nil,z_add]<;>rfl));rfl;rfl)|(apply r_nilK)|(apply k_V;rfl)|(apply k_PL;rfl)|(apply k_SL;rfl)|(apply k_nil)|(apply w_seq)|(apply w_ops;((conv=>lhs;simp only [Nat.reduceAdd])<;>rfl))|(apply w_condT;rfl)|(apply w_condF;rfl)|(apply e_thenN)|(apply w_block)|(apply e_blkN)|(apply w_skip))
          apply e_thenK;apply fin
          dsimp only
          refine Wk.f (wkM [] [] rfl ?_ ?_ rfl ?_)
          · intro p hp;simp only [List.mem_cons,List.not_mem_nil,or_false] at hp;rcases hp with rfl | rfl | rfl<;>first | exact ⟨by omega,.inr ⟨rfl,_,rfl,.data rfl⟩⟩ | exact ⟨by omega,.inr ⟨rfl,_,rfl,.data (isD_encL _)⟩⟩
          · intro q hq;simp only [List.mem_cons,List.not_mem_nil,or_false] at hq;rcases hq with rfl | rfl<;>rfl
          · simp only [List.length_cons]
            repeat' (first|exact FWk.nil|(apply FWk.i;rfl;(first|rfl|omega|(simp;done)))|(apply FWk.sl;rfl;rfl;rfl;rfl;omega;rfl)|(apply FWk.ptr;rfl;rfl;rfl;omega;rfl))
  · have ei : i=F.length:=by omega
    subst ei
    rw [List.take_length] at hs0
    rw [← hs0]
    clear hK hge hi hs0 hok hcnt
    have hof:=put109_good 4 s.1 noneT (by omega)
    obtain ⟨P,at'⟩:=s
    dsimp only at hof hlen ⊢
    rw [hN] at hof
    generalize ofT 4 P noneT=u at hof
    obtain ⟨k2,a2,b2,c2,d2,mn2,mx2,subs2⟩:=u
    match P,hof with
    | [],hof =>
      simp only [List.length_nil] at hof ⊢
      repeat' (first|(apply r_mvSL;rfl)|(apply r_callA (ags:=[]);rfl;rfl;exact h106)|(apply r_callS2 (pre:=[.i 4]) (pre':=[.i 4]) (post:=[.agg [.i 2,.d (.val (.int .u64 0)),.d (.val (.int .u64 0)),.d (.val (.int .u64 0)),.d (.val (.int .u64 0)),.i 0,.i 0,.d (.sl [] 0)]]) (post':=[.agg [.i 2,.d (.val (.int .u64 0)),.d (.val (.int .u64 0)),.d (.val (.int .u64 0)),.d (.val (.int .u64 0)),.i 0,.i 0,.d (.sl [] 0)]]) (b:=51) (L:=[]) (us:=[]);rfl;rfl;rfl;rfl;rfl;exact hof;rfl)|(apply r_lss;rfl;rfl;(first|(apply dT;omega)|(apply dF;omega)|rfl))|(apply r_stL;rfl;rfl;rfl;rfl;(first|rfl|(simp only [z_nil,z_add]<;>rfl));rfl;rfl)|(apply r_nilK)|(apply k_V;rfl)|(apply k_PL;rfl)|(apply k_SL;rfl)|(apply k_nil)|(apply e_ret;rfl)|(apply w_seq)|(apply w_ops;((conv=>lhs;simp only [Nat.reduceAdd])<;>rfl))|(apply w_condF;rfl)|(apply e_thenN)|(apply e_thenX)|(apply e_blkE)|(apply w_exit)|(apply w_ret))
      exact .data _ rfl
    | x :: r,hof =>
      simp only [List.length_cons] at hof ⊢
      repeat' (first|(apply r_mvSL;rfl)|(apply r_callA (ags:=[]);rfl;rfl;exact h106)|(apply r_callS2 (pre:=[.i 4]) (pre':=[.i 4]) (post:=[.agg [.i 2,.d (.val (.int .u64 0)),.d (.val (.int .u64 0)),.d (.val (.int .u64 0)),.d (.val (.int .u64 0)),.i 0,.i 0,.d (.sl [] 0)]]) (post':=[.agg [.i 2,.d (.val (.int .u64 0)),.d (.val (.int .u64 0)),.d (.val (.int .u64 0)),.d (.val (.int .u64 0)),.i 0,.i 0,.d (.sl [] 0)]]) (b:=51) (L:=x :: r) (us:=[51]);rfl;rfl;rfl;rfl;rfl;exact hof;rfl)|(apply r_lss;rfl;rfl;(first|(apply dT;omega)|(apply dF;omega)|rfl))|(apply r_stL;rfl;rfl;rfl;rfl;(first|rfl|(simp only [z_nil,z_add]<;>rfl));rfl;rfl)|(apply r_nilK)|(apply k_V;rfl)|(apply k_PL;rfl)|(apply k_SL;rfl)|(apply k_nil)|(apply e_ret;rfl)|(apply w_seq)|(apply w_ops;((conv=>lhs;simp only [Nat.reduceAdd])<;>rfl))|(apply w_condF;rfl)|(apply e_thenN)|(apply e_thenX)|(apply e_blkE)|(apply w_exit)|(apply w_ret))
      exact .data _ rfl
end Go.Sv
namespace Go.Sv
open Go Go.Proofs
def x55 : XC:=(.seq (.ops 2 [ (0,⟨some 3,none,.box (.t 0)⟩),(1,⟨some 6,none,.alloc [(.int .i64 0),(.int .u64 0),(.int .u64 0),(.int .u64 0),(.int .u64 0),(.int .i64 0),(.int .i64 0),(.slice none 0 0)]⟩)] (some [1,2,3,6])) (.seq (.block 0 (.seq (.ops 16 [ (0,⟨some 8,none,.mv (.t 2)⟩),(1,⟨some 9,none,.arith .eql (.t 8) (.k (.d (.val (.int .i64 0))))⟩),(2,⟨some 10,none,.mv (.t 9)⟩),(3,⟨some 11,(some (10,false)),.fadd 0 (.t 3)⟩),(4,⟨some 12,(some (10,false)),.load none (.t 11)⟩),(5,⟨some 13,(some (10,false)),.arith .eql (.t 12) (.k (.d (.val (.int .i64 1))))⟩),(6,⟨some 14,none,.pick (.t 10) (.k (.d (.val (.bool true)))) (.t 13)⟩),(7,⟨some 15,none,.mv (.t 14)⟩),(8,⟨some 16,(some (15,false)),.load (some 8) (.t 3)⟩),(9,⟨some 17,(some (15,false)),.call 105 [(.t 16)] none false⟩),(10,⟨some 18,(some (15,false)),.mv (.t 17)⟩),(11,⟨some 19,(some (18,true)),.mv (.t 1)⟩),(12,⟨some 20,(some (18,true)),.arith .eql (.t 19) (.k (.d (.val (.int .i64 0))))⟩),(13,⟨some 21,(some (15,false)),.pick (.t 18) (.t 20) (.k (.d (.val (.bool false))))⟩),(14,⟨some 22,none,.pick (.t 15) (.k (.d (.val (.bool true)))) (.t 21)⟩),(15,⟨some 7,none,.mv (.t 22)⟩)] (some [1,2,3,6,7])) (.cond (.t 7) (.seq (.ops 2 [ (0,⟨some 23,none,.call 110 [] none false⟩),(1,⟨none,none,.store 8 (.t 6) (.t 23)⟩)] (some [6])) .ret) (.seq (.ops 15 [ (0,⟨some 25,none,.load (some 8) (.t 3)⟩),(1,⟨some 26,none,.call 105 [(.t 25)] none false⟩),(2,⟨some 27,none,.mv (.t 26)⟩),(3,⟨some 28,(some (27,false)),.mv (.t 1)⟩),(4,⟨some 29,(some (27,false)),.arith .eql (.t 28) (.k (.d (.val (.int .i64 1))))⟩),(5,⟨some 30,(some (27,false)),.mv (.t 29)⟩),(6,⟨some 31,(some (30,true)),.mv (.t 2)⟩),(7,⟨some 32,(some (30,true)),.arith .eql (.t 31) (.k (.d (.val (.int .i64 1))))⟩),(8,⟨some 33,(some (27,false)),.pick (.t 30) (.t 32) (.k (.d (.val (.bool false))))⟩),(9,⟨some 34,none,.pick (.t 27) (.k (.d (.val (.bool true)))) (.t 33)⟩),(10,⟨some 35,none,.mv (.t 34)⟩),(11,⟨some 36,(some (35,false)),.load (some 8) (.t 3)⟩),(12,⟨some 37,(some (35,false)),.call 113 [(.t 36)] none false⟩),(13,⟨some 38,none,.pick (.t 35) (.k (.d (.val (.bool true)))) (.t 37)⟩),(14,⟨some 24,none,.mv (.t 38)⟩)] (some [1,2,3,6,24])) (.cond (.t 24) (.seq (.ops 2 [ (0,⟨some 39,none,.load (some 8) (.t 3)⟩),(1,⟨none,none,.store 8 (.t 6) (.t 39)⟩)] (some [6])) .ret) (.seq (.ops 28 [ (0,⟨some 41,none,.mv (.t 1)⟩),(1,⟨some 42,none,.arith .eql (.t 41) (.k (.d (.val (.int .i64 0))))⟩),(2,⟨some 43,none,.mv (.t 42)⟩),(3,⟨some 44,(some (43,true)),.mv (.t 2)⟩),(4,⟨some 45,(some (43,true)),.arith .eql (.t 44) (.k (.d (.val (.int .i64 (-1)))))⟩),(5,⟨some 46,none,.pick (.t 43) (.t 45) (.k (.d (.val (.bool false))))⟩),(6,⟨some 47,none,.mv (.t 46)⟩),(7,⟨some 48,(some (47,true)),.fadd 0 (.t 3)⟩),(8,⟨some 49,(some (47,true)),.load none (.t 48)⟩),(9,⟨some 50,(some (47,true)),.arith .eql (.t 49) (.k (.d (.val (.int .i64 5))))⟩),(10,⟨some 51,none,.pick (.t 47) (.t 50) (.k (.d (.val (.bool false))))⟩),(11,⟨some 52,none,.mv (.t 51)⟩),(12,⟨some 53,(some (52,true)),.fadd 5 (.t 3)⟩),(13,⟨some 54,(some (52,true)),.load none (.t 53)⟩),(14,⟨some 55,(some (52,true)),.arith .geq (.t 54) (.k (.d (.val (.int .i64 0))))⟩),(15,⟨some 56,none,.pick (.t 52) (.t 55) (.k (.d (.val (.bool false))))⟩),(16,⟨some 57,none,.mv (.t 56)⟩),(17,⟨some 58,(some (57,true)),.fadd 5 (.t 3)⟩),(18,⟨some 59,(some (57,true)),.load none (.t 58)⟩),(19,⟨some 60,(some (57,true)),.arith .leq (.t 59) (.k (.d (.val (.int .i64 1))))⟩),(20,⟨some 61,none,.pick (.t 57) (.t 60) (.k (.d (.val (.bool false))))⟩),(21,⟨some 62,none,.mv (.t 61)⟩),(22,⟨some 63,(some (62,true)),.fadd 7 (.t 3)⟩),(23,⟨some 64,(some (62,true)),.load none (.t 63)⟩),(24,⟨some 65,(some (62,true)),.lenS (.t 64)⟩),(25,⟨some 66,(some (62,true)),.arith .eql (.t 65) (.k (.d (.val (.int .i64 1))))⟩),(26,⟨some 67,none,.pick (.t 62) (.t 66) (.k (.d (.val (.bool false))))⟩),(27,⟨some 40,none,.mv (.t 67)⟩)] (some [1,2,3,6,40])) (.cond (.t 40) (.seq (.ops 8 [ (0,⟨some 68,none,.fadd 7 (.t 3)⟩),(1,⟨some 69,none,.load none (.t 68)⟩),(2,⟨some 70,none,.idxS 8 (.t 69) (.k (.d (.val (.int .i64 0))))⟩),(3,⟨some 71,none,.load (some 8) (.t 70)⟩),(4,⟨some 72,none,.mv (.t 1)⟩),(5,⟨some 73,none,.mv (.t 2)⟩),(6,⟨some 74,none,.call 55 [(.t 71),(.t 72),(.t 73)] none false⟩),(7,⟨none,none,.store 8 (.t 6) (.t 74)⟩)] (some [6])) .ret) .skip))))))) (.seq (.ops 6 [ (0,⟨some 75,none,.mv (.t 1)⟩),(1,⟨some 76,none,.mv (.t 2)⟩),(2,⟨some 77,none,.load (some 8) (.t 3)⟩),(3,⟨some 78,none,.mkrow [(.int .i64 0),(.int .u64 0),(.int .u64 0),(.int .u64 0),(.int .u64 0),(.int .i64 0),(.int .i64 0),(.slice none 0 0)] 1 8 [(0,8,(.t 77))]⟩),(4,⟨some 79,none,.build [(.int .i64 0),(.int .u64 0),(.int .u64 0),(.int .u64 0),(.int .u64 0),(.int .i64 0),(.int .i64 0),(.slice none 0 0)] [(0,1,(.k (.d (.val (.int .i64 5))))),(5,1,(.t 75)),(6,1,(.t 76)),(7,1,(.t 78))]⟩),(5,⟨none,none,.store 8 (.t 6) (.t 79)⟩)] (some [6])) .ret)))
def md55 : FuncId→Option Nat × Bool
  | _=>(none,false)
def od55 : Nat→List (List Nat) × List Nat × Option (List Nat)
  | 0=>([],[],some [1,2,3,6])
  | 1=>([],[],some [1,2,3,6,7])
  | 2=>([],[],some [6])
  | 3=>([],[],some [1,2,3,6,24])
  | 4=>([],[],some [6])
  | 5=>([],[],some [1,2,3,6,40])
  | 6=>([],[],some [6])
  | 7=>([],[],some [6])
  | _=>([],[],none)
theorem b55 {ags : List AV} {row : Option (List DV)} {r : AV} {row' nw : Option (List DV)} (hal : ags.length≤80) (hrow : row'.isSome=true→row.isSome=true) (h : xwp Try.prog x55 (retK [.cell 6 (some 8)] row.isSome r row' nw) (St.init ags row)) : Good Try.prog 55 ags row r row' nw :=
  good_of_body' (md:=md55) (od:=od55) Try.f55 (by kernel_rfl) (by kernel_rfl) (by kernel_rfl) (by kernel_rfl) (by kernel_rfl) hal hrow h

set_option maxRecDepth 100000
set_option maxHeartbeats 4000000
attribute [local irreducible] W E R KP thenK blockK retK Good xwp aRun
theorem rep55_good : ∀ (n : Nat) (t : T),t.cnt≤n→n≤1000000→∀ lo hi : Int,inW lo→inW hi→Good Try.prog 55 [nodeA t,.i lo,.i hi] none (nodeA (repS t lo hi)) none none:=by
  intro n
  induction n with
  | zero=>intro t ht;have:=cnt_pos t;omega
  | succ n ih =>
  intro t ht hc lo hi hlo hhi
  have hno:=no105_good t
  have hst:=star113_good t
  have h110:=empty110_good
  obtain ⟨k,a,b,c,d,mn,mx,subs⟩:=t
  have hsub : ∀ u,subs=[u]→Good Try.prog 55 [nodeA u,.i 0,.i (-1)] none (nodeA (repS u 0 (-1))) none none:=by
    rintro u rfl
    refine ih u ?_ (by omega) 0 (-1) (by unfold inW;omega) (by unfold inW;omega)
    simp only [T.cnt,cntL] at ht;omega
  have hlen : subs.length≤1000000:=by
    have:=cntL_len subs
    simp only [T.cnt] at ht
    omega
  have e0 : nodeA (.node k a b c d mn mx subs)=.agg [.i k,.d (.val (.int .u64 a)),.d (.val (.int .u64 b)),.d (.val (.int .u64 c)),.d (.val (.int .u64 d)),.i mn,.i mx,.d (.sl (encL subs) subs.length)]:=rfl
  clear ih ht
  rw [repS]
  rw [e0] at hno hst ⊢
  have hE : nodeA emptyT=.agg [.i 1,.d (.val (.int .u64 0)),.d (.val (.int .u64 0)),.d (.val (.int .u64 0)),.d (.val (.int .u64 0)),.i 0,.i 0,.d (.sl [] 0)]:=rfl
  rw [hE] at h110
  have hS : isStar (.node k a b c d mn mx subs)=(decide (k=5) && decide (mn=0) && decide (mx=-1)):=by
    simp only [isStar,T.kind,T.mn,T.mx];rfl
  generalize isStar (.node k a b c d mn mx subs)=st at hst hS
  generalize hN : isNo (.node k a b c d mn mx subs)=no at hno ⊢
  by_cases h1 : hi=0 ∨ k=1 ∨ (no=true∧lo=0)
  · rw [if_pos h1]
    by_cases q1 : hi=0
    · refine b55 (by simp) (by simp) (w_init ?_)
      unfold x55
      repeat' (first|(apply r_mvV;rfl)|(apply r_callA (ags:=[]);rfl;rfl;exact h110)|(apply r_eql;rfl;rfl;(first|(apply dT;omega)|(apply dF;omega)|rfl))|(apply r_pickT;rfl)|(apply r_gF';rfl;rfl)|(apply r_gN';rfl)|(apply r_alloc;((conv=>lhs;simp only [Nat.reduceAdd])<;>rfl);rfl)|(apply r_box;((conv=>lhs;simp only [Nat.reduceAdd])<;>rfl);rfl;rfl;rfl)|(apply r_stL;rfl;rfl;rfl;rfl;(first|rfl|(simp only [z_nil,z_add]<;>rfl));rfl;rfl)|(apply r_nilK)|(apply k_V;rfl)|(apply k_PL;rfl)|(apply k_nil)|(apply e_ret;rfl)|(apply w_seq)|(apply w_ops;((conv=>lhs;simp only [Nat.reduceAdd])<;>rfl))|(apply w_condT;rfl)|(apply e_thenN)|(apply w_block)|(apply e_thenR)|(apply e_blkR)|(apply w_ret))
      exact .data _ rfl
    by_cases q2 : k=1
    · refine b55 (by simp) (by simp) (w_init ?_)
      unfold x55
      repeat' (first|(apply r_mvV;rfl)|(apply r_faddL;rfl)|(apply r_callA (ags:=[]);rfl;rfl;exact h110)|(apply r_ldL;rfl;rfl;rfl)|(apply r_eql;rfl;rfl;(first|(apply dT;omega)|(apply dF;omega)|rfl))|(apply r_pickT;rfl)|(apply r_pickF;rfl)|(apply r_gT;rfl)|(apply r_gF';rfl;rfl)|(apply r_gN';rfl)|(apply r_alloc;((conv=>lhs;simp only [Nat.reduceAdd])<;>rfl);rfl)|(apply r_box;((conv=>lhs;simp only [Nat.reduceAdd])<;>rfl);rfl;rfl;rfl)|(apply r_stL;rfl;rfl;rfl;rfl;(first|rfl|(simp only [z_nil,z_add]<;>rfl));rfl;rfl)|(apply r_nilK)|(apply k_V;rfl)|(apply k_PL;rfl)|(apply k_nil)|(apply e_ret;rfl)|(apply w_seq)|(apply w_ops;((conv=>lhs;simp only [Nat.reduceAdd])<;>rfl))|(apply w_condT;rfl)|(apply e_thenN)|(apply w_block)|(apply e_thenR)|(apply e_blkR)|(apply w_ret))
      exact .data _ rfl
    have q3 : no=true∧lo=0:=by rcases h1 with h | h | h;exact absurd h q1;exact absurd h q2;exact h
    obtain ⟨rfl,q4⟩:=q3
    refine b55 (by simp) (by simp) (w_init ?_)
    unfold x55
    repeat' (first|(apply r_mvV;rfl)|(apply r_faddL;rfl)|(apply r_ldL (v:=.agg [.i k,.d (.val (.int .u64 a)),.d (.val (.int .u64 b)),.d (.val (.int .u64 c)),.d (.val (.int .u64 d)),.i mn,.i mx,.d (.sl (encL subs) subs.length)]);rfl;rfl;rfl)|(apply r_callA (ags:=[.agg [.i k,.d (.val (.int .u64 a)),.d (.val (.int .u64 b)),.d (.val (.int .u64 c)),.d (.val (.int .u64 d)),.i mn,.i mx,.d (.sl (encL subs) subs.length)]]);rfl;rfl;exact hno)|(apply r_callA (ags:=[]);rfl;rfl;exact h110)|(apply r_ldL;rfl;rfl;rfl)|(apply r_eql;rfl;rfl;(first|(apply dT;omega)|(apply dF;omega)|rfl))|(apply r_pickT;rfl)|(apply r_pickF;rfl)|(apply r_gT;rfl)|(apply r_alloc;((conv=>lhs;simp only [Nat.reduceAdd])<;>rfl);rfl)|(apply r_box;((conv=>lhs;simp only [Nat.reduceAdd])<;>rfl);rfl;rfl;rfl)|(apply r_stL;rfl;rfl;rfl;rfl;(first|rfl|(simp only [z_nil,z_add]<;>rfl));rfl;rfl)|(apply r_nilK)|(apply k_V;rfl)|(apply k_PL;rfl)|(apply k_nil)|(apply e_ret;rfl)|(apply w_seq)|(apply w_ops;((conv=>lhs;simp only [Nat.reduceAdd])<;>rfl))|(apply w_condT;rfl)|(apply e_thenN)|(apply w_block)|(apply e_thenR)|(apply e_blkR)|(apply w_ret))
    exact .data _ rfl
  rw [if_neg h1]
  have q1 : ¬ hi=0:=fun h=>h1 (.inl h)
  have q2 : ¬ k=1:=fun h=>h1 (.inr (.inl h))
  by_cases h2 : no=true ∨ (lo=1∧hi=1) ∨ (k=5∧mn=0∧mx=-1)
  · rw [if_pos h2,e0]
    rcases Bool.eq_false_or_eq_true no with hq | hq
    · have q3 : ¬ lo=0:=fun h=>h1 (.inr (.inr ⟨hq,h⟩))
      subst hq
      refine b55 (by simp) (by simp) (w_init ?_)
      unfold x55
      repeat' (first|(apply r_mvV;rfl)|(apply r_faddL;rfl)|(apply r_ldL (v:=.agg [.i k,.d (.val (.int .u64 a)),.d (.val (.int .u64 b)),.d (.val (.int .u64 c)),.d (.val (.int .u64 d)),.i mn,.i mx,.d (.sl (encL subs) subs.length)]);rfl;rfl;rfl)|(apply r_callA (ags:=[.agg [.i k,.d (.val (.int .u64 a)),.d (.val (.int .u64 b)),.d (.val (.int .u64 c)),.d (.val (.int .u64 d)),.i mn,.i mx,.d (.sl (encL subs) subs.length)]]);rfl;rfl;exact hno)|(apply r_ldL;rfl;rfl;rfl)|(apply r_eql;rfl;rfl;(first|(apply dT;omega)|(apply dF;omega)|rfl))|(apply r_pickT;rfl)|(apply r_pickF;rfl)|(apply r_gT;rfl)|(apply r_gF';rfl;rfl)|(apply r_gN';rfl)|(apply r_alloc;((conv=>lhs;simp only [Nat.reduceAdd])<;>rfl);rfl)|(apply r_box;((conv=>lhs;simp only [Nat.reduceAdd])<;>rfl);rfl;rfl;rfl)|(apply r_stL;rfl;rfl;rfl;rfl;(first|rfl|(simp only [z_nil,z_add]<;>rfl));rfl;rfl)|(apply r_nilK)|(apply k_V;rfl)|(apply k_PL;rfl)|(apply k_nil)|(apply e_ret;rfl)|(apply w_seq)|(apply w_ops;((conv=>lhs;simp only [Nat.reduceAdd])<;>rfl))|(apply w_condT;rfl)|(apply w_condF;rfl)|(apply e_thenN)|(apply w_block)|(apply e_thenR)|(apply e_blkR)|(apply w_ret))
      exact .data _ rfl
    subst hq
    by_cases h3 : lo=1∧hi=1
    · obtain ⟨h4,h5⟩:=h3
      refine b55 (by simp) (by simp) (w_init ?_)
      unfold x55
      repeat' (first|(apply r_mvV;rfl)|(apply r_faddL;rfl)|(apply r_ldL (v:=.agg [.i k,.d (.val (.int .u64 a)),.d (.val (.int .u64 b)),.d (.val (.int .u64 c)),.d (.val (.int .u64 d)),.i mn,.i mx,.d (.sl (encL subs) subs.length)]);rfl;rfl;rfl)|(apply r_callA (ags:=[.agg [.i k,.d (.val (.int .u64 a)),.d (.val (.int .u64 b)),.d (.val (.int .u64 c)),.d (.val (.int .u64 d)),.i mn,.i mx,.d (.sl (encL subs) subs.length)]]);rfl;rfl;exact hno)|(apply r_ldL;rfl;rfl;rfl)|(apply r_eql;rfl;rfl;(first|(apply dT;omega)|(apply dF;omega)|rfl))|(apply r_pickT;rfl)|(apply r_pickF;rfl)|(apply r_gT;rfl)|(apply r_gF';rfl;rfl)|(apply r_alloc;((conv=>lhs;simp only [Nat.reduceAdd])<;>rfl);rfl)|(apply r_box;((conv=>lhs;simp only [Nat.reduceAdd])<;>rfl);rfl;rfl;rfl)|(apply r_stL;rfl;rfl;rfl;rfl;(first|rfl|(simp only [z_nil,z_add]<;>rfl));rfl;rfl)|(apply r_nilK)|(apply k_V;rfl)|(apply k_PL;rfl)|(apply k_nil)|(apply e_ret;rfl)|(apply w_seq)|(apply w_ops;((conv=>lhs;simp only [Nat.reduceAdd])<;>rfl))|(apply w_condT;rfl)|(apply w_condF;rfl)|(apply e_thenN)|(apply w_block)|(apply e_thenR)|(apply e_blkR)|(apply w_ret))
      exact .data _ rfl
    obtain ⟨h4,h5,h6⟩ : k=5∧mn=0∧mx=-1:=by rcases h2 with h | h | h;cases h;exact absurd h h3;exact h
    have hs1 : st=true:=by rw [hS];simp [h4,h5,h6]
    subst hs1
    by_cases h7 : lo=1
    · have h8 : ¬ hi=1:=fun h=>h3 ⟨h7,h⟩
      refine b55 (by simp) (by simp) (w_init ?_)
      unfold x55
      repeat' (first|(apply r_mvV;rfl)|(apply r_faddL;rfl)|(apply r_ldL (v:=.agg [.i k,.d (.val (.int .u64 a)),.d (.val (.int .u64 b)),.d (.val (.int .u64 c)),.d (.val (.int .u64 d)),.i mn,.i mx,.d (.sl (encL subs) subs.length)]);rfl;rfl;rfl)|(apply r_callA (ags:=[.agg [.i k,.d (.val (.int .u64 a)),.d (.val (.int .u64 b)),.d (.val (.int .u64 c)),.d (.val (.int .u64 d)),.i mn,.i mx,.d (.sl (encL subs) subs.length)]]);rfl;rfl;exact hno)|(apply r_callA (ags:=[.agg [.i k,.d (.val (.int .u64 a)),.d (.val (.int .u64 b)),.d (.val (.int .u64 c)),.d (.val (.int .u64 d)),.i mn,.i mx,.d (.sl (encL subs) subs.length)]]);rfl;rfl;exact hst)|(apply r_ldL;rfl;rfl;rfl)|(apply r_eql;rfl;rfl;(first|(apply dT;omega)|(apply dF;omega)|rfl))|(apply r_pickT;rfl)|(apply r_pickF;rfl)|(apply r_gT;rfl)|(apply r_gF';rfl;rfl)|(apply r_alloc;((conv=>lhs;simp only [Nat.reduceAdd])<;>rfl);rfl)|(apply r_box;((conv=>lhs;simp only [Nat.reduceAdd])<;>rfl);rfl;rfl;rfl)|(apply r_stL;rfl;rfl;rfl;rfl;(first|rfl|(simp only [z_nil,z_add]<;>rfl));rfl;rfl)|(apply r_nilK)|(apply k_V;rfl)|(apply k_PL;rfl)|(apply k_nil)|(apply e_ret;rfl)|(apply w_seq)|(apply w_ops;((conv=>lhs;simp only [Nat.reduceAdd])<;>rfl))|(apply w_condT;rfl)|(apply w_condF;rfl)|(apply e_thenN)|(apply w_block)|(apply e_thenR)|(apply e_blkR)|(apply w_ret))
      exact .data _ rfl
    · refine b55 (by simp) (by simp) (w_init ?_)
      unfold x55
      repeat' (first|(apply r_mvV;rfl)|(apply r_faddL;rfl)|(apply r_ldL (v:=.agg [.i k,.d (.val (.int .u64 a)),.d (.val (.int .u64 b)),.d (.val (.int .u64 c)),.d (.val (.int .u64 d)),.i mn,.i mx,.d (.sl (encL subs) subs.length)]);rfl;rfl;rfl)|(apply r_callA (ags:=[.agg [.i k,.d (.val (.int .u64 a)),.d (.val (.int .u64 b)),.d (.val (.int .u64 c)),.d (.val (.int .u64 d)),.i mn,.i mx,.d (.sl (encL subs) subs.length)]]);rfl;rfl;exact hno)|(apply r_callA (ags:=[.agg [.i k,.d (.val (.int .u64 a)),.d (.val (.int .u64 b)),.d (.val (.int .u64 c)),.d (.val (.int .u64 d)),.i mn,.i mx,.d (.sl (encL subs) subs.length)]]);rfl;rfl;exact hst)|(apply r_ldL;rfl;rfl;rfl)|(apply r_eql;rfl;rfl;(first|(apply dT;omega)|(apply dF;omega)|rfl))|(apply r_pickF;rfl)|(apply r_gT;rfl)|(apply r_gF';rfl;rfl)|(apply r_alloc;((conv=>lhs;simp only [Nat.reduceAdd])<;>rfl);rfl)|(apply r_box;((conv=>lhs;simp only [Nat.reduceAdd])<;>rfl);rfl;rfl;rfl)|(apply r_stL;rfl;rfl;rfl;rfl;(first|rfl|(simp only [z_nil,z_add]<;>rfl));rfl;rfl)|(apply r_nilK)|(apply k_V;rfl)|(apply k_PL;rfl)|(apply k_nil)|(apply e_ret;rfl)|(apply w_seq)|(apply w_ops;((conv=>lhs;simp only [Nat.reduceAdd])<;>rfl))|(apply w_condT;rfl)|(apply w_condF;rfl)|(apply e_thenN)|(apply w_block)|(apply e_thenR)|(apply e_blkR)|(apply w_ret))
      exact .data _ rfl
  rw [if_neg h2]
  have hq : no=false:=by
    cases no with
    | false=>rfl
    | true=>exact absurd (.inl rfl) h2
  subst hq
  have h4 : ¬ (lo=1∧hi=1):=fun h=>h2 (.inr (.inl h))
  have h5 : ¬ (k=5∧mn=0∧mx=-1):=fun h=>h2 (.inr (.inr h))
  clear h1 h2
  have hs0 : st=false:=by
    rw [hS]
    by_cases g1 : k=5
    · by_cases g2 : mn=0
      · have g3 : ¬ mx=-1:=fun h=>h5 ⟨g1,g2,h⟩
        simp [g3]
      · simp [g2]
    · simp [g1]
  subst hs0
  by_cases h3 : lo=0∧hi=-1∧k=5∧mn≤1∧0≤mn∧subs.length=1
  · obtain ⟨g1,g2,g3,g4,g5,hl⟩:=h3
    rw [if_pos ⟨g1,g2,g3,g4,g5⟩]
    obtain ⟨u,hu⟩ : ∃ u,subs=[u]:=by
      match subs,hl with
      | [u],_=>exact ⟨u,rfl⟩
    have hsu : Good Try.prog 55 [nodeA u,.i lo,.i hi] none (nodeA (repS u 0 (-1))) none none:=by rw [g1,g2];exact hsub u hu
    have er : repF subs (.node k a b c d mn mx subs)=repS u 0 (-1):=by rw [hu,repF_one]
    rw [er]
    have hs : NodeAt (encL subs) 0 u:=by rw [hu];exact NodeAt.sub (l:=[u]) (i:=0) (by simp)
    have hna : [nodeA u,.i lo,.i hi].all AV.nrm=true:=by rw [List.all_cons,nodeA_nrm];rfl
    generalize repS u 0 (-1)=v at hsu
    clear er hu hsub
    obtain ⟨k2,a2,b2,c2,d2,mn2,mx2,subs2⟩:=v
    by_cases h7 : mn=0
    · have h8 : ¬ mx=-1:=fun h=>h5 ⟨g3,h7,h⟩
      refine b55 (by simp) (by simp) (w_init ?_)
      unfold x55
      repeat' (first|(apply r_mvV;rfl)|(apply r_faddL;rfl)|(apply r_l;apply ld_node';assumption;rfl)|(apply r_ldL (v:=.agg [.i k,.d (.val (.int .u64 a)),.d (.val (.int .u64 b)),.d (.val (.int .u64 c)),.d (.val (.int .u64 d)),.i mn,.i mx,.d (.sl (encL subs) subs.length)]);rfl;rfl;rfl)|(apply r_callA (ags:=[.agg [.i k,.d (.val (.int .u64 a)),.d (.val (.int .u64 b)),.d (.val (.int .u64 c)),.d (.val (.int .u64 d)),.i mn,.i mx,.d (.sl (encL subs) subs.length)]]);rfl;rfl;exact hno)|(apply r_callA (ags:=[.agg [.i k,.d (.val (.int .u64 a)),.d (.val (.int .u64 b)),.d (.val (.int .u64 c)),.d (.val (.int .u64 d)),.i mn,.i mx,.d (.sl (encL subs) subs.length)]]);rfl;rfl;exact hst)|(apply r_p (v:=.d (.ptr (encL subs) 0));exact ix_sub0 rfl rfl (by omega))|(apply r_callA (ags:=[nodeA u,.i lo,.i hi]);rfl;exact hna;exact hsu)|(apply r_ldL;rfl;rfl;rfl)|(apply r_eql;rfl;rfl;(first|(apply dT;omega)|(apply dF;omega)|rfl))|(apply r_leq;rfl;rfl;(first|(apply dT;omega)|(apply dF;omega)|rfl))|(apply r_geq;rfl;rfl;(first|(apply dT;omega)|(apply dF;omega)|rfl))|(apply r_pickT;rfl)|(apply r_pickF;rfl)|(apply r_lenD;rfl)|(apply r_gT;rfl)|(apply r_gF';rfl;rfl)|(apply r_alloc;((conv=>lhs;simp only [Nat.reduceAdd])<;>rfl);rfl)|(apply r_box;((conv=>lhs;simp only [Nat.reduceAdd])<;>rfl);rfl;rfl;rfl)|(apply r_stL;rfl;rfl;rfl;rfl;(first|rfl|(simp only [z_nil,z_add]<;>rfl));rfl;rfl)|(apply r_nilK)|(apply k_V;rfl)|(apply k_PL;rfl)|(apply k_nil)|(apply e_ret;rfl)|(apply w_seq)|(apply w_ops;((conv=>lhs;simp only [Nat.reduceAdd])<;>rfl))|(apply w_condT;rfl)|(apply w_condF;rfl)|(apply e_thenN)|(apply w_block)|(apply e_thenR)|(apply e_blkR)|(apply w_ret))
      exact .data _ rfl
    · refine b55 (by simp) (by simp) (w_init ?_)
      unfold x55
      repeat' (first|(apply r_mvV;rfl)|(apply r_faddL;rfl)|(apply r_l;apply ld_node';assumption;rfl)|(apply r_ldL (v:=.agg [.i k,.d (.val (.int .u64 a)),.d (.val (.int .u64 b)),.d (.val (.int .u64 c)),.d (.val (.int .u64 d)),.i mn,.i mx,.d (.sl (encL subs) subs.length)]);rfl;rfl;rfl)|(apply r_callA (ags:=[.agg [.i k,.d (.val (.int .u64 a)),.d (.val (.int .u64 b)),.d (.val (.int .u64 c)),.d (.val (.int .u64 d)),.i mn,.i mx,.d (.sl (encL subs) subs.length)]]);rfl;rfl;exact hno)|(apply r_callA (ags:=[.agg [.i k,.d (.val (.int .u64 a)),.d (.val (.int .u64 b)),.d (.val (.int .u64 c)),.d (.val (.int .u64 d)),.i mn,.i mx,.d (.sl (encL subs) subs.length)]]);rfl;rfl;exact hst)|(apply r_p (v:=.d (.ptr (encL subs) 0));exact ix_sub0 rfl rfl (by omega))|(apply r_callA (ags:=[nodeA u,.i lo,.i hi]);rfl;exact hna;exact hsu)|(apply r_ldL;rfl;rfl;rfl)|(apply r_eql;rfl;rfl;(first|(apply dT;omega)|(apply dF;omega)|rfl))|(apply r_leq;rfl;rfl;(first|(apply dT;omega)|(apply dF;omega)|rfl))|(apply r_geq;rfl;rfl;(first|(apply dT;omega)|(apply dF;omega)|rfl))|(apply r_pickT;rfl)|(apply r_pickF;rfl)|(apply r_lenD;rfl)|(apply r_gT;rfl)|(apply r_gF';rfl;rfl)|(apply r_alloc;((conv=>lhs;simp only [Nat.reduceAdd])<;>rfl);rfl)|(apply r_box;((conv=>lhs;simp only [Nat.reduceAdd])<;>rfl);rfl;rfl;rfl)|(apply r_stL;rfl;rfl;rfl;rfl;(first|rfl|(simp only [z_nil,z_add]<;>rfl));rfl;rfl)|(apply r_nilK)|(apply k_V;rfl)|(apply k_PL;rfl)|(apply k_nil)|(apply e_ret;rfl)|(apply w_seq)|(apply w_ops;((conv=>lhs;simp only [Nat.reduceAdd])<;>rfl))|(apply w_condT;rfl)|(apply w_condF;rfl)|(apply e_thenN)|(apply w_block)|(apply e_thenR)|(apply e_blkR)|(apply w_ret))
      exact .data _ rfl
  · have er : (if lo=0∧hi=-1∧k=5∧mn≤1∧0≤mn then repF subs (.node k a b c d mn mx subs) else .node 5 0 0 0 0 lo hi [.node k a b c d mn mx subs])=repN (.node k a b c d mn mx subs) lo hi:=by
      split
      · rename_i g
        rw [repF_two (fun hl=>h3 ⟨g.1,g.2.1,g.2.2.1,g.2.2.2.1,g.2.2.2.2,hl⟩),g.1,g.2.1]
      · rfl
    rw [er]
    clear er hsub
    refine b55 (by simp) (by simp) (w_init ?_)
    unfold x55
    repeat' (first|(apply r_mvV;rfl)|(apply r_faddL;rfl)|(apply r_ldL (v:=.agg [.i k,.d (.val (.int .u64 a)),.d (.val (.int .u64 b)),.d (.val (.int .u64 c)),.d (.val (.int .u64 d)),.i mn,.i mx,.d (.sl (encL subs) subs.length)]);rfl;rfl;rfl)|(apply r_callA (ags:=[.agg [.i k,.d (.val (.int .u64 a)),.d (.val (.int .u64 b)),.d (.val (.int .u64 c)),.d (.val (.int .u64 d)),.i mn,.i mx,.d (.sl (encL subs) subs.length)]]);rfl;rfl;exact hno)|(apply r_callA (ags:=[.agg [.i k,.d (.val (.int .u64 a)),.d (.val (.int .u64 b)),.d (.val (.int .u64 c)),.d (.val (.int .u64 d)),.i mn,.i mx,.d (.sl (encL subs) subs.length)]]);rfl;rfl;exact hst)|(apply r_n (v:=.slL 65 0 1 8) (r:=[.i k,.d (.val (.int .u64 a)),.d (.val (.int .u64 b)),.d (.val (.int .u64 c)),.d (.val (.int .u64 d)),.i mn,.i mx,.d (.sl (encL subs) subs.length)]);rfl)|(apply r_p (v:=.agg [.i 5,.d (.val (.int .u64 0)),.d (.val (.int .u64 0)),.d (.val (.int .u64 0)),.d (.val (.int .u64 0)),.i lo,.i hi,.slL 65 0 1 8]);rfl)|(apply r_ldL;rfl;rfl;rfl)|(apply r_eql;rfl;rfl;(first|(apply dT;omega)|(apply dF;omega)|rfl))|(apply r_leq;rfl;rfl;(first|(apply dT;omega)|(apply dF;omega)|rfl))|(apply r_geq;rfl;rfl;(first|(apply dT;omega)|(apply dF;omega)|rfl))|(apply r_pickT;rfl)|(apply r_pickF;rfl)|(apply r_lenD;rfl)|(apply r_gT;rfl)|(apply r_gF';rfl;rfl)|((apply r_gS (o:=default);rfl)<;>(intro h;try simp only [decide_eq_true_eq,decide_eq_false_iff_not,Bool.not_eq_true,Bool.not_eq_false] at h))|(apply r_alloc;((conv=>lhs;simp only [Nat.reduceAdd])<;>rfl);rfl)|(apply r_box;((conv=>lhs;simp only [Nat.reduceAdd])<;>rfl);rfl;rfl;rfl)|(apply r_stL;rfl;rfl;rfl;rfl;(first|rfl|(simp only [z_nil,z_add]<;>rfl));rfl;rfl)|(apply r_nilK)|(apply k_V;rfl)|(apply k_PL;rfl)|(apply k_nil)|(apply e_ret;rfl)|(apply w_seq)|(apply w_ops;((conv=>lhs;simp only [Nat.reduceAdd])<;>rfl))|(apply w_condF;rfl)|(apply e_thenN)|(apply w_block)|(apply e_blkN)|(apply w_ret)|(apply w_skip))
    all_goals first
      | (exfalso;omega)
      | exact .data _ rfl
end Go.Sv
