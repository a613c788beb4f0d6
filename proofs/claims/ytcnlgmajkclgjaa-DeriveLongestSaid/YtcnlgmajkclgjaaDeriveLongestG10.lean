/- A part of the proof of the law DeriveLongest: that it answers true for every input, and that the input reads behind the call as before (no condition). -/
import Derived.Test.YtcnlgmajkclgjaaDeriveLongestG9
set_option linter.all false
set_option linter.unusedSectionVars false
set_option linter.unusedVariables false
set_option linter.unusedSimpArgs false
namespace Go.Sv
open Go Go.Proofs
def x48 : XC:=(.seq (.ops 2 [ (0,⟨some 1,none,.box (.t 0)⟩),(1,⟨some 2,none,.mv (.k (.d (.val (.int .i64 0))))⟩)] (some [1])) (.seq (.ops 1 [ (0,⟨some 3,none,.mv (.k (.d (.val (.int .i64 1))))⟩)] (some [1,3])) (.seq (.seq (.ops 1 [ (0,⟨some 4,none,.mv (.k (.d (.val (.int .i64 0))))⟩)] (some [1,3,4])) (.block 0 (.loop (.seq (.seq (.ops 5 [ (0,⟨some 5,none,.mv (.t 4)⟩),(1,⟨some 6,none,.fadd 7 (.t 1)⟩),(2,⟨some 7,none,.load none (.t 6)⟩),(3,⟨some 8,none,.lenS (.t 7)⟩),(4,⟨some 9,none,.arith .lss (.t 5) (.t 8)⟩)] (some [1,3,4,9])) (.cond (.t 9) .skip (.exit 0))) (.seq (.block 1 (.ops 9 [ (0,⟨some 12,none,.mv (.t 3)⟩),(1,⟨some 13,none,.fadd 7 (.t 1)⟩),(2,⟨some 14,none,.load none (.t 13)⟩),(3,⟨some 15,none,.mv (.t 4)⟩),(4,⟨some 16,none,.idxS 8 (.t 14) (.t 15)⟩),(5,⟨some 17,none,.load (some 8) (.t 16)⟩),(6,⟨some 18,none,.call 48 [(.t 17)] none false⟩),(7,⟨some 19,none,.arith .add (.t 12) (.t 18)⟩),(8,⟨some 3,none,.mv (.t 19)⟩)] (some [1,3,4]))) (.ops 3 [ (0,⟨some 10,none,.mv (.t 4)⟩),(1,⟨some 11,none,.arith .add (.t 10) (.k (.d (.val (.int .i64 1))))⟩),(2,⟨some 4,none,.mv (.t 11)⟩)] (some [1,3,4]))))))) (.seq (.ops 2 [ (0,⟨some 20,none,.mv (.t 3)⟩),(1,⟨some 2,none,.mv (.t 20)⟩)] (some [2])) .ret))))
def md48 : FuncId→Option Nat × Bool
  | _=>(none,false)
def od48 : Nat→List (List Nat) × List Nat × Option (List Nat)
  | 0=>([],[],some [1])
  | 1=>([],[],some [1,3])
  | 2=>([],[],some [1,3,4])
  | 3=>([],[],some [1,3,4,9])
  | 4=>([],[],some [1,3,4])
  | 5=>([],[],some [1,3,4])
  | 6=>([],[],some [2])
  | _=>([],[],none)
theorem b48 {ags : List AV} {row : Option (List DV)} {r : AV} {row' nw : Option (List DV)} (hal : ags.length≤21) (hrow : row'.isSome=true→row.isSome=true) (h : xwp Try.prog x48 (retK [.tmp 2] row.isSome r row' nw) (St.init ags row)) : Good Try.prog 48 ags row r row' nw :=
  good_of_body' (md:=md48) (od:=od48) Try.f48 (by kernel_rfl) (by kernel_rfl) (by kernel_rfl) (by kernel_rfl) (by kernel_rfl) hal hrow h

set_option maxRecDepth 100000
set_option maxHeartbeats 4000000
attribute [local irreducible] W E R KP thenK blockK retK Good xwp aRun
theorem size48_good : ∀ (n : Nat) (t : T),t.cnt≤n→n≤1000000→Good Try.prog 48 [nodeA t] none (.i (t.cnt : Nat)) none none:=by
  intro n
  induction n with
  | zero=>intro t ht;have:=cnt_pos t;omega
  | succ n ih =>
  intro t ht hc
  obtain ⟨k,a,b,c,d,mn,mx,subs⟩:=t
  have ih' : ∀ i (h : i < subs.length),Good Try.prog 48 [nodeA subs[i]] none (.i (subs[i].cnt : Nat)) none none:=by
    intro i h
    refine ih _ ?_ (by omega)
    have:=cntL_get subs i h
    simp only [T.cnt] at ht
    omega
  have hlen : subs.length≤1000000:=by
    have:=cntL_len subs
    simp only [T.cnt] at ht
    omega
  have e0 : nodeA (.node k a b c d mn mx subs)=.agg [.i k,.d (.val (.int .u64 a)),.d (.val (.int .u64 b)),.d (.val (.int .u64 c)),.d (.val (.int .u64 d)),.i mn,.i mx,.d (.sl (encL subs) subs.length)]:=rfl
  rw [e0]
  rw [T.cnt] at ht ⊢
  refine b48 (by simp) (by simp) (w_init ?_)
  unfold x48
  repeat' (first|(apply r_mvV;rfl)|(apply r_box;((conv=>lhs;simp only [Nat.reduceAdd])<;>rfl);rfl;rfl;rfl)|(apply r_nilK)|(apply k_V;rfl)|(apply k_PL;rfl)|(apply k_nil)|(apply w_seq)|(apply w_ops;((conv=>lhs;simp only [Nat.reduceAdd])<;>rfl))|(apply e_thenN)|(apply w_block))
  apply w_loopI (S:=fun i : Nat=>⟨((Fr.nil.put 1 (.ptrL 1 0)).put 3 (.i ((1 + cntL (subs.take i) : Nat) : Int))).put 4 (.i i),Heap.nil.put 1 [.i k,.d (.val (.int .u64 a)),.d (.val (.int .u64 b)),.d (.val (.int .u64 c)),.d (.val (.int .u64 d)),.i mn,.i mx,.d (.sl (encL subs) subs.length)],Frz.lo 100,100⟩) (m:=fun i=>subs.length - i) (I:=fun i=>i≤subs.length) (i0:=0)
  · exact Nat.zero_le _
  · refine wkR (by omega) rfl rfl ?_
    simp only [List.take_zero,cntL]
    repeat' (first|exact FWk.nil|(apply FWk.i;rfl;(first|rfl|omega|(simp;done)))|(apply FWk.ptr;rfl;rfl;rfl;omega;rfl))
  intro i K hi hK
  dsimp only
  rcases Nat.lt_or_ge i subs.length with hlt | hge
  · have hs:=NodeAt.sub hlt
    have hg:=ih' i hlt
    have hd:=cntL_take subs i hlt
    have h2:=cntL_take_le subs (i + 1)
    have hna : [nodeA subs[i]].all AV.nrm=true:=by rw [List.all_cons,nodeA_nrm];rfl
    repeat' (first|(apply r_mvV;rfl)|(apply r_faddL;rfl)|(apply r_l;apply ld_node';assumption;rfl)|(apply r_p;apply ix_sub;rfl;rfl;omega)|(apply r_callA (ags:=[nodeA subs[i]]);rfl;exact hna;exact hg)|(apply r_ldL;rfl;rfl;rfl)|(apply r_lss;rfl;rfl;(first|(apply dT;omega)|(apply dF;omega)|rfl))|(apply r_add;rfl;rfl;rfl;omega)|(apply r_lenD;rfl)|(apply r_nilK)|(apply k_V;rfl)|(apply k_PL;rfl)|(apply k_nil)|(apply w_seq)|(apply w_ops;((conv=>lhs;simp only [Nat.reduceAdd])<;>rfl))|(apply w_condT;rfl)|(apply e_thenN)|(apply w_block)|(apply e_blkN)|(apply w_skip))
    apply e_thenK
    apply hK (i + 1)
    · omega
    · omega
    · rw [hd]
      refine wkR (by omega) rfl rfl ?_
      repeat' (first|exact FWk.nil|(apply FWk.i;rfl;(first|rfl|omega|(simp;done)))|(apply FWk.ptr;rfl;rfl;rfl;omega;rfl))
  · have ei : i=subs.length:=by omega
    subst ei
    repeat' (first|(apply r_mvV;rfl)|(apply r_faddL;rfl)|(apply r_ldL;rfl;rfl;rfl)|(apply r_lss;rfl;rfl;(first|(apply dT;omega)|(apply dF;omega)|rfl))|(apply r_lenD;rfl)|(apply r_nilK)|(apply k_V;rfl)|(apply k_PL;rfl)|(apply k_nil)|(apply e_ret (vs:=[.d (.val _)]);rfl)|(apply w_seq)|(apply w_ops;((conv=>lhs;simp only [Nat.reduceAdd])<;>rfl))|(apply w_condF;rfl)|(apply e_thenN)|(apply e_thenX)|(apply e_blkE)|(apply w_exit)|(apply w_ret))
    exact retI (by rw [List.take_length])
end Go.Sv
namespace Go.Sv
open Go Go.Proofs
def x76 : XC:=(.seq (.ops 2 [ (0,⟨some 2,none,.box (.t 0)⟩),(1,⟨some 4,none,.mv (.k (.d (.val (.bool false))))⟩)] (some [1,2])) (.seq (.ops 18 [ (0,⟨some 5,none,.load (some 8) (.t 2)⟩),(1,⟨some 6,none,.call 45 [(.t 5)] none false⟩),(2,⟨some 7,none,.mv (.t 6)⟩),(3,⟨some 8,(some (7,true)),.mv (.t 1)⟩),(4,⟨some 9,(some (7,true)),.lenT (.t 8)⟩),(5,⟨some 10,(some (7,true)),.arith .leq (.t 9) (.k (.d (.val (.int .i64 16))))⟩),(6,⟨some 11,none,.pick (.t 7) (.t 10) (.k (.d (.val (.bool false))))⟩),(7,⟨some 12,none,.mv (.t 11)⟩),(8,⟨some 13,(some (12,true)),.load (some 8) (.t 2)⟩),(9,⟨some 14,(some (12,true)),.call 32 [(.t 13)] none false⟩),(10,⟨some 15,(some (12,true)),.un .not (.t 14)⟩),(11,⟨some 16,(some (12,true)),.mv (.t 15)⟩),(12,⟨some 17,(some (16,false)),.load (some 8) (.t 2)⟩),(13,⟨some 18,(some (16,false)),.call 48 [(.t 17)] none false⟩),(14,⟨some 19,(some (16,false)),.arith .leq (.t 18) (.k (.d (.val (.int .i64 60))))⟩),(15,⟨some 20,(some (12,true)),.pick (.t 16) (.k (.d (.val (.bool true)))) (.t 19)⟩),(16,⟨some 21,none,.pick (.t 12) (.t 20) (.k (.d (.val (.bool false))))⟩),(17,⟨some 4,none,.mv (.t 21)⟩)] (some [4])) .ret))
def md76 : FuncId→Option Nat × Bool
  | _=>(none,false)
def od76 : Nat→List (List Nat) × List Nat × Option (List Nat)
  | 0=>([],[],some [1,2])
  | 1=>([],[],some [4])
  | _=>([],[],none)
theorem b76 {ags : List AV} {row : Option (List DV)} {r : AV} {row' nw : Option (List DV)} (hal : ags.length≤22) (hrow : row'.isSome=true→row.isSome=true) (h : xwp Try.prog x76 (retK [.tmp 4] row.isSome r row' nw) (St.init ags row)) : Good Try.prog 76 ags row r row' nw :=
  good_of_body' (md:=md76) (od:=od76) Try.f76 (by kernel_rfl) (by kernel_rfl) (by kernel_rfl) (by kernel_rfl) (by kernel_rfl) hal hrow h

set_option maxRecDepth 100000
set_option maxHeartbeats 4000000
attribute [local irreducible] W E R KP thenK blockK retK Good xwp aRun
theorem same_no {t : T} (h : okT t) : sameT t noneT=isNo t:=by
  rw [Bool.eq_iff_iff,sameT_iff]
  constructor
  · rintro rfl;rfl
  · exact ok_no h
theorem Longest82_good (s : ByteArray) (hs : s.size≤1000000) (t : T) (hc : t.cnt≤4000) (hok : okT t) (j : Nat) (hj : j≤s.size) : Good Try.prog 82 [nodeA t,.d (.val (.string s)),.i (j : Nat)] none (.tup [.i ((lngD s (s.size - j) j (simT t) (-1)).getD 0),.b (lngD s (s.size - j) j (simT t) (-1)).isSome]) none none:=by
  have h40:=simple40_good 4000 t hc (by omega) hok
  have hd:=DOK_sim hok hc
  clear hok hc
  generalize hRR : lngD s (s.size - j) j (simT t) (-1)=RR
  generalize simT t=u0 at hRR h40 hd
  obtain ⟨k,a,b,c,d,mn,mx,subs⟩:=t
  have en : nodeA (T.node k a b c d mn mx subs)=.agg [.i k,.d (.val (.int .u64 a)),.d (.val (.int .u64 b)),.d (.val (.int .u64 c)),.d (.val (.int .u64 d)),.i mn,.i mx,.d (.sl (encL subs) subs.length)]:=rfl
  rw [en] at h40 ⊢
  obtain ⟨k2,a2,b2,c2,d2,mn2,mx2,subs2⟩:=u0
  have en2 : nodeA (T.node k2 a2 b2 c2 d2 mn2 mx2 subs2)=.agg [.i k2,.d (.val (.int .u64 a2)),.d (.val (.int .u64 b2)),.d (.val (.int .u64 c2)),.d (.val (.int .u64 d2)),.i mn2,.i mx2,.d (.sl (encL subs2) subs2.length)]:=rfl
  rw [en2] at h40
  refine b82 (by simp) (by simp) (w_init ?_)
  unfold x82
  repeat' (first|(apply r_mvV;rfl)|(apply r_ldL (v:=.agg [.i k,.d (.val (.int .u64 a)),.d (.val (.int .u64 b)),.d (.val (.int .u64 c)),.d (.val (.int .u64 d)),.i mn,.i mx,.d (.sl (encL subs) subs.length)]);rfl;rfl;rfl)|(apply r_callA (f:=40);rfl;rfl;exact h40)|(apply r_box;((conv=>lhs;simp only [Nat.reduceAdd])<;>rfl);rfl;rfl;rfl)|(apply r_stL;rfl;rfl;rfl;rfl;(first|rfl|(simp only [z_nil,z_add]<;>rfl));rfl;rfl)|(apply r_nilK)|(apply k_V;rfl)|(apply k_PL;rfl)|(apply k_nil)|(apply w_seq)|(apply w_ops;((conv=>lhs;simp only [Nat.reduceAdd])<;>rfl))|(apply e_thenN)|(apply w_block))
  apply w_loopI (ι:=Nat × T × Int) (S:=fun q=>⟨(((Fr.nil.put 1 (.d (.val (.string s)))).put 3 (.ptrL 1 0)).put 8 (.i q.2.2)).put 9 (.i (q.1 : Nat)),rowsOf [(1,(encN q.2.1).map AV.d)],Frz.buts 100 [1],100⟩) (m:=fun q=>s.size - q.1) (I:=fun q=>q.1≤s.size∧DOK q.2.1∧lngD s (s.size - q.1) q.1 q.2.1 q.2.2=RR) (i0:=(j,(T.node k2 a2 b2 c2 d2 mn2 mx2 subs2),-1))
  · exact ⟨hj,hd,hRR⟩
  · refine wkM [] [] rfl ?_ ?_ rfl ?_
    · intro p hp
      simp only [List.mem_cons,List.not_mem_nil,or_false] at hp
      rcases hp with rfl
      exact ⟨by omega,.inr ⟨rfl,_,rfl,.data rfl⟩⟩
    · intro q hq;simp only [List.mem_cons,List.not_mem_nil,or_false] at hq;rcases hq with rfl<;>rfl
    · repeat' (first|exact FWk.nil|(apply FWk.i;rfl;(first|rfl|omega|(simp;done)))|(apply FWk.ptr;rfl;rfl;rfl;omega;rfl)|(apply FWk.d;rfl;rfl))
  rintro ⟨i,u,to⟩ K hI hK
  dsimp only at hI hK ⊢
  obtain ⟨hi,hdu,hr⟩:=hI
  have hbyte:=byteN_lt s i
  have g1:=null72_good u (by have:=hdu.2.2;omega) hdu.1
  rw [nullS_nl hdu.1] at g1
  have g5:=same47g_good 4000 u noneT hdu.2.2 (by omega)
  rw [same_no hdu.1] at g5
  have g:=(rby_row hbyte 4000 (Nat.le_refl _)).1 u hdu.1 hdu.2.1 hdu.2.2
  obtain ⟨_,_,_,d4⟩:=byT_ok (byteN s i) u hdu.1 hdu.2.1
  have hq:=sq_le hdu.2.2
  have g2:=Great129_good (byT (byteN s i) u) (by omega)
  clear hRR hd h40 hj d4 hq
  have fin : ∀ to' : Int,(to'=if nlT u=true then (i : Int) else to)→(i=s.size→some to'=RR)∧(i < s.size→isNo u=true→some to'=RR)∧(i < s.size→isNo u=false→(4000 < (byT (byteN s i) u).cnt→none=RR)∧(¬ 4000 < (byT (byteN s i) u).cnt→i + 1≤s.size∧DOK (byT (byteN s i) u)∧lngD s (s.size - (i + 1)) (i + 1) (byT (byteN s i) u) to'=RR)):=by
    intro to' hto
    subst hto
    refine ⟨fun h=>?_,fun h hn=>?_,fun h hn=>⟨fun hc=>?_,fun hc=>?_⟩⟩
    · rw [h,Nat.sub_self,lngD] at hr
      subst h
      exact hr
    · rw [show s.size - i=(s.size - (i + 1)) + 1 by omega,lngD,if_pos hn] at hr
      exact hr
    · rw [show s.size - i=(s.size - (i + 1)) + 1 by omega,lngD,if_neg (by simp [hn]),if_pos hc] at hr
      exact hr
    · rw [show s.size - i=(s.size - (i + 1)) + 1 by omega,lngD,if_neg (by simp [hn]),if_neg hc] at hr
      exact ⟨by omega,DOK_by hdu hc,hr⟩
  generalize nlT u=q at g1 fin
  clear hr
  have done : ∀ to' : Int,some to'=RR→RR.getD 0=to'∧RR.isSome=true:=by
    rintro to' rfl
    exact ⟨rfl,rfl⟩
  have hK':=fun to'=>hK (i + 1,byT (byteN s i) u,to')
  clear hK hdu
  generalize byT (byteN s i) u=u' at g g2 fin hK'
  generalize isNo u=no at fin g5
  obtain ⟨k,a,b,c,d,mn,mx,subs⟩:=u
  obtain ⟨k3,a3,b3,c3,d3,mn3,mx3,subs3⟩:=u'
  generalize hct : T.cnt (T.node k3 a3 b3 c3 d3 mn3 mx3 subs3)=ct at g2 fin
  have e3 : nodeA (T.node k a b c d mn mx subs)=.agg [.i k,.d (.val (.int .u64 a)),.d (.val (.int .u64 b)),.d (.val (.int .u64 c)),.d (.val (.int .u64 d)),.i mn,.i mx,.d (.sl (encL subs) subs.length)]:=rfl
  have e4 : nodeA (T.node k3 a3 b3 c3 d3 mn3 mx3 subs3)=.agg [.i k3,.d (.val (.int .u64 a3)),.d (.val (.int .u64 b3)),.d (.val (.int .u64 c3)),.d (.val (.int .u64 d3)),.i mn3,.i mx3,.d (.sl (encL subs3) subs3.length)]:=rfl
  have e5 : nodeA noneT=.agg [.i 2,.d (.val (.int .u64 0)),.d (.val (.int .u64 0)),.d (.val (.int .u64 0)),.d (.val (.int .u64 0)),.i 0,.i 0,.d (.sl [] 0)]:=rfl
  rw [e3,e4] at g
  rw [e3] at g1
  rw [e4] at g2
  rw [e3,e5] at g5
  cases q with
  | false =>
    obtain ⟨f1,f2,f3⟩:=fin to (by simp)
    have done:=done to
    have hK':=hK' to
    by_cases hsz : i=s.size
    · obtain ⟨d1,d2⟩:=done (f1 hsz)
      rw [d1,d2]
      repeat' (first|(apply r_mvV;rfl)|(apply r_ldL (v:=.agg [.i k,.d (.val (.int .u64 a)),.d (.val (.int .u64 b)),.d (.val (.int .u64 c)),.d (.val (.int .u64 d)),.i mn,.i mx,.d (.sl (encL subs) subs.length)]);rfl;rfl;rfl)|(apply r_callA (f:=72);rfl;rfl;exact g1)|(apply r_eql;rfl;rfl;(first|(apply dT;omega)|(apply dF;omega)|rfl))|(apply r_leq;rfl;rfl;(first|(apply dT;omega)|(apply dF;omega)|rfl))|(apply r_pickT;rfl)|(apply r_lenT;rfl)|(apply r_gF';rfl;rfl)|(apply r_nilK)|(apply k_V;rfl)|(apply k_PL;rfl)|(apply k_nil)|(apply e_ret;rfl)|(apply w_seq)|(apply w_ops;((conv=>lhs;simp only [Nat.reduceAdd])<;>rfl))|(apply w_condT;rfl)|(apply w_condF;rfl)|(apply e_thenN)|(apply w_block)|(apply e_thenR)|(apply e_blkR)|(apply w_ret)|(apply w_skip))
      exact .data _ rfl
    have hlt : i < s.size:=by omega
    cases no with
    | true =>
      obtain ⟨d1,d2⟩:=done (f2 hlt rfl)
      rw [d1,d2]
      repeat' (first|(apply r_mvV;rfl)|(apply r_ldL (v:=.agg [.i k,.d (.val (.int .u64 a)),.d (.val (.int .u64 b)),.d (.val (.int .u64 c)),.d (.val (.int .u64 d)),.i mn,.i mx,.d (.sl (encL subs) subs.length)]);rfl;rfl;rfl)|(apply r_callA (f:=72);rfl;rfl;exact g1)|(apply r_p (v:=.agg [.i 2,.d (.val (.int .u64 0)),.d (.val (.int .u64 0)),.d (.val (.int .u64 0)),.d (.val (.int .u64 0)),.i 0,.i 0,.d (.val (.slice none 0 0))]);rfl)|(apply r_call (f:=47) (bs:=[.agg [.i k,.d (.val (.int .u64 a)),.d (.val (.int .u64 b)),.d (.val (.int .u64 c)),.d (.val (.int .u64 d)),.i mn,.i mx,.d (.sl (encL subs) subs.length)],.agg [.i 2,.d (.val (.int .u64 0)),.d (.val (.int .u64 0)),.d (.val (.int .u64 0)),.d (.val (.int .u64 0)),.i 0,.i 0,.d (.sl [] 0)]]) (us:=[]);rfl;rfl;exact g5;rfl)|(apply r_eql;rfl;rfl;(first|(apply dT;omega)|(apply dF;omega)|rfl))|(apply r_leq;rfl;rfl;(first|(apply dT;omega)|(apply dF;omega)|rfl))|(apply r_pickF;rfl)|(apply r_lenT;rfl)|(apply r_gT;rfl)|(apply r_nilK)|(apply k_V;rfl)|(apply k_PL;rfl)|(apply k_nil)|(apply e_ret;rfl)|(apply w_seq)|(apply w_ops;((conv=>lhs;simp only [Nat.reduceAdd])<;>rfl))|(apply w_condT;rfl)|(apply w_condF;rfl)|(apply e_thenN)|(apply w_block)|(apply e_thenR)|(apply e_blkR)|(apply w_ret)|(apply w_skip))
      exact .data _ rfl
    | false =>
      obtain ⟨f4,f5⟩:=f3 hlt rfl
      clear f1 f2 f3 done fin
      by_cases he : 4000 < ct
      · rw [decide_eq_true he] at g2
        have:=f4 he
        subst this
        repeat' (first|(apply r_mvV;rfl)|(apply r_ldL (v:=.agg [.i k,.d (.val (.int .u64 a)),.d (.val (.int .u64 b)),.d (.val (.int .u64 c)),.d (.val (.int .u64 d)),.i mn,.i mx,.d (.sl (encL subs) subs.length)]);rfl;rfl;rfl)|(apply r_callA (f:=72);rfl;rfl;exact g1)|(apply r_p (v:=.agg [.i 2,.d (.val (.int .u64 0)),.d (.val (.int .u64 0)),.d (.val (.int .u64 0)),.d (.val (.int .u64 0)),.i 0,.i 0,.d (.val (.slice none 0 0))]);rfl)|(apply r_call (f:=47) (bs:=[.agg [.i k,.d (.val (.int .u64 a)),.d (.val (.int .u64 b)),.d (.val (.int .u64 c)),.d (.val (.int .u64 d)),.i mn,.i mx,.d (.sl (encL subs) subs.length)],.agg [.i 2,.d (.val (.int .u64 0)),.d (.val (.int .u64 0)),.d (.val (.int .u64 0)),.d (.val (.int .u64 0)),.i 0,.i 0,.d (.sl [] 0)]]) (us:=[]);rfl;rfl;exact g5;rfl)|(apply r_idxT;rfl;rfl;omega)|(apply r_cv64;rfl;exact hbyte)|(apply r_callA (f:=80);rfl;rfl;exact g)|(apply r_callA (f:=129);rfl;rfl;exact g2)|(apply r_ldL (v:=.agg [.i k3,.d (.val (.int .u64 a3)),.d (.val (.int .u64 b3)),.d (.val (.int .u64 c3)),.d (.val (.int .u64 d3)),.i mn3,.i mx3,.d (.sl (encL subs3) subs3.length)]);rfl;rfl;rfl)|(apply r_eql;rfl;rfl;(first|(apply dT;omega)|(apply dF;omega)|rfl))|(apply r_leq;rfl;rfl;(first|(apply dT;omega)|(apply dF;omega)|rfl))|(apply r_pickF;rfl)|(apply r_lenT;rfl)|(apply r_gT;rfl)|(apply r_stL;rfl;rfl;rfl;rfl;(first|rfl|(simp only [z_nil,z_add]<;>rfl));rfl;rfl)|(apply r_nilK)|(apply k_V;rfl)|(apply k_PL;rfl)|(apply k_nil)|(apply e_ret;rfl)|(apply w_seq)|(apply w_ops;((conv=>lhs;simp only [Nat.reduceAdd])<;>rfl))|(apply w_condT;rfl)|(apply w_condF;rfl)|(apply e_thenN)|(apply w_block)|(apply e_thenR)|(apply e_blkR)|(apply w_ret)|(apply w_skip))
        exact .data _ rfl
      · rw [decide_eq_false he] at g2
        repeat' (first|(apply r_mvV;rfl)|(apply r_ldL (v:=.agg [.i k,.d (.val (.int .u64 a)),.d (.val (.int .u64 b)),.d (.val (.int .u64 c)),.d (.val (.int .u64 d)),.i mn,.i mx,.d (.sl (encL subs) subs.length)]);rfl;rfl;rfl)|(apply r_callA (f:=72);rfl;rfl;exact g1)|(apply r_p (v:=.agg [.i 2,.d (.val (.int .u64 0)),.d (.val (.int .u64 0)),.d (.val (.int .u64 0)),.d (.val (.int .u64 0)),.i 0,.i 0,.d (.val (.slice none 0 0))]);rfl)|(apply r_call (f:=47) (bs:=[.agg [.i k,.d (.val (.int .u64 a)),.d (.val (.int .u64 b)),.d (.val (.int .u64 c)),.d (.val (.int .u64 d)),.i mn,.i mx,.d (.sl (encL subs) subs.length)],.agg [.i 2,.d (.val (.int .u64 0)),.d (.val (.int .u64 0)),.d (.val (.int .u64 0)),.d (.val (.int .u64 0)),.i 0,.i 0,.d (.sl [] 0)]]) (us:=[]);rfl;rfl;exact g5;rfl)|(apply r_idxT;rfl;rfl;omega)|(apply r_cv64;rfl;exact hbyte)|(apply r_callA (f:=80);rfl;rfl;exact g)|(apply r_callA (f:=129);rfl;rfl;exact g2)|(apply r_ldL (v:=.agg [.i k3,.d (.val (.int .u64 a3)),.d (.val (.int .u64 b3)),.d (.val (.int .u64 c3)),.d (.val (.int .u64 d3)),.i mn3,.i mx3,.d (.sl (encL subs3) subs3.length)]);rfl;rfl;rfl)|(apply r_eql;rfl;rfl;(first|(apply dT;omega)|(apply dF;omega)|rfl))|(apply r_leq;rfl;rfl;(first|(apply dT;omega)|(apply dF;omega)|rfl))|(apply r_add;rfl;rfl;rfl;omega)|(apply r_pickF;rfl)|(apply r_lenT;rfl)|(apply r_gT;rfl)|(apply r_stL;rfl;rfl;rfl;rfl;(first|rfl|(simp only [z_nil,z_add]<;>rfl));rfl;rfl)|(apply r_nilK)|(apply k_V;rfl)|(apply k_PL;rfl)|(apply k_nil)|(apply w_seq)|(apply w_ops;((conv=>lhs;simp only [Nat.reduceAdd])<;>rfl))|(apply w_condT;rfl)|(apply w_condF;rfl)|(apply e_thenN)|(apply w_block)|(apply e_blkN)|(apply w_skip))
        apply e_thenK
        apply hK'
        · exact f5 he
        · dsimp only;omega
        · dsimp only
          refine wkM [] [] rfl ?_ ?_ rfl ?_
          · intro p hp
            simp only [List.mem_cons,List.not_mem_nil,or_false] at hp
            rcases hp with rfl
            exact ⟨by omega,.inr ⟨rfl,_,rfl,.data rfl⟩⟩
          · intro q hq;simp only [List.mem_cons,List.not_mem_nil,or_false] at hq;rcases hq with rfl<;>rfl
          · repeat' (first|exact FWk.nil|(apply FWk.i;rfl;(first|rfl|omega|(simp;done)))|(apply FWk.ptr;rfl;rfl;rfl;omega;rfl)|(apply FWk.d;rfl;rfl))
  | true =>
    obtain ⟨f1,f2,f3⟩:=fin (i : Int) (by simp)
    have done:=done (i : Int)
    have hK':=hK' (i : Int)
    by_cases hsz : i=s.size
    · obtain ⟨d1,d2⟩:=done (f1 hsz)
      rw [d1,d2]
      repeat' (first|(apply r_mvV;rfl)|(apply r_ldL (v:=.agg [.i k,.d (.val (.int .u64 a)),.d (.val (.int .u64 b)),.d (.val (.int .u64 c)),.d (.val (.int .u64 d)),.i mn,.i mx,.d (.sl (encL subs) subs.length)]);rfl;rfl;rfl)|(apply r_callA (f:=72);rfl;rfl;exact g1)|(apply r_eql;rfl;rfl;(first|(apply dT;omega)|(apply dF;omega)|rfl))|(apply r_leq;rfl;rfl;(first|(apply dT;omega)|(apply dF;omega)|rfl))|(apply r_pickT;rfl)|(apply r_lenT;rfl)|(apply r_gF';rfl;rfl)|(apply r_nilK)|(apply k_V;rfl)|(apply k_PL;rfl)|(apply k_nil)|(apply e_ret;rfl)|(apply w_seq)|(apply w_ops;((conv=>lhs;simp only [Nat.reduceAdd])<;>rfl))|(apply w_condT;rfl)|(apply e_thenN)|(apply w_block)|(apply e_thenR)|(apply e_blkR)|(apply w_ret)|(apply w_skip))
      exact .data _ rfl
    have hlt : i < s.size:=by omega
    cases no with
    | true =>
      obtain ⟨d1,d2⟩:=done (f2 hlt rfl)
      rw [d1,d2]
      repeat' (first|(apply r_mvV;rfl)|(apply r_ldL (v:=.agg [.i k,.d (.val (.int .u64 a)),.d (.val (.int .u64 b)),.d (.val (.int .u64 c)),.d (.val (.int .u64 d)),.i mn,.i mx,.d (.sl (encL subs) subs.length)]);rfl;rfl;rfl)|(apply r_callA (f:=72);rfl;rfl;exact g1)|(apply r_p (v:=.agg [.i 2,.d (.val (.int .u64 0)),.d (.val (.int .u64 0)),.d (.val (.int .u64 0)),.d (.val (.int .u64 0)),.i 0,.i 0,.d (.val (.slice none 0 0))]);rfl)|(apply r_call (f:=47) (bs:=[.agg [.i k,.d (.val (.int .u64 a)),.d (.val (.int .u64 b)),.d (.val (.int .u64 c)),.d (.val (.int .u64 d)),.i mn,.i mx,.d (.sl (encL subs) subs.length)],.agg [.i 2,.d (.val (.int .u64 0)),.d (.val (.int .u64 0)),.d (.val (.int .u64 0)),.d (.val (.int .u64 0)),.i 0,.i 0,.d (.sl [] 0)]]) (us:=[]);rfl;rfl;exact g5;rfl)|(apply r_eql;rfl;rfl;(first|(apply dT;omega)|(apply dF;omega)|rfl))|(apply r_leq;rfl;rfl;(first|(apply dT;omega)|(apply dF;omega)|rfl))|(apply r_pickF;rfl)|(apply r_lenT;rfl)|(apply r_gT;rfl)|(apply r_nilK)|(apply k_V;rfl)|(apply k_PL;rfl)|(apply k_nil)|(apply e_ret;rfl)|(apply w_seq)|(apply w_ops;((conv=>lhs;simp only [Nat.reduceAdd])<;>rfl))|(apply w_condT;rfl)|(apply e_thenN)|(apply w_block)|(apply e_thenR)|(apply e_blkR)|(apply w_ret)|(apply w_skip))
      exact .data _ rfl
    | false =>
      obtain ⟨f4,f5⟩:=f3 hlt rfl
      clear f1 f2 f3 done fin
      by_cases he : 4000 < ct
      · rw [decide_eq_true he] at g2
        have:=f4 he
        subst this
        repeat' (first|(apply r_mvV;rfl)|(apply r_ldL (v:=.agg [.i k,.d (.val (.int .u64 a)),.d (.val (.int .u64 b)),.d (.val (.int .u64 c)),.d (.val (.int .u64 d)),.i mn,.i mx,.d (.sl (encL subs) subs.length)]);rfl;rfl;rfl)|(apply r_callA (f:=72);rfl;rfl;exact g1)|(apply r_p (v:=.agg [.i 2,.d (.val (.int .u64 0)),.d (.val (.int .u64 0)),.d (.val (.int .u64 0)),.d (.val (.int .u64 0)),.i 0,.i 0,.d (.val (.slice none 0 0))]);rfl)|(apply r_call (f:=47) (bs:=[.agg [.i k,.d (.val (.int .u64 a)),.d (.val (.int .u64 b)),.d (.val (.int .u64 c)),.d (.val (.int .u64 d)),.i mn,.i mx,.d (.sl (encL subs) subs.length)],.agg [.i 2,.d (.val (.int .u64 0)),.d (.val (.int .u64 0)),.d (.val (.int .u64 0)),.d (.val (.int .u64 0)),.i 0,.i 0,.d (.sl [] 0)]]) (us:=[]);rfl;rfl;exact g5;rfl)|(apply r_idxT;rfl;rfl;omega)|(apply r_cv64;rfl;exact hbyte)|(apply r_callA (f:=80);rfl;rfl;exact g)|(apply r_callA (f:=129);rfl;rfl;exact g2)|(apply r_ldL (v:=.agg [.i k3,.d (.val (.int .u64 a3)),.d (.val (.int .u64 b3)),.d (.val (.int .u64 c3)),.d (.val (.int .u64 d3)),.i mn3,.i mx3,.d (.sl (encL subs3) subs3.length)]);rfl;rfl;rfl)|(apply r_eql;rfl;rfl;(first|(apply dT;omega)|(apply dF;omega)|rfl))|(apply r_leq;rfl;rfl;(first|(apply dT;omega)|(apply dF;omega)|rfl))|(apply r_pickF;rfl)|(apply r_lenT;rfl)|(apply r_gT;rfl)|(apply r_stL;rfl;rfl;rfl;rfl;(first|rfl|(simp only [z_nil,z_add]<;>rfl));rfl;rfl)|(apply r_nilK)|(apply k_V;rfl)|(apply k_PL;rfl)|(apply k_nil)|(apply e_ret;rfl)|(apply w_seq)|(apply w_ops;((conv=>lhs;simp only [Nat.reduceAdd])<;>rfl))|(apply w_condT;rfl)|(apply w_condF;rfl)|(apply e_thenN)|(apply w_block)|(apply e_thenR)|(apply e_blkR)|(apply w_ret)|(apply w_skip))
        exact .data _ rfl
      · rw [decide_eq_false he] at g2
        repeat' (first|(apply r_mvV;rfl)|(apply r_ldL (v:=.agg [.i k,.d (.val (.int .u64 a)),.d (.val (.int .u64 b)),.d (.val (.int .u64 c)),.d (.val (.int .u64 d)),.i mn,.i mx,.d (.sl (encL subs) subs.length)]);rfl;rfl;rfl)|(apply r_callA (f:=72);rfl;rfl;exact g1)|(apply r_p (v:=.agg [.i 2,.d (.val (.int .u64 0)),.d (.val (.int .u64 0)),.d (.val (.int .u64 0)),.d (.val (.int .u64 0)),.i 0,.i 0,.d (.val (.slice none 0 0))]);rfl)|(apply r_call (f:=47) (bs:=[.agg [.i k,.d (.val (.int .u64 a)),.d (.val (.int .u64 b)),.d (.val (.int .u64 c)),.d (.val (.int .u64 d)),.i mn,.i mx,.d (.sl (encL subs) subs.length)],.agg [.i 2,.d (.val (.int .u64 0)),.d (.val (.int .u64 0)),.d (.val (.int .u64 0)),.d (.val (.int .u64 0)),.i 0,.i 0,.d (.sl [] 0)]]) (us:=[]);rfl;rfl;exact g5;rfl)|(apply r_idxT;rfl;rfl;omega)|(apply r_cv64;rfl;exact hbyte)|(apply r_callA (f:=80);rfl;rfl;exact g)|(apply r_callA (f:=129);rfl;rfl;exact g2)|(apply r_ldL (v:=.agg [.i k3,.d (.val (.int .u64 a3)),.d (.val (.int .u64 b3)),.d (.val (.int .u64 c3)),.d (.val (.int .u64 d3)),.i mn3,.i mx3,.d (.sl (encL subs3) subs3.length)]);rfl;rfl;rfl)|(apply r_eql;rfl;rfl;(first|(apply dT;omega)|(apply dF;omega)|rfl))|(apply r_leq;rfl;rfl;(first|(apply dT;omega)|(apply dF;omega)|rfl))|(apply r_add;rfl;rfl;rfl;omega)|(apply r_pickF;rfl)|(apply r_lenT;rfl)|(apply r_gT;rfl)|(apply r_stL;rfl;rfl;rfl;rfl;(first|rfl|(simp only [z_nil,z_add]<;>rfl));rfl;rfl)|(apply r_nilK)|(apply k_V;rfl)|(apply k_PL;rfl)|(apply k_nil)|(apply w_seq)|(apply w_ops;((conv=>lhs;simp only [Nat.reduceAdd])<;>rfl))|(apply w_condT;rfl)|(apply w_condF;rfl)|(apply e_thenN)|(apply w_block)|(apply e_blkN)|(apply w_skip))
        apply e_thenK
        apply hK'
        · exact f5 he
        · dsimp only;omega
        · dsimp only
          refine wkM [] [] rfl ?_ ?_ rfl ?_
          · intro p hp
            simp only [List.mem_cons,List.not_mem_nil,or_false] at hp
            rcases hp with rfl
            exact ⟨by omega,.inr ⟨rfl,_,rfl,.data rfl⟩⟩
          · intro q hq;simp only [List.mem_cons,List.not_mem_nil,or_false] at hq;rcases hq with rfl<;>rfl
          · repeat' (first|exact FWk.nil|(apply FWk.i;rfl;(first|rfl|omega|(simp;done)))|(apply FWk.ptr;rfl;rfl;rfl;omega;rfl)|(apply FWk.d;rfl;rfl))

def few12 (s : ByteArray) (t : T) : Bool:=decide (sizeT t 601≤200) && (decide (s.size≤16) && (!rightT t || decide (t.cnt≤60)))
theorem few76_good (s : ByteArray) (hs : s.size≤9223372036854775807) (t : T) : Good Try.prog 76 [nodeA t,.d (.val (.string s))] none (.b (few12 s t)) none none:=by
  have h45:=few_good t
  by_cases hf : sizeT t 601≤200
  case neg =>
    have ev : few12 s t=false:=by simp [few12,hf]
    rw [ev]
    rw [show decide (sizeT t 601≤200)=false by simp [hf]] at h45
    clear ev hf
    obtain ⟨k,a,b,c,d,mn,mx,subs⟩:=t
    have e0 : nodeA (T.node k a b c d mn mx subs)=.agg [.i k,.d (.val (.int .u64 a)),.d (.val (.int .u64 b)),.d (.val (.int .u64 c)),.d (.val (.int .u64 d)),.i mn,.i mx,.d (.sl (encL subs) subs.length)]:=rfl
    rw [e0] at h45 ⊢
    refine b76 (by simp) (by simp) (w_init ?_)
    unfold x76
    repeat' (first|(apply r_mvV;rfl)|(apply r_callA;rfl;rfl;exact h45)|(apply r_ldL;rfl;rfl;rfl)|(apply r_pickF;rfl)|(apply r_gF';rfl;rfl)|(apply r_gN';rfl)|(apply r_box;((conv=>lhs;simp only [Nat.reduceAdd])<;>rfl);rfl;rfl;rfl)|(apply r_nilK)|(apply k_V;rfl)|(apply k_PL;rfl)|(apply k_nil)|(apply e_ret (vs:=[.d (.val _)]);rfl)|(apply w_seq)|(apply w_ops;((conv=>lhs;simp only [Nat.reduceAdd])<;>rfl))|(apply e_thenN)|(apply w_ret))
    exact retB rfl
  have hc:=few_cnt hf
  have h32:=right8_good t (by omega)
  have h48:=size48_good 1000000 t (by omega) (by omega)
  rw [show decide (sizeT t 601≤200)=true by simp [hf]] at h45
  by_cases h40 : s.size≤16
  case neg =>
    have ev : few12 s t=false:=by simp [few12,h40]
    rw [ev]
    clear ev hf hc h32 h48
    obtain ⟨k,a,b,c,d,mn,mx,subs⟩:=t
    have e0 : nodeA (T.node k a b c d mn mx subs)=.agg [.i k,.d (.val (.int .u64 a)),.d (.val (.int .u64 b)),.d (.val (.int .u64 c)),.d (.val (.int .u64 d)),.i mn,.i mx,.d (.sl (encL subs) subs.length)]:=rfl
    rw [e0] at h45 ⊢
    refine b76 (by simp) (by simp) (w_init ?_)
    unfold x76
    repeat' (first|(apply r_mvV;rfl)|(apply r_callA;rfl;rfl;exact h45)|(apply r_ldL;rfl;rfl;rfl)|(apply r_leq;rfl;rfl;(first|(apply dT;omega)|(apply dF;omega)|rfl))|(apply r_pickT;rfl)|(apply r_pickF;rfl)|(apply r_lenT;rfl)|(apply r_gT;rfl)|(apply r_gF';rfl;rfl)|(apply r_gN';rfl)|(apply r_box;((conv=>lhs;simp only [Nat.reduceAdd])<;>rfl);rfl;rfl;rfl)|(apply r_nilK)|(apply k_V;rfl)|(apply k_PL;rfl)|(apply k_nil)|(apply e_ret (vs:=[.d (.val _)]);rfl)|(apply w_seq)|(apply w_ops;((conv=>lhs;simp only [Nat.reduceAdd])<;>rfl))|(apply e_thenN)|(apply w_ret))
    exact retB rfl
  by_cases hr : rightT t=true
  case neg =>
    have hr : rightT t=false:=by simpa using hr
    have ev : few12 s t=true:=by simp [few12,hf,h40,hr]
    rw [ev]
    rw [hr] at h32
    clear ev hf hc h48 hr
    obtain ⟨k,a,b,c,d,mn,mx,subs⟩:=t
    have e0 : nodeA (T.node k a b c d mn mx subs)=.agg [.i k,.d (.val (.int .u64 a)),.d (.val (.int .u64 b)),.d (.val (.int .u64 c)),.d (.val (.int .u64 d)),.i mn,.i mx,.d (.sl (encL subs) subs.length)]:=rfl
    rw [e0] at h45 h32 ⊢
    refine b76 (by simp) (by simp) (w_init ?_)
    unfold x76
    repeat' (first|(apply r_mvV;rfl)|(apply r_callA (f:=45);rfl;rfl;exact h45)|(apply r_callA (f:=32);rfl;rfl;exact h32)|(apply r_ldL;rfl;rfl;rfl)|(apply r_leq;rfl;rfl;(first|(apply dT;omega)|(apply dF;omega)|rfl))|(apply r_not;rfl;rfl)|(apply r_pickT;rfl)|(apply r_lenT;rfl)|(apply r_gT;rfl)|(apply r_gF';rfl;rfl)|(apply r_box;((conv=>lhs;simp only [Nat.reduceAdd])<;>rfl);rfl;rfl;rfl)|(apply r_nilK)|(apply k_V;rfl)|(apply k_PL;rfl)|(apply k_nil)|(apply e_ret (vs:=[.d (.val _)]);rfl)|(apply w_seq)|(apply w_ops;((conv=>lhs;simp only [Nat.reduceAdd])<;>rfl))|(apply e_thenN)|(apply w_ret))
    exact retB rfl
  have ev : few12 s t=decide (t.cnt≤60):=by simp [few12,hf,h40,hr]
  rw [ev]
  rw [hr] at h32
  clear ev hf hr
  generalize t.cnt=ct at h48 hc ⊢
  obtain ⟨k,a,b,c,d,mn,mx,subs⟩:=t
  have e0 : nodeA (T.node k a b c d mn mx subs)=.agg [.i k,.d (.val (.int .u64 a)),.d (.val (.int .u64 b)),.d (.val (.int .u64 c)),.d (.val (.int .u64 d)),.i mn,.i mx,.d (.sl (encL subs) subs.length)]:=rfl
  rw [e0] at h45 h32 h48 ⊢
  by_cases hv : ct≤60
  · refine b76 (by simp) (by simp) (w_init ?_)
    unfold x76
    repeat' (first|(apply r_mvV;rfl)|(apply r_callA (f:=45);rfl;rfl;exact h45)|(apply r_callA (f:=32);rfl;rfl;exact h32)|(apply r_callA (f:=48);rfl;rfl;exact h48)|(apply r_ldL;rfl;rfl;rfl)|(apply r_leq;rfl;rfl;(first|(apply dT;omega)|(apply dF;omega)|rfl))|(apply r_not;rfl;rfl)|(apply r_pickT;rfl)|(apply r_pickF;rfl)|(apply r_lenT;rfl)|(apply r_gT;rfl)|(apply r_box;((conv=>lhs;simp only [Nat.reduceAdd])<;>rfl);rfl;rfl;rfl)|(apply r_nilK)|(apply k_V;rfl)|(apply k_PL;rfl)|(apply k_nil)|(apply e_ret (vs:=[.d (.val _)]);rfl)|(apply w_seq)|(apply w_ops;((conv=>lhs;simp only [Nat.reduceAdd])<;>rfl))|(apply e_thenN)|(apply w_ret))
    exact retB (by simp [hv])
  · refine b76 (by simp) (by simp) (w_init ?_)
    unfold x76
    repeat' (first|(apply r_mvV;rfl)|(apply r_callA (f:=45);rfl;rfl;exact h45)|(apply r_callA (f:=32);rfl;rfl;exact h32)|(apply r_callA (f:=48);rfl;rfl;exact h48)|(apply r_ldL;rfl;rfl;rfl)|(apply r_leq;rfl;rfl;(first|(apply dT;omega)|(apply dF;omega)|rfl))|(apply r_not;rfl;rfl)|(apply r_pickT;rfl)|(apply r_pickF;rfl)|(apply r_lenT;rfl)|(apply r_gT;rfl)|(apply r_box;((conv=>lhs;simp only [Nat.reduceAdd])<;>rfl);rfl;rfl;rfl)|(apply r_nilK)|(apply k_V;rfl)|(apply k_PL;rfl)|(apply k_nil)|(apply e_ret (vs:=[.d (.val _)]);rfl)|(apply w_seq)|(apply w_ops;((conv=>lhs;simp only [Nat.reduceAdd])<;>rfl))|(apply e_thenN)|(apply w_ret))
    exact retB (by simp [hv])
end Go.Sv
namespace Go.Sv
open Go Go.Proofs
theorem few12_of {s : ByteArray} {t : T} (h : few12 s t=true) : t.cnt≤200∧s.size≤16:=by
  simp only [few12,Bool.and_eq_true,decide_eq_true_eq] at h
  exact ⟨few_cnt h.1,h.2.1⟩
set_option maxRecDepth 100000
set_option maxHeartbeats 4000000
attribute [local irreducible] W E R KP thenK blockK retK Good xwp aRun
end Go.Sv
namespace Go.Sv
open Go Go.Proofs
def x25 : XC:=(.seq (.ops 2 [ (0,⟨some 3,none,.box (.t 0)⟩),(1,⟨some 6,none,.mv (.k (.d (.val (.bool false))))⟩)] (some [1,2,3])) (.seq (.seq (.ops 8 [ (0,⟨some 11,none,.call 75 [] none false⟩),(1,⟨some 12,none,.un .not (.t 11)⟩),(2,⟨some 13,none,.mv (.t 12)⟩),(3,⟨some 14,(some (13,false)),.load (some 8) (.t 3)⟩),(4,⟨some 15,(some (13,false)),.mv (.t 1)⟩),(5,⟨some 16,(some (13,false)),.call 76 [(.t 14),(.t 15)] none false⟩),(6,⟨some 17,(some (13,false)),.un .not (.t 16)⟩),(7,⟨some 18,none,.pick (.t 13) (.k (.d (.val (.bool true)))) (.t 17)⟩)] (some [1,2,3,18])) (.cond (.t 18) (.seq (.ops 2 [ (0,⟨some 19,none,.call 75 [] none false⟩),(1,⟨some 6,none,.mv (.t 19)⟩)] (some [6])) .ret) .skip)) (.seq (.ops 9 [ (0,⟨some 21,none,.load (some 8) (.t 3)⟩),(1,⟨some 22,none,.mv (.t 1)⟩),(2,⟨some 23,none,.mv (.t 2)⟩),(3,⟨some 24,none,.call 81 [(.t 21),(.t 22),(.t 23)] none false⟩),(4,⟨some 20,none,.mv (.t 24)⟩),(5,⟨some 25,none,.ext (.t 20) 0⟩),(6,⟨some 26,none,.ext (.t 20) 1⟩),(7,⟨some 7,none,.mv (.t 25)⟩),(8,⟨some 8,none,.mv (.t 26)⟩)] (some [1,2,3,7,8])) (.seq (.block 0 (.seq (.ops 4 [ (0,⟨some 28,none,.load (some 8) (.t 3)⟩),(1,⟨some 29,none,.call 32 [(.t 28)] none false⟩),(2,⟨some 30,none,.un .not (.t 29)⟩),(3,⟨some 27,none,.mv (.t 30)⟩)] (some [1,2,3,7,8,27])) (.cond (.t 27) (.seq (.ops 7 [ (0,⟨some 31,none,.mv (.t 7)⟩),(1,⟨some 32,none,.arith .eql (.t 31) (.k (.d (.val (.int .i64 0))))⟩),(2,⟨some 33,none,.mv (.t 32)⟩),(3,⟨some 34,(some (33,true)),.mv (.t 8)⟩),(4,⟨some 35,(some (33,true)),.arith .eql (.t 34) (.k (.d (.val (.int .i64 1))))⟩),(5,⟨some 36,none,.pick (.t 33) (.t 35) (.k (.d (.val (.bool false))))⟩),(6,⟨some 6,none,.mv (.t 36)⟩)] (some [6])) .ret) (.seq (.ops 9 [ (0,⟨some 38,none,.mv (.t 2)⟩),(1,⟨some 39,none,.arith .lss (.t 38) (.k (.d (.val (.int .i64 0))))⟩),(2,⟨some 40,none,.mv (.t 39)⟩),(3,⟨some 41,(some (40,false)),.mv (.t 2)⟩),(4,⟨some 42,(some (40,false)),.mv (.t 1)⟩),(5,⟨some 43,(some (40,false)),.lenT (.t 42)⟩),(6,⟨some 44,(some (40,false)),.arith .gtr (.t 41) (.t 43)⟩),(7,⟨some 45,none,.pick (.t 40) (.k (.d (.val (.bool true)))) (.t 44)⟩),(8,⟨some 37,none,.mv (.t 45)⟩)] (some [1,2,3,7,8,37])) (.cond (.t 37) (.seq (.ops 7 [ (0,⟨some 46,none,.mv (.t 7)⟩),(1,⟨some 47,none,.arith .eql (.t 46) (.k (.d (.val (.int .i64 0))))⟩),(2,⟨some 48,none,.mv (.t 47)⟩),(3,⟨some 49,(some (48,true)),.mv (.t 8)⟩),(4,⟨some 50,(some (48,true)),.arith .eql (.t 49) (.k (.d (.val (.int .i64 2))))⟩),(5,⟨some 51,none,.pick (.t 48) (.t 50) (.k (.d (.val (.bool false))))⟩),(6,⟨some 6,none,.mv (.t 51)⟩)] (some [6])) .ret) .skip))))) (.seq (.ops 9 [ (0,⟨some 53,none,.load (some 8) (.t 3)⟩),(1,⟨some 54,none,.mv (.t 1)⟩),(2,⟨some 55,none,.mv (.t 2)⟩),(3,⟨some 56,none,.call 82 [(.t 53),(.t 54),(.t 55)] none false⟩),(4,⟨some 52,none,.mv (.t 56)⟩),(5,⟨some 57,none,.ext (.t 52) 0⟩),(6,⟨some 58,none,.ext (.t 52) 1⟩),(7,⟨some 9,none,.mv (.t 57)⟩),(8,⟨some 10,none,.mv (.t 58)⟩)] (some [1,2,3,7,8,9,10])) (.seq (.seq (.ops 2 [ (0,⟨some 59,none,.mv (.t 10)⟩),(1,⟨some 60,none,.un .not (.t 59)⟩)] (some [1,2,3,7,8,9,60])) (.cond (.t 60) (.seq (.ops 7 [ (0,⟨some 61,none,.mv (.t 7)⟩),(1,⟨some 62,none,.arith .eql (.t 61) (.k (.d (.val (.int .i64 0))))⟩),(2,⟨some 63,none,.mv (.t 62)⟩),(3,⟨some 64,(some (63,true)),.mv (.t 8)⟩),(4,⟨some 65,(some (63,true)),.arith .eql (.t 64) (.k (.d (.val (.int .i64 11))))⟩),(5,⟨some 66,none,.pick (.t 63) (.t 65) (.k (.d (.val (.bool false))))⟩),(6,⟨some 6,none,.mv (.t 66)⟩)] (some [6])) .ret) .skip)) (.seq (.ops 16 [ (0,⟨some 67,none,.mv (.t 8)⟩),(1,⟨some 68,none,.arith .eql (.t 67) (.k (.d (.val (.int .i64 0))))⟩),(2,⟨some 69,none,.mv (.t 68)⟩),(3,⟨some 70,(some (69,true)),.mv (.t 7)⟩),(4,⟨some 71,(some (69,true)),.mv (.t 9)⟩),(5,⟨some 72,(some (69,true)),.arith .eql (.t 70) (.t 71)⟩),(6,⟨some 73,none,.pick (.t 69) (.t 72) (.k (.d (.val (.bool false))))⟩),(7,⟨some 74,none,.mv (.t 73)⟩),(8,⟨some 75,(some (74,true)),.mv (.t 7)⟩),(9,⟨some 76,(some (74,true)),.load (some 8) (.t 3)⟩),(10,⟨some 77,(some (74,true)),.mv (.t 1)⟩),(11,⟨some 78,(some (74,true)),.mv (.t 2)⟩),(12,⟨some 79,(some (74,true)),.call 37 [(.t 76),(.t 77),(.t 78)] none false⟩),(13,⟨some 80,(some (74,true)),.arith .eql (.t 75) (.t 79)⟩),(14,⟨some 81,none,.pick (.t 74) (.t 80) (.k (.d (.val (.bool false))))⟩),(15,⟨some 6,none,.mv (.t 81)⟩)] (some [6])) .ret)))))))
def md25 : FuncId→Option Nat × Bool
  | _=>(none,false)
def od25 : Nat→List (List Nat) × List Nat × Option (List Nat)
  | 0=>([],[],some [1,2,3])
  | 1=>([],[],some [1,2,3,18])
  | 2=>([],[],some [6])
  | 3=>([],[],some [1,2,3,7,8])
  | 4=>([],[],some [1,2,3,7,8,27])
  | 5=>([],[],some [6])
  | 6=>([],[],some [1,2,3,7,8,37])
  | 7=>([],[],some [6])
  | 8=>([],[],some [1,2,3,7,8,9,10])
  | 9=>([],[],some [1,2,3,7,8,9,60])
  | 10=>([],[],some [6])
  | 11=>([],[],some [6])
  | _=>([],[],none)
theorem b25 {ags : List AV} {row : Option (List DV)} {r : AV} {row' nw : Option (List DV)} (hal : ags.length≤82) (hrow : row'.isSome=true→row.isSome=true) (h : xwp Try.prog x25 (retK [.tmp 6] row.isSome r row' nw) (St.init ags row)) : Good Try.prog 25 ags row r row' nw :=
  good_of_body' (md:=md25) (od:=od25) Try.f25 (by kernel_rfl) (by kernel_rfl) (by kernel_rfl) (by kernel_rfl) (by kernel_rfl) hal hrow h

set_option maxRecDepth 100000
set_option maxHeartbeats 4000000
attribute [local irreducible] W E R KP thenK blockK retK Good xwp aRun
theorem at_refG (s : ByteArray) (t : T) (hok : okT t) (j : Nat) (hj : j≤s.size) (k : Nat) : At (refG s t ((List.replicate (s.size + 1) false).set j true)) k↔j≤k∧k≤s.size∧L t (word s j k):=by
  have hl : ((List.replicate (s.size + 1) false).set j true).length=s.size + 1:=by simp
  rw [(refG_goes s t hok _ hl).2 k]
  constructor
  · rintro ⟨i,h1,h2,h3,h4⟩
    rw [at_set i (by simp;omega)] at h2
    rcases h2 with ⟨rfl,_⟩ | ⟨_,h⟩
    · exact ⟨h1,h3,h4⟩
    · exact absurd h (at_rep _ _)
  · rintro ⟨h1,h2,h3⟩
    exact ⟨j,h1,(at_set j (by simp;omega)).2 (.inl ⟨rfl,rfl⟩),h2,h3⟩
theorem lng_ref' {s : ByteArray} {t : T} (ho : okT t) (hd : DOK (simT t)) {j : Nat} (hj : j≤s.size) {r : Int} (h : lngD s (s.size - j) j (simT t) (-1)=some r) : r=lastG (rallG s t j):=by
  have h1:=lngD_max s _ _ _ _ _ hd (by omega) h
  have h2:=last_idx (refG s t ((List.replicate (s.size + 1) false).set j true)) s.size
  refine Mx.uniq h1 ?_
  unfold rallG
  rcases h2 with ⟨k,g1,g2,g3,g4,g5⟩ | ⟨g1,g2⟩
  · have g3':=(at_refG s t ho j hj k).1 g3
    refine .inl ⟨k,g3'.1,g2,(simT_L t ho _).2 g3'.2.2,g4,fun q hq hs hL=>?_⟩
    exact g5 q hq hs ((at_refG s t ho j hj q).2 ⟨by omega,hs,(simT_L t ho _).1 hL⟩)
  · refine .inr ⟨g1,fun q hq hs hL=>?_⟩
    exact g2 q (Nat.zero_le _) hs ((at_refG s t ho j hj q).2 ⟨hq,hs,(simT_L t ho _).1 hL⟩)
theorem law25 (t : T) (s : ByteArray) (n : Int) (ht : inT t) (hs : s.size≤140737488355328) (hn : inW n) : Good Try.prog 25 [nodeA t,.d (.val (.string s)),.i n] none (.b true) none none:=by
  have haw:=awake75_good
  have h76:=few76_good s (by omega) t
  by_cases hf : few12 s t=true
  case neg =>
    have hf : few12 s t=false:=by simpa using hf
    rw [hf] at h76
    clear ht hs hn hf
    obtain ⟨k,a,b,c,d,mn,mx,subs⟩:=t
    have e0 : nodeA (T.node k a b c d mn mx subs)=.agg [.i k,.d (.val (.int .u64 a)),.d (.val (.int .u64 b)),.d (.val (.int .u64 c)),.d (.val (.int .u64 d)),.i mn,.i mx,.d (.sl (encL subs) subs.length)]:=rfl
    rw [e0] at h76 ⊢
    refine b25 (by simp) (by simp) (w_init ?_)
    unfold x25
    repeat' (first|(apply r_mvV;rfl)|(apply r_ldL (v:=.agg [.i k,.d (.val (.int .u64 a)),.d (.val (.int .u64 b)),.d (.val (.int .u64 c)),.d (.val (.int .u64 d)),.i mn,.i mx,.d (.sl (encL subs) subs.length)]);rfl;rfl;rfl)|(apply r_callA (f:=75) (ags:=[]);rfl;rfl;exact haw)|(apply r_callA (f:=76);rfl;rfl;exact h76)|(apply r_not;rfl;rfl)|(apply r_pickF;rfl)|(apply r_gT;rfl)|(apply r_box;((conv=>lhs;simp only [Nat.reduceAdd])<;>rfl);rfl;rfl;rfl)|(apply r_nilK)|(apply k_V;rfl)|(apply k_PL;rfl)|(apply k_nil)|(apply e_ret (vs:=[.d (.val _)]);rfl)|(apply w_seq)|(apply w_ops;((conv=>lhs;simp only [Nat.reduceAdd])<;>rfl))|(apply w_condT;rfl)|(apply e_thenN)|(apply e_thenR)|(apply w_ret))
    exact retB rfl
  obtain ⟨hc,hsz⟩:=few12_of hf
  rw [hf] at h76
  have hokt : fitsT t 12=true→okT t:=fun h=>ok_of_right ht (by rw [right_fits];exact h)
  have h81:=Longest81_good s (by omega) t (by omega) hokt n hn
  have h32:=right8_good t (by omega)
  by_cases hr : rightT t=true
  case neg =>
    have hr : rightT t=false:=by simpa using hr
    have hfi : fitsT t 12=false:=by rw [← right_fits];exact hr
    rw [hr] at h32
    have e1 : lnE s t n=1:=by simp [lnE,hfi]
    have e2 : lnN s t n=0:=by simp [lnN,hfi]
    rw [e1,e2] at h81
    clear ht hs hn hf hr hfi e1 e2 hokt hc
    obtain ⟨k,a,b,c,d,mn,mx,subs⟩:=t
    have e0 : nodeA (T.node k a b c d mn mx subs)=.agg [.i k,.d (.val (.int .u64 a)),.d (.val (.int .u64 b)),.d (.val (.int .u64 c)),.d (.val (.int .u64 d)),.i mn,.i mx,.d (.sl (encL subs) subs.length)]:=rfl
    rw [e0] at h76 h81 h32 ⊢
    refine b25 (by simp) (by simp) (w_init ?_)
    unfold x25
    repeat' (first|(apply r_mvV;rfl)|(apply r_mvT;rfl)|(apply r_ldL (v:=.agg [.i k,.d (.val (.int .u64 a)),.d (.val (.int .u64 b)),.d (.val (.int .u64 c)),.d (.val (.int .u64 d)),.i mn,.i mx,.d (.sl (encL subs) subs.length)]);rfl;rfl;rfl)|(apply r_callA (f:=75) (ags:=[]);rfl;rfl;exact haw)|(apply r_callA (f:=76);rfl;rfl;exact h76)|(apply r_callA (f:=32) (ags:=[.agg [.i k,.d (.val (.int .u64 a)),.d (.val (.int .u64 b)),.d (.val (.int .u64 c)),.d (.val (.int .u64 d)),.i mn,.i mx,.d (.sl (encL subs) subs.length)]]);rfl;rfl;exact h32)|(apply r_callA (f:=81);rfl;rfl;exact h81)|(apply r_eql;rfl;rfl;(first|(apply dT;omega)|(apply dF;omega)|rfl))|(apply r_not;rfl;rfl)|(apply r_pickT;rfl)|(apply r_pickF;rfl)|(apply r_ext;rfl;rfl)|(apply r_gT;rfl)|(apply r_box;((conv=>lhs;simp only [Nat.reduceAdd])<;>rfl);rfl;rfl;rfl)|(apply r_nilK)|(apply k_V;rfl)|(apply k_PL;rfl)|(apply k_nil)|(apply e_ret (vs:=[.d (.val _)]);rfl)|(apply w_seq)|(apply w_ops;((conv=>lhs;simp only [Nat.reduceAdd])<;>rfl))|(apply w_condT;rfl)|(apply w_condF;rfl)|(apply e_thenN)|(apply w_block)|(apply e_thenR)|(apply e_blkR)|(apply w_ret)|(apply w_skip))
    exact retB rfl
  have hfi : fitsT t 12=true:=by rw [← right_fits];exact hr
  have hok:=hokt hfi
  rw [hr] at h32
  by_cases hrg : n < 0 ∨ (s.size : Int) < n
  · have e1 : lnE s t n=2:=by simp [lnE,hfi,hrg]
    have e2 : lnN s t n=0:=by simp [lnN,hfi,lnR,hrg]
    rw [e1,e2] at h81
    clear ht hs hf hr hfi e1 e2 hokt hc hok
    obtain ⟨k,a,b,c,d,mn,mx,subs⟩:=t
    have e0 : nodeA (T.node k a b c d mn mx subs)=.agg [.i k,.d (.val (.int .u64 a)),.d (.val (.int .u64 b)),.d (.val (.int .u64 c)),.d (.val (.int .u64 d)),.i mn,.i mx,.d (.sl (encL subs) subs.length)]:=rfl
    rw [e0] at h76 h81 h32 ⊢
    by_cases h0 : n < 0
    · refine b25 (by simp) (by simp) (w_init ?_)
      unfold x25
      repeat' (first|(apply r_mvV;rfl)|(apply r_mvT;rfl)|(apply r_ldL (v:=.agg [.i k,.d (.val (.int .u64 a)),.d (.val (.int .u64 b)),.d (.val (.int .u64 c)),.d (.val (.int .u64 d)),.i mn,.i mx,.d (.sl (encL subs) subs.length)]);rfl;rfl;rfl)|(apply r_callA (f:=75) (ags:=[]);rfl;rfl;exact haw)|(apply r_callA (f:=76);rfl;rfl;exact h76)|(apply r_callA (f:=32) (ags:=[.agg [.i k,.d (.val (.int .u64 a)),.d (.val (.int .u64 b)),.d (.val (.int .u64 c)),.d (.val (.int .u64 d)),.i mn,.i mx,.d (.sl (encL subs) subs.length)]]);rfl;rfl;exact h32)|(apply r_callA (f:=81);rfl;rfl;exact h81)|(apply r_eql;rfl;rfl;(first|(apply dT;omega)|(apply dF;omega)|rfl))|(apply r_lss;rfl;rfl;(first|(apply dT;omega)|(apply dF;omega)|rfl))|(apply r_not;rfl;rfl)|(apply r_pickT;rfl)|(apply r_pickF;rfl)|(apply r_ext;rfl;rfl)|(apply r_gT;rfl)|(apply r_gF';rfl;rfl)|(apply r_box;((conv=>lhs;simp only [Nat.reduceAdd])<;>rfl);rfl;rfl;rfl)|(apply r_nilK)|(apply k_V;rfl)|(apply k_PL;rfl)|(apply k_nil)|(apply e_ret (vs:=[.d (.val _)]);rfl)|(apply w_seq)|(apply w_ops;((conv=>lhs;simp only [Nat.reduceAdd])<;>rfl))|(apply w_condT;rfl)|(apply w_condF;rfl)|(apply e_thenN)|(apply w_block)|(apply e_thenR)|(apply e_blkR)|(apply w_ret)|(apply w_skip))
      exact retB rfl
    · have h1 : (s.size : Int) < n:=by omega
      refine b25 (by simp) (by simp) (w_init ?_)
      unfold x25
      repeat' (first|(apply r_mvV;rfl)|(apply r_mvT;rfl)|(apply r_ldL (v:=.agg [.i k,.d (.val (.int .u64 a)),.d (.val (.int .u64 b)),.d (.val (.int .u64 c)),.d (.val (.int .u64 d)),.i mn,.i mx,.d (.sl (encL subs) subs.length)]);rfl;rfl;rfl)|(apply r_callA (f:=75) (ags:=[]);rfl;rfl;exact haw)|(apply r_callA (f:=76);rfl;rfl;exact h76)|(apply r_callA (f:=32) (ags:=[.agg [.i k,.d (.val (.int .u64 a)),.d (.val (.int .u64 b)),.d (.val (.int .u64 c)),.d (.val (.int .u64 d)),.i mn,.i mx,.d (.sl (encL subs) subs.length)]]);rfl;rfl;exact h32)|(apply r_callA (f:=81);rfl;rfl;exact h81)|(apply r_eql;rfl;rfl;(first|(apply dT;omega)|(apply dF;omega)|rfl))|(apply r_lss;rfl;rfl;(first|(apply dT;omega)|(apply dF;omega)|rfl))|(apply r_gtr;rfl;rfl;(first|(apply dT;omega)|(apply dF;omega)|rfl))|(apply r_not;rfl;rfl)|(apply r_pickT;rfl)|(apply r_pickF;rfl)|(apply r_lenT;rfl)|(apply r_ext;rfl;rfl)|(apply r_gT;rfl)|(apply r_box;((conv=>lhs;simp only [Nat.reduceAdd])<;>rfl);rfl;rfl;rfl)|(apply r_nilK)|(apply k_V;rfl)|(apply k_PL;rfl)|(apply k_nil)|(apply e_ret (vs:=[.d (.val _)]);rfl)|(apply w_seq)|(apply w_ops;((conv=>lhs;simp only [Nat.reduceAdd])<;>rfl))|(apply w_condT;rfl)|(apply w_condF;rfl)|(apply e_thenN)|(apply w_block)|(apply e_thenR)|(apply e_blkR)|(apply w_ret)|(apply w_skip))
      exact retB rfl
  obtain ⟨j,rfl⟩:=Int.eq_ofNat_of_zero_le (show 0≤n by omega)
  have hj : j≤s.size:=by omega
  have hE : lnE s t (j : Nat)=if (lngD s (s.size - j) j (simT t) (-1)).isSome=true then 0 else 11:=by
    unfold lnE lnR
    rw [if_neg (by simp [hfi]),if_neg hrg,if_neg hrg]
    rfl
  have hN : lnN s t (j : Nat)=(lngD s (s.size - j) j (simT t) (-1)).getD 0:=by
    unfold lnN lnR
    rw [if_neg (by simp [hfi]),if_neg hrg]
    rfl
  rw [hE,hN] at h81
  have h82:=Longest82_good s (by omega) t (by omega) hok j hj
  have h37:=longest37_good s (by omega) t (by omega) hok j hj
  have hlr:=fun r=>lng_ref' (s:=s) hok (DOK_sim hok (by omega)) hj (r:=r)
  clear ht hs hf hr hfi hE hN hokt hc hok hn
  generalize lastG (rallG s t j)=l at h37 hlr
  generalize lngD s (s.size - j) j (simT t) (-1)=RR at h81 h82 hlr
  obtain ⟨k,a,b,c,d,mn,mx,subs⟩:=t
  have e0 : nodeA (T.node k a b c d mn mx subs)=.agg [.i k,.d (.val (.int .u64 a)),.d (.val (.int .u64 b)),.d (.val (.int .u64 c)),.d (.val (.int .u64 d)),.i mn,.i mx,.d (.sl (encL subs) subs.length)]:=rfl
  rw [e0] at h76 h81 h82 h37 h32 ⊢
  cases RR with
  | none =>
    have h81 : Good Try.prog 81 [.agg [.i k,.d (.val (.int .u64 a)),.d (.val (.int .u64 b)),.d (.val (.int .u64 c)),.d (.val (.int .u64 d)),.i mn,.i mx,.d (.sl (encL subs) subs.length)],.d (.val (.string s)),.i (j : Nat)] none (.tup [.i 0,.i 11]) none none:=h81
    have h82 : Good Try.prog 82 [.agg [.i k,.d (.val (.int .u64 a)),.d (.val (.int .u64 b)),.d (.val (.int .u64 c)),.d (.val (.int .u64 d)),.i mn,.i mx,.d (.sl (encL subs) subs.length)],.d (.val (.string s)),.i (j : Nat)] none (.tup [.i 0,.b false]) none none:=h82
    refine b25 (by simp) (by simp) (w_init ?_)
    unfold x25
    repeat' (first|(apply r_mvV;rfl)|(apply r_mvT;rfl)|(apply r_ldL (v:=.agg [.i k,.d (.val (.int .u64 a)),.d (.val (.int .u64 b)),.d (.val (.int .u64 c)),.d (.val (.int .u64 d)),.i mn,.i mx,.d (.sl (encL subs) subs.length)]);rfl;rfl;rfl)|(apply r_callA (f:=75) (ags:=[]);rfl;rfl;exact haw)|(apply r_callA (f:=76);rfl;rfl;exact h76)|(apply r_callA (f:=32) (ags:=[.agg [.i k,.d (.val (.int .u64 a)),.d (.val (.int .u64 b)),.d (.val (.int .u64 c)),.d (.val (.int .u64 d)),.i mn,.i mx,.d (.sl (encL subs) subs.length)]]);rfl;rfl;exact h32)|(apply r_callA (f:=81);rfl;rfl;exact h81)|(apply r_callA (f:=82);rfl;rfl;exact h82)|(apply r_eql;rfl;rfl;(first|(apply dT;omega)|(apply dF;omega)|rfl))|(apply r_lss;rfl;rfl;(first|(apply dT;omega)|(apply dF;omega)|rfl))|(apply r_gtr;rfl;rfl;(first|(apply dT;omega)|(apply dF;omega)|rfl))|(apply r_not;rfl;rfl)|(apply r_pickT;rfl)|(apply r_pickF;rfl)|(apply r_lenT;rfl)|(apply r_ext;rfl;rfl)|(apply r_gT;rfl)|(apply r_box;((conv=>lhs;simp only [Nat.reduceAdd])<;>rfl);rfl;rfl;rfl)|(apply r_nilK)|(apply k_V;rfl)|(apply k_PL;rfl)|(apply k_nil)|(apply e_ret (vs:=[.d (.val _)]);rfl)|(apply w_seq)|(apply w_ops;((conv=>lhs;simp only [Nat.reduceAdd])<;>rfl))|(apply w_condT;rfl)|(apply w_condF;rfl)|(apply e_thenN)|(apply w_block)|(apply e_thenR)|(apply e_blkN)|(apply w_ret)|(apply w_skip))
    exact retB rfl
  | some r =>
    have:=hlr r rfl
    subst this
    have h81 : Good Try.prog 81 [.agg [.i k,.d (.val (.int .u64 a)),.d (.val (.int .u64 b)),.d (.val (.int .u64 c)),.d (.val (.int .u64 d)),.i mn,.i mx,.d (.sl (encL subs) subs.length)],.d (.val (.string s)),.i (j : Nat)] none (.tup [.i r,.i 0]) none none:=h81
    have h82 : Good Try.prog 82 [.agg [.i k,.d (.val (.int .u64 a)),.d (.val (.int .u64 b)),.d (.val (.int .u64 c)),.d (.val (.int .u64 d)),.i mn,.i mx,.d (.sl (encL subs) subs.length)],.d (.val (.string s)),.i (j : Nat)] none (.tup [.i r,.b true]) none none:=h82
    refine b25 (by simp) (by simp) (w_init ?_)
    unfold x25
    repeat' (first|(apply r_mvV;rfl)|(apply r_mvT;rfl)|(apply r_ldL (v:=.agg [.i k,.d (.val (.int .u64 a)),.d (.val (.int .u64 b)),.d (.val (.int .u64 c)),.d (.val (.int .u64 d)),.i mn,.i mx,.d (.sl (encL subs) subs.length)]);rfl;rfl;rfl)|(apply r_callA (f:=75) (ags:=[]);rfl;rfl;exact haw)|(apply r_callA (f:=76);rfl;rfl;exact h76)|(apply r_callA (f:=32) (ags:=[.agg [.i k,.d (.val (.int .u64 a)),.d (.val (.int .u64 b)),.d (.val (.int .u64 c)),.d (.val (.int .u64 d)),.i mn,.i mx,.d (.sl (encL subs) subs.length)]]);rfl;rfl;exact h32)|(apply r_callA (f:=81);rfl;rfl;exact h81)|(apply r_callA (f:=82);rfl;rfl;exact h82)|(apply r_callA (f:=37);rfl;rfl;exact h37)|(apply r_eql;rfl;rfl;(first|(apply dT;omega)|(apply dF;omega)|rfl))|(apply r_lss;rfl;rfl;(first|(apply dT;omega)|(apply dF;omega)|rfl))|(apply r_gtr;rfl;rfl;(first|(apply dT;omega)|(apply dF;omega)|rfl))|(apply r_not;rfl;rfl)|(apply r_pickT;rfl)|(apply r_pickF;rfl)|(apply r_lenT;rfl)|(apply r_ext;rfl;rfl)|(apply r_gT;rfl)|(apply r_box;((conv=>lhs;simp only [Nat.reduceAdd])<;>rfl);rfl;rfl;rfl)|(apply r_nilK)|(apply k_V;rfl)|(apply k_PL;rfl)|(apply k_nil)|(apply e_ret (vs:=[.d (.val _)]);rfl)|(apply w_seq)|(apply w_ops;((conv=>lhs;simp only [Nat.reduceAdd])<;>rfl))|(apply w_condF;rfl)|(apply e_thenN)|(apply w_block)|(apply e_blkN)|(apply w_ret)|(apply w_skip))
    exact retB rfl
end Go.Sv
namespace Go.Sv
open Go Go.Proofs Go.Proofs.Ytcnlgmajkclgjaa Go.ChangeShapes Go.WideShapes Go.ChangeAt Go.RowKit
set_option linter.unusedVariables false
set_option maxRecDepth 100000

theorem try_own : ownKnob Try.prog.godebug=none:=by kernel_rfl
theorem try_laidOut : laidOutB Try.prog=true:=by kernel_rfl
theorem rowed : ∀ t ∈ [27,9,3,5,41],Try.prog.readableRec t=true∧t < Try.prog.types.size:=by
  intro t ht
  simp only [List.mem_cons,List.not_mem_nil,or_false] at ht
  rcases ht with rfl | rfl | rfl | rfl | rfl
  all_goals exact ⟨by kernel_rfl,of_decide_eq_true (by kernel_rfl)⟩

section
variable {H : Type} {enc : TypeId × Value→H}
theorem stays_all {W W' : World} {sp : Nat→Bool} (hsame : ∀ p : MemPlace,p.block < W.heap.size→W.sameAt W' p) : ∀ {ts : List TypeId} {vs : List Value} {ds : List (DataW H)} {ps : List MemPlace},(∀ t ∈ ts,Try.prog.readableRec t=true∧t < Try.prog.types.size) →
    DataW.TrodAll enc Try.prog W 0 (fun _=>true) true ts vs ds ps→(∀ p ∈ ps,p.block < W.heap.size)→(∀ p ∈ ps,sp p.block=true)→DataW.TrodAll enc Try.prog W' 0 sp true ts vs ds ps
  | [],[],[],ps,_,h,_,_=>h
  | t :: ts,v :: vs,d :: ds,ps,hr,h,hl,hs=>by
    obtain ⟨p,q,h1,h2,rfl⟩:=h
    refine ⟨p,q,WideElems.Trod_stays try_laidOut (hr t (by simp)).1 (hr t (by simp)).2 h1 (fun x hx=>hsame x (hl x (by simp [hx]))) (fun x hx=>hs x (by simp [hx])),?_,rfl⟩
    exact stays_all hsame (fun t ht=>hr t (by simp [ht])) h2 (fun x hx=>hl x (by simp [hx])) (fun x hx=>hs x (by simp [hx]))

theorem law_post {s : ChangeSpec} {f : Func} {W W' : World} {args : Array Value} {ds gs : List (DataW H)} {before : List MemPlace} (hW : DataW.Whole enc Try.prog f.params.toList s.vars false W args.toList ds gs before) (hsv : s.vars=[])
    (h1 : (s.fn H (ds++gs)).results=[.lit (.bool true)]) (h2 : (s.fn H (ds++gs)).args=ds) (h3 : (s.fn H (ds++gs)).vars=[]) (hrt : f.resultTypes=#[4]) (hb : Below W.heap.size W W')
    (hr : ∀ t ∈ f.params.toList,Try.prog.readableRec t=true∧t < Try.prog.types.size) : s.post enc Try.prog f false true false false W args (.bool true) W':=by
  have hlt:=hW.lt
  have hW0:=hW
  obtain ⟨p,q,hA,hV,rfl,_,_⟩:=hW
  rw [hsv] at hV
  obtain ⟨rfl,rfl⟩:=trodVars_none hV
  have hlt' : ∀ x ∈ p,x.block < W.heap.size:=fun x hx=>by simpa using hlt x (by simp [hx])
  refine ⟨ds,[],p++[],[],p,[],hW0,?_,?_,?_,hb.frame _,fun h=>by cases h⟩
  · rw [hrt,h1]
    exact trodAll_mk1 (shut_bool Try.underlying4 true)
  · rw [h2]
    exact stays_all (fun x hx=>hb.same hx) hr hA hlt' (fun x hx=>by simpa using hlt' x hx)
  · rw [hsv,h3];rfl

theorem Kept.below {w w' : World} (h : Kept w w' (fun k=>(none : Option (List DV)).isSome=true∧(none : Option Nat)=some k)) : Below w.heap.size w w' :=
  ⟨h.os,h.tape,h.output,h.size,fun k hk=>h.keep k hk (by simp)⟩

theorem law_calls {f : FuncId} {ags : List AV} (hg : Good Try.prog f ags none (.b true) none none) {W : World} {args : Array Value} (ha : RAs W NoA (fun _=>none) NoA args ags) : Calls Try.prog f args W fun e W'=>e=.returned (.bool true)∧Below W.heap.size W W':=by
  have hNo : (fun k=>NoA k ∨ ((none : Option (List DV)).isSome=true∧(none : Option Nat)=some k))=NoA:=by
    funext k;simp [NoA]
  have hU : (fun b : Nat=>(none : Option (List DV)).isSome=true∧b=0)=NoA:=by
    funext k;simp [NoA]
  have:=hg.2.2 W NoA none args (fun k h=>h.elim) (fun k h=>by simp at h) (fun ds h=>by cases h) (by rw [hNo,hU];exact ha)
  refine this.mono fun e W' ⟨v,nm,he,hk,_,_,_,hv⟩=>?_
  have:=hv.val_eq
  subst this
  exact ⟨he,hk.below⟩
theorem RAs.nil {W : World} : RAs W NoA (fun _=>none) NoA #[] []:=⟨rfl,fun j h=>by simp at h⟩
theorem RAs.mk : ∀ {W : World} {vs : List Value} {ags : List AV},vs.length=ags.length→(∀ (j : Nat) v a,vs[j]?=some v→ags[j]?=some a→RA W NoA (fun _=>none) NoA v a)→RAs W NoA (fun _=>none) NoA vs.toArray ags:=by
  intro W vs ags hl h
  refine ⟨by simpa using hl,fun j hj=>?_⟩
  have hj2 : j < vs.length:=by omega
  have : vs.toArray.getD j undef=vs[j]:=by simp [Array.getD,hj2]
  rw [this]
  exact h j _ _ (List.getElem?_eq_getElem hj2) (List.getElem?_eq_getElem hj)
theorem RDs.toA {W : World} {vs : List Value} {ds : List DV} (h : RDs W vs ds) : RA W NoA (fun _=>none) NoA (.agg vs.toArray) (.agg (ds.map AV.d)):=by
  refine .agg _ _ (by simpa using h.1) fun j hj=>?_
  have hj1 : j < ds.length:=by simpa using hj
  have hj2 : j < vs.length:=by rw [h.1];exact hj1
  have : vs.toArray.getD j undef=vs[j]:=by simp [Array.getD,hj2]
  rw [this,List.getElem_map]
  exact .d _ _ (h.2 j _ _ (List.getElem?_eq_getElem hj2) (List.getElem?_eq_getElem hj1))
theorem arg_node {W : World} {base : Nat} {v : Value} {d : DataW H} {p : List MemPlace} (hok : Value.okWide Try.prog W .any base 27 v) (h : DataW.Trod enc Try.prog W 0 (fun _=>true) true 27 v d p) : ∃ t : T,inT t∧RA W NoA (fun _=>none) NoA v (nodeA t):=by
  obtain ⟨n,hn⟩:=h
  obtain ⟨t,h1,h2⟩:=node_open n _ _ hn
  have hs : ∃ cs,v=.agg cs:=by
    unfold Value.okWide at hok
    rw [Try.underlying27] at hok
    obtain ⟨cs,h,_⟩:=hok
    exact ⟨cs,h⟩
  obtain ⟨cs,rfl⟩:=hs
  exact ⟨t,h1,h2.toA⟩
theorem arg_int {W : World} {n : Int} {k : IntKind} : RA W NoA (fun _=>none) NoA (.int k n) (.d (.val (.int k n))):=.d _ _ (.val _ rfl)
theorem arg_str {W : World} {s : ByteArray} : RA W NoA (fun _=>none) NoA (.string s) (.d (.val (.string s))):=.d _ _ (.val _ rfl)
end
theorem weights_str {H : Type} {P : Program} : ∀ {ts : List TypeId} {ds : List (DataW H)} (j : Nat) {t : TypeId} {s : ByteArray},(DataW.weightsEach P ts ds).all (·≤reachBytes)=true→ts[j]?=some t→ds[j]?=some (.lit (.string s.data.toList))→s.size≤140737488355328
  | [],_,j,t,s,_,h,_=>by simp at h
  | _ :: _,[],j,t,s,_,_,h=>by simp at h
  | t0 :: ts,d :: ds,0,t,s,h,h1,h2=>by
    simp at h1 h2
    subst h2
    simp only [DataW.weightsEach,DataW.weights,List.all_append,List.all_cons,Bool.and_eq_true,decide_eq_true_eq] at h
    have h3:=h.1.1
    have e : s.data.toList.length=s.size:=by simp
    rw [e] at h3
    unfold reachBytes at h3
    omega
  | t0 :: ts,d :: ds,j + 1,t,s,h,h1,h2=>by
    simp only [DataW.weightsEach,List.all_append,Bool.and_eq_true] at h
    exact weights_str j h.2 (by simpa using h1) (by simpa using h2)
theorem joined_of {P : Program} {f : FuncId} {fn : Func} {s : ChangeSpec} {c : OpenClaim}
    (k1 : (c.wf (OpenSpec.ofChange s) && laidOutB P && mapsRowed P && fn.params.all (P.readableRec ·) && namedTie P c.named s.vars && (c.stops == []) && (P.stops == []) && (c.knobs == []) && (P.stopKnobs == []))=true)
    (k2 : (c.inPlace == P.inPlace f)=true) (k3 : (c.unfollowed == P.unfollowed f)=true) (k4 : (c.recurses == P.recurses f)=true) (k5 : (c.named == P.varsNamed f)=true)
    (k6 : ((c.maps == (fn.params.toList++s.plain.varTypes P).any (P.mapsRec ·)) && (c.ifaces == (fn.params.toList++s.plain.varTypes P).any (P.ifacesRec ·)) && (c.mapsOut == P.mapsAmong fn.resultTypes.toList) &&
  (c.loops == (fn.params.toList++s.plain.varTypes P).any (P.loopsFrom ·)) && (c.wideKeys == (fn.params.toList++s.plain.varTypes P++fn.resultTypes.toList).any (P.wideKeysFrom ·)) &&
  s.vars.all (P.varReadable ·) && fn.resultTypes.all (fun t=>P.readableRec t && decide (t < P.types.size)) && (c.ifacesOut == fn.resultTypes.toList.any (P.ifacesRec ·)) && (c.loopsOut == fn.resultTypes.toList.any (P.loopsFrom ·)))=true)
    (hm : P.mayEnter=true) (hl : P.liftsFinal=c.lifted) (hk : P.make=some c.make) (k7 : ((c.plainKeys == P.plainKeys) && c.shortTexts.isNone && P.stopsHeard && (c.kinds == (if c.domain.isEmpty then [] else fn.params.toList.map fun t=>match P.underlying t with | some (.int k)=>some k | _=>none)) && (c.pinned == c.pinnedBy) &&
  (c.veiled == (fn.params.toList++s.plain.varTypes P++fn.resultTypes.toList).any (P.veiledRec ·)) && c.veiledFits P fn.params.toList (fn.params.toList++s.plain.varTypes P++fn.resultTypes.toList))=true) : joinedFacts P f fn s c=true:=by
  unfold joinedFacts
  simp only [Bool.and_eq_true] at k1 k6 k7 ⊢
  obtain ⟨⟨⟨⟨⟨⟨⟨⟨a1,a2⟩,a3⟩,a4⟩,a5⟩,a6⟩,a7⟩,a8⟩,a9⟩:=k1
  obtain ⟨⟨⟨⟨⟨⟨⟨⟨b1,b2⟩,b3⟩,b4⟩,b5⟩,b6⟩,b7⟩,b8⟩,b9⟩:=k6
  obtain ⟨⟨⟨⟨⟨⟨c1,c2⟩,c3⟩,c4⟩,c5⟩,c6⟩,c7⟩:=k7
  have d1 : (c.lifted == P.liftsFinal)=true:=by rw [hl];exact beq_self_eq_true _
  have d2 : (P.make == some c.make)=true:=by rw [hk];exact beq_self_eq_true _
  repeat' apply And.intro
  all_goals assumption
end Go.Sv
namespace Go.Sv
open Go Go.Proofs Go.Proofs.Ytcnlgmajkclgjaa
set_option maxRecDepth 100000
def orderN : List Nat:=[104,97,114,110,101,115,115,32,52,100,99,102,50,98,101,99,57,54,53,101,49,53,55,56,102,100,97,52,56,101,99,52,97,101,57,98,98,50,100,98,101,100,51,97,52,98,99,100,100,51,97,57,56,98,50,102,51,57,102,50,50,101,97,100,48,54,49,51,100,51,56,56,32,99,117,116,32,97,116,32,115,105,101,118,101,47,115,105,101,118,101,108,97,119,49,49,46,69,110,100,115,84,101,108,108,32,115,105,101,118,101,47,115,105,101,118,101,108,97,119,49,49,46,69,110,100,115,77,97,116,99,104,32,115,105,101,118,101,47,115,105,101,118,101,108,97,119,49,49,46,69,110,100,115,83,105,109,112,108,101,32,115,105,101,118,101,47,115,105,101,118,101,108,97,119,49,49,46,69,110,100,115,66,101,115,116,32,115,105,101,118,101,47,115,105,101,118,101,108,97,119,49,49,46,69,110,100,115,76,111,110,103,101,114,32,115,105,101,118,101,47,115,105,101,118,101,108,97,119,49,49,46,69,110,100,115,80,97,114,116,115,32,115,105,101,118,101,47,115,105,101,118,101,108,97,119,49,49,46,69,110,100,115,83,116,97,114,32,115,105,101,118,101,47,115,105,101,118,101,108,97,119,49,48,46,83,105,109,112,108,105,102,121,84,101,108,108,115,32,115,105,101,118,101,47,115,105,101,118,101,108,97,119,49,48,46,83,105,109,112,108,105,102,121,65,103,97,105,110,32,115,105,101,118,101,47,115,105,101,118,101,108,97,119,49,48,46,83,105,109,112,108,105,102,121,75,101,101,112,115,32,115,105,101,118,101,47,115,105,101,118,101,108,97,119,49,48,46,83,105,109,112,108,105,102,121,79,110,101,32,115,105,101,118,101,47,115,105,101,118,101,108,97,119,49,51,46,69,120,112,97,110,100,84,101,108,108,115,32,115,105,101,118,101,47,115,105,101,118,101,108,97,119,49,51,46,69,120,112,97,110,100,83,97,109,101,32,115,105,101,118,101,47,115,105,101,118,101,108,97,119,49,51,46,69,120,112,97,110,100,80,108,97,105,110,32,115,105,101,118,101,47,115,105,101,118,101,108,97,119,49,51,46,69,120,112,97,110,100,66,117,100,103,101,116,32,115,105,101,118,101,47,115,105,101,118,101,108,97,119,49,51,46,69,120,112,97,110,100,70,105,114,115,116,32,115,105,101,118,101,47,115,105,101,118,101,108,97,119,48,57,46,77,101,97,115,117,114,101,84,101,108,108,115,32,115,105,101,118,101,47,115,105,101,118,101,108,97,119,48,57,46,77,101,97,115,117,114,101,75,110,111,119,115,32,115,105,101,118,101,47,115,105,101,118,101,108,97,119,48,57,46,77,101,97,115,117,114,101,76,101,110,103,116,104,115,32,115,105,101,118,101,47,115,105,101,118,101,108,97,119,48,57,46,77,101,97,115,117,114,101,80,97,114,116,115,32,115,105,101,118,101,47,115,105,101,118,101,108,97,119,48,57,46,77,101,97,115,117,114,101,82,101,112,32,115,105,101,118,101,47,115,105,101,118,101,108,97,119,49,50,46,68,101,114,105,118,101,84,101,108,108,115,32,115,105,101,118,101,47,115,105,101,118,101,108,97,119,49,50,46,68,101,114,105,118,101,76,111,110,103,101,115,116,32,115,105,101,118,101,47,115,105,101,118,101,108,97,119,49,50,46,68,101,114,105,118,101,87,111,114,100,115,32,115,105,101,118,101,47,115,105,101,118,101,108,97,119,49,50,46,68,101,114,105,118,101,70,105,114,115,116,32,115,105,101,118,101,47,115,105,101,118,101,108,97,119,49,50,46,68,101,114,105,118,101,83,105,109,112,108,101]
theorem order_eq : Try.prog.initOrder=String.ofList (orderN.map Char.ofNat):=by kernel_rfl
theorem order_list : Try.prog.initOrder.toList=orderN.map Char.ofNat:=by rw [order_eq,String.toList_ofList]
theorem ow1 : (stripLifts liftWords (behindMainWord (wordsSigns (orderN.map Char.ofNat)))).1=[]:=by kernel_rfl
theorem ow2 : ((stripLifts liftWords (behindMainWord (wordsSigns (orderN.map Char.ofNat)))).2.head? == some "cut".toList)=true:=by kernel_rfl
theorem ow3 : ((behindMainWord (wordsSigns (orderN.map Char.ofNat))).isEmpty=false):=by kernel_rfl
theorem ow4 : ((behindMainWord (wordsSigns (orderN.map Char.ofNat))).head? == some "cut".toList)=true:=by kernel_rfl
theorem ow5 : ((behindMainWord (wordsSigns (orderN.map Char.ofNat))).head? == some "carried".toList)=false:=by kernel_rfl
theorem ow6 : ((behindMainWord (wordsSigns (orderN.map Char.ofNat))).head? == some "gc".toList)=false:=by kernel_rfl
theorem ow7 : ((behindMainWord (wordsSigns (orderN.map Char.ofNat))).head? == some "spec".toList)=false:=by kernel_rfl
theorem try_lays : Try.prog.laysLater=false:=by kernel_rfl
theorem try_refl : Try.prog.bearsReflect=false:=by kernel_rfl
theorem try_door : Try.prog.doorFits []=true:=by kernel_rfl
theorem headLifts_of {P : Program} {l : List Char} (h : P.initOrder.toList=l) (h1 : (stripLifts liftWords (behindMainWord (wordsSigns l))).1=[]) (h2 : ((stripLifts liftWords (behindMainWord (wordsSigns l))).2.head? == some "cut".toList)=true) : P.headLifts=[]:=by
  subst h
  unfold Program.headLifts
  simp only [h2,if_true,h1]
theorem try_headLifts : Try.prog.headLifts=[]:=headLifts_of order_list ow1 ow2
theorem mayEnter_of {P : Program} {l : List Char} (h : P.initOrder.toList=l) (h1 : (stripLifts liftWords (behindMainWord (wordsSigns l))).1=[]) (h2 : ((stripLifts liftWords (behindMainWord (wordsSigns l))).2.head? == some "cut".toList)=true)
    (h3 : (behindMainWord (wordsSigns l)).isEmpty=false) (k1 : P.laysLater=false) (k2 : P.bearsReflect=false) (k3 : P.doorFits []=true) : P.mayEnter=true:=by
  subst h
  unfold Program.mayEnter
  generalize behindMainWord (wordsSigns P.initOrder.toList)=q at h1 h2 h3 ⊢
  cases q with
  | nil=>cases h3
  | cons c rest =>
    have e1 : ([] : List String).contains "finals"=false:=rfl
    have e2 : ([] : List String).contains "reflectrows"=false:=rfl
    have e3 : ([] : List String).contains "leanrows"=false:=rfl
    simp only [h1,h2,k1,k2,k3,e1,e2,e3,Bool.not_false,Bool.or_true,Bool.and_true,Bool.or_self,Bool.and_self]
theorem try_mayEnter : Try.prog.mayEnter=true:=mayEnter_of order_list ow1 ow2 ow3 try_lays try_refl try_door
theorem lifts_of {P : Program} {l : List Char} (h : P.initOrder.toList=l) (h5 : ((behindMainWord (wordsSigns l)).head? == some "carried".toList)=false) (k : P.headLifts=[]) : P.liftsFinal=false:=by
  subst h
  unfold Program.liftsFinal
  rw [k]
  have e1 : ([] : List String).contains "finals"=false:=rfl
  simp only [h5,e1,Bool.false_and,Bool.or_self]
theorem try_lifts : Try.prog.liftsFinal=false:=lifts_of order_list ow5 try_headLifts
theorem make_of {P : Program} {l : List Char} (h : P.initOrder.toList=l) (h3 : (behindMainWord (wordsSigns l)).isEmpty=false) (h4 : ((behindMainWord (wordsSigns l)).head? == some "cut".toList)=true)
    (h6 : ((behindMainWord (wordsSigns l)).head? == some "gc".toList)=false) (h7 : ((behindMainWord (wordsSigns l)).head? == some "spec".toList)=false) : P.make=some .cut:=by
  subst h
  unfold Program.make
  generalize behindMainWord (wordsSigns P.initOrder.toList)=q at h3 h4 h6 h7 ⊢
  cases q with
  | nil=>cases h3
  | cons c rest =>
    simp only [List.head?_cons] at h4 h6 h7
    have g : ∀ x : List Char,(some c == some x)=(c == x):=fun x=>rfl
    rw [g] at h4 h6 h7
    simp only [h4,h6,h7,Bool.or_self,Bool.false_eq_true,if_false,Bool.true_or,if_true]
theorem try_make : Try.prog.make=some .cut:=make_of order_list ow3 ow4 ow6 ow7
end Go.Sv
