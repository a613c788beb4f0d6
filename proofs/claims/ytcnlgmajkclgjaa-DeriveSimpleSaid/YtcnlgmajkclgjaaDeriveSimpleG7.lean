/- A part of the proof of the law DeriveSimple: that it answers true for every input, and that the input reads behind the call as before (no condition). -/
import Derived.Test.YtcnlgmajkclgjaaDeriveSimpleG6
set_option linter.all false
set_option linter.unusedSectionVars false
set_option linter.unusedVariables false
set_option linter.unusedSimpArgs false
namespace Go.Sv
open Go Go.Proofs
def x40 : XC:=(.seq (.ops 2 [ (0,⟨some 1,none,.box (.t 0)⟩),(1,⟨some 2,none,.alloc [(.int .i64 0),(.int .u64 0),(.int .u64 0),(.int .u64 0),(.int .u64 0),(.int .i64 0),(.int .i64 0),(.slice none 0 0)]⟩)] (some [1,2])) (.seq (.ops 1 [ (0,⟨some 3,none,.mv (.k (.d (.val (.slice none 0 0))))⟩)] (some [1,2,3])) (.seq (.seq (.ops 1 [ (0,⟨some 4,none,.mv (.k (.d (.val (.int .i64 0))))⟩)] (some [1,2,3,4])) (.block 0 (.loop (.seq (.seq (.ops 5 [ (0,⟨some 5,none,.mv (.t 4)⟩),(1,⟨some 6,none,.fadd 7 (.t 1)⟩),(2,⟨some 7,none,.load none (.t 6)⟩),(3,⟨some 8,none,.lenS (.t 7)⟩),(4,⟨some 9,none,.arith .lss (.t 5) (.t 8)⟩)] (some [1,2,3,4,9])) (.cond (.t 9) .skip (.exit 0))) (.seq (.block 1 (.ops 10 [ (0,⟨some 12,none,.mv (.t 3)⟩),(1,⟨some 13,none,.fadd 7 (.t 1)⟩),(2,⟨some 14,none,.load none (.t 13)⟩),(3,⟨some 15,none,.mv (.t 4)⟩),(4,⟨some 16,none,.idxS 8 (.t 14) (.t 15)⟩),(5,⟨some 17,none,.load (some 8) (.t 16)⟩),(6,⟨some 18,none,.call 40 [(.t 17)] none false⟩),(7,⟨some 19,none,.mkrow [(.int .i64 0),(.int .u64 0),(.int .u64 0),(.int .u64 0),(.int .u64 0),(.int .i64 0),(.int .i64 0),(.slice none 0 0)] 1 8 [(0,8,(.t 18))]⟩),(8,⟨some 20,none,.app [(.int .i64 0),(.int .u64 0),(.int .u64 0),(.int .u64 0),(.int .u64 0),(.int .i64 0),(.int .i64 0),(.slice none 0 0)] 80 (.t 12) (.t 19)⟩),(9,⟨some 3,none,.mv (.t 20)⟩)] (some [1,2,3,4]))) (.ops 3 [ (0,⟨some 10,none,.mv (.t 4)⟩),(1,⟨some 11,none,.arith .add (.t 10) (.k (.d (.val (.int .i64 1))))⟩),(2,⟨some 4,none,.mv (.t 11)⟩)] (some [1,2,3,4]))))))) (.seq (.seq (.ops 2 [ (0,⟨some 21,none,.fadd 0 (.t 1)⟩),(1,⟨some 22,none,.load none (.t 21)⟩)] (some [1,2,3,22])) (.block 2 (.seq (.ops 2 [ (0,⟨some 24,none,.arith .eql (.t 22) (.k (.d (.val (.int .i64 3))))⟩),(1,⟨some 23,none,.mv (.t 24)⟩)] (some [1,2,3,22,23])) (.cond (.t 23) (.seq (.ops 3 [ (0,⟨some 25,none,.mv (.t 3)⟩),(1,⟨some 26,none,.call 92 [(.t 25)] none false⟩),(2,⟨none,none,.store 8 (.t 2) (.t 26)⟩)] (some [2])) .ret) (.seq (.ops 2 [ (0,⟨some 28,none,.arith .eql (.t 22) (.k (.d (.val (.int .i64 4))))⟩),(1,⟨some 27,none,.mv (.t 28)⟩)] (some [1,2,3,22,27])) (.cond (.t 27) (.seq (.ops 3 [ (0,⟨some 29,none,.mv (.t 3)⟩),(1,⟨some 30,none,.call 93 [(.t 29)] none false⟩),(2,⟨none,none,.store 8 (.t 2) (.t 30)⟩)] (some [2])) .ret) (.seq (.ops 2 [ (0,⟨some 32,none,.arith .eql (.t 22) (.k (.d (.val (.int .i64 5))))⟩),(1,⟨some 31,none,.mv (.t 32)⟩)] (some [1,2,3,31])) (.cond (.t 31) (.seq (.ops 9 [ (0,⟨some 33,none,.mv (.t 3)⟩),(1,⟨some 34,none,.idxS 8 (.t 33) (.k (.d (.val (.int .i64 0))))⟩),(2,⟨some 35,none,.load (some 8) (.t 34)⟩),(3,⟨some 36,none,.fadd 5 (.t 1)⟩),(4,⟨some 37,none,.load none (.t 36)⟩),(5,⟨some 38,none,.fadd 6 (.t 1)⟩),(6,⟨some 39,none,.load none (.t 38)⟩),(7,⟨some 40,none,.call 94 [(.t 35),(.t 37),(.t 39)] none false⟩),(8,⟨none,none,.store 8 (.t 2) (.t 40)⟩)] (some [2])) .ret) .skip)))))))) (.seq (.ops 2 [ (0,⟨some 41,none,.load (some 8) (.t 1)⟩),(1,⟨none,none,.store 8 (.t 2) (.t 41)⟩)] (some [2])) .ret)))))
def md40 : FuncId→Option Nat × Bool
  | _=>(none,false)
def od40 : Nat→List (List Nat) × List Nat × Option (List Nat)
  | 0=>([],[],some [1,2])
  | 1=>([],[],some [1,2,3])
  | 2=>([],[],some [1,2,3,4])
  | 3=>([],[],some [1,2,3,4,9])
  | 4=>([],[],some [1,2,3,4])
  | 5=>([],[],some [1,2,3,4])
  | 6=>([],[],some [1,2,3,22])
  | 7=>([],[],some [1,2,3,22,23])
  | 8=>([],[],some [2])
  | 9=>([],[],some [1,2,3,22,27])
  | 10=>([],[],some [2])
  | 11=>([],[],some [1,2,3,31])
  | 12=>([[],[0],[0,1],[],[3],[],[5],[0,1,2,3,4,5,6],[0,1,2,3,4,5,6,7]],[0,1,2,3,4,5,6,7,8],some [2])
  | 13=>([],[],some [2])
  | _=>([],[],none)
theorem b40 {ags : List AV} {row : Option (List DV)} {r : AV} {row' nw : Option (List DV)} (hal : ags.length≤42) (hrow : row'.isSome=true→row.isSome=true) (h : xwp Try.prog x40 (retK [.cell 2 (some 8)] row.isSome r row' nw) (St.init ags row)) : Good Try.prog 40 ags row r row' nw :=
  good_of_body' (md:=md40) (od:=od40) Try.f40 (by kernel_rfl) (by kernel_rfl) (by kernel_rfl) (by kernel_rfl) (by kernel_rfl) hal hrow h

theorem simL_take (l : List T) (i : Nat) (h : i < l.length) : (simL l).take (i + 1)=(simL l).take i++[simT l[i]]:=by
  have h2 : i < (simL l).length:=by rw [simL_len];exact h
  rw [List.take_succ_eq_append_getElem h2,simL_get l i h h2]
set_option maxRecDepth 100000
set_option maxHeartbeats 4000000
attribute [local irreducible] W E R KP thenK blockK retK Good xwp aRun
theorem simple40_good : ∀ (n : Nat) (t : T),t.cnt≤n→n≤300000→okT t→Good Try.prog 40 [nodeA t] none (nodeA (simT t)) none none:=by
  intro n
  induction n with
  | zero=>intro t ht;have:=cnt_pos t;omega
  | succ n ih =>
  intro t ht hc hok
  obtain ⟨k,a,b,c,d,mn,mx,subs⟩:=t
  have hR:=okT_R hok
  have hoks:=okT_subs hok
  have hpl:=okT_plain hok
  have ih' : ∀ i (h : i < subs.length),Good Try.prog 40 [nodeA subs[i]] none (nodeA (simT subs[i])) none none:=by
    intro i h
    refine ih _ ?_ (by omega) (okL_get subs i h hoks)
    have:=cntL_get subs i h
    simp only [T.cnt] at ht
    omega
  have hlen : subs.length≤300000:=by
    have:=cntL_len subs
    simp only [T.cnt] at ht
    omega
  have hcs:=simL_cnt subs hoks
  have hso:=simL_ok subs hoks
  have hsl:=simL_len subs
  have hcc : cntL (simL subs)≤300000:=by simp only [T.cnt] at ht;omega
  have h92:=cat92_good (simL subs) (by omega)
  have h93:=alt93_good (simL subs) (by omega) (fun u hu=>okT_S ((okL_iff _).1 (okL_flat 4 hso) u hu))
  have e0 : nodeA (.node k a b c d mn mx subs)=.agg [.i k,.d (.val (.int .u64 a)),.d (.val (.int .u64 b)),.d (.val (.int .u64 c)),.d (.val (.int .u64 d)),.i mn,.i mx,.d (.sl (encL subs) subs.length)]:=rfl
  have h94 : ∀ x r,simL subs=x :: r→k=5→Good Try.prog 94 [nodeA x,.i mn,.i mx] none (nodeA (repS x mn mx)) none none:=by
    intro x r e h5
    have:=hR h5
    refine rep94_good 1000000 x ?_ (by omega) mn mx (by unfold inW;omega) (by unfold inW;omega)
    rw [e,cntL] at hcc;omega
  have hk5 : k=5→0 < subs.length:=fun h5=>by
    subst h5
    obtain ⟨u,rfl⟩:=plainT_5 hpl
    simp
  clear ih ht hcs hso hok hoks hpl hcc hR
  rw [e0,simT]
  refine b40 (by simp) (by simp) (w_init ?_)
  unfold x40
  repeat' (first|(apply r_mvV;rfl)|(apply r_alloc;((conv=>lhs;simp only [Nat.reduceAdd])<;>rfl);rfl)|(apply r_box;((conv=>lhs;simp only [Nat.reduceAdd])<;>rfl);rfl;rfl;rfl)|(apply r_nilK)|(apply k_V;rfl)|(apply k_PL;rfl)|(apply k_nil)|(apply w_seq)|(apply w_ops;((conv=>lhs;simp only [Nat.reduceAdd])<;>rfl))|(apply e_thenN)|(apply w_block))
  apply w_loopI (S:=fun i : Nat=>⟨(((Fr.nil.put 1 (.ptrL 1 0)).put 2 (.ptrL 2 0)).put 3 (.slL 50 0 i 8)).put 4 (.i i),rowsOf [(1,[.i k,.d (.val (.int .u64 a)),.d (.val (.int .u64 b)),.d (.val (.int .u64 c)),.d (.val (.int .u64 d)),.i mn,.i mx,.d (.sl (encL subs) subs.length)]),(2,zeroA zsN),(50,(encL ((simL subs).take i)).map AV.d)],Frz.buts 100 [2,50],100⟩) (m:=fun i=>subs.length - i) (I:=fun i=>i≤subs.length) (i0:=0)
  · exact Nat.zero_le _
  · refine wkM [] [50] rfl ?_ ?_ rfl ?_
    · intro p hp
      simp only [List.mem_cons,List.not_mem_nil,or_false] at hp
      rcases hp with rfl | rfl | rfl
      · exact ⟨by omega,.inr ⟨rfl,_,rfl,.data rfl⟩⟩
      · exact ⟨by omega,.inr ⟨rfl,_,rfl,.data rfl⟩⟩
      · exact ⟨by omega,.inl ⟨rfl,rfl⟩⟩
    · intro q hq;simp only [List.mem_cons,List.not_mem_nil,or_false] at hq;rcases hq with rfl | rfl<;>rfl
    · repeat' (first|exact FWk.nil|(apply FWk.i;rfl;(first|rfl|omega|(simp;done)))|(apply FWk.ptr;rfl;rfl;rfl;omega;rfl)|(apply FWk.slN;rfl;omega;rfl))
  intro i K hi hK
  dsimp only
  rcases Nat.lt_or_ge i subs.length with hlt | hge
  · have hs:=NodeAt.sub hlt
    have hg:=ih' i hlt
    have htk:=simL_take subs i hlt
    have hna : [nodeA subs[i]].all AV.nrm=true:=by rw [List.all_cons,nodeA_nrm];rfl
    generalize simT subs[i]=u at hg htk
    generalize subs[i]=v at hs hg hna
    repeat' (first|(apply r_mvV;rfl)|(apply r_mvSL;rfl)|(apply r_faddL;rfl)|(apply r_p;apply ix_sub;rfl;rfl;omega)|(apply r_l;apply ld_node';exact hs;rfl)|(apply r_callA (ags:=[nodeA v]);rfl;exact hna;exact hg)|(apply r_mkN (t:=u) (id:=112);rfl;rfl)|(apply r_appE (b:=50) (c:=112) (id:=113) (K:=(simL subs).take i) (L:=[u]) (m:=i) (j:=1);rfl;rfl;rfl;rfl;(rw [List.length_take];omega);rfl;rfl;rfl;omega)|(apply r_ldL;rfl;rfl;rfl)|(apply r_lss;rfl;rfl;(first|(apply dT;omega)|(apply dF;omega)|rfl))|(apply r_add;rfl;rfl;rfl;omega)|(apply r_lenD;rfl)|(apply r_nilK)|(apply k_V;rfl)|(apply k_PL;rfl)|(apply k_SL;rfl)|(apply k_nil)|(apply w_seq)|(apply w_ops;((conv=>lhs;simp only [Nat.reduceAdd])<;>rfl))|(apply w_condT;rfl)|(apply e_thenN)|(apply w_block)|(apply e_blkN)|(apply w_skip))
    apply e_thenK
    apply hK (i + 1)
    · omega
    · omega
    · rw [htk]
      refine wkM [(50,113)] [] rfl ?_ ?_ rfl ?_
      · intro p hp
        simp only [List.mem_cons,List.not_mem_nil,or_false] at hp
        rcases hp with rfl | rfl | rfl
        · exact ⟨by omega,.inr ⟨rfl,_,rfl,.data rfl⟩⟩
        · exact ⟨by omega,.inr ⟨rfl,_,rfl,.data rfl⟩⟩
        · exact ⟨by omega,.inr ⟨rfl,_,rfl,.data (isD_encL _)⟩⟩
      · intro q hq;simp only [List.mem_cons,List.not_mem_nil,or_false] at hq;rcases hq with rfl | rfl<;>rfl
      · repeat' (first|exact FWk.nil|(apply FWk.i;rfl;(first|rfl|omega|(simp;done)))|(apply FWk.sl;rfl;rfl;rfl;rfl;omega;rfl)|(apply FWk.ptr;rfl;rfl;rfl;omega;rfl))
  have ei : i=subs.length:=by omega
  subst ei
  rw [List.take_of_length_le (by omega)]
  clear hK hge ih' hi
  generalize simL subs=L at hsl h92 h93 h94 ⊢
  rw [hsl] at h92 h93
  by_cases h3 : k=3
  · rw [if_pos h3]
    generalize catS L=u at h92
    obtain ⟨k2,a2,b2,c2,d2,mn2,mx2,subs2⟩:=u
    match L,hsl with
    | [],hsl =>
      simp only [List.length_nil] at hsl
      rw [← hsl] at h92 ⊢
      repeat' (first|(apply r_mvV;rfl)|(apply r_mvSL;rfl)|(apply r_faddL;rfl)|(apply r_callS2 (pre:=[]) (pre':=[]) (post:=[]) (post':=[]) (b:=50) (L:=[]) (us:=[]);rfl;rfl;rfl;rfl;rfl;exact h92;rfl)|(apply r_ldL;rfl;rfl;rfl)|(apply r_eql;rfl;rfl;(first|(apply dT;omega)|(apply dF;omega)|rfl))|(apply r_lss;rfl;rfl;(first|(apply dT;omega)|(apply dF;omega)|rfl))|(apply r_lenD;rfl)|(apply r_stL;rfl;rfl;rfl;rfl;(first|rfl|(simp only [z_nil,z_add]<;>rfl));rfl;rfl)|(apply r_nilK)|(apply k_V;rfl)|(apply k_PL;rfl)|(apply k_SL;rfl)|(apply k_nil)|(apply e_ret;rfl)|(apply w_seq)|(apply w_ops;((conv=>lhs;simp only [Nat.reduceAdd])<;>rfl))|(apply w_condT;rfl)|(apply w_condF;rfl)|(apply e_thenN)|(apply w_block)|(apply e_thenR)|(apply e_thenX)|(apply e_blkR)|(apply e_blkE)|(apply w_exit)|(apply w_ret))
      exact .data _ rfl
    | x :: r,hsl =>
      simp only [List.length_cons] at hsl
      rw [← hsl] at h92 ⊢
      repeat' (first|(apply r_mvV;rfl)|(apply r_mvSL;rfl)|(apply r_faddL;rfl)|(apply r_callS2 (pre:=[]) (pre':=[]) (post:=[]) (post':=[]) (b:=50) (L:=x :: r) (us:=[50]);rfl;rfl;rfl;rfl;rfl;exact h92;rfl)|(apply r_ldL;rfl;rfl;rfl)|(apply r_eql;rfl;rfl;(first|(apply dT;omega)|(apply dF;omega)|rfl))|(apply r_lss;rfl;rfl;(first|(apply dT;omega)|(apply dF;omega)|rfl))|(apply r_lenD;rfl)|(apply r_stL;rfl;rfl;rfl;rfl;(first|rfl|(simp only [z_nil,z_add]<;>rfl));rfl;rfl)|(apply r_nilK)|(apply k_V;rfl)|(apply k_PL;rfl)|(apply k_SL;rfl)|(apply k_nil)|(apply e_ret;rfl)|(apply w_seq)|(apply w_ops;((conv=>lhs;simp only [Nat.reduceAdd])<;>rfl))|(apply w_condT;rfl)|(apply w_condF;rfl)|(apply e_thenN)|(apply w_block)|(apply e_thenR)|(apply e_thenX)|(apply e_blkR)|(apply e_blkE)|(apply w_exit)|(apply w_ret))
      exact .data _ rfl
  rw [if_neg h3]
  by_cases h4 : k=4
  · rw [if_pos h4]
    generalize altS L=u at h93
    obtain ⟨k2,a2,b2,c2,d2,mn2,mx2,subs2⟩:=u
    match L,hsl with
    | [],hsl =>
      simp only [List.length_nil] at hsl
      rw [← hsl] at h93 ⊢
      repeat' (first|(apply r_mvV;rfl)|(apply r_mvSL;rfl)|(apply r_faddL;rfl)|(apply r_callS2 (pre:=[]) (pre':=[]) (post:=[]) (post':=[]) (b:=50) (L:=[]) (us:=[]);rfl;rfl;rfl;rfl;rfl;exact h93;rfl)|(apply r_ldL;rfl;rfl;rfl)|(apply r_eql;rfl;rfl;(first|(apply dT;omega)|(apply dF;omega)|rfl))|(apply r_lss;rfl;rfl;(first|(apply dT;omega)|(apply dF;omega)|rfl))|(apply r_lenD;rfl)|(apply r_stL;rfl;rfl;rfl;rfl;(first|rfl|(simp only [z_nil,z_add]<;>rfl));rfl;rfl)|(apply r_nilK)|(apply k_V;rfl)|(apply k_PL;rfl)|(apply k_SL;rfl)|(apply k_nil)|(apply e_ret;rfl)|(apply w_seq)|(apply w_ops;((conv=>lhs;simp only [Nat.reduceAdd])<;>rfl))|(apply w_condT;rfl)|(apply w_condF;rfl)|(apply e_thenN)|(apply w_block)|(apply e_thenR)|(apply e_thenX)|(apply e_blkR)|(apply e_blkE)|(apply w_exit)|(apply w_ret))
      exact .data _ rfl
    | x :: r,hsl =>
      simp only [List.length_cons] at hsl
      rw [← hsl] at h93 ⊢
      repeat' (first|(apply r_mvV;rfl)|(apply r_mvSL;rfl)|(apply r_faddL;rfl)|(apply r_callS2 (pre:=[]) (pre':=[]) (post:=[]) (post':=[]) (b:=50) (L:=x :: r) (us:=[50]);rfl;rfl;rfl;rfl;rfl;exact h93;rfl)|(apply r_ldL;rfl;rfl;rfl)|(apply r_eql;rfl;rfl;(first|(apply dT;omega)|(apply dF;omega)|rfl))|(apply r_lss;rfl;rfl;(first|(apply dT;omega)|(apply dF;omega)|rfl))|(apply r_lenD;rfl)|(apply r_stL;rfl;rfl;rfl;rfl;(first|rfl|(simp only [z_nil,z_add]<;>rfl));rfl;rfl)|(apply r_nilK)|(apply k_V;rfl)|(apply k_PL;rfl)|(apply k_SL;rfl)|(apply k_nil)|(apply e_ret;rfl)|(apply w_seq)|(apply w_ops;((conv=>lhs;simp only [Nat.reduceAdd])<;>rfl))|(apply w_condT;rfl)|(apply w_condF;rfl)|(apply e_thenN)|(apply w_block)|(apply e_thenR)|(apply e_thenX)|(apply e_blkR)|(apply e_blkE)|(apply w_exit)|(apply w_ret))
      exact .data _ rfl
  rw [if_neg h4]
  by_cases h5 : k=5
  · rw [if_pos h5]
    have:=hk5 h5
    match L,hsl,h94 with
    | [],hsl,_=>simp only [List.length_nil] at hsl;omega
    | x :: r,hsl,h94 =>
      have h94:=h94 x r rfl h5
      rw [List.headD_cons]
      have hna : [nodeA x,.i mn,.i mx].all AV.nrm=true:=by rw [List.all_cons,nodeA_nrm];rfl
      generalize repS x mn mx=u at h94
      obtain ⟨k2,a2,b2,c2,d2,mn2,mx2,subs2⟩:=u
      have hs : NodeAt (encL (x :: r)) (0 * 8) x:=NodeAt.sub (l:=x :: r) (i:=0) (by simp)
      repeat' (first|(apply r_mvV;rfl)|(apply r_mvSL;rfl)|(apply r_faddL;rfl)|(apply r_ixN (j:=0);rfl;rfl;rfl;omega)|(apply r_ldN (t:=x);rfl;rfl;exact hs)|(apply r_callA (ags:=[nodeA x,.i mn,.i mx]);rfl;exact hna;exact h94)|(apply r_ldL;rfl;rfl;rfl)|(apply r_eql;rfl;rfl;(first|(apply dT;omega)|(apply dF;omega)|rfl))|(apply r_lss;rfl;rfl;(first|(apply dT;omega)|(apply dF;omega)|rfl))|(apply r_lenD;rfl)|(apply r_stL;rfl;rfl;rfl;rfl;(first|rfl|(simp only [z_nil,z_add]<;>rfl));rfl;rfl)|(apply r_nilK)|(apply k_V;rfl)|(apply k_PL;rfl)|(apply k_SL;rfl)|(apply k_nil)|(apply e_ret;rfl)|(apply w_seq)|(apply w_ops;((conv=>lhs;simp only [Nat.reduceAdd])<;>rfl))|(apply w_condT;rfl)|(apply w_condF;rfl)|(apply e_thenN)|(apply w_block)|(apply e_thenR)|(apply e_thenX)|(apply e_blkR)|(apply e_blkE)|(apply w_exit)|(apply w_ret))
      exact .data _ rfl
  · rw [if_neg h5]
    repeat' (first|(apply r_mvV;rfl)|(apply r_faddL;rfl)|(apply r_ldL (v:=.agg [.i k,.d (.val (.int .u64 a)),.d (.val (.int .u64 b)),.d (.val (.int .u64 c)),.d (.val (.int .u64 d)),.i mn,.i mx,.d (.sl (encL subs) subs.length)]);rfl;rfl;rfl)|(apply r_ldL;rfl;rfl;rfl)|(apply r_eql;rfl;rfl;(first|(apply dT;omega)|(apply dF;omega)|rfl))|(apply r_lss;rfl;rfl;(first|(apply dT;omega)|(apply dF;omega)|rfl))|(apply r_lenD;rfl)|(apply r_stL;rfl;rfl;rfl;rfl;(first|rfl|(simp only [z_nil,z_add]<;>rfl));rfl;rfl)|(apply r_nilK)|(apply k_V;rfl)|(apply k_PL;rfl)|(apply k_SL;rfl)|(apply k_nil)|(apply e_ret;rfl)|(apply w_seq)|(apply w_ops;((conv=>lhs;simp only [Nat.reduceAdd])<;>rfl))|(apply w_condF;rfl)|(apply e_thenN)|(apply w_block)|(apply e_thenX)|(apply e_blkN)|(apply e_blkE)|(apply w_exit)|(apply w_ret)|(apply w_skip))
    exact .data _ rfl
end Go.Sv
namespace Go.Sv
open Go Go.Proofs
def x97 : XC:=(.seq (.ops 2 [ (0,⟨some 1,none,.box (.t 0)⟩),(1,⟨some 2,none,.alloc [(.int .i64 0),(.int .u64 0),(.int .u64 0),(.int .u64 0),(.int .u64 0),(.int .i64 0),(.int .i64 0),(.slice none 0 0)]⟩)] (some [1,2])) (.seq (.ops 1 [ (0,⟨some 3,none,.mv (.k (.d (.val (.slice none 0 0))))⟩)] (some [1,2,3])) (.seq (.seq (.ops 4 [ (0,⟨some 6,none,.fadd 7 (.t 1)⟩),(1,⟨some 7,none,.load none (.t 6)⟩),(2,⟨some 8,none,.lenS (.t 7)⟩),(3,⟨some 9,none,.mv (.k (.d (.val (.int .i64 0))))⟩)] (some [1,2,3,7,8,9])) (.block 0 (.loop (.seq (.ops 1 [ (0,⟨some 10,none,.arith .lss (.t 9) (.t 8)⟩)] (some [1,2,3,7,8,9,10])) (.seq (.cond (.t 10) .skip (.exit 0)) (.seq (.block 1 (.seq (.ops 4 [ (0,⟨some 11,none,.idxS 8 (.t 7) (.t 9)⟩),(1,⟨some 12,none,.load (some 8) (.t 11)⟩),(2,⟨some 5,none,.alloc [(.int .i64 0),(.int .u64 0),(.int .u64 0),(.int .u64 0),(.int .u64 0),(.int .i64 0),(.int .i64 0),(.slice none 0 0)]⟩),(3,⟨none,none,.store 8 (.t 5) (.t 12)⟩)] (some [1,2,3,5,7,8,9])) (.ops 6 [ (0,⟨some 13,none,.mv (.t 3)⟩),(1,⟨some 14,none,.load (some 8) (.t 5)⟩),(2,⟨some 15,none,.call 97 [(.t 14)] none false⟩),(3,⟨some 16,none,.mkrow [(.int .i64 0),(.int .u64 0),(.int .u64 0),(.int .u64 0),(.int .u64 0),(.int .i64 0),(.int .i64 0),(.slice none 0 0)] 1 8 [(0,8,(.t 15))]⟩),(4,⟨some 17,none,.app [(.int .i64 0),(.int .u64 0),(.int .u64 0),(.int .u64 0),(.int .u64 0),(.int .i64 0),(.int .i64 0),(.slice none 0 0)] 80 (.t 13) (.t 16)⟩),(5,⟨some 3,none,.mv (.t 17)⟩)] (some [1,2,3,7,8,9])))) (.ops 2 [ (0,⟨some 18,none,.arith .add (.t 9) (.k (.d (.val (.int .i64 1))))⟩),(1,⟨some 9,none,.mv (.t 18)⟩)] (some [1,2,3,7,8,9])))))))) (.seq (.seq (.ops 2 [ (0,⟨some 19,none,.fadd 0 (.t 1)⟩),(1,⟨some 20,none,.load none (.t 19)⟩)] (some [1,2,3,20])) (.block 2 (.seq (.ops 2 [ (0,⟨some 22,none,.arith .eql (.t 20) (.k (.d (.val (.int .i64 3))))⟩),(1,⟨some 21,none,.mv (.t 22)⟩)] (some [1,2,3,20,21])) (.cond (.t 21) (.seq (.ops 3 [ (0,⟨some 23,none,.mv (.t 3)⟩),(1,⟨some 24,none,.call 53 [(.t 23)] none false⟩),(2,⟨none,none,.store 8 (.t 2) (.t 24)⟩)] (some [2])) .ret) (.seq (.ops 2 [ (0,⟨some 26,none,.arith .eql (.t 20) (.k (.d (.val (.int .i64 4))))⟩),(1,⟨some 25,none,.mv (.t 26)⟩)] (some [1,2,3,20,25])) (.cond (.t 25) (.seq (.ops 3 [ (0,⟨some 27,none,.mv (.t 3)⟩),(1,⟨some 28,none,.call 54 [(.t 27)] none false⟩),(2,⟨none,none,.store 8 (.t 2) (.t 28)⟩)] (some [2])) .ret) (.seq (.ops 2 [ (0,⟨some 30,none,.arith .eql (.t 20) (.k (.d (.val (.int .i64 5))))⟩),(1,⟨some 29,none,.mv (.t 30)⟩)] (some [1,2,3,29])) (.cond (.t 29) (.seq (.ops 9 [ (0,⟨some 31,none,.mv (.t 3)⟩),(1,⟨some 32,none,.idxS 8 (.t 31) (.k (.d (.val (.int .i64 0))))⟩),(2,⟨some 33,none,.load (some 8) (.t 32)⟩),(3,⟨some 34,none,.fadd 5 (.t 1)⟩),(4,⟨some 35,none,.load none (.t 34)⟩),(5,⟨some 36,none,.fadd 6 (.t 1)⟩),(6,⟨some 37,none,.load none (.t 36)⟩),(7,⟨some 38,none,.call 55 [(.t 33),(.t 35),(.t 37)] none false⟩),(8,⟨none,none,.store 8 (.t 2) (.t 38)⟩)] (some [2])) .ret) .skip)))))))) (.seq (.ops 2 [ (0,⟨some 39,none,.load (some 8) (.t 1)⟩),(1,⟨none,none,.store 8 (.t 2) (.t 39)⟩)] (some [2])) .ret)))))
def md97 : FuncId→Option Nat × Bool
  | _=>(none,false)
def od97 : Nat→List (List Nat) × List Nat × Option (List Nat)
  | 0=>([],[],some [1,2])
  | 1=>([],[],some [1,2,3])
  | 2=>([],[],some [1,2,3,7,8,9])
  | 3=>([],[],some [1,2,3,7,8,9,10])
  | 4=>([],[],some [1,2,3,5,7,8,9])
  | 5=>([],[],some [1,2,3,7,8,9])
  | 6=>([],[],some [1,2,3,7,8,9])
  | 7=>([],[],some [1,2,3,20])
  | 8=>([],[],some [1,2,3,20,21])
  | 9=>([],[],some [2])
  | 10=>([],[],some [1,2,3,20,25])
  | 11=>([],[],some [2])
  | 12=>([],[],some [1,2,3,29])
  | 13=>([[],[0],[0,1],[],[3],[],[5],[0,1,2,3,4,5,6],[0,1,2,3,4,5,6,7]],[0,1,2,3,4,5,6,7,8],some [2])
  | 14=>([],[],some [2])
  | _=>([],[],none)
theorem b97 {ags : List AV} {row : Option (List DV)} {r : AV} {row' nw : Option (List DV)} (hal : ags.length≤40) (hrow : row'.isSome=true→row.isSome=true) (h : xwp Try.prog x97 (retK [.cell 2 (some 8)] row.isSome r row' nw) (St.init ags row)) : Good Try.prog 97 ags row r row' nw :=
  good_of_body' (md:=md97) (od:=od97) Try.f97 (by kernel_rfl) (by kernel_rfl) (by kernel_rfl) (by kernel_rfl) (by kernel_rfl) hal hrow h

def x46 : XC:=(.seq (.ops 3 [ (0,⟨some 1,none,.box (.t 0)⟩),(1,⟨some 2,none,.alloc [(.int .i64 0),(.int .u64 0),(.int .u64 0),(.int .u64 0),(.int .u64 0),(.int .i64 0),(.int .i64 0),(.slice none 0 0)]⟩),(2,⟨some 3,none,.mv (.k (.d (.val (.int .i64 0))))⟩)] (some [1,2])) (.seq (.seq (.ops 3 [ (0,⟨some 4,none,.load (some 8) (.t 1)⟩),(1,⟨some 5,none,.call 84 [(.t 4)] none false⟩),(2,⟨some 6,none,.un .not (.t 5)⟩)] (some [1,2,6])) (.cond (.t 6) (.seq (.ops 3 [ (0,⟨some 7,none,.build [(.int .i64 0),(.int .u64 0),(.int .u64 0),(.int .u64 0),(.int .u64 0),(.int .i64 0),(.int .i64 0),(.slice none 0 0)] []⟩),(1,⟨none,none,.store 8 (.t 2) (.t 7)⟩),(2,⟨some 3,none,.mv (.k (.d (.val (.int .i64 1))))⟩)] (some [2,3])) .ret) .skip)) (.seq (.ops 4 [ (0,⟨some 8,none,.load (some 8) (.t 1)⟩),(1,⟨some 9,none,.call 97 [(.t 8)] none false⟩),(2,⟨none,none,.store 8 (.t 2) (.t 9)⟩),(3,⟨some 3,none,.mv (.k (.d (.val (.int .i64 0))))⟩)] (some [2,3])) .ret)))
def md46 : FuncId→Option Nat × Bool
  | _=>(none,false)
def od46 : Nat→List (List Nat) × List Nat × Option (List Nat)
  | 0=>([],[],some [1,2])
  | 1=>([],[],some [1,2,6])
  | 2=>([],[],some [2,3])
  | 3=>([],[],some [2,3])
  | _=>([],[],none)
theorem b46 {ags : List AV} {row : Option (List DV)} {r : AV} {row' nw : Option (List DV)} (hal : ags.length≤10) (hrow : row'.isSome=true→row.isSome=true) (h : xwp Try.prog x46 (retK [.cell 2 (some 8),.tmp 3] row.isSome r row' nw) (St.init ags row)) : Good Try.prog 46 ags row r row' nw :=
  good_of_body' (md:=md46) (od:=od46) Try.f46 (by kernel_rfl) (by kernel_rfl) (by kernel_rfl) (by kernel_rfl) (by kernel_rfl) hal hrow h

set_option maxRecDepth 100000
set_option maxHeartbeats 4000000
attribute [local irreducible] W E R KP thenK blockK retK Good xwp aRun
theorem simple97_good : ∀ (n : Nat) (t : T),t.cnt≤n→n≤300000→okT t→Good Try.prog 97 [nodeA t] none (nodeA (simT t)) none none:=by
  intro n
  induction n with
  | zero=>intro t ht;have:=cnt_pos t;omega
  | succ n ih =>
  intro t ht hc hok
  obtain ⟨k,a,b,c,d,mn,mx,subs⟩:=t
  have hR:=okT_R hok
  have hoks:=okT_subs hok
  have hpl:=okT_plain hok
  have ih' : ∀ i (h : i < subs.length),Good Try.prog 97 [nodeA subs[i]] none (nodeA (simT subs[i])) none none:=by
    intro i h
    refine ih _ ?_ (by omega) (okL_get subs i h hoks)
    have:=cntL_get subs i h
    simp only [T.cnt] at ht
    omega
  have hlen : subs.length≤300000:=by
    have:=cntL_len subs
    simp only [T.cnt] at ht
    omega
  have hcs:=simL_cnt subs hoks
  have hso:=simL_ok subs hoks
  have hsl:=simL_len subs
  have hcc : cntL (simL subs)≤300000:=by simp only [T.cnt] at ht;omega
  have h92:=cat53_good (simL subs) (by omega)
  have h93:=alt54_good (simL subs) (by omega) (fun u hu=>okT_S ((okL_iff _).1 (okL_flat 4 hso) u hu))
  have e0 : nodeA (.node k a b c d mn mx subs)=.agg [.i k,.d (.val (.int .u64 a)),.d (.val (.int .u64 b)),.d (.val (.int .u64 c)),.d (.val (.int .u64 d)),.i mn,.i mx,.d (.sl (encL subs) subs.length)]:=rfl
  have h94 : ∀ x r,simL subs=x :: r→k=5→Good Try.prog 55 [nodeA x,.i mn,.i mx] none (nodeA (repS x mn mx)) none none:=by
    intro x r e h5
    have:=hR h5
    refine rep55_good 1000000 x ?_ (by omega) mn mx (by unfold inW;omega) (by unfold inW;omega)
    rw [e,cntL] at hcc;omega
  have hk5 : k=5→0 < subs.length:=fun h5=>by
    subst h5
    obtain ⟨u,rfl⟩:=plainT_5 hpl
    simp
  clear ih ht hcs hso hok hoks hpl hcc hR
  rw [e0,simT]
  refine b97 (by simp) (by simp) (w_init ?_)
  unfold x97
  repeat' (first|(apply r_mvV;rfl)|(apply r_faddL;rfl)|(apply r_ldL;rfl;rfl;rfl)|(apply r_lenD;rfl)|(apply r_alloc;((conv=>lhs;simp only [Nat.reduceAdd])<;>rfl);rfl)|(apply r_box;((conv=>lhs;simp only [Nat.reduceAdd])<;>rfl);rfl;rfl;rfl)|(apply r_nilK)|(apply k_V;rfl)|(apply k_PL;rfl)|(apply k_S;rfl)|(apply k_nil)|(apply w_seq)|(apply w_ops;((conv=>lhs;simp only [Nat.reduceAdd])<;>rfl))|(apply e_thenN)|(apply w_block))
  apply w_loopI (S:=fun i : Nat=>⟨(((((Fr.nil.put 1 (.ptrL 1 0)).put 2 (.ptrL 2 0)).put 3 (.slL 50 0 i 8)).put 7 (.d (.sl (encL subs) subs.length))).put 8 (.i subs.length)).put 9 (.i i),rowsOf [(1,[.i k,.d (.val (.int .u64 a)),.d (.val (.int .u64 b)),.d (.val (.int .u64 c)),.d (.val (.int .u64 d)),.i mn,.i mx,.d (.sl (encL subs) subs.length)]),(2,zeroA zsN),(50,(encL ((simL subs).take i)).map AV.d)],Frz.buts 100 [2,50],100⟩) (m:=fun i=>subs.length - i) (I:=fun i=>i≤subs.length) (i0:=0)
  · exact Nat.zero_le _
  · refine wkM [] [50] rfl ?_ ?_ rfl ?_
    · intro p hp
      simp only [List.mem_cons,List.not_mem_nil,or_false] at hp
      rcases hp with rfl | rfl | rfl
      · exact ⟨by omega,.inr ⟨rfl,_,rfl,.data rfl⟩⟩
      · exact ⟨by omega,.inr ⟨rfl,_,rfl,.data rfl⟩⟩
      · exact ⟨by omega,.inl ⟨rfl,rfl⟩⟩
    · intro q hq;simp only [List.mem_cons,List.not_mem_nil,or_false] at hq;rcases hq with rfl | rfl<;>rfl
    · repeat' (first|exact FWk.nil|(apply FWk.i;rfl;(first|rfl|omega|(simp;done)))|(apply FWk.ptr;rfl;rfl;rfl;omega;rfl)|(apply FWk.d;rfl;rfl)|(apply FWk.slN;rfl;omega;rfl))
  intro i K hi hK
  dsimp only
  rcases Nat.lt_or_ge i subs.length with hlt | hge
  · have hs:=NodeAt.sub hlt
    have hg:=ih' i hlt
    have htk:=simL_take subs i hlt
    have hna : [nodeA subs[i]].all AV.nrm=true:=by rw [List.all_cons,nodeA_nrm];rfl
    generalize simT subs[i]=u at hg htk
    generalize subs[i]=v at hs hg hna
    obtain ⟨k2,a2,b2,c2,d2,mn2,mx2,subs2⟩:=v
    have e2 : nodeA (.node k2 a2 b2 c2 d2 mn2 mx2 subs2)=.agg [.i k2,.d (.val (.int .u64 a2)),.d (.val (.int .u64 b2)),.d (.val (.int .u64 c2)),.d (.val (.int .u64 d2)),.i mn2,.i mx2,.d (.sl (encL subs2) subs2.length)]:=rfl
    rw [e2] at hg hna
    repeat' (first|(apply r_mvV;rfl)|(apply r_mvSL;rfl)|(apply r_p;apply ix_sub;rfl;rfl;omega)|(apply r_l (v:=.agg [.i k2,.d (.val (.int .u64 a2)),.d (.val (.int .u64 b2)),.d (.val (.int .u64 c2)),.d (.val (.int .u64 d2)),.i mn2,.i mx2,.d (.sl (encL subs2) subs2.length)]);exact ld_node hs rfl)|(apply r_ldL (v:=.agg [.i k2,.d (.val (.int .u64 a2)),.d (.val (.int .u64 b2)),.d (.val (.int .u64 c2)),.d (.val (.int .u64 d2)),.i mn2,.i mx2,.d (.sl (encL subs2) subs2.length)]);rfl;rfl;rfl)|(apply r_callA (ags:=[.agg [.i k2,.d (.val (.int .u64 a2)),.d (.val (.int .u64 b2)),.d (.val (.int .u64 c2)),.d (.val (.int .u64 d2)),.i mn2,.i mx2,.d (.sl (encL subs2) subs2.length)]]);rfl;exact hna;exact hg)|(apply r_mkN (t:=u) (id:=108);rfl;rfl)|(apply r_appE (b:=50) (c:=108) (id:=109) (K:=(simL subs).take i) (L:=[u]) (m:=i) (j:=1);rfl;rfl;rfl;rfl;(rw [List.length_take];omega);rfl;rfl;rfl;omega)|(apply r_lss;rfl;rfl;(first|(apply dT;omega)|(apply dF;omega)|rfl))|(apply r_add;rfl;rfl;rfl;omega)|(apply r_alloc;((conv=>lhs;simp only [Nat.reduceAdd])<;>rfl);rfl)|(apply r_stL;rfl;rfl;rfl;rfl;(first|rfl|(simp only [z_nil,z_add]<;>rfl));rfl;rfl)|(apply r_nilK)|(apply k_V;rfl)|(apply k_PL;rfl)|(apply k_S;rfl)|(apply k_SL;rfl)|(apply k_nil)|(apply w_seq)|(apply w_ops;((conv=>lhs;simp only [Nat.reduceAdd])<;>rfl))|(apply w_condT;rfl)|(apply e_thenN)|(apply w_block)|(apply e_blkN)|(apply w_skip))
    apply e_thenK
    apply hK (i + 1)
    · omega
    · omega
    · rw [htk]
      refine wkM [(50,109)] [] rfl ?_ ?_ rfl ?_
      · intro p hp
        simp only [List.mem_cons,List.not_mem_nil,or_false] at hp
        rcases hp with rfl | rfl | rfl
        · exact ⟨by omega,.inr ⟨rfl,_,rfl,.data rfl⟩⟩
        · exact ⟨by omega,.inr ⟨rfl,_,rfl,.data rfl⟩⟩
        · exact ⟨by omega,.inr ⟨rfl,_,rfl,.data (isD_encL _)⟩⟩
      · intro q hq;simp only [List.mem_cons,List.not_mem_nil,or_false] at hq;rcases hq with rfl | rfl<;>rfl
      · repeat' (first|exact FWk.nil|(apply FWk.i;rfl;(first|rfl|omega|(simp;done)))|(apply FWk.sl;rfl;rfl;rfl;rfl;omega;rfl)|(apply FWk.ptr;rfl;rfl;rfl;omega;rfl)|(apply FWk.d;rfl;rfl))
  have ei : i=subs.length:=by omega
  subst ei
  rw [List.take_of_length_le (by omega)]
  clear hK hge ih' hi
  generalize simL subs=L at hsl h92 h93 h94 ⊢
  rw [hsl] at h92 h93
  by_cases h3 : k=3
  · rw [if_pos h3]
    generalize catS L=u at h92
    obtain ⟨k2,a2,b2,c2,d2,mn2,mx2,subs2⟩:=u
    match L,hsl with
    | [],hsl =>
      simp only [List.length_nil] at hsl
      rw [← hsl] at h92 ⊢
      repeat' (first|(apply r_mvV;rfl)|(apply r_mvSL;rfl)|(apply r_faddL;rfl)|(apply r_callS2 (pre:=[]) (pre':=[]) (post:=[]) (post':=[]) (b:=50) (L:=[]) (us:=[]);rfl;rfl;rfl;rfl;rfl;exact h92;rfl)|(apply r_ldL;rfl;rfl;rfl)|(apply r_eql;rfl;rfl;(first|(apply dT;omega)|(apply dF;omega)|rfl))|(apply r_lss;rfl;rfl;(first|(apply dT;omega)|(apply dF;omega)|rfl))|(apply r_stL;rfl;rfl;rfl;rfl;(first|rfl|(simp only [z_nil,z_add]<;>rfl));rfl;rfl)|(apply r_nilK)|(apply k_V;rfl)|(apply k_PL;rfl)|(apply k_S;rfl)|(apply k_SL;rfl)|(apply k_nil)|(apply e_ret;rfl)|(apply w_seq)|(apply w_ops;((conv=>lhs;simp only [Nat.reduceAdd])<;>rfl))|(apply w_condT;rfl)|(apply w_condF;rfl)|(apply e_thenN)|(apply w_block)|(apply e_thenR)|(apply e_thenX)|(apply e_blkR)|(apply e_blkE)|(apply w_exit)|(apply w_ret))
      exact .data _ rfl
    | x :: r,hsl =>
      simp only [List.length_cons] at hsl
      rw [← hsl] at h92 ⊢
      repeat' (first|(apply r_mvV;rfl)|(apply r_mvSL;rfl)|(apply r_faddL;rfl)|(apply r_callS2 (pre:=[]) (pre':=[]) (post:=[]) (post':=[]) (b:=50) (L:=x :: r) (us:=[50]);rfl;rfl;rfl;rfl;rfl;exact h92;rfl)|(apply r_ldL;rfl;rfl;rfl)|(apply r_eql;rfl;rfl;(first|(apply dT;omega)|(apply dF;omega)|rfl))|(apply r_lss;rfl;rfl;(first|(apply dT;omega)|(apply dF;omega)|rfl))|(apply r_stL;rfl;rfl;rfl;rfl;(first|rfl|(simp only [z_nil,z_add]<;>rfl));rfl;rfl)|(apply r_nilK)|(apply k_V;rfl)|(apply k_PL;rfl)|(apply k_S;rfl)|(apply k_SL;rfl)|(apply k_nil)|(apply e_ret;rfl)|(apply w_seq)|(apply w_ops;((conv=>lhs;simp only [Nat.reduceAdd])<;>rfl))|(apply w_condT;rfl)|(apply w_condF;rfl)|(apply e_thenN)|(apply w_block)|(apply e_thenR)|(apply e_thenX)|(apply e_blkR)|(apply e_blkE)|(apply w_exit)|(apply w_ret))
      exact .data _ rfl
  rw [if_neg h3]
  by_cases h4 : k=4
  · rw [if_pos h4]
    generalize altS L=u at h93
    obtain ⟨k2,a2,b2,c2,d2,mn2,mx2,subs2⟩:=u
    match L,hsl with
    | [],hsl =>
      simp only [List.length_nil] at hsl
      rw [← hsl] at h93 ⊢
      repeat' (first|(apply r_mvV;rfl)|(apply r_mvSL;rfl)|(apply r_faddL;rfl)|(apply r_callS2 (pre:=[]) (pre':=[]) (post:=[]) (post':=[]) (b:=50) (L:=[]) (us:=[]);rfl;rfl;rfl;rfl;rfl;exact h93;rfl)|(apply r_ldL;rfl;rfl;rfl)|(apply r_eql;rfl;rfl;(first|(apply dT;omega)|(apply dF;omega)|rfl))|(apply r_lss;rfl;rfl;(first|(apply dT;omega)|(apply dF;omega)|rfl))|(apply r_stL;rfl;rfl;rfl;rfl;(first|rfl|(simp only [z_nil,z_add]<;>rfl));rfl;rfl)|(apply r_nilK)|(apply k_V;rfl)|(apply k_PL;rfl)|(apply k_S;rfl)|(apply k_SL;rfl)|(apply k_nil)|(apply e_ret;rfl)|(apply w_seq)|(apply w_ops;((conv=>lhs;simp only [Nat.reduceAdd])<;>rfl))|(apply w_condT;rfl)|(apply w_condF;rfl)|(apply e_thenN)|(apply w_block)|(apply e_thenR)|(apply e_thenX)|(apply e_blkR)|(apply e_blkE)|(apply w_exit)|(apply w_ret))
      exact .data _ rfl
    | x :: r,hsl =>
      simp only [List.length_cons] at hsl
      rw [← hsl] at h93 ⊢
      repeat' (first|(apply r_mvV;rfl)|(apply r_mvSL;rfl)|(apply r_faddL;rfl)|(apply r_callS2 (pre:=[]) (pre':=[]) (post:=[]) (post':=[]) (b:=50) (L:=x :: r) (us:=[50]);rfl;rfl;rfl;rfl;rfl;exact h93;rfl)|(apply r_ldL;rfl;rfl;rfl)|(apply r_eql;rfl;rfl;(first|(apply dT;omega)|(apply dF;omega)|rfl))|(apply r_lss;rfl;rfl;(first|(apply dT;omega)|(apply dF;omega)|rfl))|(apply r_stL;rfl;rfl;rfl;rfl;(first|rfl|(simp only [z_nil,z_add]<;>rfl));rfl;rfl)|(apply r_nilK)|(apply k_V;rfl)|(apply k_PL;rfl)|(apply k_S;rfl)|(apply k_SL;rfl)|(apply k_nil)|(apply e_ret;rfl)|(apply w_seq)|(apply w_ops;((conv=>lhs;simp only [Nat.reduceAdd])<;>rfl))|(apply w_condT;rfl)|(apply w_condF;rfl)|(apply e_thenN)|(apply w_block)|(apply e_thenR)|(apply e_thenX)|(apply e_blkR)|(apply e_blkE)|(apply w_exit)|(apply w_ret))
      exact .data _ rfl
  rw [if_neg h4]
  by_cases h5 : k=5
  · rw [if_pos h5]
    have:=hk5 h5
    match L,hsl,h94 with
    | [],hsl,_=>simp only [List.length_nil] at hsl;omega
    | x :: r,hsl,h94 =>
      have h94:=h94 x r rfl h5
      rw [List.headD_cons]
      have hna : [nodeA x,.i mn,.i mx].all AV.nrm=true:=by rw [List.all_cons,nodeA_nrm];rfl
      generalize repS x mn mx=u at h94
      obtain ⟨k2,a2,b2,c2,d2,mn2,mx2,subs2⟩:=u
      have hs : NodeAt (encL (x :: r)) (0 * 8) x:=NodeAt.sub (l:=x :: r) (i:=0) (by simp)
      repeat' (first|(apply r_mvV;rfl)|(apply r_mvSL;rfl)|(apply r_faddL;rfl)|(apply r_ixN (j:=0);rfl;rfl;rfl;omega)|(apply r_ldN (t:=x);rfl;rfl;exact hs)|(apply r_callA (ags:=[nodeA x,.i mn,.i mx]);rfl;exact hna;exact h94)|(apply r_ldL;rfl;rfl;rfl)|(apply r_eql;rfl;rfl;(first|(apply dT;omega)|(apply dF;omega)|rfl))|(apply r_lss;rfl;rfl;(first|(apply dT;omega)|(apply dF;omega)|rfl))|(apply r_stL;rfl;rfl;rfl;rfl;(first|rfl|(simp only [z_nil,z_add]<;>rfl));rfl;rfl)|(apply r_nilK)|(apply k_V;rfl)|(apply k_PL;rfl)|(apply k_S;rfl)|(apply k_SL;rfl)|(apply k_nil)|(apply e_ret;rfl)|(apply w_seq)|(apply w_ops;((conv=>lhs;simp only [Nat.reduceAdd])<;>rfl))|(apply w_condT;rfl)|(apply w_condF;rfl)|(apply e_thenN)|(apply w_block)|(apply e_thenR)|(apply e_thenX)|(apply e_blkR)|(apply e_blkE)|(apply w_exit)|(apply w_ret))
      exact .data _ rfl
  · rw [if_neg h5]
    repeat' (first|(apply r_mvV;rfl)|(apply r_faddL;rfl)|(apply r_ldL (v:=.agg [.i k,.d (.val (.int .u64 a)),.d (.val (.int .u64 b)),.d (.val (.int .u64 c)),.d (.val (.int .u64 d)),.i mn,.i mx,.d (.sl (encL subs) subs.length)]);rfl;rfl;rfl)|(apply r_ldL;rfl;rfl;rfl)|(apply r_eql;rfl;rfl;(first|(apply dT;omega)|(apply dF;omega)|rfl))|(apply r_lss;rfl;rfl;(first|(apply dT;omega)|(apply dF;omega)|rfl))|(apply r_stL;rfl;rfl;rfl;rfl;(first|rfl|(simp only [z_nil,z_add]<;>rfl));rfl;rfl)|(apply r_nilK)|(apply k_V;rfl)|(apply k_PL;rfl)|(apply k_S;rfl)|(apply k_SL;rfl)|(apply k_nil)|(apply e_ret;rfl)|(apply w_seq)|(apply w_ops;((conv=>lhs;simp only [Nat.reduceAdd])<;>rfl))|(apply w_condF;rfl)|(apply e_thenN)|(apply w_block)|(apply e_thenX)|(apply e_blkN)|(apply e_blkE)|(apply w_exit)|(apply w_ret)|(apply w_skip))
    exact .data _ rfl
def sN (t : T) : T:=if fitsT t 12=true then simT t else zT
def sE (t : T) : Int:=if fitsT t 12=true then 0 else 1
theorem Simple46_good (t : T) (hc : t.cnt≤300000) (hok : fitsT t 12=true→okT t) : Good Try.prog 46 [nodeA t] none (.tup [nodeA (sN t),.i (sE t)]) none none:=by
  have hright:=right_good t (by omega)
  rcases Bool.eq_false_or_eq_true (fitsT t 12) with hR | hR
  case inr =>
    have e1 : sE t=1:=by simp [sE,hR]
    have e2 : sN t=zT:=by simp [sN,hR]
    rw [e1,e2]
    rw [hR] at hright
    clear e1 e2 hok hc hR
    obtain ⟨k,a,b,c,d,mn,mx,subs⟩:=t
    have e0 : nodeA (.node k a b c d mn mx subs)=.agg [.i k,.d (.val (.int .u64 a)),.d (.val (.int .u64 b)),.d (.val (.int .u64 c)),.d (.val (.int .u64 d)),.i mn,.i mx,.d (.sl (encL subs) subs.length)]:=rfl
    rw [e0] at hright ⊢
    refine b46 (by simp) (by simp) (w_init ?_)
    unfold x46
    repeat' (first|(apply r_mvV;rfl)|(apply r_callA;rfl;rfl;exact hright)|(apply r_p (v:=.agg [.i 0,.d (.val (.int .u64 0)),.d (.val (.int .u64 0)),.d (.val (.int .u64 0)),.d (.val (.int .u64 0)),.i 0,.i 0,.d (.val (.slice none 0 0))]);rfl)|(apply r_ldL;rfl;rfl;rfl)|(apply r_not;rfl;rfl)|(apply r_alloc;((conv=>lhs;simp only [Nat.reduceAdd])<;>rfl);rfl)|(apply r_box;((conv=>lhs;simp only [Nat.reduceAdd])<;>rfl);rfl;rfl;rfl)|(apply r_stL;rfl;rfl;rfl;rfl;(first|rfl|(simp only [z_nil,z_add]<;>rfl));rfl;rfl)|(apply r_nilK)|(apply k_V;rfl)|(apply k_PL;rfl)|(apply k_nil)|(apply e_ret;rfl)|(apply w_seq)|(apply w_ops;((conv=>lhs;simp only [Nat.reduceAdd])<;>rfl))|(apply w_condT;rfl)|(apply e_thenN)|(apply e_thenR)|(apply w_ret))
    exact .data _ rfl
  have hs:=simple97_good 300000 t hc (by omega) (hok hR)
  have e1 : sE t=0:=by simp [sE,hR]
  have e2 : sN t=simT t:=by simp [sN,hR]
  rw [e1,e2]
  rw [hR] at hright
  generalize simT t=u at hs
  clear e1 e2 hok hc hR
  obtain ⟨k2,a2,b2,c2,d2,mn2,mx2,subs2⟩:=u
  obtain ⟨k,a,b,c,d,mn,mx,subs⟩:=t
  have e0 : nodeA (.node k a b c d mn mx subs)=.agg [.i k,.d (.val (.int .u64 a)),.d (.val (.int .u64 b)),.d (.val (.int .u64 c)),.d (.val (.int .u64 d)),.i mn,.i mx,.d (.sl (encL subs) subs.length)]:=rfl
  rw [e0] at hright hs ⊢
  refine b46 (by simp) (by simp) (w_init ?_)
  unfold x46
  repeat' (first|(apply r_mvV;rfl)|(apply r_callA;rfl;rfl;exact hright)|(apply r_callA;rfl;rfl;exact hs)|(apply r_ldL;rfl;rfl;rfl)|(apply r_not;rfl;rfl)|(apply r_alloc;((conv=>lhs;simp only [Nat.reduceAdd])<;>rfl);rfl)|(apply r_box;((conv=>lhs;simp only [Nat.reduceAdd])<;>rfl);rfl;rfl;rfl)|(apply r_stL;rfl;rfl;rfl;rfl;(first|rfl|(simp only [z_nil,z_add]<;>rfl));rfl;rfl)|(apply r_nilK)|(apply k_V;rfl)|(apply k_PL;rfl)|(apply k_nil)|(apply e_ret;rfl)|(apply w_seq)|(apply w_ops;((conv=>lhs;simp only [Nat.reduceAdd])<;>rfl))|(apply w_condF;rfl)|(apply e_thenN)|(apply w_ret)|(apply w_skip))
  exact .data _ rfl
end Go.Sv
namespace Go.Sv
open Go Go.Proofs
set_option maxRecDepth 100000
end Go.Sv
namespace Go.Sv
open Go
end Go.Sv
namespace Go.Sv
open Go
mutual
def nnT : T→Bool
  | .node k a b c d mn mx subs=>if k=2 then isZero a b c d else if k=3 then nnAny subs else if k=4 then nnAll subs else if k=5 then decide (0 < mn) && nnFst subs else false
def nnAny : List T→Bool
  | []=>false
  | t :: l=>nnT t || nnAny l
def nnAll : List T→Bool
  | []=>true
  | t :: l=>nnT t && nnAll l
def nnFst : List T→Bool
  | []=>false
  | t :: _=>nnT t
end
theorem nnAny_drop (l : List T) (i : Nat) (h : i < l.length) : nnAny (l.drop i)=(nnT l[i] || nnAny (l.drop (i + 1))):=by
  rw [List.drop_eq_getElem_cons h,nnAny]
theorem nnAll_drop (l : List T) (i : Nat) (h : i < l.length) : nnAll (l.drop i)=(nnT l[i] && nnAll (l.drop (i + 1))):=by
  rw [List.drop_eq_getElem_cons h,nnAll]
theorem zero_iff {a b c d : Int} (ha : okW a) (hb : okW b) (hc : okW c) (hd : okW d) : isZero a b c d=true↔∀ x,x < 256→inG a b c d x=false:=by
  constructor
  · intro h
    simp [isZero] at h
    obtain ⟨rfl,rfl,rfl,rfl⟩:=h
    exact fun x _=>inG_0 x
  · intro h
    have key : ∀ (w : Int) (j : Nat),okW w→[a,b,c,d][j]?=some w→j < 4→w=0:=by
      intro w j hw hj hlt
      obtain ⟨n,rfl,hn⟩:=okW_nat hw
      have : n=0:=by
        refine Nat.eq_of_testBit_eq fun i=>?_
        rw [Nat.zero_testBit]
        rcases Nat.lt_or_ge i 64 with hi | hi
        · have:=h (64 * j + i) (by omega)
          unfold inG at this
          rw [show (64 * j + i) / 64=j by omega,List.getD_eq_getElem?_getD,hj,Option.getD_some,bitG_nat,show (64 * j + i) % 64=i by omega] at this
          exact this
        · exact Nat.testBit_lt_two_pow (Nat.lt_of_lt_of_le hn (Nat.pow_le_pow_right (by omega) hi))
      omega
    have e0:=key a 0 ha rfl (by omega)
    have e1:=key b 1 hb rfl (by omega)
    have e2:=key c 2 hc rfl (by omega)
    have e3:=key d 3 hd rfl (by omega)
    simp [isZero,e0,e1,e2,e3]
theorem inG_lt {a b c d : Int} {x : Nat} (h : inG a b c d x=true) : x < 256:=by
  rcases Nat.lt_or_ge x 256 with h1 | h1
  · exact h1
  · unfold inG at h
    rw [List.getD_eq_getElem?_getD,List.getElem?_eq_none (by simp;omega),Option.getD_none,bitG_0] at h
    cases h
mutual
theorem nnT_L : ∀ t : T,okT t→(nnT t=true↔∀ w,¬ L t w)
  | .node k a b c d mn mx subs,ho=>by
    have hs:=okT_subs ho
    have hp:=okT_plain ho
    have hR:=okT_R ho
    have h3:=nnAny_L subs hs
    have h4:=nnAll_L subs hs
    have h5:=nnFst_L subs hs
    have hS:=okT_S ho
    rw [nnT]
    by_cases k2 : k=2
    · rw [if_pos k2]
      subst k2
      rw [zero_iff hS.1 hS.2.1 hS.2.2.1 hS.2.2.2]
      constructor
      · intro h w hw
        rw [L_k2] at hw
        obtain ⟨x,_,hx⟩:=hw
        rw [h x (inG_lt hx)] at hx;cases hx
      · intro h x _
        cases e : inG a b c d x with
        | false=>rfl
        | true=>exact absurd (L_k2.2 ⟨x,rfl,e⟩) (h [x])
    rw [if_neg k2]
    by_cases k3 : k=3
    · rw [if_pos k3]
      subst k3
      rw [h3]
      simp only [L_k3]
    rw [if_neg k3]
    by_cases k4 : k=4
    · rw [if_pos k4]
      subst k4
      rw [h4]
      simp only [L_k4]
    rw [if_neg k4]
    by_cases k5 : k=5
    · rw [if_pos k5]
      subst k5
      obtain ⟨u,rfl⟩:=plainT_5 hp
      obtain ⟨hm,hm2⟩:=hR rfl
      have h5:=h5 (by simp)
      rw [Bool.and_eq_true,h5,decide_eq_true_eq]
      constructor
      · rintro ⟨h1,h2⟩ w hw
        rw [L_k5] at hw
        obtain ⟨r,g1,g2,g3⟩:=hw
        exact powL_no h2 (by omega) w g3
      · intro h
        constructor
        · rcases Int.lt_or_le 0 mn with h1 | h1
          · exact h1
          · exfalso
            refine h [] ?_
            rw [L_k5]
            exact ⟨0,by omega,by omega,rfl⟩
        · intro w hw
          obtain ⟨m,rfl⟩:=Int.eq_ofNat_of_zero_le hm.1
          have : ∀ r : Nat,∃ v,powL (fstL [u]) r v:=by
            intro r
            induction r with
            | zero=>exact ⟨[],rfl⟩
            | succ r ih =>
              obtain ⟨v,hv⟩:=ih
              exact ⟨w++v,w,v,rfl,hw,hv⟩
          obtain ⟨v,hv⟩:=this m
          refine h v ?_
          rw [L_k5]
          exact ⟨m,by omega,by omega,hv⟩
    · rw [if_neg k5]
      have k1 : k=1:=by have:=(plainT_kind hp).1;omega
      subst k1
      constructor
      · intro h;cases h
      · intro h;exact absurd (L_k1.2 rfl) (h [])
theorem nnAny_L : ∀ l : List T,okL l→(nnAny l=true↔∀ w,¬ catL l w)
  | [],_=>by
    constructor
    · intro h;cases h
    · intro h;exact absurd rfl (h [])
  | t :: l,ho=>by
    simp only [okL] at ho
    have h1:=nnT_L t ho.1
    have h2:=nnAny_L l ho.2
    rw [nnAny,Bool.or_eq_true,h1,h2]
    constructor
    · rintro (h | h) w ⟨u,v,_,hu,hv⟩
      · exact h u hu
      · exact h v hv
    · intro h
      by_cases hn : ∀ w,¬ L t w
      · exact .inl hn
      · right
        intro v hv
        have : ∃ u,L t u:=Classical.byContradiction fun hc=>hn fun w hw=>hc ⟨w,hw⟩
        obtain ⟨u,hu⟩:=this
        exact h (u++v) ⟨u,v,rfl,hu,hv⟩
theorem nnAll_L : ∀ l : List T,okL l→(nnAll l=true↔∀ w,¬ altL l w)
  | [],_=>by simp [nnAll,altL]
  | t :: l,ho=>by
    simp only [okL] at ho
    rw [nnAll,Bool.and_eq_true,nnT_L t ho.1,nnAll_L l ho.2]
    simp only [altL,not_or]
    exact ⟨fun h w=>⟨h.1 w,h.2 w⟩,fun h=>⟨fun w=>(h w).1,fun w=>(h w).2⟩⟩
theorem nnFst_L : ∀ l : List T,okL l→l ≠ []→(nnFst l=true↔∀ w,¬ fstL l w)
  | [],_,h=>absurd rfl h
  | t :: l,ho,_=>by
    simp only [okL] at ho
    rw [nnFst,nnT_L t ho.1]
    simp only [fstL]
end
noncomputable def lenS (P : List Nat→Prop) (m : Nat) : List Bool:=(List.range (m + 1)).map fun k=>@decide (∃ w,P w∧w.length=k) (Classical.propDecidable _)
theorem lenS_len (P : List Nat→Prop) (m : Nat) : (lenS P m).length=m + 1:=by simp [lenS]
theorem at_lenS (P : List Nat→Prop) (m k : Nat) : At (lenS P m) k↔k≤m∧∃ w,P w∧w.length=k:=by
  unfold At lenS
  rw [List.getD_eq_getElem?_getD,List.getElem?_map]
  rcases Nat.lt_or_ge k (m + 1) with h | h
  · rw [List.getElem?_range h]
    simp only [Option.map_some,Option.getD_some,decide_eq_true_eq]
    exact ⟨fun h2=>⟨by omega,h2⟩,fun h2=>h2.2⟩
  · rw [List.getElem?_eq_none (by simpa using h)]
    simp only [Option.map_none,Option.getD_none,Bool.false_eq_true,false_iff]
    omega
theorem lenS_eq {P : List Nat→Prop} {m : Nat} {p : List Bool} (hl : p.length=m + 1) (h : ∀ k,k≤m→(At p k↔∃ w,P w∧w.length=k)) : p=lenS P m:=by
  refine at_ext (by rw [hl,lenS_len]) fun k=>?_
  rw [at_lenS]
  constructor
  · intro hk
    have:=hk.lt
    exact ⟨by omega,(h k (by omega)).1 hk⟩
  · rintro ⟨h1,h2⟩;exact (h k h1).2 h2
theorem lenS_congr {P Q : List Nat→Prop} (h : ∀ w,P w↔Q w) (m : Nat) : lenS P m=lenS Q m:=by
  have : P=Q:=funext fun w=>propext (h w)
  rw [this]
def joinB (a b : List Bool) : List Bool:=(List.range a.length).map fun n=>(List.range (n + 1)).any fun i=>a.getD i false && b.getD (n - i) false
theorem joinB_len (a b : List Bool) : (joinB a b).length=a.length:=by simp [joinB]
theorem at_joinB (a b : List Bool) (n : Nat) : At (joinB a b) n↔n < a.length∧∃ i,i≤n∧At a i∧At b (n - i):=by
  unfold At joinB
  rw [List.getD_eq_getElem?_getD,List.getElem?_map]
  rcases Nat.lt_or_ge n a.length with h | h
  · rw [List.getElem?_range h]
    simp only [Option.map_some,Option.getD_some,List.any_eq_true,List.mem_range,Bool.and_eq_true]
    constructor
    · rintro ⟨i,h1,h2,h3⟩;exact ⟨h,i,by omega,h2,h3⟩
    · rintro ⟨_,i,h1,h2,h3⟩;exact ⟨i,by omega,h2,h3⟩
  · rw [List.getElem?_eq_none (by simpa using h)]
    simp only [Option.map_none,Option.getD_none,Bool.false_eq_true,false_iff]
    omega
theorem joinB_eq {a b p : List Bool} (hl : p.length=a.length) (h : ∀ n,n < a.length→(At p n↔∃ i,i≤n∧At a i∧At b (n - i))) : p=joinB a b:=by
  refine at_ext (by rw [hl,joinB_len]) fun n=>?_
  rw [at_joinB]
  constructor
  · intro hn
    have:=hn.lt
    exact ⟨by omega,(h n (by omega)).1 hn⟩
  · rintro ⟨h1,h2⟩;exact (h n h1).2 h2
theorem joinB_lenS (P Q : List Nat→Prop) (m : Nat) : joinB (lenS P m) (lenS Q m)=lenS (fun w=>∃ u v,w=u++v∧P u∧Q v) m:=by
  refine lenS_eq (by rw [joinB_len,lenS_len]) fun k hk=>?_
  rw [at_joinB,lenS_len]
  constructor
  · rintro ⟨_,i,h1,h2,h3⟩
    obtain ⟨_,u,hu,rfl⟩:=(at_lenS P m i).1 h2
    obtain ⟨_,v,hv,h4⟩:=(at_lenS Q m _).1 h3
    exact ⟨u++v,⟨u,v,rfl,hu,hv⟩,by rw [List.length_append];omega⟩
  · rintro ⟨w,⟨u,v,rfl,hu,hv⟩,h⟩
    rw [List.length_append] at h
    exact ⟨by omega,u.length,by omega,(at_lenS P m _).2 ⟨by omega,u,hu,rfl⟩,(at_lenS Q m _).2 ⟨by omega,v,hv,by omega⟩⟩
theorem powL_drop {P : List Nat→Prop} : ∀ (r : Nat) (w : List Nat),powL P (r + 1) w→w.length < r + 1→powL P r w
  | 0,w,⟨u,v,e,h1,h2⟩,hl=>by
    have : w=[]:=List.length_eq_zero_iff.1 (by omega)
    exact this
  | r + 1,w,⟨u,v,e,h1,h2⟩,hl=>by
    subst e
    rw [List.length_append] at hl
    rcases Nat.eq_zero_or_pos u.length with h0 | h0
    · have : u=[]:=List.length_eq_zero_iff.1 h0
      subst this
      exact h2
    · exact ⟨u,v,rfl,h1,powL_drop r v h2 (by omega)⟩
theorem powL_cut {P : List Nat→Prop} (w : List Nat) (q : Nat) (hq : w.length≤q) : ∀ r,q≤r→powL P r w→powL P q w:=by
  intro r
  induction r with
  | zero =>
    intro h hw
    have : q=0:=by omega
    subst this;exact hw
  | succ r ih =>
    intro h hw
    rcases Nat.lt_or_ge r q with h1 | h1
    · have : q=r + 1:=by omega
      subst this;exact hw
    · exact ih h1 (powL_drop r w hw (by omega))
noncomputable def firstL (P : List Nat→Prop) : List Nat:=(List.range 256).filter fun x=>@decide (∃ w,P (x :: w)) (Classical.propDecidable _)
theorem mem_firstL (P : List Nat→Prop) (x : Nat) : x ∈ firstL P↔x < 256∧∃ w,P (x :: w):=by
  simp only [firstL,List.mem_filter,List.mem_range,decide_eq_true_eq]
end Go.Sv
namespace Go.Sv
open Go
theorem setWs_same {l r : List Nat} (hl : ∀ x ∈ l,x < 256) (hr : ∀ x ∈ r,x < 256) (h : ∀ y,y < 256→(y ∈ l↔y ∈ r)) : setWs l=setWs r:=by
  obtain ⟨a1,a2⟩:=setWs_ok hl
  obtain ⟨b1,b2⟩:=setWs_ok hr
  refine words_ext a1 b1 fun y hy=>?_
  rw [Bool.eq_iff_iff,a2 y hy,b2 y hy]
  exact h y hy
theorem firstL_lt (P : List Nat→Prop) : ∀ x ∈ firstL P,x < 256:=fun x h=>((mem_firstL P x).1 h).1
theorem firstL_none {P : List Nat→Prop} (h : ∀ w,¬ P w) : firstL P=[]:=by
  rw [List.eq_nil_iff_forall_not_mem]
  intro x hx
  obtain ⟨_,w,hw⟩:=(mem_firstL P x).1 hx
  exact h _ hw
theorem first_eq {P : List Nat→Prop} {l : List Nat} (hl : ∀ x ∈ l,x < 256) (h : ∀ y,y < 256→(y ∈ l↔∃ w,P (y :: w))) : setWs l=setWs (firstL P):=by
  refine setWs_same hl (firstL_lt P) fun y hy=>?_
  rw [h y hy,mem_firstL]
  exact ⟨fun h=>⟨hy,h⟩,fun h=>h.2⟩
theorem catL_first : ∀ (l : List T),(∀ j (h : j < l.length),∃ w,L l[j] w)→∀ y,(∃ w,catL l (y :: w))↔∃ j,∃ h : j < l.length,(∀ i (hi : i < l.length),i < j→L l[i] [])∧∃ w,L l[j] (y :: w)
  | [],_,y=>by
    constructor
    · rintro ⟨w,h⟩;simp [catL] at h
    · rintro ⟨j,h,_⟩;simp at h
  | t :: l,hw,y=>by
    have ih:=catL_first l (fun j h=>hw (j + 1) (by simpa using h)) y
    constructor
    · rintro ⟨w,u,v,e,hu,hv⟩
      cases u with
      | nil =>
        simp only [List.nil_append] at e
        subst e
        obtain ⟨j,h,h1,h2⟩:=ih.1 ⟨w,hv⟩
        refine ⟨j + 1,by simpa using h,fun i hi hij=>?_,by simpa using h2⟩
        cases i with
        | zero=>exact hu
        | succ i=>exact h1 i (by simpa using hi) (by omega)
      | cons x u =>
        simp only [List.cons_append,List.cons.injEq] at e
        obtain ⟨rfl,rfl⟩:=e
        exact ⟨0,by simp,fun i _ h=>by omega,u,hu⟩
    · rintro ⟨j,h,h1,w,h2⟩
      cases j with
      | zero =>
        have : ∃ v,catL l v:=by
          clear ih h1 h h2
          induction l with
          | nil=>exact ⟨[],rfl⟩
          | cons t2 l ih2 =>
            obtain ⟨a,ha⟩:=hw 1 (by simp)
            obtain ⟨b,hb⟩:=ih2 (fun j h=>by
              cases j with
              | zero=>exact hw 0 (by simp)
              | succ j=>exact hw (j + 2) (by simpa using h))
            exact ⟨a++b,a,b,rfl,ha,hb⟩
        obtain ⟨v,hv⟩:=this
        exact ⟨w++v,y :: w,v,rfl,h2,hv⟩
      | succ j =>
        obtain ⟨w',hw'⟩:=ih.2 ⟨j,by simpa using h,fun i hi hij=>h1 (i + 1) (by simpa using hi) (by omega),w,by simpa using h2⟩
        exact ⟨w',[],y :: w',rfl,h1 0 (by simp) (by omega),hw'⟩
theorem altL_first (l : List T) (y : Nat) : (∃ w,altL l (y :: w))↔∃ j,∃ h : j < l.length,∃ w,L l[j] (y :: w):=by
  induction l with
  | nil =>
    constructor
    · rintro ⟨w,h⟩;exact h.elim
    · rintro ⟨j,h,_⟩;simp at h
  | cons t l ih =>
    constructor
    · rintro ⟨w,h | h⟩
      · exact ⟨0,by simp,w,h⟩
      · obtain ⟨j,hj,hw⟩:=ih.1 ⟨w,h⟩
        exact ⟨j + 1,by simpa using hj,by simpa using hw⟩
    · rintro ⟨j,hj,w,hw⟩
      cases j with
      | zero=>exact ⟨w,.inl hw⟩
      | succ j =>
        obtain ⟨w',h⟩:=ih.2 ⟨j,by simpa using hj,w,by simpa using hw⟩
        exact ⟨w',.inr h⟩
theorem powL_first {P : List Nat→Prop} {y : Nat} : ∀ (r : Nat) (w : List Nat),powL P r (y :: w)→∃ w',P (y :: w')
  | 0,w,h=>by simp [powL] at h
  | r + 1,w,⟨u,v,e,h1,h2⟩=>by
    cases u with
    | nil =>
      simp only [List.nil_append] at e
      subst e
      exact powL_first r w h2
    | cons x u =>
      simp only [List.cons_append,List.cons.injEq] at e
      obtain ⟨rfl,rfl⟩:=e
      exact ⟨u,h1⟩
theorem powL_some {P : List Nat→Prop} {w : List Nat} (h : P w) : ∀ r : Nat,∃ v,powL P r v
  | 0=>⟨[],rfl⟩
  | r + 1=>by
    obtain ⟨v,hv⟩:=powL_some h r
    exact ⟨w++v,w,v,rfl,h,hv⟩
theorem rep_first {P : List Nat→Prop} {mn mx : Int} (h0 : 0≤mn) (hm : mx=-1 ∨ mn≤mx) (hx : mx ≠ 0) (y : Nat) : (∃ w,∃ r : Nat,mn≤r∧(mx < 0 ∨ (r : Int)≤mx)∧powL P r (y :: w))↔∃ w,P (y :: w):=by
  constructor
  · rintro ⟨w,r,_,_,h⟩;exact powL_first r w h
  · rintro ⟨w,h⟩
    obtain ⟨m,rfl⟩:=Int.eq_ofNat_of_zero_le h0
    obtain ⟨v,hv⟩:=powL_some h (m - 1)
    refine ⟨w++v,(m - 1) + 1,by omega,by omega,y :: w,v,rfl,h,hv⟩
end Go.Sv
namespace Go.Sv
set_option linter.unusedVariables false

mutual
def nlT : T→Bool
  | .node k _ _ _ _ mn _ subs=>if k=1 then true else if k=3 then nlAll subs else if k=4 then nlAny subs else if k=5 then (decide (mn=0) || nlFst subs) else false
def nlAll : List T→Bool
  | []=>true
  | t :: l=>nlT t && nlAll l
def nlAny : List T→Bool
  | []=>false
  | t :: l=>nlT t || nlAny l
def nlFst : List T→Bool
  | []=>false
  | t :: _=>nlT t
end
theorem powL_nils {P : List Nat→Prop} (h : P []) : ∀ r,powL P r []
  | 0=>rfl
  | r + 1=>⟨[],[],rfl,h,powL_nils h r⟩
mutual
theorem nlT_L : ∀ t : T,okT t→(nlT t=true↔L t [])
  | .node k a b c d mn mx subs,ho=>by
    have hp:=okT_plain ho
    have hk:=(plainT_kind hp).1
    have hR:=okT_R ho
    have hs:=okT_subs ho
    rw [nlT]
    split
    · rename_i h;subst h;simp [L_k1]
    split
    · rename_i h;subst h;rw [L_k3];exact nlAll_L subs hs
    split
    · rename_i h;subst h;rw [L_k4];exact nlAny_L subs hs
    split
    · rename_i h;subst h
      obtain ⟨u,rfl⟩:=plainT_5 hp
      have hr:=hR rfl
      simp only [okL] at hs
      have hu:=nlT_L u hs.1
      rw [L_k5]
      simp only [nlFst,Bool.or_eq_true,decide_eq_true_eq]
      constructor
      · rintro (h | h)
        · exact ⟨0,by omega,by omega,rfl⟩
        · exact ⟨mn.toNat,by omega,by omega,powL_nils (by rw [fstL];exact hu.1 h) _⟩
      · rintro ⟨r,h1,h2,h3⟩
        cases r with
        | zero=>left;omega
        | succ r =>
          right
          obtain ⟨x,y,e,hx,_⟩:=h3
          have : x=[]:=(List.append_eq_nil_iff.1 e.symm).1
          subst this
          rw [fstL] at hx
          exact hu.2 hx
    · rename_i h1 h3 h4 h5
      have : k=2:=by omega
      subst this
      rw [L_k2];simp
theorem nlAll_L : ∀ l : List T,okL l→(nlAll l=true↔catL l [])
  | [],_=>by simp [nlAll,catL]
  | t :: l,h=>by
    simp only [okL] at h
    simp only [nlAll,Bool.and_eq_true,nlT_L t h.1,nlAll_L l h.2,catL]
    constructor
    · rintro ⟨h1,h2⟩;exact ⟨[],[],rfl,h1,h2⟩
    · rintro ⟨u,v,e,h1,h2⟩
      obtain ⟨rfl,rfl⟩:=List.append_eq_nil_iff.1 e.symm
      exact ⟨h1,h2⟩
theorem nlAny_L : ∀ l : List T,okL l→(nlAny l=true↔altL l [])
  | [],_=>by simp [nlAny,altL]
  | t :: l,h=>by
    simp only [okL] at h
    simp only [nlAny,Bool.or_eq_true,nlT_L t h.1,nlAny_L l h.2,altL]
end

def rowD : List T→List T→T
  | t :: l,d :: ds=>if l.isEmpty=true then d else if nlT t=true then altS [catS (d :: l),rowD l ds] else catS (d :: l)
  | _,_=>noneT
def repD : List T→List T→Int→Int→T
  | u :: _,d :: _,mn,mx=>catS [d,repS u (max (mn - 1) 0) (if 0 < mx then mx - 1 else mx)]
  | _,_,_,_=>noneT
mutual
def byT (x : Nat) : T→T
  | .node k a b c d mn mx subs=>if k=2 then (if inG a b c d x=true then emptyT else noneT) else if k=3 then rowD subs (byL x subs) else if k=4 then altS (byL x subs) else if k=5 then (if mx=0 then noneT else repD subs (byL x subs) mn mx) else noneT
def byL (x : Nat) : List T→List T
  | []=>[]
  | t :: l=>byT x t :: byL x l
end
theorem byL_len (x : Nat) : ∀ l : List T,(byL x l).length=l.length
  | []=>rfl
  | t :: l=>by rw [byL,List.length_cons,byL_len x l,List.length_cons]
theorem byL_map (x : Nat) : ∀ l : List T,byL x l=l.map (byT x)
  | []=>rfl
  | t :: l=>by rw [byL,byL_map x l,List.map_cons]
theorem pow_cons {P : List Nat→Prop} {x : Nat} {w : List Nat} : ∀ r,powL P r (x :: w)→0 < r∧∃ u v,w=u++v∧P (x :: u)∧powL P (r - 1) v
  | 0,h=>by simp [powL] at h
  | r + 1,h=>by
    refine ⟨by omega,?_⟩
    obtain ⟨u,v,e,hu,hv⟩:=h
    cases u with
    | nil =>
      rw [List.nil_append] at e
      subst e
      obtain ⟨h0,p,q,e,hp,hq⟩:=pow_cons r hv
      refine ⟨p,q,e,hp,?_⟩
      have e2 : r + 1 - 1=(r - 1) + 1:=by omega
      rw [e2]
      exact ⟨[],q,rfl,hu,hq⟩
    | cons y u =>
      rw [List.cons_append] at e
      injection e with e1 e2
      subst e1 e2
      exact ⟨u,v,rfl,hu,hv⟩
theorem cat_cons {t : T} {l : List T} {x : Nat} {w : List Nat} : catL (t :: l) (x :: w)↔(∃ u v,w=u++v∧L t (x :: u)∧catL l v) ∨ (L t []∧catL l (x :: w)):=by
  rw [catL]
  constructor
  · rintro ⟨u,v,e,hu,hv⟩
    cases u with
    | nil=>rw [List.nil_append] at e;subst e;exact .inr ⟨hu,hv⟩
    | cons y u =>
      rw [List.cons_append] at e
      injection e with e1 e2
      subst e1 e2
      exact .inl ⟨u,v,rfl,hu,hv⟩
  · rintro (⟨u,v,rfl,hu,hv⟩ | ⟨hu,hv⟩)
    · exact ⟨x :: u,v,rfl,hu,hv⟩
    · exact ⟨[],x :: w,rfl,hu,hv⟩

def ByOK (x : Nat) (t d : T) : Prop:=okT d∧sfT d∧(∀ w,L d w↔L t (x :: w))∧d.cnt≤t.cnt * t.cnt
def ByOKL (x : Nat) : List T→List T→Prop
  | [],[]=>True
  | t :: l,d :: ds=>ByOK x t d∧ByOKL x l ds
  | _,_=>False
theorem sq_row {c S d : Nat} (hc : 0 < c) (hd : d≤c * c) : d≤(c + S + 1) * (c + S + 1)∧3 + d + S + (S + 1) * (S + 1)≤(c + S + 1) * (c + S + 1) + 1:=by
  have e : (c + S + 1) * (c + S + 1)=c * c + 2 * (c * S) + S * S + 2 * c + 2 * S + 1:=by
    simp only [Nat.add_mul,Nat.mul_add,Nat.mul_comm S c];omega
  have e2 : (S + 1) * (S + 1)=S * S + 2 * S + 1:=by simp only [Nat.add_mul,Nat.mul_add];omega
  have h1 : S≤c * S:=Nat.le_mul_of_pos_left S hc
  omega
theorem sq_mono {a b : Nat} (h : a≤b) : a * a≤b * b:=Nat.mul_le_mul h h
theorem rowD_ok (x : Nat) : ∀ (l ds : List T),okL l→sfL l→ByOKL x l ds→okT (rowD l ds)∧sfT (rowD l ds)∧(∀ w,L (rowD l ds) w↔catL l (x :: w))∧(rowD l ds).cnt≤(cntL l + 1) * (cntL l + 1)
  | [],[],_,_,_=>⟨okT_noneT,sf_none,fun w=>by simp [rowD,L_noneT,catL],by simp [rowD,noneT,T.cnt,cntL]⟩
  | [],_ :: _,_,_,h=>by simp [ByOKL] at h
  | _ :: _,[],_,_,h=>by simp [ByOKL] at h
  | t :: l,d :: ds,hl,hf,h=>by
    simp only [okL] at hl
    simp only [sfL] at hf
    obtain ⟨⟨g1,g2,g3,g4⟩,g5⟩:=h
    obtain ⟨i1,i2,i3,i4⟩:=rowD_ok x l ds hl.2 hf.2 g5
    have hsq:=sq_row (S:=cntL l) (cnt_pos t) g4
    have hcl:=cnt_cat (d :: l)
    have ho : okT (catS (d :: l)):=okT_cat ⟨g1,hl.2⟩
    have hs : sfT (catS (d :: l)):=sf_cat ⟨g2,hf.2⟩
    have hL : ∀ w,L (catS (d :: l)) w↔∃ u v,w=u++v∧L t (x :: u)∧catL l v:=fun w=>by
      rw [catS_L]
      simp only [catL,g3]
    simp only [cntL] at hcl ⊢
    simp only [rowD]
    split
    · rename_i he
      have : l=[]:=by simpa using he
      subst this
      refine ⟨g1,g2,fun w=>?_,hsq.1⟩
      rw [g3,catL_one]
    split
    · rename_i hn
      have hn':=(nlT_L t hl.1).1 hn
      have hoo : okL [catS (d :: l),rowD l ds]:=⟨ho,i1,trivial⟩
      refine ⟨okT_alt hoo,sf_alt ⟨hs,i2,trivial⟩ hoo,fun w=>?_,?_⟩
      · rw [altS_L _ (fun u hu=>okT_S ((okL_iff _).1 (okL_flat 4 hoo) u hu)),cat_cons]
        simp only [altL,hL,i3,or_false]
        constructor
        · rintro (h | h)
          · exact .inl h
          · exact .inr ⟨hn',h⟩
        · rintro (h | h)
          · exact .inl h
          · exact .inr h.2
      · have:=cnt_alt [catS (d :: l),rowD l ds]
        simp only [cntL] at this
        omega
    · rename_i hn
      refine ⟨ho,hs,fun w=>?_,?_⟩
      · rw [hL,cat_cons]
        have : ¬ L t []:=fun h=>hn ((nlT_L t hl.1).2 h)
        constructor
        · exact .inl
        · rintro (h | h)
          · exact h
          · exact absurd h.1 this
      · have:=Nat.le_mul_of_pos_left (cntL l + 1) (n:=cntL l + 1) (by omega)
        omega
theorem altD_L (x : Nat) : ∀ (l ds : List T),ByOKL x l ds→okL ds∧sfL ds∧(∀ w,altL ds w↔altL l (x :: w))∧cntL ds≤cntL l * cntL l
  | [],[],_=>⟨trivial,trivial,fun _=>Iff.rfl,by simp [cntL]⟩
  | [],_ :: _,h=>by simp [ByOKL] at h
  | _ :: _,[],h=>by simp [ByOKL] at h
  | t :: l,d :: ds,h=>by
    obtain ⟨⟨g1,g2,g3,g4⟩,g5⟩:=h
    obtain ⟨i1,i2,i3,i4⟩:=altD_L x l ds g5
    refine ⟨⟨g1,i1⟩,⟨g2,i2⟩,fun w=>by simp only [altL,g3,i3],?_⟩
    simp only [cntL,Nat.add_mul,Nat.mul_add]
    omega
mutual
theorem byT_ok (x : Nat) : ∀ t : T,okT t→sfT t→ByOK x t (byT x t)
  | .node k a b c d mn mx subs,ho,hf=>by
    have hp:=okT_plain ho
    have hk:=(plainT_kind hp).1
    have hR:=okT_R ho
    have hs:=okT_subs ho
    have hfs : sfL subs:=sfT_subs hf
    have hx:=byL_ok x subs hs hfs
    unfold ByOK
    rw [byT]
    have hnone : okT noneT∧sfT noneT∧(∀ w,L noneT w↔False)∧noneT.cnt≤(1 + cntL subs) * (1 + cntL subs):=⟨okT_noneT,sf_none,fun w=>by simp [L_noneT],by
      have : noneT.cnt=1:=rfl
      rw [this]
      exact Nat.mul_pos (by omega) (by omega)⟩
    rw [T.cnt]
    split
    · rename_i h;subst h
      split
      · rename_i hi
        refine ⟨okT_emptyT,sf_empty,fun w=>?_,hnone.2.2.2⟩
        rw [L_emptyT,L_k2]
        constructor
        · rintro rfl;exact ⟨x,rfl,hi⟩
        · rintro ⟨y,e,_⟩;injection e
      · rename_i hi
        refine ⟨hnone.1,hnone.2.1,fun w=>?_,hnone.2.2.2⟩
        rw [hnone.2.2.1,L_k2]
        constructor
        · exact False.elim
        · rintro ⟨y,e,h⟩;injection e with e1 _;subst e1;exact hi h
    split
    · rename_i h;subst h
      obtain ⟨g1,g2,g3,g4⟩:=rowD_ok x subs _ hs hfs hx
      refine ⟨g1,g2,fun w=>?_,by rw [Nat.add_comm];exact g4⟩
      rw [g3,L_k3]
    split
    · rename_i h;subst h
      obtain ⟨g1,g2,g3,g4⟩:=altD_L x subs _ hx
      refine ⟨okT_alt g1,sf_alt g2 g1,fun w=>?_,?_⟩
      · rw [altS_L _ (fun u hu=>okT_S ((okL_iff _).1 (okL_flat 4 g1) u hu)),g3,L_k4]
      · have:=cnt_alt (byL x subs)
        simp only [Nat.add_mul,Nat.mul_add]
        omega
    split
    · rename_i h;subst h
      obtain ⟨u,rfl⟩:=plainT_5 hp
      have hr:=hR rfl
      split
      · rename_i hm
        refine ⟨hnone.1,hnone.2.1,fun w=>?_,hnone.2.2.2⟩
        rw [hnone.2.2.1,L_k5]
        constructor
        · exact False.elim
        · rintro ⟨r,h1,h2,h3⟩
          have:=(pow_cons r h3).1
          omega
      · rename_i hm
        simp only [okL] at hs
        simp only [sfL] at hfs
        simp only [byL] at hx ⊢
        obtain ⟨g1,g2,g3,g4⟩:=hx.1
        have hlo : (0≤max (mn - 1) 0∧max (mn - 1) 0≤20)∧((if 0 < mx then mx - 1 else mx)=-1 ∨ (max (mn - 1) 0≤(if 0 < mx then mx - 1 else mx)∧(if 0 < mx then mx - 1 else mx)≤20)):=by
          split<;>omega
        have o1:=okT_rep u _ _ hs.1 hlo
        have s1:=sf_rep u (max (mn - 1) 0) (if 0 < mx then mx - 1 else mx) hs.1 hfs.1
        simp only [repD]
        refine ⟨okT_cat ⟨g1,o1,trivial⟩,sf_cat ⟨g2,s1,trivial⟩,fun w=>?_,?_⟩
        · rw [catS_L,L_k5]
          simp only [catL]
          have hq : ∀ w,L (repS u (max (mn - 1) 0) (if 0 < mx then mx - 1 else mx)) w↔_:=repS_L u _ _ hs.1 hfs.1 hlo.1.1 (by omega)
          have hfst : fstL [u]=L u:=by funext w;rw [fstL]
          rw [hfst]
          constructor
          · rintro ⟨p,q,rfl,h1,q1,q2,rfl,h2,rfl⟩
            rw [List.append_nil]
            obtain ⟨r,r1,r2,r3⟩:=(hq _).1 h2
            refine ⟨r + 1,by omega,?_,x :: p,q1,rfl,(g3 p).1 h1,r3⟩
            split at r2<;>omega
          · rintro ⟨r,r1,r2,r3⟩
            obtain ⟨h0,p,q,rfl,h1,h2⟩:=pow_cons r r3
            refine ⟨p,q,rfl,(g3 p).2 h1,q,[],by simp,(hq q).2 ⟨r - 1,by omega,?_,h2⟩,rfl⟩
            split<;>omega
        · have h1:=cnt_cat [byT x u,repS u (max (mn - 1) 0) (if 0 < mx then mx - 1 else mx)]
          have h2:=cnt_rep u (max (mn - 1) 0) (if 0 < mx then mx - 1 else mx)
          have h3:=cnt_pos u
          simp only [cntL,Nat.add_mul,Nat.mul_add] at h1 ⊢
          omega
    · rename_i h2 h3 h4 h5
      have : k=1:=by omega
      subst this
      refine ⟨hnone.1,hnone.2.1,fun w=>?_,hnone.2.2.2⟩
      rw [hnone.2.2.1,L_k1]
      simp
theorem byL_ok (x : Nat) : ∀ l : List T,okL l→sfL l→ByOKL x l (byL x l)
  | [],_,_=>trivial
  | t :: l,ho,hf=>by
    simp only [okL] at ho
    simp only [sfL] at hf
    exact ⟨byT_ok x t ho.1 hf.1,byL_ok x l ho.2 hf.2⟩
end
end Go.Sv
namespace Go.Sv
open Go Go.Proofs
def x7 : XC:=(.seq (.ops 2 [ (0,⟨some 4,none,.box (.t 0)⟩),(1,⟨some 8,none,.mv (.k (.d (.val (.bool false))))⟩)] (some [1,2,3,4])) (.seq (.seq (.ops 25 [ (0,⟨some 15,none,.call 29 [] none false⟩),(1,⟨some 16,none,.un .not (.t 15)⟩),(2,⟨some 17,none,.mv (.t 16)⟩),(3,⟨some 18,(some (17,false)),.load (some 8) (.t 4)⟩),(4,⟨some 19,(some (17,false)),.mv (.t 1)⟩),(5,⟨some 20,(some (17,false)),.mv (.t 2)⟩),(6,⟨some 21,(some (17,false)),.arith .add (.t 19) (.t 20)⟩),(7,⟨some 22,(some (17,false)),.call 30 [(.t 18),(.t 21)] none false⟩),(8,⟨some 23,(some (17,false)),.un .not (.t 22)⟩),(9,⟨some 24,none,.pick (.t 17) (.k (.d (.val (.bool true)))) (.t 23)⟩),(10,⟨some 25,none,.mv (.t 24)⟩),(11,⟨some 26,(some (25,false)),.load (some 8) (.t 4)⟩),(12,⟨some 27,(some (25,false)),.call 32 [(.t 26)] none false⟩),(13,⟨some 28,(some (25,false)),.un .not (.t 27)⟩),(14,⟨some 29,none,.pick (.t 25) (.k (.d (.val (.bool true)))) (.t 28)⟩),(15,⟨some 30,none,.mv (.t 29)⟩),(16,⟨some 31,(some (30,false)),.mv (.t 3)⟩),(17,⟨some 32,(some (30,false)),.arith .lss (.t 31) (.k (.d (.val (.int .i64 0))))⟩),(18,⟨some 33,none,.pick (.t 30) (.k (.d (.val (.bool true)))) (.t 32)⟩),(19,⟨some 34,none,.mv (.t 33)⟩),(20,⟨some 35,(some (34,false)),.mv (.t 3)⟩),(21,⟨some 36,(some (34,false)),.mv (.t 1)⟩),(22,⟨some 37,(some (34,false)),.lenT (.t 36)⟩),(23,⟨some 38,(some (34,false)),.arith .gtr (.t 35) (.t 37)⟩),(24,⟨some 39,none,.pick (.t 34) (.k (.d (.val (.bool true)))) (.t 38)⟩)] (some [1,2,3,4,39])) (.cond (.t 39) (.seq (.ops 2 [ (0,⟨some 40,none,.call 29 [] none false⟩),(1,⟨some 8,none,.mv (.t 40)⟩)] (some [8])) .ret) .skip)) (.seq (.ops 9 [ (0,⟨some 42,none,.load (some 8) (.t 4)⟩),(1,⟨some 43,none,.mv (.t 1)⟩),(2,⟨some 44,none,.mv (.t 3)⟩),(3,⟨some 45,none,.call 31 [(.t 42),(.t 43),(.t 44)] none false⟩),(4,⟨some 41,none,.mv (.t 45)⟩),(5,⟨some 46,none,.ext (.t 41) 0⟩),(6,⟨some 47,none,.ext (.t 41) 1⟩),(7,⟨some 9,none,.mv (.t 46)⟩),(8,⟨some 10,none,.mv (.t 47)⟩)] (some [1,2,3,4,9,10])) (.seq (.ops 11 [ (0,⟨some 49,none,.load (some 8) (.t 4)⟩),(1,⟨some 50,none,.mv (.t 1)⟩),(2,⟨some 51,none,.mv (.t 2)⟩),(3,⟨some 52,none,.arith .add (.t 50) (.t 51)⟩),(4,⟨some 53,none,.mv (.t 3)⟩),(5,⟨some 54,none,.call 31 [(.t 49),(.t 52),(.t 53)] none false⟩),(6,⟨some 48,none,.mv (.t 54)⟩),(7,⟨some 55,none,.ext (.t 48) 0⟩),(8,⟨some 56,none,.ext (.t 48) 1⟩),(9,⟨some 11,none,.mv (.t 55)⟩),(10,⟨some 12,none,.mv (.t 56)⟩)] (some [1,9,10,11,12])) (.seq (.seq (.ops 22 [ (0,⟨some 57,none,.mv (.t 10)⟩),(1,⟨some 58,none,.arith .neq (.t 57) (.k (.d (.val (.int .i64 0))))⟩),(2,⟨some 59,none,.mv (.t 58)⟩),(3,⟨some 60,(some (59,false)),.mv (.t 12)⟩),(4,⟨some 61,(some (59,false)),.arith .neq (.t 60) (.k (.d (.val (.int .i64 0))))⟩),(5,⟨some 62,none,.pick (.t 59) (.k (.d (.val (.bool true)))) (.t 61)⟩),(6,⟨some 63,none,.mv (.t 62)⟩),(7,⟨some 64,(some (63,false)),.mv (.t 11)⟩),(8,⟨some 65,(some (63,false)),.lenS (.t 64)⟩),(9,⟨some 66,(some (63,false)),.mv (.t 9)⟩),(10,⟨some 67,(some (63,false)),.lenS (.t 66)⟩),(11,⟨some 68,(some (63,false)),.arith .lss (.t 65) (.t 67)⟩),(12,⟨some 69,none,.pick (.t 63) (.k (.d (.val (.bool true)))) (.t 68)⟩),(13,⟨some 70,none,.mv (.t 69)⟩),(14,⟨some 71,(some (70,false)),.mv (.t 9)⟩),(15,⟨some 72,(some (70,false)),.mv (.t 11)⟩),(16,⟨some 73,(some (70,false)),.mv (.t 9)⟩),(17,⟨some 74,(some (70,false)),.lenS (.t 73)⟩),(18,⟨some 75,(some (70,false)),.slS 1 (.t 72) none (some (.t 74))⟩),(19,⟨some 76,(some (70,false)),.call 35 [(.t 71),(.t 75)] none false⟩),(20,⟨some 77,(some (70,false)),.un .not (.t 76)⟩),(21,⟨some 78,none,.pick (.t 70) (.k (.d (.val (.bool true)))) (.t 77)⟩)] (some [1,9,11,78])) (.cond (.t 78) (.seq (.ops 1 [ (0,⟨some 8,none,.mv (.k (.d (.val (.bool false))))⟩)] (some [8])) .ret) .skip)) (.seq (.seq (.ops 6 [ (0,⟨some 79,none,.mv (.t 11)⟩),(1,⟨some 80,none,.mv (.t 9)⟩),(2,⟨some 81,none,.lenS (.t 80)⟩),(3,⟨some 82,none,.slS 1 (.t 79) (some (.t 81)) none⟩),(4,⟨some 83,none,.lenS (.t 82)⟩),(5,⟨some 84,none,.mv (.k (.d (.val (.int .i64 0))))⟩)] (some [1,82,83,84])) (.block 0 (.loop (.seq (.ops 1 [ (0,⟨some 85,none,.arith .lss (.t 84) (.t 83)⟩)] (some [1,82,83,84,85])) (.seq (.cond (.t 85) .skip (.exit 0)) (.seq (.block 1 (.seq (.ops 3 [ (0,⟨some 86,none,.idxS 1 (.t 82) (.t 84)⟩),(1,⟨some 87,none,.load none (.t 86)⟩),(2,⟨some 14,none,.mv (.t 87)⟩)] (some [1,14,82,83,84])) (.seq (.ops 4 [ (0,⟨some 88,none,.mv (.t 14)⟩),(1,⟨some 89,none,.mv (.t 1)⟩),(2,⟨some 90,none,.lenT (.t 89)⟩),(3,⟨some 91,none,.arith .leq (.t 88) (.t 90)⟩)] (some [1,82,83,84,91])) (.cond (.t 91) (.seq (.ops 1 [ (0,⟨some 8,none,.mv (.k (.d (.val (.bool false))))⟩)] (some [8])) .ret) .skip)))) (.ops 2 [ (0,⟨some 92,none,.arith .add (.t 84) (.k (.d (.val (.int .i64 1))))⟩),(1,⟨some 84,none,.mv (.t 92)⟩)] (some [1,82,83,84])))))))) (.seq (.ops 1 [ (0,⟨some 8,none,.mv (.k (.d (.val (.bool true))))⟩)] (some [8])) .ret)))))))
def md7 : FuncId→Option Nat × Bool
  | _=>(none,false)
def od7 : Nat→List (List Nat) × List Nat × Option (List Nat)
  | 0=>([],[],some [1,2,3,4])
  | 1=>([],[],some [1,2,3,4,39])
  | 2=>([],[],some [8])
  | 3=>([],[],some [1,2,3,4,9,10])
  | 4=>([],[],some [1,9,10,11,12])
  | 5=>([],[],some [1,9,11,78])
  | 6=>([],[],some [8])
  | 7=>([],[],some [1,82,83,84])
  | 8=>([],[],some [1,82,83,84,85])
  | 9=>([],[],some [1,14,82,83,84])
  | 10=>([],[],some [1,82,83,84,91])
  | 11=>([],[],some [8])
  | 12=>([],[],some [1,82,83,84])
  | 13=>([],[],some [8])
  | _=>([],[],none)
theorem b7 {ags : List AV} {row : Option (List DV)} {r : AV} {row' nw : Option (List DV)} (hal : ags.length≤93) (hrow : row'.isSome=true→row.isSome=true) (h : xwp Try.prog x7 (retK [.tmp 8] row.isSome r row' nw) (St.init ags row)) : Good Try.prog 7 ags row r row' nw :=
  good_of_body' (md:=md7) (od:=od7) Try.f7 (by kernel_rfl) (by kernel_rfl) (by kernel_rfl) (by kernel_rfl) (by kernel_rfl) hal hrow h

section
variable {P : Program} {Q : Cont} {fr : Fr} {C : Heap} {Z Z' : Frz} {nx : Nat} {base n d : Nat} {l : List (Nat × XO)} {kp : Option (List Nat)} {x i y s : X}
end
set_option maxRecDepth 100000
set_option maxHeartbeats 4000000
attribute [local irreducible] W E R KP thenK blockK retK Good xwp aRun
end Go.Sv
namespace Go.Sv
open Go Go.Proofs
def x9 : XC:=(.seq (.ops 2 [ (0,⟨some 2,none,.box (.t 0)⟩),(1,⟨some 4,none,.mv (.k (.d (.val (.bool false))))⟩)] (some [1,2])) (.seq (.ops 5 [ (0,⟨some 12,none,.load (some 8) (.t 2)⟩),(1,⟨some 13,none,.mkrow [(.int .i64 0),(.int .u64 0),(.int .u64 0),(.int .u64 0),(.int .u64 0),(.int .i64 0),(.int .i64 0),(.slice none 0 0)] 1 8 [(0,8,(.t 12))]⟩),(2,⟨some 14,none,.build [(.int .i64 0),(.int .u64 0),(.int .u64 0),(.int .u64 0),(.int .u64 0),(.int .i64 0),(.int .i64 0),(.slice none 0 0)] [(0,1,(.k (.d (.val (.int .i64 5))))),(6,1,(.k (.d (.val (.int .i64 (-1)))))),(7,1,(.t 13))]⟩),(3,⟨some 5,none,.alloc [(.int .i64 0),(.int .u64 0),(.int .u64 0),(.int .u64 0),(.int .u64 0),(.int .i64 0),(.int .i64 0),(.slice none 0 0)]⟩),(4,⟨none,none,.store 8 (.t 5) (.t 14)⟩)] (some [1,2,5])) (.seq (.ops 9 [ (0,⟨some 15,none,.build [(.int .i64 0),(.int .u64 0),(.int .u64 0),(.int .u64 0),(.int .u64 0),(.int .i64 0),(.int .i64 0),(.slice none 0 0)] [(0,1,(.k (.d (.val (.int .i64 1)))))]⟩),(1,⟨some 16,none,.load (some 8) (.t 2)⟩),(2,⟨some 17,none,.load (some 8) (.t 5)⟩),(3,⟨some 18,none,.mkrow [(.int .i64 0),(.int .u64 0),(.int .u64 0),(.int .u64 0),(.int .u64 0),(.int .i64 0),(.int .i64 0),(.slice none 0 0)] 2 8 [(0,8,(.t 16)),(8,8,(.t 17))]⟩),(4,⟨some 19,none,.build [(.int .i64 0),(.int .u64 0),(.int .u64 0),(.int .u64 0),(.int .u64 0),(.int .i64 0),(.int .i64 0),(.slice none 0 0)] [(0,1,(.k (.d (.val (.int .i64 3))))),(7,1,(.t 18))]⟩),(5,⟨some 20,none,.mkrow [(.int .i64 0),(.int .u64 0),(.int .u64 0),(.int .u64 0),(.int .u64 0),(.int .i64 0),(.int .i64 0),(.slice none 0 0)] 2 8 [(0,8,(.t 15)),(8,8,(.t 19))]⟩),(6,⟨some 21,none,.build [(.int .i64 0),(.int .u64 0),(.int .u64 0),(.int .u64 0),(.int .u64 0),(.int .i64 0),(.int .i64 0),(.slice none 0 0)] [(0,1,(.k (.d (.val (.int .i64 4))))),(7,1,(.t 20))]⟩),(7,⟨some 6,none,.alloc [(.int .i64 0),(.int .u64 0),(.int .u64 0),(.int .u64 0),(.int .u64 0),(.int .i64 0),(.int .i64 0),(.slice none 0 0)]⟩),(8,⟨none,none,.store 8 (.t 6) (.t 21)⟩)] (some [1,5,6])) (.seq (.seq (.ops 13 [ (0,⟨some 22,none,.call 29 [] none false⟩),(1,⟨some 23,none,.un .not (.t 22)⟩),(2,⟨some 24,none,.mv (.t 23)⟩),(3,⟨some 25,(some (24,false)),.load (some 8) (.t 6)⟩),(4,⟨some 26,(some (24,false)),.mv (.t 1)⟩),(5,⟨some 27,(some (24,false)),.call 30 [(.t 25),(.t 26)] none false⟩),(6,⟨some 28,(some (24,false)),.un .not (.t 27)⟩),(7,⟨some 29,none,.pick (.t 24) (.k (.d (.val (.bool true)))) (.t 28)⟩),(8,⟨some 30,none,.mv (.t 29)⟩),(9,⟨some 31,(some (30,false)),.load (some 8) (.t 6)⟩),(10,⟨some 32,(some (30,false)),.call 32 [(.t 31)] none false⟩),(11,⟨some 33,(some (30,false)),.un .not (.t 32)⟩),(12,⟨some 34,none,.pick (.t 30) (.k (.d (.val (.bool true)))) (.t 33)⟩)] (some [1,5,6,34])) (.cond (.t 34) (.seq (.ops 2 [ (0,⟨some 35,none,.call 29 [] none false⟩),(1,⟨some 4,none,.mv (.t 35)⟩)] (some [4])) .ret) .skip)) (.seq (.seq (.ops 4 [ (0,⟨some 36,none,.mv (.t 1)⟩),(1,⟨some 37,none,.lenT (.t 36)⟩),(2,⟨some 38,none,.arith .add (.t 37) (.k (.d (.val (.int .i64 1))))⟩),(3,⟨some 39,none,.mv (.k (.d (.val (.int .i64 0))))⟩)] (some [1,5,6,38,39])) (.block 0 (.loop (.seq (.ops 1 [ (0,⟨some 40,none,.arith .lss (.t 39) (.t 38)⟩)] (some [1,5,6,38,39,40])) (.seq (.cond (.t 40) .skip (.exit 0)) (.seq (.block 1 (.seq (.ops 2 [ (0,⟨some 41,none,.mv (.t 39)⟩),(1,⟨some 7,none,.mv (.t 41)⟩)] (some [1,5,6,7,38,39])) (.seq (.ops 9 [ (0,⟨some 43,none,.load (some 8) (.t 5)⟩),(1,⟨some 44,none,.mv (.t 1)⟩),(2,⟨some 45,none,.mv (.t 7)⟩),(3,⟨some 46,none,.call 31 [(.t 43),(.t 44),(.t 45)] none false⟩),(4,⟨some 42,none,.mv (.t 46)⟩),(5,⟨some 47,none,.ext (.t 42) 0⟩),(6,⟨some 48,none,.ext (.t 42) 1⟩),(7,⟨some 8,none,.mv (.t 47)⟩),(8,⟨some 9,none,.mv (.t 48)⟩)] (some [1,5,6,7,8,9,38,39])) (.seq (.ops 9 [ (0,⟨some 50,none,.load (some 8) (.t 6)⟩),(1,⟨some 51,none,.mv (.t 1)⟩),(2,⟨some 52,none,.mv (.t 7)⟩),(3,⟨some 53,none,.call 31 [(.t 50),(.t 51),(.t 52)] none false⟩),(4,⟨some 49,none,.mv (.t 53)⟩),(5,⟨some 54,none,.ext (.t 49) 0⟩),(6,⟨some 55,none,.ext (.t 49) 1⟩),(7,⟨some 10,none,.mv (.t 54)⟩),(8,⟨some 11,none,.mv (.t 55)⟩)] (some [1,5,6,7,8,9,10,11,38,39])) (.seq (.ops 24 [ (0,⟨some 56,none,.mv (.t 9)⟩),(1,⟨some 57,none,.arith .neq (.t 56) (.k (.d (.val (.int .i64 0))))⟩),(2,⟨some 58,none,.mv (.t 57)⟩),(3,⟨some 59,(some (58,false)),.mv (.t 11)⟩),(4,⟨some 60,(some (58,false)),.arith .neq (.t 59) (.k (.d (.val (.int .i64 0))))⟩),(5,⟨some 61,none,.pick (.t 58) (.k (.d (.val (.bool true)))) (.t 60)⟩),(6,⟨some 62,none,.mv (.t 61)⟩),(7,⟨some 63,(some (62,false)),.mv (.t 8)⟩),(8,⟨some 64,(some (62,false)),.mv (.t 10)⟩),(9,⟨some 65,(some (62,false)),.call 35 [(.t 63),(.t 64)] none false⟩),(10,⟨some 66,(some (62,false)),.un .not (.t 65)⟩),(11,⟨some 67,none,.pick (.t 62) (.k (.d (.val (.bool true)))) (.t 66)⟩),(12,⟨some 68,none,.mv (.t 67)⟩),(13,⟨some 69,(some (68,false)),.mv (.t 8)⟩),(14,⟨some 70,(some (68,false)),.lenS (.t 69)⟩),(15,⟨some 71,(some (68,false)),.arith .eql (.t 70) (.k (.d (.val (.int .i64 0))))⟩),(16,⟨some 72,none,.pick (.t 68) (.k (.d (.val (.bool true)))) (.t 71)⟩),(17,⟨some 73,none,.mv (.t 72)⟩),(18,⟨some 74,(some (73,false)),.mv (.t 8)⟩),(19,⟨some 75,(some (73,false)),.idxS 1 (.t 74) (.k (.d (.val (.int .i64 0))))⟩),(20,⟨some 76,(some (73,false)),.load none (.t 75)⟩),(21,⟨some 77,(some (73,false)),.mv (.t 7)⟩),(22,⟨some 78,(some (73,false)),.arith .neq (.t 76) (.t 77)⟩),(23,⟨some 79,none,.pick (.t 73) (.k (.d (.val (.bool true)))) (.t 78)⟩)] (some [1,5,6,38,39,79])) (.cond (.t 79) (.seq (.ops 1 [ (0,⟨some 4,none,.mv (.k (.d (.val (.bool false))))⟩)] (some [4])) .ret) .skip)))))) (.ops 2 [ (0,⟨some 80,none,.arith .add (.t 39) (.k (.d (.val (.int .i64 1))))⟩),(1,⟨some 39,none,.mv (.t 80)⟩)] (some [1,5,6,38,39])))))))) (.seq (.ops 1 [ (0,⟨some 4,none,.mv (.k (.d (.val (.bool true))))⟩)] (some [4])) .ret))))))
def md9 : FuncId→Option Nat × Bool
  | _=>(none,false)
def od9 : Nat→List (List Nat) × List Nat × Option (List Nat)
  | 0=>([],[],some [1,2])
  | 1=>([],[],some [1,2,5])
  | 2=>([],[],some [1,5,6])
  | 3=>([],[],some [1,5,6,34])
  | 4=>([],[],some [4])
  | 5=>([],[],some [1,5,6,38,39])
  | 6=>([],[],some [1,5,6,38,39,40])
  | 7=>([],[],some [1,5,6,7,38,39])
  | 8=>([],[],some [1,5,6,7,8,9,38,39])
  | 9=>([],[],some [1,5,6,7,8,9,10,11,38,39])
  | 10=>([],[],some [1,5,6,38,39,79])
  | 11=>([],[],some [4])
  | 12=>([],[],some [1,5,6,38,39])
  | 13=>([],[],some [4])
  | _=>([],[],none)
theorem b9 {ags : List AV} {row : Option (List DV)} {r : AV} {row' nw : Option (List DV)} (hal : ags.length≤81) (hrow : row'.isSome=true→row.isSome=true) (h : xwp Try.prog x9 (retK [.tmp 4] row.isSome r row' nw) (St.init ags row)) : Good Try.prog 9 ags row r row' nw :=
  good_of_body' (md:=md9) (od:=od9) Try.f9 (by kernel_rfl) (by kernel_rfl) (by kernel_rfl) (by kernel_rfl) (by kernel_rfl) hal hrow h

theorem openL_sub (k : Int) : ∀ (l : List T) (m : Int),0≤openL k l m→m≤openL k l m∧∀ i (h : i < l.length),0≤openT l[i]∧openT l[i]≤openL k l m
  | [],m,h=>⟨by simp [openL],fun i h=>by simp at h⟩
  | t :: l,m,h=>by
    simp only [openL] at h ⊢
    split at h
    · omega
    · rename_i hn
      rw [if_neg hn]
      obtain ⟨h1,h2⟩:=openL_sub k l _ h
      generalize openL k l (max m (if roundG k t.kind=true then openT t + 1 else openT t))=q at h1 h2 ⊢
      have h3 : openT t≤(if roundG k t.kind=true then openT t + 1 else openT t):=by split<;>omega
      refine ⟨by omega,fun i hi=>?_⟩
      cases i with
      | zero =>
        simp only [List.getElem_cons_zero]
        omega
      | succ i=>simpa using h2 i (by simpa using hi)
theorem right_sub {k a b c d mn mx : Int} {subs : List T} (h : rightT (.node k a b c d mn mx subs)=true) (i : Nat) (hi : i < subs.length) : rightT subs[i]=true:=by
  simp only [rightT,openT] at h
  split at h
  · simp only [Bool.and_eq_true,decide_eq_true_eq] at h
    have:=(openL_sub k subs 0 h.1).2 i hi
    simp only [rightT,Bool.and_eq_true,decide_eq_true_eq];omega
  · simp at h
set_option maxRecDepth 100000
set_option maxHeartbeats 4000000
attribute [local irreducible] W E R KP thenK blockK retK Good xwp aRun
end Go.Sv
namespace Go.Sv
open Go
end Go.Sv
namespace Go.Sv
set_option linter.unusedVariables false
def DOK (t : T) : Prop:=okT t∧sfT t∧t.cnt≤4000
theorem DOK_sim {t : T} (ho : okT t) (hc : t.cnt≤4000) : DOK (simT t):=⟨simT_ok t ho,simT_sf t ho,by have:=simT_cnt t ho;omega⟩
end Go.Sv
namespace Go.Sv
open Go Go.Proofs
def x131 : XC:=(.seq (.ops 1 [ (0,⟨some 2,none,.mv (.k (.d (.val (.bool false))))⟩)] (some [0])) (.seq (.seq (.ops 4 [ (0,⟨some 5,none,.mv (.t 0)⟩),(1,⟨some 6,none,.nilck (.t 5)⟩),(2,⟨some 7,none,.fadd 0 (.t 6)⟩),(3,⟨some 8,none,.load none (.t 7)⟩)] (some [0,8])) (.block 0 (.seq (.ops 2 [ (0,⟨some 10,none,.arith .eql (.t 8) (.k (.d (.val (.int .i64 1))))⟩),(1,⟨some 9,none,.mv (.t 10)⟩)] (some [0,8,9])) (.cond (.t 9) (.seq (.ops 1 [ (0,⟨some 2,none,.mv (.k (.d (.val (.bool true))))⟩)] (some [2])) .ret) (.seq (.ops 2 [ (0,⟨some 12,none,.arith .eql (.t 8) (.k (.d (.val (.int .i64 3))))⟩),(1,⟨some 11,none,.mv (.t 12)⟩)] (some [0,8,11])) (.cond (.t 11) (.seq (.seq (.ops 6 [ (0,⟨some 13,none,.mv (.t 0)⟩),(1,⟨some 14,none,.nilck (.t 13)⟩),(2,⟨some 15,none,.fadd 7 (.t 14)⟩),(3,⟨some 16,none,.load none (.t 15)⟩),(4,⟨some 17,none,.lenS (.t 16)⟩),(5,⟨some 18,none,.mv (.k (.d (.val (.int .i64 0))))⟩)] (some [0,17,18])) (.block 1 (.loop (.seq (.ops 1 [ (0,⟨some 19,none,.arith .lss (.t 18) (.t 17)⟩)] (some [0,17,18,19])) (.seq (.cond (.t 19) .skip (.exit 1)) (.seq (.block 2 (.seq (.ops 2 [ (0,⟨some 20,none,.mv (.t 18)⟩),(1,⟨some 3,none,.mv (.t 20)⟩)] (some [0,3,17,18])) (.seq (.ops 8 [ (0,⟨some 21,none,.mv (.t 0)⟩),(1,⟨some 22,none,.nilck (.t 21)⟩),(2,⟨some 23,none,.fadd 7 (.t 22)⟩),(3,⟨some 24,none,.load none (.t 23)⟩),(4,⟨some 25,none,.mv (.t 3)⟩),(5,⟨some 26,none,.idxS 8 (.t 24) (.t 25)⟩),(6,⟨some 27,none,.call 131 [(.t 26)] none false⟩),(7,⟨some 28,none,.un .not (.t 27)⟩)] (some [0,17,18,28])) (.cond (.t 28) (.seq (.ops 1 [ (0,⟨some 2,none,.mv (.k (.d (.val (.bool false))))⟩)] (some [2])) .ret) .skip)))) (.ops 2 [ (0,⟨some 29,none,.arith .add (.t 18) (.k (.d (.val (.int .i64 1))))⟩),(1,⟨some 18,none,.mv (.t 29)⟩)] (some [0,17,18])))))))) (.seq (.ops 1 [ (0,⟨some 2,none,.mv (.k (.d (.val (.bool true))))⟩)] (some [2])) .ret)) (.seq (.ops 2 [ (0,⟨some 31,none,.arith .eql (.t 8) (.k (.d (.val (.int .i64 4))))⟩),(1,⟨some 30,none,.mv (.t 31)⟩)] (some [0,8,30])) (.cond (.t 30) (.seq (.ops 6 [ (0,⟨some 32,none,.mv (.t 0)⟩),(1,⟨some 33,none,.nilck (.t 32)⟩),(2,⟨some 34,none,.fadd 7 (.t 33)⟩),(3,⟨some 35,none,.load none (.t 34)⟩),(4,⟨some 36,none,.lenS (.t 35)⟩),(5,⟨some 37,none,.mv (.k (.d (.val (.int .i64 0))))⟩)] (some [0,36,37])) (.block 3 (.loop (.seq (.ops 1 [ (0,⟨some 38,none,.arith .lss (.t 37) (.t 36)⟩)] (some [0,36,37,38])) (.seq (.cond (.t 38) .skip (.exit 3)) (.seq (.block 4 (.seq (.ops 2 [ (0,⟨some 39,none,.mv (.t 37)⟩),(1,⟨some 4,none,.mv (.t 39)⟩)] (some [0,4,36,37])) (.seq (.ops 7 [ (0,⟨some 40,none,.mv (.t 0)⟩),(1,⟨some 41,none,.nilck (.t 40)⟩),(2,⟨some 42,none,.fadd 7 (.t 41)⟩),(3,⟨some 43,none,.load none (.t 42)⟩),(4,⟨some 44,none,.mv (.t 4)⟩),(5,⟨some 45,none,.idxS 8 (.t 43) (.t 44)⟩),(6,⟨some 46,none,.call 131 [(.t 45)] none false⟩)] (some [0,36,37,46])) (.cond (.t 46) (.seq (.ops 1 [ (0,⟨some 2,none,.mv (.k (.d (.val (.bool true))))⟩)] (some [2])) .ret) .skip)))) (.ops 2 [ (0,⟨some 47,none,.arith .add (.t 37) (.k (.d (.val (.int .i64 1))))⟩),(1,⟨some 37,none,.mv (.t 47)⟩)] (some [0,36,37])))))))) (.seq (.ops 2 [ (0,⟨some 49,none,.arith .eql (.t 8) (.k (.d (.val (.int .i64 5))))⟩),(1,⟨some 48,none,.mv (.t 49)⟩)] (some [0,48])) (.cond (.t 48) (.seq (.ops 14 [ (0,⟨some 50,none,.mv (.t 0)⟩),(1,⟨some 51,none,.nilck (.t 50)⟩),(2,⟨some 52,none,.fadd 5 (.t 51)⟩),(3,⟨some 53,none,.load none (.t 52)⟩),(4,⟨some 54,none,.arith .eql (.t 53) (.k (.d (.val (.int .i64 0))))⟩),(5,⟨some 55,none,.mv (.t 54)⟩),(6,⟨some 56,(some (55,false)),.mv (.t 0)⟩),(7,⟨some 57,(some (55,false)),.nilck (.t 56)⟩),(8,⟨some 58,(some (55,false)),.fadd 7 (.t 57)⟩),(9,⟨some 59,(some (55,false)),.load none (.t 58)⟩),(10,⟨some 60,(some (55,false)),.idxS 8 (.t 59) (.k (.d (.val (.int .i64 0))))⟩),(11,⟨some 61,(some (55,false)),.call 131 [(.t 60)] none false⟩),(12,⟨some 62,none,.pick (.t 55) (.k (.d (.val (.bool true)))) (.t 61)⟩),(13,⟨some 2,none,.mv (.t 62)⟩)] (some [2])) .ret) .skip)))))))))) (.seq (.ops 1 [ (0,⟨some 2,none,.mv (.k (.d (.val (.bool false))))⟩)] (some [2])) .ret)))
def md131 : FuncId→Option Nat × Bool
  | _=>(none,false)
def od131 : Nat→List (List Nat) × List Nat × Option (List Nat)
  | 0=>([],[],some [0])
  | 1=>([],[],some [0,8])
  | 2=>([],[],some [0,8,9])
  | 3=>([],[],some [2])
  | 4=>([],[],some [0,8,11])
  | 5=>([],[],some [0,17,18])
  | 6=>([],[],some [0,17,18,19])
  | 7=>([],[],some [0,3,17,18])
  | 8=>([],[],some [0,17,18,28])
  | 9=>([],[],some [2])
  | 10=>([],[],some [0,17,18])
  | 11=>([],[],some [2])
  | 12=>([],[],some [0,8,30])
  | 13=>([],[],some [0,36,37])
  | 14=>([],[],some [0,36,37,38])
  | 15=>([],[],some [0,4,36,37])
  | 16=>([],[],some [0,36,37,46])
  | 17=>([],[],some [2])
  | 18=>([],[],some [0,36,37])
  | 19=>([],[],some [0,48])
  | 20=>([],[],some [2])
  | 21=>([],[],some [2])
  | _=>([],[],none)
theorem b131 {ags : List AV} {row : Option (List DV)} {r : AV} {row' nw : Option (List DV)} (hal : ags.length≤63) (hrow : row'.isSome=true→row.isSome=true) (h : xwp Try.prog x131 (retK [.tmp 2] row.isSome r row' nw) (St.init ags row)) : Good Try.prog 131 ags row r row' nw :=
  good_of_body' (md:=md131) (od:=od131) Try.f131 (by kernel_rfl) (by kernel_rfl) (by kernel_rfl) (by kernel_rfl) (by kernel_rfl) hal hrow h

def x152 : XC:=(.seq (.ops 1 [ (0,⟨some 4,none,.mv (.k (.d (.val (.bool false))))⟩)] (some [0,1])) (.seq (.ops 12 [ (0,⟨some 5,none,.mv (.t 0)⟩),(1,⟨some 6,none,.mv (.t 1)⟩),(2,⟨some 7,none,.arith .shr (.t 6) (.k (.d (.val (.int .u64 6))))⟩),(3,⟨some 8,none,.nilck (.t 5)⟩),(4,⟨some 9,none,.idxP 4 1 (.t 8) (.t 7)⟩),(5,⟨some 10,none,.load none (.t 9)⟩),(6,⟨some 11,none,.mv (.t 1)⟩),(7,⟨some 12,none,.arith .and (.t 11) (.k (.d (.val (.int .u8 63))))⟩),(8,⟨some 13,none,.arith .shr (.t 10) (.t 12)⟩),(9,⟨some 14,none,.arith .and (.t 13) (.k (.d (.val (.int .u64 1))))⟩),(10,⟨some 15,none,.arith .eql (.t 14) (.k (.d (.val (.int .u64 1))))⟩),(11,⟨some 4,none,.mv (.t 15)⟩)] (some [4])) .ret))
def md152 : FuncId→Option Nat × Bool
  | _=>(none,false)
def od152 : Nat→List (List Nat) × List Nat × Option (List Nat)
  | 0=>([],[],some [0,1])
  | 1=>([],[],some [4])
  | _=>([],[],none)
theorem b152 {ags : List AV} {row : Option (List DV)} {r : AV} {row' nw : Option (List DV)} (hal : ags.length≤16) (hrow : row'.isSome=true→row.isSome=true) (h : xwp Try.prog x152 (retK [.tmp 4] row.isSome r row' nw) (St.init ags row)) : Good Try.prog 152 ags row r row' nw :=
  good_of_body' (md:=md152) (od:=od152) Try.f152 (by kernel_rfl) (by kernel_rfl) (by kernel_rfl) (by kernel_rfl) (by kernel_rfl) hal hrow h

def x154 : XC:=(.seq (.ops 1 [ (0,⟨some 4,none,.mv (.k (.d (.val (.int .i64 0))))⟩)] (some [0,1])) (.seq (.ops 3 [ (0,⟨some 6,none,.mv (.t 1)⟩),(1,⟨some 7,none,.arith .sub (.t 6) (.k (.d (.val (.int .i64 1))))⟩),(2,⟨some 1,none,.mv (.t 7)⟩)] (some [0,1])) (.seq (.seq (.ops 1 [ (0,⟨some 5,none,.mv (.k (.d (.val (.int .i64 0))))⟩)] (some [0,1,5])) (.block 0 (.loop (.seq (.seq (.ops 11 [ (0,⟨some 8,none,.mv (.t 5)⟩),(1,⟨some 9,none,.mv (.t 0)⟩),(2,⟨some 10,none,.nilck (.t 9)⟩),(3,⟨some 11,none,.fadd 7 (.t 10)⟩),(4,⟨some 12,none,.load none (.t 11)⟩),(5,⟨some 13,none,.lenS (.t 12)⟩),(6,⟨some 14,none,.arith .lss (.t 8) (.t 13)⟩),(7,⟨some 15,none,.mv (.t 14)⟩),(8,⟨some 16,(some (15,true)),.mv (.t 1)⟩),(9,⟨some 17,(some (15,true)),.arith .geq (.t 16) (.k (.d (.val (.int .i64 0))))⟩),(10,⟨some 18,none,.pick (.t 15) (.t 17) (.k (.d (.val (.bool false))))⟩)] (some [0,1,5,18])) (.cond (.t 18) .skip (.exit 0))) (.seq (.block 1 (.ops 9 [ (0,⟨some 21,none,.mv (.t 0)⟩),(1,⟨some 22,none,.nilck (.t 21)⟩),(2,⟨some 23,none,.fadd 7 (.t 22)⟩),(3,⟨some 24,none,.load none (.t 23)⟩),(4,⟨some 25,none,.mv (.t 5)⟩),(5,⟨some 26,none,.idxS 8 (.t 24) (.t 25)⟩),(6,⟨some 27,none,.mv (.t 1)⟩),(7,⟨some 28,none,.call 154 [(.t 26),(.t 27)] none false⟩),(8,⟨some 1,none,.mv (.t 28)⟩)] (some [0,1,5]))) (.ops 3 [ (0,⟨some 19,none,.mv (.t 5)⟩),(1,⟨some 20,none,.arith .add (.t 19) (.k (.d (.val (.int .i64 1))))⟩),(2,⟨some 5,none,.mv (.t 20)⟩)] (some [0,1,5]))))))) (.seq (.ops 2 [ (0,⟨some 29,none,.mv (.t 1)⟩),(1,⟨some 4,none,.mv (.t 29)⟩)] (some [4])) .ret))))
def md154 : FuncId→Option Nat × Bool
  | _=>(none,false)
def od154 : Nat→List (List Nat) × List Nat × Option (List Nat)
  | 0=>([],[],some [0,1])
  | 1=>([],[],some [0,1])
  | 2=>([],[],some [0,1,5])
  | 3=>([],[],some [0,1,5,18])
  | 4=>([],[],some [0,1,5])
  | 5=>([],[],some [0,1,5])
  | 6=>([],[],some [4])
  | _=>([],[],none)
theorem b154 {ags : List AV} {row : Option (List DV)} {r : AV} {row' nw : Option (List DV)} (hal : ags.length≤30) (hrow : row'.isSome=true→row.isSome=true) (h : xwp Try.prog x154 (retK [.tmp 4] row.isSome r row' nw) (St.init ags row)) : Good Try.prog 154 ags row r row' nw :=
  good_of_body' (md:=md154) (od:=od154) Try.f154 (by kernel_rfl) (by kernel_rfl) (by kernel_rfl) (by kernel_rfl) (by kernel_rfl) hal hrow h

theorem nlAll_drop (l : List T) (i : Nat) (h : i < l.length) : nlAll (l.drop i)=(nlT l[i] && nlAll (l.drop (i + 1))):=by
  rw [List.drop_eq_getElem_cons h,nlAll]
theorem nlAny_drop (l : List T) (i : Nat) (h : i < l.length) : nlAny (l.drop i)=(nlT l[i] || nlAny (l.drop (i + 1))):=by
  rw [List.drop_eq_getElem_cons h,nlAny]
set_option maxRecDepth 100000
set_option maxHeartbeats 4000000
attribute [local irreducible] W E R KP thenK blockK retK Good xwp aRun
theorem null131_good : ∀ (n : Nat) (t : T) (cs : List DV) (off : Nat),NodeAt cs off t→t.cnt≤n→n≤100000000→okT t→Good Try.prog 131 [.d (.ptr cs off)] none (.b (nlT t)) none none:=by
  intro n
  induction n with
  | zero=>intro t cs off _ ht;have:=cnt_pos t;omega
  | succ n ih =>
  intro t cs off hs ht hc hok
  obtain ⟨k,a,b,c,d,mn,mx,subs⟩:=t
  have hp:=okT_plain hok
  have hk:=(plainT_kind hp).1
  have hoks:=okT_subs hok
  have ih' : ∀ i (h : i < subs.length),Good Try.prog 131 [.d (.ptr (encL subs) (i * 8))] none (.b (nlT subs[i])) none none:=by
    intro i h
    refine ih _ _ _ (NodeAt.sub h) ?_ (by omega) (okL_get subs i h hoks)
    have:=cntL_get subs i h
    simp only [T.cnt] at ht
    omega
  have hlen : subs.length≤100000000:=by
    have:=cntL_len subs
    simp only [T.cnt] at ht
    omega
  clear ih ht hoks
  rcases hk with rfl | rfl | rfl | rfl | rfl
  · refine b131 (by simp) (by simp) (w_init ?_)
    unfold x131
    repeat' (first|(apply r_mvV;rfl)|(apply r_mvP;rfl)|(apply r_nckD;rfl)|(apply r_faddD;rfl)|(apply r_l;apply ld_kind;assumption;rfl)|(apply r_eql;rfl;rfl;(first|(apply dT;omega)|(apply dF;omega)|rfl))|(apply r_nilK)|(apply k_V;rfl)|(apply k_P;rfl)|(apply k_nil)|(apply e_ret (vs:=[.d (.val _)]);rfl)|(apply w_seq)|(apply w_ops;((conv=>lhs;simp only [Nat.reduceAdd])<;>rfl))|(apply w_condT;rfl)|(apply e_thenN)|(apply w_block)|(apply e_thenR)|(apply e_blkR)|(apply w_ret))
    exact retB (by simp [nlT])
  · refine b131 (by simp) (by simp) (w_init ?_)
    unfold x131
    repeat' (first|(apply r_mvV;rfl)|(apply r_mvP;rfl)|(apply r_nckD;rfl)|(apply r_faddD;rfl)|(apply r_l;apply ld_kind;assumption;rfl)|(apply r_eql;rfl;rfl;(first|(apply dT;omega)|(apply dF;omega)|rfl))|(apply r_nilK)|(apply k_V;rfl)|(apply k_P;rfl)|(apply k_nil)|(apply e_ret (vs:=[.d (.val _)]);rfl)|(apply w_seq)|(apply w_ops;((conv=>lhs;simp only [Nat.reduceAdd])<;>rfl))|(apply w_condF;rfl)|(apply e_thenN)|(apply w_block)|(apply e_blkN)|(apply w_ret)|(apply w_skip))
    exact retB (by simp [nlT])
  · have e : nlT (.node 3 a b c d mn mx subs)=nlAll subs:=by simp [nlT]
    rw [e]
    refine b131 (by simp) (by simp) (w_init ?_)
    unfold x131
    repeat' (first|(apply r_mvV;rfl)|(apply r_mvP;rfl)|(apply r_nckD;rfl)|(apply r_faddD;rfl)|(apply r_l;apply ld_kind;assumption;rfl)|(apply r_l;apply ld_subs;assumption;rfl)|(apply r_eql;rfl;rfl;(first|(apply dT;omega)|(apply dF;omega)|rfl))|(apply r_lenD;rfl)|(apply r_nilK)|(apply k_V;rfl)|(apply k_P;rfl)|(apply k_nil)|(apply w_seq)|(apply w_ops;((conv=>lhs;simp only [Nat.reduceAdd])<;>rfl))|(apply w_condT;rfl)|(apply w_condF;rfl)|(apply e_thenN)|(apply w_block))
    apply w_loopI (S:=fun i : Nat=>⟨((Fr.nil.put 0 (.d (.ptr cs off))).put 17 (.i subs.length)).put 18 (.i i),Heap.nil,Frz.lo 100,100⟩) (m:=fun i=>subs.length - i) (I:=fun i=>i≤subs.length∧nlAll subs=nlAll (subs.drop i)) (i0:=0)
    · exact ⟨Nat.zero_le _,rfl⟩
    · refine wk0 (by omega) ?_
      repeat' (first|exact FWk.nil|(apply FWk.i;rfl;(first|rfl|omega|(simp;done)))|(apply FWk.d;rfl;rfl))
    rintro i K ⟨hi,hq⟩ hK
    dsimp only
    rcases Nat.lt_or_ge i subs.length with hlt | hge
    · have hg:=ih' i hlt
      have hd:=nlAll_drop subs i hlt
      rcases Bool.eq_false_or_eq_true (nlT subs[i]) with hr | hr
      · rw [hr] at hg hd
        repeat' (first|(apply r_mvV;rfl)|(apply r_mvP;rfl)|(apply r_nckD;rfl)|(apply r_faddD;rfl)|(apply r_l;apply ld_subs;assumption;rfl)|(apply r_p;apply ix_sub;rfl;rfl;omega)|(apply r_callA;rfl;rfl;exact hg)|(apply r_lss;rfl;rfl;(first|(apply dT;omega)|(apply dF;omega)|rfl))|(apply r_add;rfl;rfl;rfl;omega)|(apply r_not;rfl;rfl)|(apply r_nilK)|(apply k_V;rfl)|(apply k_P;rfl)|(apply k_nil)|(apply w_seq)|(apply w_ops;((conv=>lhs;simp only [Nat.reduceAdd])<;>rfl))|(apply w_condT;rfl)|(apply w_condF;rfl)|(apply e_thenN)|(apply w_block)|(apply e_blkN)|(apply w_skip))
        apply e_thenK
        apply hK (i + 1)
        · exact ⟨by omega,by rw [hq,hd,Bool.true_and]⟩
        · omega
        · refine wk0 (by omega) ?_
          repeat' (first|exact FWk.nil|(apply FWk.i;rfl;(first|rfl|omega|(simp;done)))|(apply FWk.d;rfl;rfl))
      · rw [hr] at hg hd
        repeat' (first|(apply r_mvV;rfl)|(apply r_mvP;rfl)|(apply r_nckD;rfl)|(apply r_faddD;rfl)|(apply r_l;apply ld_subs;assumption;rfl)|(apply r_p;apply ix_sub;rfl;rfl;omega)|(apply r_callA;rfl;rfl;exact hg)|(apply r_lss;rfl;rfl;(first|(apply dT;omega)|(apply dF;omega)|rfl))|(apply r_not;rfl;rfl)|(apply r_nilK)|(apply k_V;rfl)|(apply k_P;rfl)|(apply k_nil)|(apply e_ret (vs:=[.d (.val _)]);rfl)|(apply w_seq)|(apply w_ops;((conv=>lhs;simp only [Nat.reduceAdd])<;>rfl))|(apply w_condT;rfl)|(apply e_thenN)|(apply w_block)|(apply e_thenR)|(apply e_blkR)|(apply w_ret)|(apply w_skip))
        exact retB (by rw [hq,hd,Bool.false_and])
    · have e : nlAll subs=true:=by rw [hq,List.drop_of_length_le hge,nlAll]
      rw [e]
      repeat' (first|(apply r_mvV;rfl)|(apply r_lss;rfl;rfl;(first|(apply dT;omega)|(apply dF;omega)|rfl))|(apply r_nilK)|(apply k_V;rfl)|(apply k_P;rfl)|(apply k_nil)|(apply e_ret (vs:=[.d (.val _)]);rfl)|(apply w_seq)|(apply w_ops;((conv=>lhs;simp only [Nat.reduceAdd])<;>rfl))|(apply w_condF;rfl)|(apply e_thenN)|(apply e_thenR)|(apply e_thenX)|(apply e_blkR)|(apply e_blkE)|(apply w_exit)|(apply w_ret))
      exact retB rfl
  · have e : nlT (.node 4 a b c d mn mx subs)=nlAny subs:=by simp [nlT]
    rw [e]
    refine b131 (by simp) (by simp) (w_init ?_)
    unfold x131
    repeat' (first|(apply r_mvV;rfl)|(apply r_mvP;rfl)|(apply r_nckD;rfl)|(apply r_faddD;rfl)|(apply r_l;apply ld_kind;assumption;rfl)|(apply r_l;apply ld_subs;assumption;rfl)|(apply r_eql;rfl;rfl;(first|(apply dT;omega)|(apply dF;omega)|rfl))|(apply r_lenD;rfl)|(apply r_nilK)|(apply k_V;rfl)|(apply k_P;rfl)|(apply k_nil)|(apply w_seq)|(apply w_ops;((conv=>lhs;simp only [Nat.reduceAdd])<;>rfl))|(apply w_condT;rfl)|(apply w_condF;rfl)|(apply e_thenN)|(apply w_block))
    apply w_loopI (S:=fun i : Nat=>⟨((Fr.nil.put 0 (.d (.ptr cs off))).put 36 (.i subs.length)).put 37 (.i i),Heap.nil,Frz.lo 100,100⟩) (m:=fun i=>subs.length - i) (I:=fun i=>i≤subs.length∧nlAny subs=nlAny (subs.drop i)) (i0:=0)
    · exact ⟨Nat.zero_le _,rfl⟩
    · refine wk0 (by omega) ?_
      repeat' (first|exact FWk.nil|(apply FWk.i;rfl;(first|rfl|omega|(simp;done)))|(apply FWk.d;rfl;rfl))
    rintro i K ⟨hi,hq⟩ hK
    dsimp only
    rcases Nat.lt_or_ge i subs.length with hlt | hge
    · have hg:=ih' i hlt
      have hd:=nlAny_drop subs i hlt
      rcases Bool.eq_false_or_eq_true (nlT subs[i]) with hr | hr
      · rw [hr] at hg hd
        repeat' (first|(apply r_mvV;rfl)|(apply r_mvP;rfl)|(apply r_nckD;rfl)|(apply r_faddD;rfl)|(apply r_l;apply ld_subs;assumption;rfl)|(apply r_p;apply ix_sub;rfl;rfl;omega)|(apply r_callA;rfl;rfl;exact hg)|(apply r_lss;rfl;rfl;(first|(apply dT;omega)|(apply dF;omega)|rfl))|(apply r_nilK)|(apply k_V;rfl)|(apply k_P;rfl)|(apply k_nil)|(apply e_ret (vs:=[.d (.val _)]);rfl)|(apply w_seq)|(apply w_ops;((conv=>lhs;simp only [Nat.reduceAdd])<;>rfl))|(apply w_condT;rfl)|(apply e_thenN)|(apply w_block)|(apply e_thenR)|(apply e_blkR)|(apply w_ret)|(apply w_skip))
        exact retB (by rw [hq,hd,Bool.true_or])
      · rw [hr] at hg hd
        repeat' (first|(apply r_mvV;rfl)|(apply r_mvP;rfl)|(apply r_nckD;rfl)|(apply r_faddD;rfl)|(apply r_l;apply ld_subs;assumption;rfl)|(apply r_p;apply ix_sub;rfl;rfl;omega)|(apply r_callA;rfl;rfl;exact hg)|(apply r_lss;rfl;rfl;(first|(apply dT;omega)|(apply dF;omega)|rfl))|(apply r_add;rfl;rfl;rfl;omega)|(apply r_nilK)|(apply k_V;rfl)|(apply k_P;rfl)|(apply k_nil)|(apply w_seq)|(apply w_ops;((conv=>lhs;simp only [Nat.reduceAdd])<;>rfl))|(apply w_condT;rfl)|(apply w_condF;rfl)|(apply e_thenN)|(apply w_block)|(apply e_blkN)|(apply w_skip))
        apply e_thenK
        apply hK (i + 1)
        · exact ⟨by omega,by rw [hq,hd,Bool.false_or]⟩
        · omega
        · refine wk0 (by omega) ?_
          repeat' (first|exact FWk.nil|(apply FWk.i;rfl;(first|rfl|omega|(simp;done)))|(apply FWk.d;rfl;rfl))
    · have e : nlAny subs=false:=by rw [hq,List.drop_of_length_le hge,nlAny]
      rw [e]
      repeat' (first|(apply r_mvV;rfl)|(apply r_lss;rfl;rfl;(first|(apply dT;omega)|(apply dF;omega)|rfl))|(apply r_nilK)|(apply k_V;rfl)|(apply k_P;rfl)|(apply k_nil)|(apply e_ret (vs:=[.d (.val _)]);rfl)|(apply w_seq)|(apply w_ops;((conv=>lhs;simp only [Nat.reduceAdd])<;>rfl))|(apply w_condF;rfl)|(apply e_thenN)|(apply e_thenX)|(apply e_blkN)|(apply e_blkE)|(apply w_exit)|(apply w_ret))
      exact retB rfl
  · obtain ⟨u,rfl⟩:=plainT_5 hp
    have hg:=ih' 0 (by simp)
    simp only [List.getElem_cons_zero] at hg
    have e : nlT (.node 5 a b c d mn mx [u])=(decide (mn=0) || nlT u):=by simp [nlT,nlFst]
    rw [e]
    by_cases hm : mn=0
    · refine b131 (by simp) (by simp) (w_init ?_)
      unfold x131
      repeat' (first|(apply r_mvV;rfl)|(apply r_mvP;rfl)|(apply r_nckD;rfl)|(apply r_faddD;rfl)|(apply r_l;apply ld_kind;assumption;rfl)|(apply r_l;apply ld_mn;assumption;rfl)|(apply r_eql;rfl;rfl;(first|(apply dT;omega)|(apply dF;omega)|rfl))|(apply r_pickT;rfl)|(apply r_gF';rfl;rfl)|(apply r_nilK)|(apply k_V;rfl)|(apply k_P;rfl)|(apply k_nil)|(apply e_ret (vs:=[.d (.val _)]);rfl)|(apply w_seq)|(apply w_ops;((conv=>lhs;simp only [Nat.reduceAdd])<;>rfl))|(apply w_condT;rfl)|(apply w_condF;rfl)|(apply e_thenN)|(apply w_block)|(apply e_thenR)|(apply e_blkR)|(apply w_ret))
      exact retB (by simp [hm])
    · refine b131 (by simp) (by simp) (w_init ?_)
      unfold x131
      repeat' (first|(apply r_mvV;rfl)|(apply r_mvP;rfl)|(apply r_nckD;rfl)|(apply r_faddD;rfl)|(apply r_l;apply ld_kind;assumption;rfl)|(apply r_l;apply ld_mn;assumption;rfl)|(apply r_l;apply ld_subs;assumption;rfl)|(apply r_p;apply ix_sub (j:=0);rfl;rfl;(simp))|(apply r_callA;rfl;rfl;exact hg)|(apply r_eql;rfl;rfl;(first|(apply dT;omega)|(apply dF;omega)|rfl))|(apply r_pickF;rfl)|(apply r_gT;rfl)|(apply r_nilK)|(apply k_V;rfl)|(apply k_P;rfl)|(apply k_nil)|(apply e_ret (vs:=[.d (.val _)]);rfl)|(apply w_seq)|(apply w_ops;((conv=>lhs;simp only [Nat.reduceAdd])<;>rfl))|(apply w_condT;rfl)|(apply w_condF;rfl)|(apply e_thenN)|(apply w_block)|(apply e_thenR)|(apply e_blkR)|(apply w_ret))
      rw [show decide (mn=0)=false from decide_eq_false hm,Bool.false_or]
      exact retB rfl
theorem has152_good {cs : List DV} {off : Nat} {a b c d : Int} (hs : SetAt cs off a b c d) (ha : okW a) (hb : okW b) (hc : okW c) (hd : okW d) {x : Nat} (hx : x < 256) : Good Try.prog 152 [.d (.ptr cs off),.d (.val (.int .u8 (x : Nat)))] none (.b (inG a b c d x)) none none:=by
  have hw : okW ([a,b,c,d].getD (x / 64) 0):=by
    have : x / 64 < 4:=by omega
    match x / 64,this with
    | 0,_=>exact ha
    | 1,_=>exact hb
    | 2,_=>exact hc
    | 3,_=>exact hd
  refine b152 (by simp) (by simp) (w_init ?_)
  unfold x152
  repeat' (first|(apply r_mvV;rfl)|(apply r_mvP;rfl)|(apply r_nckD;rfl)|(apply r_shr6;rfl;rfl)|(apply r_and63;rfl;rfl;exact hx)|(apply r_ixPD;rfl;rfl;omega)|(apply r_ldSet hs;rfl;omega)|(apply r_shrW;rfl;rfl;exact hw.1;omega)|(apply r_and1;rfl;rfl;exact okW_div hw _)|(apply r_eqlU;rfl;rfl;rfl)|(apply r_nilK)|(apply k_V;rfl)|(apply k_P;rfl)|(apply k_nil)|(apply e_ret (vs:=[.d (.val _)]);rfl)|(apply w_seq)|(apply w_ops;((conv=>lhs;simp only [Nat.reduceAdd])<;>rfl))|(apply e_thenN)|(apply w_ret))
  exact retB rfl
end Go.Sv
