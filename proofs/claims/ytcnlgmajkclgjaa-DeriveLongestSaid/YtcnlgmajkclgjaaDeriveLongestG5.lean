/- A part of the proof of the law DeriveLongest: that it answers true for every input, and that the input reads behind the call as before (no condition). -/
import Derived.Test.YtcnlgmajkclgjaaDeriveLongestG4
import Derived.Test.YtcnlgmajkclgjaaRows
import Derived.ProofKit
import Derived.OpenShut
set_option linter.all false
set_option linter.unusedSectionVars false
set_option linter.unusedVariables false
set_option linter.unusedSimpArgs false
namespace Go.Sv
open Go Go.Proofs
set_option maxRecDepth 100000
set_option maxHeartbeats 4000000
attribute [local irreducible] W E R KP thenK blockK retK Good xwp aRun
theorem rcatG_drop (s : ByteArray) (l : List T) (p : List Bool) (i : Nat) (h : i < l.length) : rcatG s (l.drop i) p=rcatG s (l.drop (i + 1)) (refG s l[i] p):=by
  rw [List.drop_eq_getElem_cons h,rcatG]
theorem raltG_drop (s : ByteArray) (l : List T) (p out : List Bool) (i : Nat) (h : i < l.length) : raltG s (l.drop i) p out=raltG s (l.drop (i + 1)) p (addTo out (refG s l[i] p) (s.size + 1)).1:=by
  rw [List.drop_eq_getElem_cons h,raltG]
theorem ref_good (s : ByteArray) (hsz : s.size≤1000000) : ∀ (n : Nat) (t : T),t.cnt≤n→n≤1000000→okT t→∀ (p : List Bool),p.length=s.size + 1 →
    Good Try.prog 88 [nodeA t,.d (.val (.string s)),.d (.sl (encB p) (s.size + 1))] none (.d (.sl (encB (refG s t p)) (s.size + 1))) none none:=by
  intro n
  induction n with
  | zero=>intro t ht;have:=cnt_pos t;omega
  | succ n ih =>
  intro t ht hc hok p hp
  obtain ⟨k,a,b,c,d,mn,mx,subs⟩:=t
  have hR:=okT_R hok
  simp only [okT,okN] at hok
  obtain ⟨⟨ha,hb,hcc,hd,hpl⟩,hoks⟩:=hok
  have ih' : ∀ i (h : i < subs.length) (q : List Bool),q.length=s.size + 1→Good Try.prog 88 [nodeA subs[i],.d (.val (.string s)),.d (.sl (encB q) (s.size + 1))] none (.d (.sl (encB (refG s subs[i] q)) (s.size + 1))) none none:=by
    intro i h q hq
    refine ih _ ?_ (by omega) (okL_get subs i h hoks) _ hq
    have:=cntL_get subs i h
    simp only [T.cnt] at ht
    omega
  have hlen : subs.length≤1000000:=by
    have:=cntL_len subs
    simp only [T.cnt] at ht
    omega
  have e0 : nodeA (.node k a b c d mn mx subs)=.agg [.i k,.d (.val (.int .u64 a)),.d (.val (.int .u64 b)),.d (.val (.int .u64 c)),.d (.val (.int .u64 d)),.i mn,.i mx,.d (.sl (encL subs) subs.length)]:=rfl
  rw [e0]
  refine b88 (by simp) (by simp) (w_init ?_)
  unfold x88
  by_cases h1 : k=1
  · repeat' (first|(apply r_mvV;rfl)|(apply r_mvS;rfl)|(apply r_mvSL;rfl)|(apply r_faddL;rfl)|(apply r_mksB (m:=s.size + 1);rfl;rfl;((conv=>lhs;simp only [Nat.reduceAdd])<;>rfl);omega;omega)|(apply r_cpyB;rfl;rfl;rfl;rfl;simp;exact hp)|(apply r_ldL;rfl;rfl;rfl)|(apply r_eql;rfl;rfl;(first|(apply dT;omega)|(apply dF;omega)|rfl))|(apply r_add;rfl;rfl;rfl;omega)|(apply r_lenT;rfl)|(apply r_box;((conv=>lhs;simp only [Nat.reduceAdd])<;>rfl);rfl;rfl;rfl)|(apply r_nilK)|(apply k_V;rfl)|(apply k_PL;rfl)|(apply k_S;rfl)|(apply k_SL;rfl)|(apply k_nil)|(apply e_ret;rfl)|(apply w_seq)|(apply w_ops;((conv=>lhs;simp only [Nat.reduceAdd])<;>rfl))|(apply w_condT;rfl)|(apply e_thenN)|(apply w_block)|(apply e_blkN)|(apply w_ret))
    rw [show refG s (.node k a b c d mn mx subs) p=p by simp [refG,h1]]
    exact retSB rfl hp
  by_cases h2 : k=2
  · repeat' (first|(apply r_mvV;rfl)|(apply r_mvSL;rfl)|(apply r_faddL;rfl)|(apply r_mksB (m:=s.size + 1);rfl;rfl;((conv=>lhs;simp only [Nat.reduceAdd])<;>rfl);omega;omega)|(apply r_ldL;rfl;rfl;rfl)|(apply r_eql;rfl;rfl;(first|(apply dT;omega)|(apply dF;omega)|rfl))|(apply r_add;rfl;rfl;rfl;omega)|(apply r_lenT;rfl)|(apply r_box;((conv=>lhs;simp only [Nat.reduceAdd])<;>rfl);rfl;rfl;rfl)|(apply r_nilK)|(apply k_V;rfl)|(apply k_PL;rfl)|(apply k_S;rfl)|(apply k_SL;rfl)|(apply k_nil)|(apply w_seq)|(apply w_ops;((conv=>lhs;simp only [Nat.reduceAdd])<;>rfl))|(apply w_condT;rfl)|(apply w_condF;rfl)|(apply e_thenN)|(apply w_block))
    apply w_loopI (S:=fun i : Nat=>⟨((((Fr.nil.put 1 (.d (.val (.string s)))).put 2 (.d (.sl (encB p) (s.size + 1)))).put 3 (.ptrL 1 0)).put 7 (.slL 6 0 (s.size + 1) 1)).put 8 (.i i),(Heap.nil.put 1 [.i k,.d (.val (.int .u64 a)),.d (.val (.int .u64 b)),.d (.val (.int .u64 c)),.d (.val (.int .u64 d)),.i mn,.i mx,.d (.sl (encL subs) subs.length)]).put 6 ((encB (classTo a b c d s p i)).map AV.d),Frz.but 100 6,100⟩) (m:=fun i=>s.size - i) (I:=fun i=>i≤s.size) (i0:=0)
    · exact Nat.zero_le _
    · exact wk2C (c:=6) (by omega) (by omega) (by omega) (by omega) (by omega) (by omega) rfl rfl rfl rfl encB_isD (FWk.i rfl rfl (FWk.sl rfl rfl rfl rfl (by omega) rfl (FWk.ptr rfl rfl rfl (by omega) rfl (FWk.d rfl rfl (FWk.d rfl rfl FWk.nil)))))
    intro i K hi hK
    dsimp only
    rcases Nat.lt_or_ge i s.size with hlt | hge
    · have hby:=byteN_lt s i
      have hl:=classTo_len a b c d s p i
      have hg : p[i]?=some (p.getD i false):=by
        rw [List.getD_eq_getElem?_getD,List.getElem?_eq_getElem (by omega)];rfl
      have hin:=in_good ha hb hcc hd (byteN s i) hby
      repeat' (first|(apply r_mvV;rfl)|(apply r_mvS;rfl)|(apply r_mvSL;rfl)|(apply r_faddL;rfl)|(apply r_ixB';rfl;rfl;omega;exact hp)|(apply r_ldB;rfl;exact hg)|(apply r_idxT;rfl;rfl;omega)|(apply r_callA;rfl;rfl;exact hin)|(apply r_ixL1;rfl;rfl;omega)|(apply r_stB;rfl;rfl;rfl;rfl;omega)|(apply r_ldL;rfl;rfl;rfl)|(apply r_lss;rfl;rfl;(first|(apply dT;omega)|(apply dF;omega)|rfl))|(apply r_add;rfl;rfl;rfl;omega)|(apply r_pickT;rfl)|(apply r_pickF;rfl)|(apply r_lenT;rfl)|(apply r_gT;rfl)|(apply r_gF';rfl;rfl)|((apply r_gS (o:=default);rfl)<;>(intro h;try simp only [decide_eq_true_eq,decide_eq_false_iff_not,Bool.not_eq_true,Bool.not_eq_false] at h))|(apply r_nilK)|(apply k_V;rfl)|(apply k_PL;rfl)|(apply k_S;rfl)|(apply k_SL;rfl)|(apply k_nil)|(apply w_seq)|(apply w_ops;((conv=>lhs;simp only [Nat.reduceAdd])<;>rfl))|(apply w_condT;rfl)|(apply e_thenN)|(apply w_block)|(apply e_blkN)|(apply w_skip))
      all_goals (apply e_thenK;apply hK (i + 1);omega;omega;refine wk2C (c:=6) (by omega) (by omega) (by omega) (by omega) (by omega) (by omega) rfl rfl ?_ rfl encB_isD (FWk.i rfl (by simp) (FWk.sl rfl rfl rfl rfl (by omega) rfl (FWk.ptr rfl rfl rfl (by omega) rfl (FWk.d rfl rfl (FWk.d rfl rfl FWk.nil)))));rw [classTo,h];rfl)
    · repeat' (first|(apply r_mvV;rfl)|(apply r_mvSL;rfl)|(apply r_lss;rfl;rfl;(first|(apply dT;omega)|(apply dF;omega)|rfl))|(apply r_lenT;rfl)|(apply r_nilK)|(apply k_V;rfl)|(apply k_PL;rfl)|(apply k_S;rfl)|(apply k_SL;rfl)|(apply k_nil)|(apply e_ret;rfl)|(apply w_seq)|(apply w_ops;((conv=>lhs;simp only [Nat.reduceAdd])<;>rfl))|(apply w_condF;rfl)|(apply e_thenN)|(apply e_thenX)|(apply e_blkN)|(apply e_blkE)|(apply w_exit)|(apply w_ret))
      rw [show refG s (.node k a b c d mn mx subs) p=classTo a b c d s p i by simp [refG,h2,show i=s.size by omega]]
      exact retSB rfl (classTo_len _ _ _ _ _ _ _)
  by_cases h3 : k=3
  · repeat' (first|(apply r_mvV;rfl)|(apply r_mvS;rfl)|(apply r_mvSL;rfl)|(apply r_faddL;rfl)|(apply r_mksB (m:=s.size + 1);rfl;rfl;((conv=>lhs;simp only [Nat.reduceAdd])<;>rfl);omega;omega)|(apply r_cpyB;rfl;rfl;rfl;rfl;simp;exact hp)|(apply r_ldL;rfl;rfl;rfl)|(apply r_eql;rfl;rfl;(first|(apply dT;omega)|(apply dF;omega)|rfl))|(apply r_add;rfl;rfl;rfl;omega)|(apply r_lenT;rfl)|(apply r_box;((conv=>lhs;simp only [Nat.reduceAdd])<;>rfl);rfl;rfl;rfl)|(apply r_nilK)|(apply k_V;rfl)|(apply k_PL;rfl)|(apply k_S;rfl)|(apply k_SL;rfl)|(apply k_nil)|(apply w_seq)|(apply w_ops;((conv=>lhs;simp only [Nat.reduceAdd])<;>rfl))|(apply w_condT;rfl)|(apply w_condF;rfl)|(apply e_thenN)|(apply w_block))
    apply w_loopF (ι:=Nat × List Bool) (S:=fun q=>⟨(((Fr.nil.put 1 (.d (.val (.string s)))).put 3 (.ptrL 1 0)).put 7 (.d (.sl (encB q.2) (s.size + 1)))).put 9 (.i q.1),Heap.nil.put 1 [.i k,.d (.val (.int .u64 a)),.d (.val (.int .u64 b)),.d (.val (.int .u64 c)),.d (.val (.int .u64 d)),.i mn,.i mx,.d (.sl (encL subs) subs.length)],Frz.lo 100,100⟩) (m:=fun q=>subs.length - q.1)
      (I:=fun q=>q.1≤subs.length∧q.2.length=s.size + 1∧rcatG s subs p=rcatG s (subs.drop q.1) q.2) (i0:=(0,p))
    · exact ⟨Nat.zero_le _,hp,by simp⟩
    · refine fzB (k:=7) (p:=p) rfl rfl hp (by omega) (wkR (by omega) rfl rfl ?_)
      repeat' (first|exact FWk.nil|(apply FWk.i;rfl;(first|rfl|omega|(simp;done)))|(apply FWk.ptr;rfl;rfl;rfl;omega;rfl)|(apply FWk.d;rfl;rfl))
    rintro ⟨i,q⟩ K ⟨hi,hq,hm⟩ hK
    dsimp only at hi hq hm hK ⊢
    rcases Nat.lt_or_ge i subs.length with hlt | hge
    · have hs:=NodeAt.sub hlt
      have hdr:=rcatG_drop s subs q i hlt
      have hna : [nodeA subs[i],.d (.val (.string s)),.d (.sl (encB q) (s.size + 1))].all AV.nrm=true:=by
        rw [List.all_cons,nodeA_nrm];rfl
      repeat' (first|(apply r_mvV;rfl)|(apply r_mvS;rfl)|(apply r_faddL;rfl)|(apply r_l;apply ld_node';assumption;rfl)|(apply r_p;apply ix_sub;rfl;rfl;omega)|(apply r_callA (ags:=[nodeA subs[i],.d (.val (.string s)),.d (.sl (encB q) (s.size + 1))]);rfl;exact hna;exact ih' i hlt q hq)|(apply r_ldL;rfl;rfl;rfl)|(apply r_lss;rfl;rfl;(first|(apply dT;omega)|(apply dF;omega)|rfl))|(apply r_add;rfl;rfl;rfl;omega)|(apply r_lenD;rfl)|(apply r_nilK)|(apply k_V;rfl)|(apply k_PL;rfl)|(apply k_S;rfl)|(apply k_nil)|(apply w_seq)|(apply w_ops;((conv=>lhs;simp only [Nat.reduceAdd])<;>rfl))|(apply w_condT;rfl)|(apply e_thenN)|(apply w_block)|(apply e_blkN)|(apply w_skip))
      apply e_thenK
      apply hK (i + 1,refG s subs[i] q)
      · exact ⟨by dsimp only;omega,refG_len s _ _ hq,by rw [hm,hdr]⟩
      · dsimp only;omega
      · refine (wkR (by omega) rfl rfl ?_).f
        repeat' (first|exact FWk.nil|(apply FWk.i;rfl;(first|rfl|omega|(simp;done)))|(apply FWk.ptr;rfl;rfl;rfl;omega;rfl)|(apply FWk.d;rfl;rfl))
    · repeat' (first|(apply r_mvV;rfl)|(apply r_mvS;rfl)|(apply r_faddL;rfl)|(apply r_ldL;rfl;rfl;rfl)|(apply r_lss;rfl;rfl;(first|(apply dT;omega)|(apply dF;omega)|rfl))|(apply r_lenD;rfl)|(apply r_nilK)|(apply k_V;rfl)|(apply k_PL;rfl)|(apply k_S;rfl)|(apply k_nil)|(apply e_ret;rfl)|(apply w_seq)|(apply w_ops;((conv=>lhs;simp only [Nat.reduceAdd])<;>rfl))|(apply w_condF;rfl)|(apply e_thenN)|(apply e_thenX)|(apply e_blkN)|(apply e_blkE)|(apply w_exit)|(apply w_ret))
      rw [show i=subs.length by omega,List.drop_length,rcatG] at hm
      rw [show refG s (.node k a b c d mn mx subs) p=q by simp [refG,h3,hm]]
      exact retSD rfl
  by_cases h4 : k=4
  · repeat' (first|(apply r_mvV;rfl)|(apply r_mvSL;rfl)|(apply r_faddL;rfl)|(apply r_mksB (m:=s.size + 1);rfl;rfl;((conv=>lhs;simp only [Nat.reduceAdd])<;>rfl);omega;omega)|(apply r_ldL;rfl;rfl;rfl)|(apply r_eql;rfl;rfl;(first|(apply dT;omega)|(apply dF;omega)|rfl))|(apply r_add;rfl;rfl;rfl;omega)|(apply r_lenT;rfl)|(apply r_box;((conv=>lhs;simp only [Nat.reduceAdd])<;>rfl);rfl;rfl;rfl)|(apply r_nilK)|(apply k_V;rfl)|(apply k_PL;rfl)|(apply k_S;rfl)|(apply k_SL;rfl)|(apply k_nil)|(apply w_seq)|(apply w_ops;((conv=>lhs;simp only [Nat.reduceAdd])<;>rfl))|(apply w_condT;rfl)|(apply w_condF;rfl)|(apply e_thenN)|(apply w_block))
    apply w_loopI (ι:=Nat × List Bool) (S:=fun q=>⟨((((Fr.nil.put 1 (.d (.val (.string s)))).put 2 (.d (.sl (encB p) (s.size + 1)))).put 3 (.ptrL 1 0)).put 7 (.slL 6 0 (s.size + 1) 1)).put 10 (.i q.1),(Heap.nil.put 1 [.i k,.d (.val (.int .u64 a)),.d (.val (.int .u64 b)),.d (.val (.int .u64 c)),.d (.val (.int .u64 d)),.i mn,.i mx,.d (.sl (encL subs) subs.length)]).put 6 ((encB q.2).map AV.d),Frz.but 100 6,100⟩) (m:=fun q=>subs.length - q.1)
      (I:=fun q=>q.1≤subs.length∧q.2.length=s.size + 1∧raltG s subs p (List.replicate (s.size + 1) false)=raltG s (subs.drop q.1) p q.2) (i0:=(0,List.replicate (s.size + 1) false))
    · exact ⟨Nat.zero_le _,by simp,by simp⟩
    · exact wk2C (c:=6) (by omega) (by omega) (by omega) (by omega) (by omega) (by omega) rfl rfl rfl rfl encB_isD (FWk.i rfl rfl (FWk.sl rfl rfl rfl rfl (by omega) rfl (FWk.ptr rfl rfl rfl (by omega) rfl (FWk.d rfl rfl (FWk.d rfl rfl FWk.nil)))))
    rintro ⟨i,q⟩ K ⟨hi,hq,hm⟩ hK
    dsimp only at hi hq hm hK ⊢
    rcases Nat.lt_or_ge i subs.length with hlt | hge
    · have hs:=NodeAt.sub hlt
      have hdr:=raltG_drop s subs p q i hlt
      have hs2:=refG_len s subs[i] p hp
      have hna : [nodeA subs[i],.d (.val (.string s)),.d (.sl (encB p) (s.size + 1))].all AV.nrm=true:=by
        rw [List.all_cons,nodeA_nrm];rfl
      repeat' (first|(apply r_mvV;rfl)|(apply r_mvS;rfl)|(apply r_mvSL;rfl)|(apply r_faddL;rfl)|(apply r_l;apply ld_node';assumption;rfl)|(apply r_p;apply ix_sub;rfl;rfl;omega)|(apply r_callA (ags:=[nodeA subs[i],.d (.val (.string s)),.d (.sl (encB p) (s.size + 1))]);rfl;exact hna;exact ih' i hlt p hp)|(apply r_callW;rfl;rfl;rfl;rfl;exact or_good q _ hq hs2 (by omega))|(apply r_ldL;rfl;rfl;rfl)|(apply r_lss;rfl;rfl;(first|(apply dT;omega)|(apply dF;omega)|rfl))|(apply r_add;rfl;rfl;rfl;omega)|(apply r_lenD;rfl)|(apply r_nilK)|(apply k_V;rfl)|(apply k_PL;rfl)|(apply k_S;rfl)|(apply k_SL;rfl)|(apply k_nil)|(apply w_seq)|(apply w_ops;((conv=>lhs;simp only [Nat.reduceAdd])<;>rfl))|(apply w_condT;rfl)|(apply e_thenN)|(apply w_block)|(apply e_blkN)|(apply w_skip))
      apply e_thenK
      apply hK (i + 1,(addTo q (refG s subs[i] p) (s.size + 1)).1)
      · exact ⟨by dsimp only;omega,by dsimp only;rw [addTo_len];exact hq,by rw [hm,hdr]⟩
      · dsimp only;omega
      · exact wk2C (c:=6) (by omega) (by omega) (by omega) (by omega) (by omega) (by omega) rfl rfl rfl rfl encB_isD (FWk.i rfl (by simp) (FWk.sl rfl rfl rfl rfl (by omega) rfl (FWk.ptr rfl rfl rfl (by omega) rfl (FWk.d rfl rfl (FWk.d rfl rfl FWk.nil)))))
    · repeat' (first|(apply r_mvV;rfl)|(apply r_mvSL;rfl)|(apply r_faddL;rfl)|(apply r_ldL;rfl;rfl;rfl)|(apply r_lss;rfl;rfl;(first|(apply dT;omega)|(apply dF;omega)|rfl))|(apply r_lenD;rfl)|(apply r_nilK)|(apply k_V;rfl)|(apply k_PL;rfl)|(apply k_S;rfl)|(apply k_SL;rfl)|(apply k_nil)|(apply e_ret;rfl)|(apply w_seq)|(apply w_ops;((conv=>lhs;simp only [Nat.reduceAdd])<;>rfl))|(apply w_condF;rfl)|(apply e_thenN)|(apply e_thenX)|(apply e_blkN)|(apply e_blkE)|(apply w_exit)|(apply w_ret))
      rw [show i=subs.length by omega,List.drop_length,raltG] at hm
      rw [show refG s (.node k a b c d mn mx subs) p=q by simp [refG,h4,hm]]
      exact retSB rfl hq
  by_cases h5 : k=5
  · have hR5:=hR h5
    have hl0 : 0 < subs.length:=by
      simp [plainT,h5] at hpl
      omega
    have hfst : ∀ q,rfstG s subs q=refG s (subs[0]'hl0) q:=by
      intro q
      match subs,hl0 with
      | t :: l,_=>rfl
    have hs0 : NodeAt (encL subs) 0 (subs[0]'hl0):=by simpa using NodeAt.sub hl0
    obtain ⟨last,hlast⟩ : ∃ last : Int,last=(if mx < 0 then mn + s.size + 1 else mx):=⟨_,rfl⟩
    have hspec : refG s (.node k a b c d mn mx subs) p=refR (rfstG s subs) (s.size + 1) mn last (last + 1).toNat 0 p (List.replicate (s.size + 1) false):=by simp [refG,h5,hlast]
    by_cases hneg : mx < 0
    all_goals simp only [hneg,if_true,if_false] at hlast
    · repeat' (first|(apply r_mvV;rfl)|(apply r_mvS;rfl)|(apply r_mvSL;rfl)|(apply r_faddL;rfl)|(apply r_mksB (m:=s.size + 1);rfl;rfl;((conv=>lhs;simp only [Nat.reduceAdd])<;>rfl);omega;omega)|(apply r_mkrow0;((conv=>lhs;simp only [Nat.reduceAdd])<;>rfl))|(apply r_appB0;rfl;rfl;rfl;rfl;((conv=>lhs;simp only [Nat.reduceAdd])<;>rfl);exact hp;omega)|(apply r_ldL;rfl;rfl;rfl)|(apply r_eql;rfl;rfl;(first|(apply dT;omega)|(apply dF;omega)|rfl))|(apply r_lss;rfl;rfl;(first|(apply dT;omega)|(apply dF;omega)|rfl))|(apply r_add;rfl;rfl;rfl;omega)|(apply r_lenT;rfl)|(apply r_box;((conv=>lhs;simp only [Nat.reduceAdd])<;>rfl);rfl;rfl;rfl)|(apply r_nilK)|(apply k_V;rfl)|(apply k_PL;rfl)|(apply k_S;rfl)|(apply k_SL;rfl)|(apply k_nil)|(apply w_seq)|(apply w_ops;((conv=>lhs;simp only [Nat.reduceAdd])<;>rfl))|(apply w_condT;rfl)|(apply w_condF;rfl)|(apply e_thenN)|(apply w_block))
      apply w_loopF (ι:=Nat × List Bool × List Bool) (S:=fun q=>⟨(((((Fr.nil.put 1 (.d (.val (.string s)))).put 3 (.ptrL 1 0)).put 7 (.slL 6 0 (s.size + 1) 1)).put 11 (.d (.sl (encB q.2.1) (s.size + 1)))).put 12 (.i last)).put 13 (.i q.1),(Heap.nil.put 1 [.i k,.d (.val (.int .u64 a)),.d (.val (.int .u64 b)),.d (.val (.int .u64 c)),.d (.val (.int .u64 d)),.i mn,.i mx,.d (.sl (encL subs) subs.length)]).put 6 ((encB q.2.2).map AV.d),Frz.but 100 6,100⟩) (m:=fun q=>(last + 1 - q.1).toNat)
        (I:=fun q=>q.2.1.length=s.size + 1∧q.2.2.length=s.size + 1∧refG s (.node k a b c d mn mx subs) p=refR (rfstG s subs) (s.size + 1) mn last (last + 1 - q.1).toNat q.1 q.2.1 q.2.2) (i0:=(0,p,List.replicate (s.size + 1) false))
      · exact ⟨hp,by simp,by rw [hspec];simp⟩
      · refine fzB (k:=11) (p:=p) rfl rfl hp (by omega) (wk2C (c:=6) (by omega) (by omega) (by omega) (by omega) (by omega) (by omega) rfl rfl rfl rfl encB_isD ?_)
        repeat' (first|exact FWk.nil|(apply FWk.i;rfl;(first|rfl|omega|(simp;done)))|(apply FWk.sl;rfl;rfl;rfl;rfl;omega;rfl)|(apply FWk.ptr;rfl;rfl;rfl;omega;rfl)|(apply FWk.d;rfl;rfl))
      rintro ⟨i,q,out⟩ K ⟨hq,ho,hm⟩ hK
      dsimp only at hq ho hm hK ⊢
      have hor:=or_good out q ho hq (by omega)
      have hl2 : (addTo out q (s.size + 1)).1.length=s.size + 1:=by rw [addTo_len];exact ho
      have hnx : (rfstG s subs q).length=s.size + 1:=by rw [hfst];exact refG_len s _ _ hq
      have hcall : Good Try.prog 88 [nodeA (subs[0]'hl0),.d (.val (.string s)),.d (.sl (encB q) (s.size + 1))] none (.d (.sl (encB (rfstG s subs q)) (s.size + 1))) none none:=by
        rw [hfst];exact ih' 0 hl0 q hq
      have hna : [nodeA (subs[0]'hl0),.d (.val (.string s)),.d (.sl (encB q) (s.size + 1))].all AV.nrm=true:=by
        rw [List.all_cons,nodeA_nrm];rfl
      by_cases hgt : last < (i : Int)
      · repeat' (first|(apply r_mvV;rfl)|(apply r_mvSL;rfl)|(apply r_leq;rfl;rfl;(first|(apply dT;omega)|(apply dF;omega)|rfl))|(apply r_nilK)|(apply k_V;rfl)|(apply k_PL;rfl)|(apply k_S;rfl)|(apply k_SL;rfl)|(apply k_nil)|(apply e_ret;rfl)|(apply w_seq)|(apply w_ops;((conv=>lhs;simp only [Nat.reduceAdd])<;>rfl))|(apply w_condF;rfl)|(apply e_thenN)|(apply e_thenX)|(apply e_blkN)|(apply e_blkE)|(apply w_exit)|(apply w_ret))
        rw [show (last + 1 - (i : Int)).toNat=0 by omega,refR] at hm
        rw [hm]
        exact retSB rfl ho
      have hle : (i : Int)≤last:=by omega
      obtain ⟨f,hf⟩ : ∃ f,(last + 1 - (i : Int)).toNat=f + 1:=⟨(last - i).toNat,by omega⟩
      have hf2 : (last + 1 - ((i + 1 : Nat) : Int)).toNat=f:=by omega
      rw [hf] at hm
      rw [refR,if_pos hle] at hm
      by_cases hmk : mn≤i
      · rw [if_pos hmk] at hm
        repeat' (first|(apply r_mvV;rfl)|(apply r_mvS;rfl)|(apply r_mvSL;rfl)|(apply r_faddL;rfl)|(apply r_l;apply ld_node';assumption;rfl)|(apply r_callW;rfl;rfl;rfl;rfl;exact hor)|(apply r_p;apply ix_sub0;rfl;rfl;exact hl0)|(apply r_callA (ags:=[nodeA (subs[0]'hl0),.d (.val (.string s)),.d (.sl (encB q) (s.size + 1))]);rfl;exact hna;exact hcall)|(apply r_ldL;rfl;rfl;rfl)|(apply r_leq;rfl;rfl;(first|(apply dT;omega)|(apply dF;omega)|rfl))|(apply r_geq;rfl;rfl;(first|(apply dT;omega)|(apply dF;omega)|rfl))|(apply r_add;rfl;rfl;rfl;omega)|(apply r_not;rfl;rfl)|(apply r_pickT;rfl)|(apply r_gT;rfl)|(apply r_nilK)|(apply k_V;rfl)|(apply k_PL;rfl)|(apply k_S;rfl)|(apply k_SL;rfl)|(apply k_nil)|(apply e_ret;rfl)|(apply w_seq)|(apply w_ops;((conv=>lhs;simp only [Nat.reduceAdd])<;>rfl))|(apply w_condT;rfl)|((apply w_condS;rfl)<;>(intro h;try simp only [decide_eq_true_eq,decide_eq_false_iff_not,Bool.not_eq_true,Bool.not_eq_false] at h))|(apply e_thenN)|(apply w_block)|(apply e_thenX)|(apply e_blkN)|(apply e_blkE)|(apply w_exit)|(apply w_ret)|(apply w_skip)|(apply e_blkE';rfl))
        · simp only [Bool.not_eq_true'] at h
          rw [if_neg (by simp [h])] at hm
          rw [hm]
          exact retSB rfl hl2
        · apply e_thenK
          simp only [Bool.not_eq_false'] at h
          rw [if_pos h] at hm
          apply hK (i + 1,rfstG s subs q,(addTo out q (s.size + 1)).1)
          · exact ⟨hnx,hl2,by dsimp only;rw [hf2,hm];rfl⟩
          · dsimp only;omega
          · refine (wk2C (c:=6) (by omega) (by omega) (by omega) (by omega) (by omega) (by omega) rfl rfl rfl rfl encB_isD ?_).f
            repeat' (first|exact FWk.nil|(apply FWk.i;rfl;(first|rfl|omega|(simp;done)))|(apply FWk.sl;rfl;rfl;rfl;rfl;omega;rfl)|(apply FWk.ptr;rfl;rfl;rfl;omega;rfl)|(apply FWk.d;rfl;rfl))
      · rw [if_neg hmk] at hm
        repeat' (first|(apply r_mvV;rfl)|(apply r_mvS;rfl)|(apply r_faddL;rfl)|(apply r_l;apply ld_node';assumption;rfl)|(apply r_p;apply ix_sub0;rfl;rfl;exact hl0)|(apply r_callA (ags:=[nodeA (subs[0]'hl0),.d (.val (.string s)),.d (.sl (encB q) (s.size + 1))]);rfl;exact hna;exact hcall)|(apply r_ldL;rfl;rfl;rfl)|(apply r_leq;rfl;rfl;(first|(apply dT;omega)|(apply dF;omega)|rfl))|(apply r_geq;rfl;rfl;(first|(apply dT;omega)|(apply dF;omega)|rfl))|(apply r_add;rfl;rfl;rfl;omega)|(apply r_pickF;rfl)|(apply r_gF';rfl;rfl)|(apply r_nilK)|(apply k_V;rfl)|(apply k_PL;rfl)|(apply k_S;rfl)|(apply k_SL;rfl)|(apply k_nil)|(apply w_seq)|(apply w_ops;((conv=>lhs;simp only [Nat.reduceAdd])<;>rfl))|(apply w_condT;rfl)|(apply w_condF;rfl)|(apply e_thenN)|(apply w_block)|(apply e_blkN)|(apply w_skip))
        apply e_thenK
        apply hK (i + 1,rfstG s subs q,out)
        · exact ⟨hnx,ho,by dsimp only;rw [hf2,hm];rfl⟩
        · dsimp only;omega
        · refine (wk2C (c:=6) (by omega) (by omega) (by omega) (by omega) (by omega) (by omega) rfl rfl rfl rfl encB_isD ?_).f
          repeat' (first|exact FWk.nil|(apply FWk.i;rfl;(first|rfl|omega|(simp;done)))|(apply FWk.sl;rfl;rfl;rfl;rfl;omega;rfl)|(apply FWk.ptr;rfl;rfl;rfl;omega;rfl)|(apply FWk.d;rfl;rfl))
    · repeat' (first|(apply r_mvV;rfl)|(apply r_mvS;rfl)|(apply r_mvSL;rfl)|(apply r_faddL;rfl)|(apply r_mksB (m:=s.size + 1);rfl;rfl;((conv=>lhs;simp only [Nat.reduceAdd])<;>rfl);omega;omega)|(apply r_mkrow0;((conv=>lhs;simp only [Nat.reduceAdd])<;>rfl))|(apply r_appB0;rfl;rfl;rfl;rfl;((conv=>lhs;simp only [Nat.reduceAdd])<;>rfl);exact hp;omega)|(apply r_ldL;rfl;rfl;rfl)|(apply r_eql;rfl;rfl;(first|(apply dT;omega)|(apply dF;omega)|rfl))|(apply r_lss;rfl;rfl;(first|(apply dT;omega)|(apply dF;omega)|rfl))|(apply r_add;rfl;rfl;rfl;omega)|(apply r_lenT;rfl)|(apply r_box;((conv=>lhs;simp only [Nat.reduceAdd])<;>rfl);rfl;rfl;rfl)|(apply r_nilK)|(apply k_V;rfl)|(apply k_PL;rfl)|(apply k_S;rfl)|(apply k_SL;rfl)|(apply k_nil)|(apply w_seq)|(apply w_ops;((conv=>lhs;simp only [Nat.reduceAdd])<;>rfl))|(apply w_condT;rfl)|(apply w_condF;rfl)|(apply e_thenN)|(apply w_block)|(apply w_skip))
      apply w_loopF (ι:=Nat × List Bool × List Bool) (S:=fun q=>⟨(((((Fr.nil.put 1 (.d (.val (.string s)))).put 3 (.ptrL 1 0)).put 7 (.slL 6 0 (s.size + 1) 1)).put 11 (.d (.sl (encB q.2.1) (s.size + 1)))).put 12 (.i last)).put 13 (.i q.1),(Heap.nil.put 1 [.i k,.d (.val (.int .u64 a)),.d (.val (.int .u64 b)),.d (.val (.int .u64 c)),.d (.val (.int .u64 d)),.i mn,.i mx,.d (.sl (encL subs) subs.length)]).put 6 ((encB q.2.2).map AV.d),Frz.but 100 6,100⟩) (m:=fun q=>(last + 1 - q.1).toNat)
        (I:=fun q=>q.2.1.length=s.size + 1∧q.2.2.length=s.size + 1∧refG s (.node k a b c d mn mx subs) p=refR (rfstG s subs) (s.size + 1) mn last (last + 1 - q.1).toNat q.1 q.2.1 q.2.2) (i0:=(0,p,List.replicate (s.size + 1) false))
      · exact ⟨hp,by simp,by rw [hspec];simp⟩
      · refine fzB (k:=11) (p:=p) rfl rfl hp (by omega) (wk2C (c:=6) (by omega) (by omega) (by omega) (by omega) (by omega) (by omega) rfl rfl rfl rfl encB_isD ?_)
        repeat' (first|exact FWk.nil|(apply FWk.i;rfl;(first|rfl|omega|(simp;done)))|(apply FWk.sl;rfl;rfl;rfl;rfl;omega;rfl)|(apply FWk.ptr;rfl;rfl;rfl;omega;rfl)|(apply FWk.d;rfl;rfl))
      rintro ⟨i,q,out⟩ K ⟨hq,ho,hm⟩ hK
      dsimp only at hq ho hm hK ⊢
      have hor:=or_good out q ho hq (by omega)
      have hl2 : (addTo out q (s.size + 1)).1.length=s.size + 1:=by rw [addTo_len];exact ho
      have hnx : (rfstG s subs q).length=s.size + 1:=by rw [hfst];exact refG_len s _ _ hq
      have hcall : Good Try.prog 88 [nodeA (subs[0]'hl0),.d (.val (.string s)),.d (.sl (encB q) (s.size + 1))] none (.d (.sl (encB (rfstG s subs q)) (s.size + 1))) none none:=by
        rw [hfst];exact ih' 0 hl0 q hq
      have hna : [nodeA (subs[0]'hl0),.d (.val (.string s)),.d (.sl (encB q) (s.size + 1))].all AV.nrm=true:=by
        rw [List.all_cons,nodeA_nrm];rfl
      by_cases hgt : last < (i : Int)
      · repeat' (first|(apply r_mvV;rfl)|(apply r_mvSL;rfl)|(apply r_leq;rfl;rfl;(first|(apply dT;omega)|(apply dF;omega)|rfl))|(apply r_nilK)|(apply k_V;rfl)|(apply k_PL;rfl)|(apply k_S;rfl)|(apply k_SL;rfl)|(apply k_nil)|(apply e_ret;rfl)|(apply w_seq)|(apply w_ops;((conv=>lhs;simp only [Nat.reduceAdd])<;>rfl))|(apply w_condF;rfl)|(apply e_thenN)|(apply e_thenX)|(apply e_blkN)|(apply e_blkE)|(apply w_exit)|(apply w_ret))
        rw [show (last + 1 - (i : Int)).toNat=0 by omega,refR] at hm
        rw [hm]
        exact retSB rfl ho
      have hle : (i : Int)≤last:=by omega
      obtain ⟨f,hf⟩ : ∃ f,(last + 1 - (i : Int)).toNat=f + 1:=⟨(last - i).toNat,by omega⟩
      have hf2 : (last + 1 - ((i + 1 : Nat) : Int)).toNat=f:=by omega
      rw [hf] at hm
      rw [refR,if_pos hle] at hm
      by_cases hmk : mn≤i
      · rw [if_pos hmk] at hm
        repeat' (first|(apply r_mvV;rfl)|(apply r_mvS;rfl)|(apply r_mvSL;rfl)|(apply r_faddL;rfl)|(apply r_l;apply ld_node';assumption;rfl)|(apply r_callW;rfl;rfl;rfl;rfl;exact hor)|(apply r_p;apply ix_sub0;rfl;rfl;exact hl0)|(apply r_callA (ags:=[nodeA (subs[0]'hl0),.d (.val (.string s)),.d (.sl (encB q) (s.size + 1))]);rfl;exact hna;exact hcall)|(apply r_ldL;rfl;rfl;rfl)|(apply r_leq;rfl;rfl;(first|(apply dT;omega)|(apply dF;omega)|rfl))|(apply r_geq;rfl;rfl;(first|(apply dT;omega)|(apply dF;omega)|rfl))|(apply r_add;rfl;rfl;rfl;omega)|(apply r_not;rfl;rfl)|(apply r_pickT;rfl)|(apply r_gT;rfl)|(apply r_nilK)|(apply k_V;rfl)|(apply k_PL;rfl)|(apply k_S;rfl)|(apply k_SL;rfl)|(apply k_nil)|(apply e_ret;rfl)|(apply w_seq)|(apply w_ops;((conv=>lhs;simp only [Nat.reduceAdd])<;>rfl))|(apply w_condT;rfl)|((apply w_condS;rfl)<;>(intro h;try simp only [decide_eq_true_eq,decide_eq_false_iff_not,Bool.not_eq_true,Bool.not_eq_false] at h))|(apply e_thenN)|(apply w_block)|(apply e_thenX)|(apply e_blkN)|(apply e_blkE)|(apply w_exit)|(apply w_ret)|(apply w_skip)|(apply e_blkE';rfl))
        · simp only [Bool.not_eq_true'] at h
          rw [if_neg (by simp [h])] at hm
          rw [hm]
          exact retSB rfl hl2
        · apply e_thenK
          simp only [Bool.not_eq_false'] at h
          rw [if_pos h] at hm
          apply hK (i + 1,rfstG s subs q,(addTo out q (s.size + 1)).1)
          · exact ⟨hnx,hl2,by dsimp only;rw [hf2,hm];rfl⟩
          · dsimp only;omega
          · refine (wk2C (c:=6) (by omega) (by omega) (by omega) (by omega) (by omega) (by omega) rfl rfl rfl rfl encB_isD ?_).f
            repeat' (first|exact FWk.nil|(apply FWk.i;rfl;(first|rfl|omega|(simp;done)))|(apply FWk.sl;rfl;rfl;rfl;rfl;omega;rfl)|(apply FWk.ptr;rfl;rfl;rfl;omega;rfl)|(apply FWk.d;rfl;rfl))
      · rw [if_neg hmk] at hm
        repeat' (first|(apply r_mvV;rfl)|(apply r_mvS;rfl)|(apply r_faddL;rfl)|(apply r_l;apply ld_node';assumption;rfl)|(apply r_p;apply ix_sub0;rfl;rfl;exact hl0)|(apply r_callA (ags:=[nodeA (subs[0]'hl0),.d (.val (.string s)),.d (.sl (encB q) (s.size + 1))]);rfl;exact hna;exact hcall)|(apply r_ldL;rfl;rfl;rfl)|(apply r_leq;rfl;rfl;(first|(apply dT;omega)|(apply dF;omega)|rfl))|(apply r_geq;rfl;rfl;(first|(apply dT;omega)|(apply dF;omega)|rfl))|(apply r_add;rfl;rfl;rfl;omega)|(apply r_pickF;rfl)|(apply r_gF';rfl;rfl)|(apply r_nilK)|(apply k_V;rfl)|(apply k_PL;rfl)|(apply k_S;rfl)|(apply k_SL;rfl)|(apply k_nil)|(apply w_seq)|(apply w_ops;((conv=>lhs;simp only [Nat.reduceAdd])<;>rfl))|(apply w_condT;rfl)|(apply w_condF;rfl)|(apply e_thenN)|(apply w_block)|(apply e_blkN)|(apply w_skip))
        apply e_thenK
        apply hK (i + 1,rfstG s subs q,out)
        · exact ⟨hnx,ho,by dsimp only;rw [hf2,hm];rfl⟩
        · dsimp only;omega
        · refine (wk2C (c:=6) (by omega) (by omega) (by omega) (by omega) (by omega) (by omega) rfl rfl rfl rfl encB_isD ?_).f
          repeat' (first|exact FWk.nil|(apply FWk.i;rfl;(first|rfl|omega|(simp;done)))|(apply FWk.sl;rfl;rfl;rfl;rfl;omega;rfl)|(apply FWk.ptr;rfl;rfl;rfl;omega;rfl)|(apply FWk.d;rfl;rfl))
  · exfalso
    have:=(plainT_kind hpl).1
    omega
end Go.Sv
namespace Go.Sv
open Go Go.Proofs
def x36 : XC:=(.seq (.ops 2 [ (0,⟨some 3,none,.box (.t 0)⟩),(1,⟨some 6,none,.mv (.k (.d (.val (.slice none 0 0))))⟩)] (some [1,2,3])) (.seq (.ops 5 [ (0,⟨some 10,none,.mv (.t 1)⟩),(1,⟨some 11,none,.lenT (.t 10)⟩),(2,⟨some 12,none,.arith .add (.t 11) (.k (.d (.val (.int .i64 1))))⟩),(3,⟨some 13,none,.mks [(.bool false)] 1 (.t 12) (.t 12)⟩),(4,⟨some 7,none,.mv (.t 13)⟩)] (some [1,2,3,7])) (.seq (.ops 4 [ (0,⟨some 14,none,.mv (.t 7)⟩),(1,⟨some 15,none,.mv (.t 2)⟩),(2,⟨some 16,none,.idxS 1 (.t 14) (.t 15)⟩),(3,⟨none,none,.store 1 (.t 16) (.k (.d (.val (.bool true))))⟩)] (some [1,3,7])) (.seq (.ops 5 [ (0,⟨some 17,none,.load (some 8) (.t 3)⟩),(1,⟨some 18,none,.mv (.t 1)⟩),(2,⟨some 19,none,.mv (.t 7)⟩),(3,⟨some 20,none,.call 88 [(.t 17),(.t 18),(.t 19)] none false⟩),(4,⟨some 7,none,.mv (.t 20)⟩)] (some [7])) (.seq (.ops 1 [ (0,⟨some 8,none,.mv (.k (.d (.val (.slice none 0 0))))⟩)] (some [7,8])) (.seq (.seq (.ops 1 [ (0,⟨some 9,none,.mv (.k (.d (.val (.int .i64 0))))⟩)] (some [7,8,9])) (.block 0 (.loop (.seq (.seq (.ops 4 [ (0,⟨some 21,none,.mv (.t 9)⟩),(1,⟨some 22,none,.mv (.t 7)⟩),(2,⟨some 23,none,.lenS (.t 22)⟩),(3,⟨some 24,none,.arith .lss (.t 21) (.t 23)⟩)] (some [7,8,9,24])) (.cond (.t 24) .skip (.exit 0))) (.seq (.block 1 (.seq (.ops 4 [ (0,⟨some 27,none,.mv (.t 7)⟩),(1,⟨some 28,none,.mv (.t 9)⟩),(2,⟨some 29,none,.idxS 1 (.t 27) (.t 28)⟩),(3,⟨some 30,none,.load none (.t 29)⟩)] (some [7,8,9,30])) (.cond (.t 30) (.ops 5 [ (0,⟨some 31,none,.mv (.t 8)⟩),(1,⟨some 32,none,.mv (.t 9)⟩),(2,⟨some 33,none,.mkrow [(.int .i64 0)] 1 1 [(0,1,(.t 32))]⟩),(3,⟨some 34,none,.app [(.int .i64 0)] 8 (.t 31) (.t 33)⟩),(4,⟨some 8,none,.mv (.t 34)⟩)] (some [7,8,9])) .skip))) (.ops 3 [ (0,⟨some 25,none,.mv (.t 9)⟩),(1,⟨some 26,none,.arith .add (.t 25) (.k (.d (.val (.int .i64 1))))⟩),(2,⟨some 9,none,.mv (.t 26)⟩)] (some [7,8,9]))))))) (.seq (.ops 2 [ (0,⟨some 35,none,.mv (.t 8)⟩),(1,⟨some 6,none,.mv (.t 35)⟩)] (some [6])) .ret)))))))
def md36 : FuncId→Option Nat × Bool
  | _=>(none,false)
def od36 : Nat→List (List Nat) × List Nat × Option (List Nat)
  | 0=>([],[],some [1,2,3])
  | 1=>([],[],some [1,2,3,7])
  | 2=>([],[],some [1,3,7])
  | 3=>([],[],some [7])
  | 4=>([],[],some [7,8])
  | 5=>([],[],some [7,8,9])
  | 6=>([],[],some [7,8,9,24])
  | 7=>([],[],some [7,8,9])
  | 8=>([],[],some [7,8,9,30])
  | 9=>([],[],some [7,8,9])
  | 10=>([],[],some [6])
  | _=>([],[],none)
theorem b36 {ags : List AV} {row : Option (List DV)} {r : AV} {row' nw : Option (List DV)} (hal : ags.length≤36) (hrow : row'.isSome=true→row.isSome=true) (h : xwp Try.prog x36 (retK [.tmp 6] row.isSome r row' nw) (St.init ags row)) : Good Try.prog 36 ags row r row' nw :=
  good_of_body' (md:=md36) (od:=od36) Try.f36 (by kernel_rfl) (by kernel_rfl) (by kernel_rfl) (by kernel_rfl) (by kernel_rfl) hal hrow h

def x37 : XC:=(.seq (.ops 2 [ (0,⟨some 3,none,.box (.t 0)⟩),(1,⟨some 6,none,.mv (.k (.d (.val (.int .i64 0))))⟩)] (some [1,2,3])) (.seq (.ops 5 [ (0,⟨some 8,none,.load (some 8) (.t 3)⟩),(1,⟨some 9,none,.mv (.t 1)⟩),(2,⟨some 10,none,.mv (.t 2)⟩),(3,⟨some 11,none,.call 36 [(.t 8),(.t 9),(.t 10)] none false⟩),(4,⟨some 7,none,.mv (.t 11)⟩)] (some [7])) (.seq (.seq (.ops 3 [ (0,⟨some 12,none,.mv (.t 7)⟩),(1,⟨some 13,none,.lenS (.t 12)⟩),(2,⟨some 14,none,.arith .eql (.t 13) (.k (.d (.val (.int .i64 0))))⟩)] (some [7,14])) (.cond (.t 14) (.seq (.ops 1 [ (0,⟨some 6,none,.mv (.k (.d (.val (.int .i64 (-1)))))⟩)] (some [6])) .ret) .skip)) (.seq (.ops 7 [ (0,⟨some 15,none,.mv (.t 7)⟩),(1,⟨some 16,none,.mv (.t 7)⟩),(2,⟨some 17,none,.lenS (.t 16)⟩),(3,⟨some 18,none,.arith .sub (.t 17) (.k (.d (.val (.int .i64 1))))⟩),(4,⟨some 19,none,.idxS 1 (.t 15) (.t 18)⟩),(5,⟨some 20,none,.load none (.t 19)⟩),(6,⟨some 6,none,.mv (.t 20)⟩)] (some [6])) .ret))))
def md37 : FuncId→Option Nat × Bool
  | _=>(none,false)
def od37 : Nat→List (List Nat) × List Nat × Option (List Nat)
  | 0=>([],[],some [1,2,3])
  | 1=>([],[],some [7])
  | 2=>([],[],some [7,14])
  | 3=>([],[],some [6])
  | 4=>([],[],some [6])
  | _=>([],[],none)
theorem b37 {ags : List AV} {row : Option (List DV)} {r : AV} {row' nw : Option (List DV)} (hal : ags.length≤21) (hrow : row'.isSome=true→row.isSome=true) (h : xwp Try.prog x37 (retK [.tmp 6] row.isSome r row' nw) (St.init ags row)) : Good Try.prog 37 ags row r row' nw :=
  good_of_body' (md:=md37) (od:=od37) Try.f37 (by kernel_rfl) (by kernel_rfl) (by kernel_rfl) (by kernel_rfl) (by kernel_rfl) hal hrow h

section
variable {P : Program} {Q : Cont} {fr : Fr} {C : Heap} {Z Z' : Frz} {nx : Nat} {base n d : Nat} {l : List (Nat × XO)} {kp : Option (List Nat)} {x i y s : X}
theorem convAs_snoc {C : Heap} {ex : Nat→Bool} {v y : AV} {u : List Nat} (hx : convA C ex v=some (y,u)) : ∀ (l : List AV),l.all AV.nrm=true→convAs C ex (l++[v])=some (l++[y],u)
  | [],_=>by simp [convAs,hx]
  | a :: l,h=>by
    have h1 : [a].all AV.nrm=true:=by simp only [List.all_cons,Bool.and_eq_true] at h ⊢;exact ⟨h.1,rfl⟩
    have h2 : l.all AV.nrm=true:=by simp only [List.all_cons,Bool.and_eq_true] at h;exact h.2
    have ih:=convAs_snoc hx l h2
    have e:=convAs_nrm (C:=C) (ex:=ex) [a] h1
    simp only [convAs,Option.bind_eq_bind] at e
    obtain ⟨⟨y',u'⟩,g1,g2⟩:=Option.bind_eq_some_iff.1 e
    simp at g2
    obtain ⟨rfl,rfl⟩:=g2
    simp only [List.cons_append,convAs,g1,ih,Option.bind_some,Option.map_some,List.nil_append]
theorem r_callLB {f : FuncId} {xs : List X} {ags : List AV} {b m : Nat} {p : List Bool} {r : AV} (ha : xs.map (X.ev fr)=ags++[.slL b 0 m 1]) (hn : ags.all AV.nrm=true) (hC : C b=some ((encB p).map AV.d)) (hm : p.length=m) (h0 : 0 < m)
    (hg : Good P f (ags++[.d (.sl (encB p) m)]) none r none none) (hz : Z.add (if r.scalar=true then [] else [b])=Z') (k : R P l base kp Q nx (fr.put d r) C Z') : R P ((n,⟨some d,none,.call f xs none false⟩) :: l) base kp Q nx fr C Z:=by
  refine r_call ha (convAs_snoc ?_ ags hn) hg hz k
  simp only [convA,conv_slB (ex:=fun _=>false) rfl hC hm h0,Option.map_some]
theorem retL1 {live : Bool} {b m : Nat} {p : List Int} (hC : C b=some ((encI p).map AV.d)) (hm : p.length=m) : RetOK C Z (tupOf [.slL b 0 m 1]) live (.d (.sl (encI p) m)) none none:=by
  refine .data _ ?_
  simp only [tupOf,convT,convA,conv_slI (ex:=fun _=>false) rfl hC hm,Option.map_some]
end
set_option maxRecDepth 100000
set_option maxHeartbeats 4000000
attribute [local irreducible] W E R KP thenK blockK retK Good xwp aRun
def rallG (s : ByteArray) (t : T) (j : Nat) : List Int:=idxTo (refG s t ((List.replicate (s.size + 1) false).set j true)) (s.size + 1)
theorem all36_good (s : ByteArray) (hsz : s.size≤1000000) (t : T) (hc : t.cnt≤1000000) (hok : okT t) (j : Nat) (hj : j≤s.size) : Good Try.prog 36 [nodeA t,.d (.val (.string s)),.i j] none (.d (.sl (encI (rallG s t j)) (rallG s t j).length)) none none:=by
  have hl0 : ((List.replicate (s.size + 1) false).set j true).length=s.size + 1:=by simp
  have hst:=ref_good s hsz 1000000 t hc (by omega) hok _ hl0
  have hql:=refG_len s t _ hl0
  unfold rallG
  generalize refG s t ((List.replicate (s.size + 1) false).set j true)=q at hst hql ⊢
  have hna : [nodeA t,.d (.val (.string s))].all AV.nrm=true:=by
    rw [List.all_cons,nodeA_nrm];rfl
  obtain ⟨k,a,b,c,d,mn,mx,subs⟩:=t
  have e0 : nodeA (.node k a b c d mn mx subs)=.agg [.i k,.d (.val (.int .u64 a)),.d (.val (.int .u64 b)),.d (.val (.int .u64 c)),.d (.val (.int .u64 d)),.i mn,.i mx,.d (.sl (encL subs) subs.length)]:=rfl
  rw [e0] at hst hna ⊢
  refine b36 (by simp) (by simp) (w_init ?_)
  unfold x36
  repeat' (first|(apply r_mvV;rfl)|(apply r_mvS;rfl)|(apply r_mvSL;rfl)|(apply r_mksB (m:=s.size + 1);rfl;rfl;((conv=>lhs;simp only [Nat.reduceAdd])<;>rfl);omega;omega)|(apply r_ixL (j:=j);rfl;rfl;omega)|(apply r_stB;rfl;rfl;rfl;rfl;(simp;omega))|(apply r_callLB (ags:=[.agg [.i k,.d (.val (.int .u64 a)),.d (.val (.int .u64 b)),.d (.val (.int .u64 c)),.d (.val (.int .u64 d)),.i mn,.i mx,.d (.sl (encL subs) subs.length)],.d (.val (.string s))]);rfl;exact hna;rfl;exact hl0;omega;exact hst;rfl)|(apply r_ldL;rfl;rfl;rfl)|(apply r_add;rfl;rfl;rfl;omega)|(apply r_lenT;rfl)|(apply r_box;((conv=>lhs;simp only [Nat.reduceAdd])<;>rfl);rfl;rfl;rfl)|(apply r_nilK)|(apply k_V;rfl)|(apply k_PL;rfl)|(apply k_S;rfl)|(apply k_SL;rfl)|(apply k_nil)|(apply w_seq)|(apply w_ops;((conv=>lhs;simp only [Nat.reduceAdd])<;>rfl))|(apply e_thenN)|(apply w_block))
  apply w_loopI (S:=fun i : Nat=>⟨((Fr.nil.put 8 (.slL 5 0 (idxTo q i).length 1)).put 7 (.d (.sl (encB q) (s.size + 1)))).put 9 (.i i),Heap.nil.put 5 ((encI (idxTo q i)).map AV.d),Frz.but 200 5,200⟩) (m:=fun i=>s.size + 1 - i) (I:=fun i=>i≤s.size + 1) (i0:=0)
  · exact Nat.zero_le _
  · refine wkN (by omega) (by omega) ?_
    repeat' (first|exact FWk.nil|(apply FWk.i;rfl;(first|rfl|omega|(simp;done)))|(apply FWk.d;rfl;rfl)|(apply FWk.slN;rfl;omega;rfl))
  intro i K hi hK
  dsimp only
  rcases Nat.lt_or_ge i (s.size + 1) with hlt | hge
  · have hg : q[i]?=some (q.getD i false):=by
      rw [List.getD_eq_getElem?_getD,List.getElem?_eq_getElem (by omega)];rfl
    have hidx:=idxTo_len q i
    repeat' (first|(apply r_mvV;rfl)|(apply r_mvS;rfl)|(apply r_mvSL;rfl)|(apply r_ixB';rfl;rfl;exact hlt;exact hql)|(apply r_ldB;rfl;exact hg)|(apply r_mkrow1;rfl;((conv=>lhs;simp only [Nat.reduceAdd])<;>rfl))|(apply r_app1;rfl;rfl;rfl;rfl;rfl;((conv=>lhs;simp only [Nat.reduceAdd])<;>rfl);rfl;omega)|(apply r_lss;rfl;rfl;(first|(apply dT;omega)|(apply dF;omega)|rfl))|(apply r_add;rfl;rfl;rfl;omega)|(apply r_lenD;rfl)|(apply r_nilK)|(apply k_V;rfl)|(apply k_S;rfl)|(apply k_SL;rfl)|(apply k_nil)|(apply w_seq)|(apply w_ops;((conv=>lhs;simp only [Nat.reduceAdd])<;>rfl))|(apply w_condT;rfl)|((apply w_condS;rfl)<;>(intro h;try simp only [decide_eq_true_eq,decide_eq_false_iff_not,Bool.not_eq_true,Bool.not_eq_false] at h))|(apply e_thenN)|(apply w_block)|(apply e_blkN)|(apply w_skip))
    · have e : idxTo q (i + 1)=idxTo q i++[(i : Int)]:=by rw [idxTo,if_pos h]
      apply e_thenK
      apply hK (i + 1)
      · omega
      · omega
      · refine wkC (c:=211) (by omega) (by omega) (by rw [e];rfl) rfl encI_isD (FWk.i rfl (by simp) (FWk.d rfl rfl (FWk.sl rfl rfl (by rw [e,List.length_append];rfl) rfl (by omega) rfl FWk.nil)))
    · have e : idxTo q (i + 1)=idxTo q i:=by rw [idxTo,if_neg (by simp only [h];simp)]
      apply e_thenK
      apply hK (i + 1)
      · omega
      · omega
      · refine wkC (c:=5) (by omega) (by omega) (by rw [e];rfl) rfl encI_isD (FWk.i rfl (by simp) (FWk.d rfl rfl (FWk.sl rfl rfl (by rw [e]) rfl (by omega) rfl FWk.nil)))
  · repeat' (first|(apply r_mvV;rfl)|(apply r_mvS;rfl)|(apply r_mvSL;rfl)|(apply r_lss;rfl;rfl;(first|(apply dT;omega)|(apply dF;omega)|rfl))|(apply r_lenD;rfl)|(apply r_nilK)|(apply k_V;rfl)|(apply k_S;rfl)|(apply k_SL;rfl)|(apply k_nil)|(apply e_ret;rfl)|(apply w_seq)|(apply w_ops;((conv=>lhs;simp only [Nat.reduceAdd])<;>rfl))|(apply w_condF;rfl)|(apply e_thenN)|(apply e_thenX)|(apply e_blkE)|(apply w_exit)|(apply w_ret))
    have ei : i=s.size + 1:=by omega
    subst ei
    exact retL1 rfl rfl
theorem longest37_good (s : ByteArray) (hsz : s.size≤1000000) (t : T) (hc : t.cnt≤1000000) (hok : okT t) (j : Nat) (hj : j≤s.size) :
    Good Try.prog 37 [nodeA t,.d (.val (.string s)),.i j] none (.i (lastG (rallG s t j))) none none:=by
  have hall:=all36_good s hsz t hc hok j hj
  have hL : (rallG s t j).length≤1000001:=Nat.le_trans (idxTo_len _ _) (by omega)
  generalize rallG s t j=L at hall hL ⊢
  obtain ⟨k,a,b,c,d,mn,mx,subs⟩:=t
  have e0 : nodeA (.node k a b c d mn mx subs)=.agg [.i k,.d (.val (.int .u64 a)),.d (.val (.int .u64 b)),.d (.val (.int .u64 c)),.d (.val (.int .u64 d)),.i mn,.i mx,.d (.sl (encL subs) subs.length)]:=rfl
  rw [e0] at hall ⊢
  refine b37 (by simp) (by simp) (w_init ?_)
  unfold x37
  rcases Nat.eq_zero_or_pos L.length with h0 | h0
  · repeat' (first|(apply r_mvV;rfl)|(apply r_mvS;rfl)|(apply r_callA;rfl;rfl;exact hall)|(apply r_ldL;rfl;rfl;rfl)|(apply r_eql;rfl;rfl;(first|(apply dT;omega)|(apply dF;omega)|rfl))|(apply r_lenD;rfl)|(apply r_box;((conv=>lhs;simp only [Nat.reduceAdd])<;>rfl);rfl;rfl;rfl)|(apply r_nilK)|(apply k_V;rfl)|(apply k_PL;rfl)|(apply k_S;rfl)|(apply k_nil)|(apply e_ret (vs:=[.d (.val _)]);rfl)|(apply w_seq)|(apply w_ops;((conv=>lhs;simp only [Nat.reduceAdd])<;>rfl))|(apply w_condT;rfl)|(apply e_thenN)|(apply e_thenR)|(apply w_ret))
    refine retI ?_
    simp [lastG,h0]
  · have hg : L[L.length - 1]?=some (L.getD (L.length - 1) 0):=by
      rw [List.getD_eq_getElem?_getD,List.getElem?_eq_getElem (by omega)];rfl
    repeat' (first|(apply r_mvV;rfl)|(apply r_mvS;rfl)|(apply r_callA;rfl;rfl;exact hall)|(apply r_ixI (j:=L.length - 1);rfl;rfl;omega;rfl;omega)|(apply r_ldI;rfl;exact hg)|(apply r_ldL;rfl;rfl;rfl)|(apply r_eql;rfl;rfl;(first|(apply dT;omega)|(apply dF;omega)|rfl))|(apply r_sub;rfl;rfl;rfl;omega)|(apply r_lenD;rfl)|(apply r_box;((conv=>lhs;simp only [Nat.reduceAdd])<;>rfl);rfl;rfl;rfl)|(apply r_nilK)|(apply k_V;rfl)|(apply k_PL;rfl)|(apply k_S;rfl)|(apply k_nil)|(apply e_ret (vs:=[.d (.val _)]);rfl)|(apply w_seq)|(apply w_ops;((conv=>lhs;simp only [Nat.reduceAdd])<;>rfl))|(apply w_condF;rfl)|(apply e_thenN)|(apply w_ret)|(apply w_skip))
    refine retI ?_
    rw [lastG,if_neg (by omega)]
end Go.Sv
namespace Go.Sv
open Go Go.Proofs
set_option linter.unusedVariables false
set_option maxRecDepth 100000

theorem cells_27 : Try.prog.cellsOf 27=8:=by kernel_rfl
theorem cells_3 : Try.prog.cellsOf 3=1:=by kernel_rfl
theorem cells_24 : Try.prog.cellsOf 24=4:=by kernel_rfl
theorem cells_22 : Try.prog.cellsOf 22=1:=by kernel_rfl
theorem cells_25 : Try.prog.cellsOf 25=1:=by kernel_rfl
def inW (k : Int) : Prop:=-9223372036854775808≤k∧k < 9223372036854775808
mutual
def inT : T→Prop
  | .node k a b c d mn mx subs=>inW k∧okW a∧okW b∧okW c∧okW d∧inW mn∧inW mx∧inL subs
def inL : List T→Prop
  | []=>True
  | t :: l=>inT t∧inL l
end
theorem inL_of : ∀ {l : List T},(∀ t ∈ l,inT t)→inL l
  | [],_=>trivial
  | t :: l,h=>⟨h t (by simp),inL_of fun u hu=>h u (by simp [hu])⟩

section
variable {H : Type} {enc : TypeId × Value→H} {W : World} {sp : Nat→Bool}
theorem wf_i64 {n : Int} (h : (Lit.int .i64 n).wf=true) : inW n:=by
  simp [Lit.wf,IntKind.min,IntKind.max,IntKind.signed,IntKind.bits] at h
  unfold inW;omega
theorem wf_u64 {n : Int} (h : (Lit.int .u64 n).wf=true) : okW n:=by
  simp [Lit.wf,IntKind.min,IntKind.max,IntKind.signed,IntKind.bits] at h
  unfold okW;omega
def NoA : Nat→Prop:=fun _=>False
def RDs (W : World) (vs : List Value) (ds : List DV) : Prop:=vs.length=ds.length∧∀ (j : Nat) (v : Value) (d : DV),vs[j]?=some v→ds[j]?=some d→RD W NoA v d
theorem RDs.nil : RDs W [] []:=⟨rfl,fun j v d h=>by simp at h⟩
theorem RDs.cons {v : Value} {d : DV} {vs : List Value} {ds : List DV} (h : RD W NoA v d) (hs : RDs W vs ds) : RDs W (v :: vs) (d :: ds):=by
  refine ⟨by simp [hs.1],fun j v' d' h1 h2=>?_⟩
  cases j with
  | zero=>simp at h1 h2;subst h1;subst h2;exact h
  | succ j=>exact hs.2 j v' d' (by simpa using h1) (by simpa using h2)

theorem cells_at {a : Addr} {n : Nat} {cs : List Value} (h : W.cells? 0 a n=some cs) : cs.length=n∧∀ j,j < n→cs[j]?=W.cell? (a.add j):=by
  unfold World.cells? at h
  rw [if_pos (Nat.zero_le _)] at h
  refine ⟨by simpa using mapM_some_length h,fun j hj=>?_⟩
  exact (mapM_some_get h j j (by simp [hj])).symm
theorem cell_spot {a : Addr} {v : Value} (h : W.cell? a=some v) : a=⟨a.block,a.off,none⟩:=by
  obtain ⟨b,o,s⟩:=a
  unfold World.cell? at h
  split at h
  · split at h
    · cases h
    · rename_i hs
      cases s with
      | none=>rfl
      | some _=>simp at hs
  · cases h

theorem addr_add2 (b o m k : Nat) : (((⟨b,o,none⟩ : Addr).add m).add k)=⟨b,o + (m + k),none⟩:=by
  unfold Addr.add
  split<;>split<;>simp_all<;>omega
theorem elems_open {sz : Nat} (hsz : 0 < sz) {a : Addr} {α : Type} {P : α→Prop} {en : α→List DV} (hen : ∀ x,(en x).length=sz) : ∀ (len : Nat),(∀ i,i < len→∃ cs x,W.cells? 0 (a.add (i * sz)) sz=some cs∧P x∧RDs W cs (en x)) →
    ∃ l : List α,l.length=len∧(∀ x ∈ l,P x)∧∀ j,j < len * sz→∃ v d,W.cell? ⟨a.block,a.off + j,none⟩=some v∧(l.flatMap en)[j]?=some d∧RD W NoA v d
  | 0,_=>⟨[],rfl,by simp,fun j hj=>by omega⟩
  | len + 1,h=>by
    obtain ⟨l,h1,h2,h3⟩:=elems_open hsz hen len fun i hi=>h i (by omega)
    obtain ⟨cs,x,h4,h5,h6⟩:=h len (by omega)
    obtain ⟨h7,h8⟩:=cells_at h4
    have hspot : a=⟨a.block,a.off,none⟩:=by
      obtain ⟨cs0,x0,g4,_,_⟩:=h 0 (by omega)
      obtain ⟨g7,g8⟩:=cells_at g4
      have g9:=g8 0 hsz
      rw [List.getElem?_eq_getElem (by omega)] at g9
      have:=cell_spot g9.symm
      simpa [Addr.add] using this
    have hfl : ∀ m : List α,(m.flatMap en).length=m.length * sz:=by
      intro m
      induction m with
      | nil=>simp
      | cons y m ih=>simp [ih,hen,Nat.succ_mul];omega
    refine ⟨l++[x],by simp [h1],fun y hy=>?_,fun j hj=>?_⟩
    · rcases List.mem_append.1 hy with hy | hy
      · exact h2 y hy
      · simp at hy;subst hy;exact h5
    · rcases Nat.lt_or_ge j (len * sz) with hlt | hge
      · obtain ⟨v,d,g1,g2,g3⟩:=h3 j hlt
        refine ⟨v,d,g1,?_,g3⟩
        rw [List.flatMap_append,List.getElem?_append_left (by rw [hfl,h1];exact hlt)]
        exact g2
      · have hj2 : j - len * sz < sz:=by rw [Nat.succ_mul] at hj;omega
        have g1:=h8 (j - len * sz) hj2
        rw [List.getElem?_eq_getElem (by omega)] at g1
        have hl6:=h6.1
        have hx : (en x)[j - len * sz]?=some (en x)[j - len * sz]:=List.getElem?_eq_getElem (by rw [hen];exact hj2)
        refine ⟨cs[j - len * sz],(en x)[j - len * sz],?_,?_,h6.2 _ _ _ (List.getElem?_eq_getElem (by omega)) hx⟩
        · rw [g1]
          congr 1
          have e : len * sz + (j - len * sz)=j:=by omega
          have h9:=addr_add2 a.block a.off (len * sz) (j - len * sz)
          rw [← hspot,e] at h9
          exact h9.symm
        · rw [List.flatMap_append,List.getElem?_append_right (by rw [hfl,h1];exact hge),hfl,h1]
          simpa using hx
theorem encL_flat : ∀ l : List T,encL l=l.flatMap encN
  | []=>rfl
  | t :: l=>by simp [encL,encL_flat l]

theorem len8 {cs : List Value} (h : cs.length=8) : ∃ a b c d e f g i,cs=[a,b,c,d,e,f,g,i]:=by
  match cs,h with
  | [a,b,c,d,e,f,g,i],_=>exact ⟨a,b,c,d,e,f,g,i,rfl⟩

theorem node_open : ∀ (fuel : Nat) (cs : List Value) (x : DataW H × List MemPlace),DataW.trod enc Try.prog W 0 sp true fuel 27 cs=some x→∃ t : T,inT t∧RDs W cs (encN t):=by
  intro fuel
  induction fuel using Nat.strongRecOn with
  | ind fuel ih =>
  intro cs x h
  obtain ⟨xs,n,rfl,_,hl,hxl,hf⟩:=DataW.trod_struct Try.underlying27 h
  rw [cells_27] at hl
  obtain ⟨c0,c1,c2,c3,c4,c5,c6,c7,rfl⟩:=len8 hl
  have hx : ∀ i,i < 5→∃ y,xs[i]?=some y:=fun i hi=>⟨_,List.getElem?_eq_getElem (by rw [hxl];exact hi)⟩
  obtain ⟨y0,e0⟩:=hx 0 (by omega)
  obtain ⟨y1,e1⟩:=hx 1 (by omega)
  obtain ⟨y2,e2⟩:=hx 2 (by omega)
  obtain ⟨y3,e3⟩:=hx 3 (by omega)
  obtain ⟨y4,e4⟩:=hx 4 (by omega)
  have f0:=hf 0 _ rfl
  have f1:=hf 1 _ rfl
  have f2:=hf 2 _ rfl
  have f3:=hf 3 _ rfl
  have f4:=hf 4 _ rfl
  simp only [cells_3,cells_24,cells_25,List.drop_succ_cons,List.drop_zero,List.take_succ_cons,List.take_zero,e0,e1,e2,e3,e4] at f0 f1 f2 f3 f4
  obtain ⟨k,g0,_,w0⟩:=DataW.trod_int Try.underlying3 f0
  obtain ⟨mn,g2,_,w2⟩:=DataW.trod_int Try.underlying3 f2
  obtain ⟨mx,g3,_,w3⟩:=DataW.trod_int Try.underlying3 f3
  obtain ⟨ws,m,rfl,_,hl1,hwl,hw⟩:=DataW.trod_array Try.underlying24 f1
  have hy : ∀ i,i < 4→∃ y,ws[i]?=some y:=fun i hi=>⟨_,List.getElem?_eq_getElem (by rw [hwl];exact hi)⟩
  obtain ⟨z0,k0⟩:=hy 0 (by omega)
  obtain ⟨z1,k1⟩:=hy 1 (by omega)
  obtain ⟨z2,k2⟩:=hy 2 (by omega)
  obtain ⟨z3,k3⟩:=hy 3 (by omega)
  have q0:=hw 0 (by omega)
  have q1:=hw 1 (by omega)
  have q2:=hw 2 (by omega)
  have q3:=hw 3 (by omega)
  simp only [cells_22,Nat.zero_mul,Nat.one_mul,Nat.mul_one,List.drop_succ_cons,List.drop_zero,List.take_succ_cons,List.take_zero,k0,k1,k2,k3] at q0 q1 q2 q3
  obtain ⟨a,a0,_,v0⟩:=DataW.trod_int Try.underlying22 q0
  obtain ⟨b,a1,_,v1⟩:=DataW.trod_int Try.underlying22 q1
  obtain ⟨c,a2,_,v2⟩:=DataW.trod_int Try.underlying22 q2
  obtain ⟨d,a3,_,v3⟩:=DataW.trod_int Try.underlying22 q3
  have one : ∀ {u v : Value},[u]=[v]→u=v:=fun h=>by cases h;rfl
  have s0:=one g0;have s2:=one g2;have s3:=one g3
  have t0:=one a0;have t1:=one a1;have t2:=one a2;have t3:=one a3
  subst s0 s2 s3 t0 t1 t2 t3
  have fin : ∀ subs : List T,inL subs→RD W NoA c7 (.sl (encL subs) subs.length)→∃ t : T,inT t∧RDs W [.int .i64 k,.int .u64 a,.int .u64 b,.int .u64 c,.int .u64 d,.int .i64 mn,.int .i64 mx,c7] (encN t):=by
    intro subs hs hr
    refine ⟨.node k a b c d mn mx subs,⟨wf_i64 w0,wf_u64 v0,wf_u64 v1,wf_u64 v2,wf_u64 v3,wf_i64 w2,wf_i64 w3,hs⟩,?_⟩
    exact .cons (.val _ rfl) (.cons (.val _ rfl) (.cons (.val _ rfl) (.cons (.val _ rfl) (.cons (.val _ rfl) (.cons (.val _ rfl) (.cons (.val _ rfl) (.cons hr .nil)))))))
  rcases DataW.trod_slice Try.underlying25 f4 with ⟨g4,_⟩ | ⟨ad,len,cap,elems,rest,n',hn',g4,_,_,hlc,_,hel,hr,_⟩
  · have:=one g4;subst this
    exact fin [] trivial (.sl0 none 0)
  · have:=one g4;subst this
    have hall : ∀ i,i < len→∃ cs t,W.cells? 0 (ad.add (i * 8)) 8=some cs∧inT t∧RDs W cs (encN t):=by
      intro i hi
      have h1:=hr i hi
      rw [cells_27,List.getElem?_eq_getElem (by omega)] at h1
      obtain ⟨cs,h2,h3⟩:=Option.bind_eq_some_iff.1 h1
      obtain ⟨t,h4,h5⟩:=ih n' (by omega) cs _ h3
      exact ⟨cs,t,h2,h4,h5⟩
    obtain ⟨l,h1,h2,h3⟩:=elems_open (sz:=8) (by omega) encN_len len hall
    refine fin l (inL_of h2) ?_
    rw [h1]
    by_cases h0 : len=0
    · subst h0
      rw [List.length_eq_zero_iff.1 h1]
      exact .sl0 _ _
    · have hsp : ad=⟨ad.block,ad.off,none⟩:=by
        obtain ⟨cs,t,g1,_,g2⟩:=hall 0 (by omega)
        obtain ⟨g7,g8⟩:=cells_at g1
        have g9:=g8 0 (by omega)
        rw [List.getElem?_eq_getElem (by omega)] at g9
        have:=cell_spot g9.symm
        simpa [Addr.add] using this
      rw [hsp]
      have hlen : (encL l).length=len * 8:=by rw [encL_len,h1]
      refine .sl ad.block ad.off len cap (encL l) (fun j=>(W.cell? ⟨ad.block,ad.off + j,none⟩).getD undef) (fun h=>h) (by omega) hlc (fun j hj=>?_) (fun j hj=>?_)
      · obtain ⟨v,_,g1,_⟩:=h3 j (by omega)
        rw [g1];rfl
      · obtain ⟨v,dd,g1,g2,g3⟩:=h3 j (by omega)
        rw [g1]
        rw [← encL_flat,List.getElem?_eq_getElem hj] at g2
        cases g2
        exact g3
end
end Go.Sv
namespace Go.Sv
open Go
set_option linter.unusedVariables false

mutual
theorem fits_open : ∀ (t : T) (left : Int),fitsT t left=true↔(0≤openT t∧openT t≤left)
  | .node k a b c d mn mx subs,left=>by
    have ih:=fitsL_open k subs left 0 (Int.le_refl _)
    simp only [fitsT,openT]
    by_cases hp : plainT (.node k a b c d mn mx subs)=true
    · rw [if_pos hp]
      simp only [Bool.and_eq_true,decide_eq_true_eq,hp,and_true]
      exact ih
    · rw [if_neg hp]
      simp only [Bool.and_eq_true,decide_eq_true_eq]
      constructor
      · rintro ⟨⟨_,h⟩,_⟩;exact absurd h hp
      · rintro ⟨h,_⟩;omega
theorem fitsL_open (k : Int) : ∀ (l : List T) (left m : Int),0≤m→((m≤left∧fitsL k l left=true)↔(0≤openL k l m∧openL k l m≤left))
  | [],left,m,hm=>by
    have e : (fitsL k [] left=true)=True:=by simp [fitsL]
    simp only [openL,e,and_true];omega
  | t :: l,left,m,hm=>by
    have h1:=fits_open t (if roundG k t.kind=true then left - 1 else left)
    simp only [fitsL,openL,Bool.and_eq_true]
    rw [h1]
    by_cases hn : openT t < 0
    · rw [if_pos hn];omega
    · rw [if_neg hn]
      have h2:=fitsL_open k l left (max m (if roundG k t.kind=true then openT t + 1 else openT t)) (by split<;>omega)
      rw [← h2]
      by_cases hf : fitsL k l left=true
      · simp only [hf,and_true];split<;>omega
      · simp only [hf,and_false];simp
end
theorem right_fits (t : T) : rightT t=fitsT t 12:=by
  rw [Bool.eq_iff_iff,fits_open]
  simp [rightT]
mutual
theorem ok_of_open : ∀ (t : T),inT t→0≤openT t→okT t
  | .node k a b c d mn mx subs,h,ho=>by
    simp only [inT] at h
    obtain ⟨_,ha,hb,hc,hd,_,_,hs⟩:=h
    simp only [openT] at ho
    split at ho
    · rename_i hp
      refine ⟨⟨ha,hb,hc,hd,hp⟩,okL_of_open k subs hs 0 ho⟩
    · omega
theorem okL_of_open (k : Int) : ∀ (l : List T),inL l→∀ m : Int,0≤openL k l m→okL l
  | [],_,_,_=>trivial
  | t :: l,h,m,ho=>by
    simp only [inL] at h
    simp only [openL] at ho
    split at ho
    · omega
    · exact ⟨ok_of_open t h.1 (by omega),okL_of_open k l h.2 _ ho⟩
end
theorem ok_of_right {t : T} (h : inT t) (hr : rightT t=true) : okT t:=ok_of_open t h (by simp [rightT] at hr;omega)
end Go.Sv
namespace Go.Sv
open Go Go.Proofs
set_option maxRecDepth 100000
end Go.Sv
namespace Go.Sv
open Go Go.Proofs
def x3 : XC:=(.seq (.ops 2 [ (0,⟨some 3,none,.box (.t 0)⟩),(1,⟨some 6,none,.mv (.k (.d (.val (.bool false))))⟩)] (some [1,2,3])) (.seq (.seq (.ops 8 [ (0,⟨some 9,none,.call 29 [] none false⟩),(1,⟨some 10,none,.un .not (.t 9)⟩),(2,⟨some 11,none,.mv (.t 10)⟩),(3,⟨some 12,(some (11,false)),.load (some 8) (.t 3)⟩),(4,⟨some 13,(some (11,false)),.mv (.t 1)⟩),(5,⟨some 14,(some (11,false)),.call 30 [(.t 12),(.t 13)] none false⟩),(6,⟨some 15,(some (11,false)),.un .not (.t 14)⟩),(7,⟨some 16,none,.pick (.t 11) (.k (.d (.val (.bool true)))) (.t 15)⟩)] (some [1,2,3,16])) (.cond (.t 16) (.seq (.ops 2 [ (0,⟨some 17,none,.call 29 [] none false⟩),(1,⟨some 6,none,.mv (.t 17)⟩)] (some [6])) .ret) .skip)) (.seq (.ops 9 [ (0,⟨some 19,none,.load (some 8) (.t 3)⟩),(1,⟨some 20,none,.mv (.t 1)⟩),(2,⟨some 21,none,.mv (.t 2)⟩),(3,⟨some 22,none,.call 31 [(.t 19),(.t 20),(.t 21)] none false⟩),(4,⟨some 18,none,.mv (.t 22)⟩),(5,⟨some 23,none,.ext (.t 18) 0⟩),(6,⟨some 24,none,.ext (.t 18) 1⟩),(7,⟨some 7,none,.mv (.t 23)⟩),(8,⟨some 8,none,.mv (.t 24)⟩)] (some [1,2,3,7,8])) (.seq (.block 0 (.seq (.ops 4 [ (0,⟨some 26,none,.load (some 8) (.t 3)⟩),(1,⟨some 27,none,.call 32 [(.t 26)] none false⟩),(2,⟨some 28,none,.un .not (.t 27)⟩),(3,⟨some 25,none,.mv (.t 28)⟩)] (some [1,2,3,7,8,25])) (.cond (.t 25) (.seq (.ops 14 [ (0,⟨some 29,none,.mv (.t 7)⟩),(1,⟨some 30,none,.lenS (.t 29)⟩),(2,⟨some 31,none,.arith .eql (.t 30) (.k (.d (.val (.int .i64 0))))⟩),(3,⟨some 32,none,.mv (.t 31)⟩),(4,⟨some 33,(some (32,true)),.mv (.t 8)⟩),(5,⟨some 34,(some (32,true)),.arith .eql (.t 33) (.k (.d (.val (.int .i64 1))))⟩),(6,⟨some 35,none,.pick (.t 32) (.t 34) (.k (.d (.val (.bool false))))⟩),(7,⟨some 36,none,.mv (.t 35)⟩),(8,⟨some 37,(some (36,true)),.load (some 8) (.t 3)⟩),(9,⟨some 38,(some (36,true)),.mv (.t 1)⟩),(10,⟨some 39,(some (36,true)),.call 33 [(.t 37),(.t 38)] none false⟩),(11,⟨some 40,(some (36,true)),.un .not (.t 39)⟩),(12,⟨some 41,none,.pick (.t 36) (.t 40) (.k (.d (.val (.bool false))))⟩),(13,⟨some 6,none,.mv (.t 41)⟩)] (some [6])) .ret) (.seq (.ops 9 [ (0,⟨some 43,none,.mv (.t 2)⟩),(1,⟨some 44,none,.arith .lss (.t 43) (.k (.d (.val (.int .i64 0))))⟩),(2,⟨some 45,none,.mv (.t 44)⟩),(3,⟨some 46,(some (45,false)),.mv (.t 2)⟩),(4,⟨some 47,(some (45,false)),.mv (.t 1)⟩),(5,⟨some 48,(some (45,false)),.lenT (.t 47)⟩),(6,⟨some 49,(some (45,false)),.arith .gtr (.t 46) (.t 48)⟩),(7,⟨some 50,none,.pick (.t 45) (.k (.d (.val (.bool true)))) (.t 49)⟩),(8,⟨some 42,none,.mv (.t 50)⟩)] (some [1,2,3,7,8,42])) (.cond (.t 42) (.seq (.ops 15 [ (0,⟨some 51,none,.mv (.t 7)⟩),(1,⟨some 52,none,.lenS (.t 51)⟩),(2,⟨some 53,none,.arith .eql (.t 52) (.k (.d (.val (.int .i64 0))))⟩),(3,⟨some 54,none,.mv (.t 53)⟩),(4,⟨some 55,(some (54,true)),.mv (.t 8)⟩),(5,⟨some 56,(some (54,true)),.arith .eql (.t 55) (.k (.d (.val (.int .i64 2))))⟩),(6,⟨some 57,none,.pick (.t 54) (.t 56) (.k (.d (.val (.bool false))))⟩),(7,⟨some 58,none,.mv (.t 57)⟩),(8,⟨some 59,(some (58,true)),.load (some 8) (.t 3)⟩),(9,⟨some 60,(some (58,true)),.mv (.t 1)⟩),(10,⟨some 61,(some (58,true)),.mv (.t 2)⟩),(11,⟨some 62,(some (58,true)),.call 34 [(.t 59),(.t 60),(.t 61)] none false⟩),(12,⟨some 63,(some (58,true)),.arith .eql (.t 62) (.k (.d (.val (.int .i64 (-1)))))⟩),(13,⟨some 64,none,.pick (.t 58) (.t 63) (.k (.d (.val (.bool false))))⟩),(14,⟨some 6,none,.mv (.t 64)⟩)] (some [6])) .ret) .skip))))) (.seq (.ops 22 [ (0,⟨some 65,none,.mv (.t 8)⟩),(1,⟨some 66,none,.arith .eql (.t 65) (.k (.d (.val (.int .i64 0))))⟩),(2,⟨some 67,none,.mv (.t 66)⟩),(3,⟨some 68,(some (67,true)),.mv (.t 7)⟩),(4,⟨some 69,(some (67,true)),.load (some 8) (.t 3)⟩),(5,⟨some 70,(some (67,true)),.mv (.t 1)⟩),(6,⟨some 71,(some (67,true)),.mv (.t 2)⟩),(7,⟨some 72,(some (67,true)),.call 36 [(.t 69),(.t 70),(.t 71)] none false⟩),(8,⟨some 73,(some (67,true)),.call 35 [(.t 68),(.t 72)] none false⟩),(9,⟨some 74,none,.pick (.t 67) (.t 73) (.k (.d (.val (.bool false))))⟩),(10,⟨some 75,none,.mv (.t 74)⟩),(11,⟨some 76,(some (75,true)),.load (some 8) (.t 3)⟩),(12,⟨some 77,(some (75,true)),.mv (.t 1)⟩),(13,⟨some 78,(some (75,true)),.mv (.t 2)⟩),(14,⟨some 79,(some (75,true)),.call 34 [(.t 76),(.t 77),(.t 78)] none false⟩),(15,⟨some 80,(some (75,true)),.load (some 8) (.t 3)⟩),(16,⟨some 81,(some (75,true)),.mv (.t 1)⟩),(17,⟨some 82,(some (75,true)),.mv (.t 2)⟩),(18,⟨some 83,(some (75,true)),.call 37 [(.t 80),(.t 81),(.t 82)] none false⟩),(19,⟨some 84,(some (75,true)),.arith .eql (.t 79) (.t 83)⟩),(20,⟨some 85,none,.pick (.t 75) (.t 84) (.k (.d (.val (.bool false))))⟩),(21,⟨some 6,none,.mv (.t 85)⟩)] (some [6])) .ret)))))
def md3 : FuncId→Option Nat × Bool
  | _=>(none,false)
def od3 : Nat→List (List Nat) × List Nat × Option (List Nat)
  | 0=>([],[],some [1,2,3])
  | 1=>([],[],some [1,2,3,16])
  | 2=>([],[],some [6])
  | 3=>([],[],some [1,2,3,7,8])
  | 4=>([],[],some [1,2,3,7,8,25])
  | 5=>([],[],some [6])
  | 6=>([],[],some [1,2,3,7,8,42])
  | 7=>([],[],some [6])
  | 8=>([[],[0],[0,1],[0,1,2],[0,1,2],[0,1,2],[0,1,2],[0,1,2,4,5,6],[0,1,2,3,4,5,6,7],[0,1,2,3,4,5,6,7,8],[0,1,2,3,4,5,6,7,8,9],[0,1,2,3,4,5,6,7,8,9,10],[0,1,2,3,4,5,6,7,8,9,10],[0,1,2,3,4,5,6,7,8,9,10],[0,1,2,3,4,5,6,7,8,9,10,11,12,13],[0,1,2,3,4,5,6,7,8,9,10],[0,1,2,3,4,5,6,7,8,9,10],[0,1,2,3,4,5,6,7,8,9,10],[0,1,2,3,4,5,6,7,8,9,10,11,12,13,14,15,16,17],[0,1,2,3,4,5,6,7,8,9,10,11,12,13,14,15,16,17,18],[0,1,2,3,4,5,6,7,8,9,10,11,12,13,14,15,16,17,18,19],[0,1,2,3,4,5,6,7,8,9,10,11,12,13,14,15,16,17,18,19,20]],[0,1,2,3,4,5,6,7,8,9,10,11,12,13,14,15,16,17,18,19,20,21],some [6])
  | _=>([],[],none)
theorem b3 {ags : List AV} {row : Option (List DV)} {r : AV} {row' nw : Option (List DV)} (hal : ags.length≤86) (hrow : row'.isSome=true→row.isSome=true) (h : xwp Try.prog x3 (retK [.tmp 6] row.isSome r row' nw) (St.init ags row)) : Good Try.prog 3 ags row r row' nw :=
  good_of_body' (md:=md3) (od:=od3) Try.f3 (by kernel_rfl) (by kernel_rfl) (by kernel_rfl) (by kernel_rfl) (by kernel_rfl) hal hrow h

set_option maxRecDepth 100000
set_option maxHeartbeats 4000000
attribute [local irreducible] W E R KP thenK blockK retK Good xwp aRun
theorem few_cnt {t : T} (h : sizeT t 601≤200) : t.cnt≤200:=by
  have:=sizeT_cnt t 601 (by omega)
  omega
end Go.Sv
namespace Go.Sv
open Go Go.Proofs
set_option maxRecDepth 100000
set_option maxHeartbeats 4000000
attribute [local irreducible] W E R KP thenK blockK retK Good xwp aRun
def zT : T:=.node 0 0 0 0 0 0 0 []
end Go.Sv
namespace Go.Sv
open Go Go.Proofs
section
variable {P : Program} {Q : Cont} {fr : Fr} {C : Heap} {Z : Frz} {nx : Nat} {base n d0 : Nat} {l : List (Nat × XO)} {kp : Option (List Nat)} {x y : X}
theorem r_callv {f : FuncId} {g : X} {xs : List X} {ags : List AV} {r : AV} (hf : g.ev fr=.d (.fn f [])) (ha : xs.map (X.ev fr)=ags) (hn : ags.all AV.nrm=true) (hg : Good P f ags none r none none)
    (k : R P l base kp Q nx (fr.put d0 r) C Z) : R P ((n,⟨some d0,none,.callv g xs⟩) :: l) base kp Q nx fr C Z:=by
  refine ⟨r,C,Z,.inl ⟨rfl,f,[],.inr ⟨[],hf,rfl⟩,?_⟩,k⟩
  subst ha
  refine ⟨_,[],r,none,none,by rw [List.append_nil];exact convAs_nrm _ hn,hg,rfl,fun h=>(by cases h),rfl,rfl,?_⟩
  simp [Frz.add_nil]
end
set_option maxRecDepth 100000
set_option maxHeartbeats 4000000
attribute [local irreducible] W E R KP thenK blockK retK Good xwp aRun
end Go.Sv
namespace Go.Sv
open Go Go.Proofs
set_option maxRecDepth 100000
set_option maxHeartbeats 4000000
attribute [local irreducible] W E R KP thenK blockK retK Good xwp aRun
end Go.Sv
namespace Go.Sv
open Go
theorem L_k1 {a b c d mn mx : Int} {subs : List T} {w : List Nat} : L (.node 1 a b c d mn mx subs) w↔w=[]:=by simp [L]
theorem L_k2 {a b c d mn mx : Int} {subs : List T} {w : List Nat} : L (.node 2 a b c d mn mx subs) w↔∃ x,w=[x]∧inG a b c d x=true:=by simp [L]
theorem L_k3 {a b c d mn mx : Int} {subs : List T} {w : List Nat} : L (.node 3 a b c d mn mx subs) w↔catL subs w:=by simp [L]
theorem L_k4 {a b c d mn mx : Int} {subs : List T} {w : List Nat} : L (.node 4 a b c d mn mx subs) w↔altL subs w:=by simp [L]
theorem L_k5 {a b c d mn mx : Int} {subs : List T} {w : List Nat} : L (.node 5 a b c d mn mx subs) w↔∃ r : Nat,mn≤r∧(mx < 0 ∨ (r : Int)≤mx)∧powL (fstL subs) r w:=by simp [L]
theorem catL_app : ∀ (l r : List T) (w : List Nat),catL (l++r) w↔∃ u v,w=u++v∧catL l u∧catL r v
  | [],r,w=>by
    simp only [List.nil_append,catL]
    constructor
    · intro h;exact ⟨[],w,rfl,rfl,h⟩
    · rintro ⟨u,v,rfl,rfl,h⟩;exact h
  | t :: l,r,w=>by
    simp only [List.cons_append,catL]
    constructor
    · rintro ⟨u,v,rfl,h1,h2⟩
      obtain ⟨a,b,rfl,h3,h4⟩:=(catL_app l r v).1 h2
      exact ⟨u++a,b,by simp,⟨u,a,rfl,h1,h3⟩,h4⟩
    · rintro ⟨_,v,rfl,⟨u,a,rfl,h1,h3⟩,h4⟩
      exact ⟨u,a++v,by simp,h1,(catL_app l r _).2 ⟨a,v,rfl,h3,h4⟩⟩
theorem altL_app : ∀ (l r : List T) (w : List Nat),altL (l++r) w↔altL l w ∨ altL r w
  | [],r,w=>by simp [altL]
  | t :: l,r,w=>by simp only [List.cons_append,altL,altL_app l r w,or_assoc]
theorem catL_one (t : T) (w : List Nat) : catL [t] w↔L t w:=by
  simp only [catL]
  constructor
  · rintro ⟨u,v,rfl,h,rfl⟩;simpa using h
  · intro h;exact ⟨w,[],by simp,h,rfl⟩
theorem powL_congr {P Q : List Nat→Prop} (h : ∀ w,P w↔Q w) : ∀ (n : Nat) (w : List Nat),powL P n w↔powL Q n w
  | 0,w=>Iff.rfl
  | n + 1,w=>by simp only [powL,h,powL_congr h n]
theorem powL_add (P : List Nat→Prop) : ∀ (a b : Nat) (w : List Nat),powL P (a + b) w↔∃ u v,w=u++v∧powL P a u∧powL P b v
  | 0,b,w=>by
    rw [Nat.zero_add];simp only [powL]
    constructor
    · intro h;exact ⟨[],w,rfl,rfl,h⟩
    · rintro ⟨u,v,rfl,rfl,h⟩;exact h
  | a + 1,b,w=>by
    rw [Nat.succ_add];simp only [powL]
    constructor
    · rintro ⟨u,v,rfl,h1,h2⟩
      obtain ⟨p,q,rfl,h3,h4⟩:=(powL_add P a b v).1 h2
      exact ⟨u++p,q,by simp,⟨u,p,rfl,h1,h3⟩,h4⟩
    · rintro ⟨_,v,rfl,⟨u,p,rfl,h1,h3⟩,h4⟩
      exact ⟨u,p++v,by simp,h1,(powL_add P a b _).2 ⟨p,v,rfl,h3,h4⟩⟩
theorem plainT_5 {a b c d mn mx : Int} {subs : List T} (h : plainT (.node 5 a b c d mn mx subs)=true) : ∃ u,subs=[u]:=by
  simp [plainT] at h
  obtain ⟨_,h⟩:=h
  match subs,h with
  | [u],_=>exact ⟨u,rfl⟩
theorem okT_plain {k a b c d mn mx : Int} {subs : List T} (h : okT (.node k a b c d mn mx subs)) : plainT (.node k a b c d mn mx subs)=true:=by
  simp only [okT,okN] at h;exact h.1.2.2.2.2
theorem okT_subs {k a b c d mn mx : Int} {subs : List T} (h : okT (.node k a b c d mn mx subs)) : okL subs:=by
  simp only [okT] at h;exact h.2
theorem plainT_leaf {k a b c d mn mx : Int} {subs : List T} (hk : k=1 ∨ k=2) (h : plainT (.node k a b c d mn mx subs)=true) : subs=[]:=by
  cases subs with
  | nil=>rfl
  | cons x l=>exfalso;rcases hk with rfl | rfl<;>simp [plainT] at h
theorem okW_0 : okW 0:=by unfold okW;omega
theorem okT_mk {k mn mx : Int} {subs : List T} (h : plainT (.node k 0 0 0 0 mn mx subs)=true) (hs : okL subs) : okT (.node k 0 0 0 0 mn mx subs):=by
  simp only [okT,okN];exact ⟨⟨okW_0,okW_0,okW_0,okW_0,h⟩,hs⟩
theorem okL_iff : ∀ (l : List T),okL l↔∀ t ∈ l,okT t
  | []=>by simp [okL]
  | t :: l=>by simp [okL,okL_iff l]
theorem okT_empty : okT (.node 1 0 0 0 0 0 0 []):=okT_mk (by simp [plainT,isZero]) trivial
theorem cntL_app : ∀ (l r : List T),cntL (l++r)=cntL l + cntL r
  | [],r=>by simp [cntL]
  | t :: l,r=>by rw [List.cons_append,cntL,cntL_app l r,cntL];omega
theorem cntL_take (l : List T) (i : Nat) (h : i < l.length) : cntL (l.take (i + 1))=cntL (l.take i) + l[i].cnt:=by
  rw [List.take_succ_eq_append_getElem h,cntL_app,cntL,cntL];omega
theorem cntL_take_le (l : List T) (i : Nat) : cntL (l.take i)≤cntL l:=by
  have:=cntL_app (l.take i) (l.drop i)
  rw [List.take_append_drop] at this;omega
end Go.Sv
namespace Go.Sv
open Go Go.Proofs
theorem convAs_app {C : Heap} {ex : Nat→Bool} : ∀ {l r l' r' : List AV} {u v : List Nat},convAs C ex l=some (l',u)→convAs C ex r=some (r',v)→convAs C ex (l++r)=some (l'++r',u++v)
  | [],r,l',r',u,v,h1,h2=>by cases h1;exact h2
  | x :: l,r,l',r',u,v,h1,h2=>by
    simp only [convAs] at h1
    obtain ⟨⟨p,q⟩,h3,h4⟩:=Option.bind_eq_some_iff.1 h1
    obtain ⟨⟨p',q'⟩,h5,h6⟩:=Option.map_eq_some_iff.1 h4
    cases h6
    simp only [List.cons_append,convAs,h3,Option.bind_some,convAs_app h5 h2,Option.map_some,List.append_assoc]
theorem convAs_encL {C : Heap} {ex : Nat→Bool} (l : List T) : convAs C ex ((encL l).map AV.d)=some ((encL l).map AV.d,[]):=by
  rw [convAs_d]
  have : (encL l).map (fun x=>AV.d x.norm)=((encL l).map DV.norm).map AV.d:=by rw [List.map_map];rfl
  rw [this,encL_norm]
theorem isD_encL (l : List T) : ((encL l).map AV.d).all AV.isD=true:=by rw [List.all_map];simp [AV.isD]
set_option maxRecDepth 100000
set_option maxHeartbeats 4000000
attribute [local irreducible] W E R KP thenK blockK retK Good xwp aRun
end Go.Sv
namespace Go.Sv
open Go
set_option linter.unusedVariables false
def rhoM (n : Nat) : List (Nat × Nat)→Nat→Nat
  | [],k=>rho n k
  | (b,c) :: σ,k=>cond (Nat.beq k b) c (rhoM n σ k)
def vtM (vs : List Nat) (k : Nat) : Bool:=vs.any (Nat.beq k)
theorem beq_false {k b : Nat} (h : k ≠ b) : Nat.beq k b=false:=by
  cases e : Nat.beq k b with
  | false=>rfl
  | true=>exact absurd (Nat.eq_of_beq_eq_true e) h
theorem rhoM_ge {n k : Nat} : ∀ {σ : List (Nat × Nat)},(σ.all fun p=>Nat.blt p.1 n)=true→¬ k < n→rhoM n σ k=1000000
  | [],_,h=>rho_ge h
  | (b,c) :: σ,hs,h=>by
    simp only [List.all_cons,Bool.and_eq_true] at hs
    have : b < n:=Eq.mp Nat.blt_eq hs.1
    rw [rhoM,beq_false (by omega)]
    exact rhoM_ge hs.2 h
theorem wkM {C : Heap} {Z : Frz} {nx nx' : Nat} {fr fr' : Fr} (σ : List (Nat × Nat)) (vs : List Nat) {rows : List (Nat × List AV)} {hot : List Nat} (h0 : (Nat.blt 0 nx' && (Nat.beq (rhoM nx' σ 0) 0 && (!(vtM vs 0) && σ.all fun p=>Nat.blt p.1 nx')))=true)
    (h : ∀ p ∈ rows,p.1 < nx'∧((vtM vs p.1=true∧p.2=[]) ∨ (vtM vs p.1=false∧∃ r,C (rhoM nx' σ p.1)=some r∧LWk (rhoM nx' σ) (vtM vs) nx' r p.2)))
    (hh : ∀ k ∈ hot,Z (rhoM nx' σ k)=false)
    (hinj : ((rows.map (·.1)).all fun a=>(rows.map (·.1)).all fun b=>Nat.beq a b || (!(Nat.beq (rhoM nx' σ a) (rhoM nx' σ b)) || (vtM vs a || vtM vs b)))=true)
    (hf : FWk (rhoM nx' σ) (vtM vs) nx' fr fr') (hN : Z 1000000=false:=by rfl) :
    Wk ⟨fr,C,Z,nx⟩ ⟨fr',rowsOf rows,Frz.buts nx' hot,nx'⟩:=by
  simp only [Bool.and_eq_true,Bool.not_eq_true'] at h0
  obtain ⟨a1,a2,a3,a4⟩:=h0
  have a1 : 0 < nx':=Eq.mp Nat.blt_eq a1
  refine ⟨rhoM nx' σ,vtM vs,⟨Nat.eq_of_beq_eq_true a2,a3,a1⟩,hf,fun e s he=>?_,fun e e' r1 r2 h1 h2 v1 v2 hee=>?_,fun e hc=>?_⟩
  · obtain ⟨g1,g2⟩:=h _ (rowsOf_mem he)
    refine ⟨g1,?_⟩
    rcases g2 with ⟨q1,q3⟩ | ⟨q1,r,q2,q3⟩
    · simp only at q3
      exact .inl ⟨q1,q3⟩
    · refine .inr ⟨q1,r,q2,q3.len,q3.get,fun hz'=>?_⟩
      by_cases hm : e ∈ hot
      · exact hh e hm
      · have : Frz.buts nx' hot e=true:=buts_lt g1 hm
        simp only at hz'
        rw [this] at hz';cases hz'
  · have k1:=List.all_eq_true.1 hinj e (List.mem_map.2 ⟨_,rowsOf_mem h1,rfl⟩)
    have k2:=List.all_eq_true.1 k1 e' (List.mem_map.2 ⟨_,rowsOf_mem h2,rfl⟩)
    simp only [Bool.or_eq_true,Bool.not_eq_true'] at k2
    rcases k2 with k2 | k2 | k2 | k2
    · exact Nat.eq_of_beq_eq_true k2
    · have : Nat.beq (rhoM nx' σ e) (rhoM nx' σ e')=true:=by rw [hee];exact Nat.beq_refl _
      rw [this] at k2;cases k2
    · rw [v1] at k2;cases k2
    · rw [v2] at k2;cases k2
  · by_cases hlt : e < nx'
    · refine buts_lt hlt fun hm=>?_
      have:=hh e hm
      simp only at hc
      rw [this] at hc;cases hc
    · simp only [rhoM_ge a4 hlt,hN] at hc;cases hc

section
variable {P : Program} {Q : Cont} {fr : Fr} {C : Heap} {Z : Frz} {nx : Nat} {base n d : Nat} {l : List (Nat × XO)} {kp : Option (List Nat)} {x i y s : X}
theorem xl_live {b off : Nat} {cs : List DV} {m : Option Nat} (hx : x.ev fr=.ptrL b off) (hC : C b=some (cs.map AV.d)) : xl fr C (.load m x)=xl (Fr.nil.put 0 (.d (.ptr cs off))) C (.load m (.t 0)):=by
  simp only [xl,hx,rowOf,hC,Option.map_some,Option.bind_some]
  rfl
theorem r_ixN {b m j : Nat} {e : Int} (hx : x.ev fr=.slL b 0 m 8) (hi : i.ev fr=.i e) (he : e=(j : Nat)) (hj : j < m) (k : R P l base kp Q nx (fr.put d (.ptrL b (j * 8))) C Z) : R P ((n,⟨some d,none,.idxS 8 x i⟩) :: l) base kp Q nx fr C Z:=by
  subst he
  refine r_p ?_ k
  simp [xp,hx,hi,intIn,hj]
theorem r_ldN {b off : Nat} {cs : List DV} {t : T} (hx : x.ev fr=.ptrL b off) (hC : C b=some (cs.map AV.d)) (hn : NodeAt cs off t) (k : R P l base kp Q nx (fr.put d (nodeA t)) C Z) : R P ((n,⟨some d,none,.load (some 8) x⟩) :: l) base kp Q nx fr C Z:=by
  refine r_l ?_ k
  rw [xl_live hx hC]
  exact ld_node' hn rfl
theorem r_ldNk {b off : Nat} {cs : List DV} {t : T} (hx : x.ev fr=.ptrL b (off + 0)) (hC : C b=some (cs.map AV.d)) (hn : NodeAt cs off t) (k : R P l base kp Q nx (fr.put d (.i t.kind)) C Z) : R P ((n,⟨some d,none,.load none x⟩) :: l) base kp Q nx fr C Z:=by
  refine r_l ?_ k
  rw [xl_live hx hC]
  exact ld_kind' hn rfl
theorem r_ldNw {b off : Nat} {cs : List DV} {k0 a0 b0 c0 d0 mn mx : Int} {subs : List T} (hx : x.ev fr=.ptrL b (off + 1)) (hC : C b=some (cs.map AV.d)) (hn : NodeAt cs off (.node k0 a0 b0 c0 d0 mn mx subs)) (k : R P l base kp Q nx (fr.put d (.agg [.d (.val (.int .u64 a0)),.d (.val (.int .u64 b0)),.d (.val (.int .u64 c0)),.d (.val (.int .u64 d0))])) C Z) : R P ((n,⟨some d,none,.load (some 4) x⟩) :: l) base kp Q nx fr C Z:=by
  refine r_l ?_ k
  rw [xl_live hx hC]
  exact ld_set hn rfl
theorem r_mkN {t : T} {id : Nat} (hx : x.ev fr=nodeA t) (hid : base + n=id) (k : R P l base kp Q nx (fr.put d (.slL id 0 1 8)) (C.put id ((encL [t]).map AV.d)) Z) : R P ((n,⟨some d,none,.mkrow [.int .i64 0,.int .u64 0,.int .u64 0,.int .u64 0,.int .u64 0,.int .i64 0,.int .i64 0,.slice none 0 0] 1 8 [(0,8,x)]⟩) :: l) base kp Q nx fr C Z:=by
  subst hid
  refine r_n (v:=.slL (base + n) 0 1 8) (r:=(encL [t]).map AV.d) ?_ k
  obtain ⟨k0,a0,b0,c0,d0,mn,mx,subs⟩:=t
  simp only [xn,List.map_cons,List.map_nil,hx]
  rfl
theorem r_appE {b c id m j : Nat} {K L : List T} (hs : s.ev fr=.slL b 0 m 8) (hx : x.ev fr=.slL c 0 j 8) (hC : C b=some ((encL K).map AV.d)) (hCc : C c=some ((encL L).map AV.d)) (hm : K.length=m) (hj : L.length=j) (hz : Z b=false) (hid : base + n=id) (hb : m + j≤100000000)
    (k : R P l base kp Q nx (fr.put d (.slL id 0 (m + j) 8)) ((C.del b).put id ((encL (K++L)).map AV.d)) Z) : R P ((n,⟨some d,none,.app [.int .i64 0,.int .u64 0,.int .u64 0,.int .u64 0,.int .u64 0,.int .i64 0,.int .i64 0,.slice none 0 0] 80 s x⟩) :: l) base kp Q nx fr C Z:=by
  refine r_appN hs hx hC hCc (by rw [List.length_map,encL_length,hm]) (by rw [List.length_map,encL_length,hj]) (one_encL L) hz hid hb ?_
  rw [encL_app,List.map_append] at k
  exact k
theorem r_appD {b id m j : Nat} {K L : List T} (hs : s.ev fr=.slL b 0 m 8) (hx : x.ev fr=.d (.sl (encL L) j)) (hC : C b=some ((encL K).map AV.d)) (hm : K.length=m) (hj : L.length=j) (hz : Z b=false) (hid : base + n=id) (hb : m + j≤100000000)
    (k : R P l base kp Q nx (fr.put d (.slL id 0 (m + j) 8)) ((C.del b).put id ((encL (K++L)).map AV.d)) Z) : R P ((n,⟨some d,none,.app [.int .i64 0,.int .u64 0,.int .u64 0,.int .u64 0,.int .u64 0,.int .i64 0,.int .i64 0,.slice none 0 0] 80 s x⟩) :: l) base kp Q nx fr C Z:=by
  subst hid hm hj
  refine r_w (v:=.slL (base + n) 0 (K.length + L.length) 8) (C':=(C.del b).put (base + n) ((encL (K++L)).map AV.d)) ?_ k
  have h2 : srcOf C 8 (.d (.sl (encL L) L.length))=some ((encL L).map AV.d,L.length):=by
    unfold srcOf
    split
    · rename_i e;cases e
    · rename_i e;cases e;rw [if_pos (encL_length L)]
    · rename_i e;cases e
    · rename_i h1 h2 h3;exact absurd rfl (h2 _ _)
  simp only [xw,List.length_cons,List.length_nil,Nat.zero_add,Nat.reduceAdd,hx,h2,Option.bind_some,hs,hC]
  rw [if_pos (one_encL L),if_pos ⟨trivial,hz,by rw [List.length_map,encL_length];omega,by omega⟩,List.take_of_length_le (by rw [List.length_map,encL_length];omega),encL_app,List.map_append]
theorem conv_rowN {ex : Nat→Bool} {id m : Nat} {L : List T} (hC : C id=some ((encL L).map AV.d)) (hm : L.length=m) (hex : ex id=false) : convC C ex 9 (.slL id 0 m 8)=some (.sl (encL L) m,if m=0 then [] else [id]):=by
  subst hm
  rcases Nat.eq_zero_or_pos L.length with h | h
  · have : L=[]:=List.length_eq_zero_iff.1 h
    subst this
    simp [convC,encL]
  · rw [if_neg (by omega)]
    exact conv_row hC (by rw [List.length_map,encL_length]) h hex (mapO_encL L)
theorem conv_rowA {ex : Nat→Bool} {id m : Nat} {L : List T} (hC : C id=some ((encL L).map AV.d)) (hm : L.length=m) (hex : ex id=false) : convA C ex (.slL id 0 m 8)=some (.d (.sl (encL L) m),if m=0 then [] else [id]):=by
  simp only [convA,conv_rowN hC hm hex,Option.map_some]
end
end Go.Sv
namespace Go.Sv
open Go
mutual
def sameT : T→T→Bool
  | .node k a b c d mn mx s,.node k' a' b' c' d' mn' mx' s'=>(k == k' && (a == a' && b == b' && c == c' && d == d') && mn == mn' && mx == mx') && sameL s s'
def sameL : List T→List T→Bool
  | [],[]=>true
  | t :: l,u :: r=>sameT t u && sameL l r
  | [],_ :: _=>false
  | _ :: _,[]=>false
end
mutual
theorem sameT_iff : ∀ (t u : T),sameT t u=true↔t=u
  | .node k a b c d mn mx s,.node k' a' b' c' d' mn' mx' s'=>by
    simp only [sameT,Bool.and_eq_true,beq_iff_eq,sameL_iff s s',T.node.injEq]
    constructor
    · rintro ⟨⟨⟨⟨h1,⟨⟨h2,h3⟩,h4⟩,h5⟩,h6⟩,h7⟩,h8⟩;exact ⟨h1,h2,h3,h4,h5,h6,h7,h8⟩
    · rintro ⟨h1,h2,h3,h4,h5,h6,h7,h8⟩;exact ⟨⟨⟨⟨h1,⟨⟨h2,h3⟩,h4⟩,h5⟩,h6⟩,h7⟩,h8⟩
theorem sameL_iff : ∀ (l r : List T),sameL l r=true↔l=r
  | [],[]=>by simp [sameL]
  | t :: l,u :: r=>by simp only [sameL,Bool.and_eq_true,sameT_iff t u,sameL_iff l r,List.cons.injEq]
  | [],_ :: _=>by simp [sameL]
  | _ :: _,[]=>by simp [sameL]
end
theorem sameT_self (t : T) : sameT t t=true:=(sameT_iff t t).2 rfl
theorem sameL_drop (l r : List T) (i : Nat) (h : i < l.length) (h2 : i < r.length) : sameL (l.drop i) (r.drop i)=(sameT l[i] r[i] && sameL (l.drop (i + 1)) (r.drop (i + 1))):=by
  rw [List.drop_eq_getElem_cons h,List.drop_eq_getElem_cons h2,sameL]
theorem sameL_len {l r : List T} (h : l.length ≠ r.length) : sameL l r=false:=by
  cases e : sameL l r with
  | false=>rfl
  | true=>exact absurd (congrArg List.length ((sameL_iff l r).1 e)) h

def isNo : T→Bool
  | .node k a b c d _ _ _=>k == 2 && isZero a b c d
def emptyT : T:=.node 1 0 0 0 0 0 0 []
def noneT : T:=.node 2 0 0 0 0 0 0 []
def ofT (k : Int) (l : List T) (e : T) : T:=match l with
  | []=>e
  | [t]=>t
  | l=>.node k 0 0 0 0 0 0 l
def flatO (k : Int) (t : T) : List T:=if t.kind=k then t.subs else [t]
def flatL (k : Int) : List T→List T
  | []=>[]
  | t :: l=>flatO k t++flatL k l
def notE (t : T) : Bool:=!(t.kind == 1)
def catS (l : List T) : T:=if (flatL 3 l).any isNo=true then noneT else ofT 3 ((flatL 3 l).filter notE) emptyT
def orW (a b : Int) : Int:=((BitVec.ofInt 64 a ||| BitVec.ofInt 64 b).toNat : Int)
def clsN : T→T
  | .node _ a b c d _ _ _=>.node 2 a b c d 0 0 []
def orN : T→T→T
  | .node _ a b c d _ _ _,.node _ a' b' c' d' _ _ _=>.node 2 (orW a a') (orW b b') (orW c c') (orW d d') 0 0 []
def altStep (s : List T × Option Nat) (t : T) : List T × Option Nat :=
  if isNo t=true then s
  else if t.kind=2 then match s.2 with
    | some i=>(s.1.set i (orN (s.1.getD i noneT) t),some i)
    | none=>(s.1++[clsN t],some s.1.length)
  else if s.1.any (fun u=>sameT u t)=true then s else (s.1++[t],s.2)
def altF (l : List T) : List T × Option Nat:=(flatL 4 l).foldl altStep ([],none)
def altS (l : List T) : T:=ofT 4 (altF l).1 noneT
def isStar (t : T) : Bool:=t.kind == 5 && t.mn == 0 && t.mx == -1
mutual
def repS : T→Int→Int→T
  | .node k a b c d mn mx subs,lo,hi =>
    if hi=0 ∨ k=1 ∨ (isNo (.node k a b c d mn mx subs)=true∧lo=0) then emptyT
    else if isNo (.node k a b c d mn mx subs)=true ∨ (lo=1∧hi=1) ∨ (k=5∧mn=0∧mx=-1) then .node k a b c d mn mx subs
    else if lo=0∧hi=-1∧k=5∧mn≤1∧0≤mn then repF subs (.node k a b c d mn mx subs)
    else .node 5 0 0 0 0 lo hi [.node k a b c d mn mx subs]
def repF : List T→T→T
  | [],t=>.node 5 0 0 0 0 0 (-1) [t]
  | u :: l,t=>if l.isEmpty=true then repS u 0 (-1) else .node 5 0 0 0 0 0 (-1) [t]
end
theorem repF_one (u t : T) : repF [u] t=repS u 0 (-1):=by simp [repF]
mutual
def simT : T→T
  | .node k a b c d mn mx subs =>
    if k=3 then catS (simL subs) else if k=4 then altS (simL subs) else if k=5 then repS ((simL subs).headD emptyT) mn mx else .node k a b c d mn mx subs
def simL : List T→List T
  | []=>[]
  | t :: l=>simT t :: simL l
end
theorem simL_len : ∀ l : List T,(simL l).length=l.length
  | []=>rfl
  | t :: l=>by rw [simL,List.length_cons,simL_len l,List.length_cons]
theorem simL_get : ∀ (l : List T) (i : Nat) (h : i < l.length) (h2 : i < (simL l).length),(simL l)[i]=simT l[i]
  | t :: l,0,_,_=>by simp [simL]
  | t :: l,i + 1,h,h2=>by
    simp only [simL,List.getElem_cons_succ]
    exact simL_get l i (by simpa using h) _
theorem okW_nat {w : Int} (h : okW w) : ∃ n : Nat,w=n∧n < 2 ^ 64:=by
  obtain ⟨n,rfl⟩:=Int.eq_ofNat_of_zero_le h.1
  exact ⟨n,rfl,by have:=h.2;omega⟩
theorem bitG_nat (n x : Nat) : bitG (n : Int) x=n.testBit (x % 64):=by
  unfold bitG
  rw [Nat.testBit_eq_decide_div_mod_eq]
  congr 1
  apply propext
  have : ((n : Int) / 2 ^ (x % 64) % 2=1)↔(((n / 2 ^ (x % 64) % 2 : Nat) : Int)=((1 : Nat) : Int)):=by
    rw [Int.natCast_emod,Int.natCast_ediv,Int.natCast_pow];rfl
  rw [this,Int.ofNat_inj]
theorem orW_nat {a b : Nat} (ha : a < 2 ^ 64) (hb : b < 2 ^ 64) : orW (a : Int) (b : Int)=((a ||| b : Nat) : Int):=by
  unfold orW
  have h1 : (BitVec.ofInt 64 (a : Int)).toNat=a:=by simp [BitVec.toNat_ofInt];omega
  have h2 : (BitVec.ofInt 64 (b : Int)).toNat=b:=by simp [BitVec.toNat_ofInt];omega
  rw [BitVec.toNat_or,h1,h2]
theorem okW_or {a b : Int} (ha : okW a) (hb : okW b) : okW (orW a b):=by
  obtain ⟨m,rfl,hm⟩:=okW_nat ha
  obtain ⟨n,rfl,hn⟩:=okW_nat hb
  rw [orW_nat hm hn]
  have:=Nat.or_lt_two_pow hm hn
  unfold okW;omega
theorem bitG_or {a b : Int} (ha : okW a) (hb : okW b) (x : Nat) : bitG (orW a b) x=(bitG a x || bitG b x):=by
  obtain ⟨m,rfl,hm⟩:=okW_nat ha
  obtain ⟨n,rfl,hn⟩:=okW_nat hb
  rw [orW_nat hm hn,bitG_nat,bitG_nat,bitG_nat,Nat.testBit_or]
theorem bitG_0 (x : Nat) : bitG 0 x=false:=by
  have:=bitG_nat 0 x
  simpa using this
theorem four {P : Nat→Prop} (h0 : P 0) (h1 : P 1) (h2 : P 2) (h3 : P 3) (h4 : ∀ n,4≤n→P n) (n : Nat) : P n:=by
  rcases Nat.lt_or_ge n 4 with h | h
  · match n,h with
    | 0,_=>exact h0
    | 1,_=>exact h1
    | 2,_=>exact h2
    | 3,_=>exact h3
  · exact h4 n h
theorem inG_or {a b c d a' b' c' d' : Int} (ha : okW a) (hb : okW b) (hc : okW c) (hd : okW d) (ha' : okW a') (hb' : okW b') (hc' : okW c') (hd' : okW d') (x : Nat) :
    inG (orW a a') (orW b b') (orW c c') (orW d d') x=(inG a b c d x || inG a' b' c' d' x):=by
  unfold inG
  generalize x / 64=n
  revert n
  refine four ?_ ?_ ?_ ?_ ?_
  · exact bitG_or ha ha' x
  · exact bitG_or hb hb' x
  · exact bitG_or hc hc' x
  · exact bitG_or hd hd' x
  · intro n h
    rw [List.getD_eq_getElem?_getD,List.getElem?_eq_none (by simpa using h),List.getD_eq_getElem?_getD,List.getElem?_eq_none (by simpa using h),List.getD_eq_getElem?_getD,List.getElem?_eq_none (by simpa using h)]
    simp [bitG_0]
theorem inG_0 (x : Nat) : inG 0 0 0 0 x=false:=by
  unfold inG
  generalize x / 64=n
  revert n
  refine four (bitG_0 x) (bitG_0 x) (bitG_0 x) (bitG_0 x) ?_
  intro n h
  rw [List.getD_eq_getElem?_getD,List.getElem?_eq_none (by simpa using h)]
  simp [bitG_0]

theorem isNo_L {t : T} (h : isNo t=true) (w : List Nat) : ¬ L t w:=by
  obtain ⟨k,a,b,c,d,mn,mx,subs⟩:=t
  simp [isNo,isZero] at h
  obtain ⟨rfl,rfl,rfl,rfl,rfl⟩:=h
  rw [L_k2]
  rintro ⟨x,_,h⟩
  rw [inG_0] at h;cases h
theorem L_noneT (w : List Nat) : ¬ L noneT w:=isNo_L rfl w
theorem L_emptyT (w : List Nat) : L emptyT w↔w=[]:=L_k1
theorem L_of4 (l : List T) (w : List Nat) : L (ofT 4 l noneT) w↔altL l w:=by
  unfold ofT
  split
  · simp only [altL,iff_false];exact L_noneT w
  · simp only [altL,or_false]
  · rw [L_k4]
theorem L_of3 (l : List T) (w : List Nat) : L (ofT 3 l emptyT) w↔catL l w:=by
  unfold ofT
  split
  · simp only [catL];exact L_emptyT w
  · rw [catL_one]
  · rw [L_k3]
theorem altL_flat : ∀ (l : List T) (w : List Nat),altL (flatL 4 l) w↔altL l w
  | [],w=>Iff.rfl
  | t :: l,w=>by
    rw [flatL,altL_app,altL_flat l w,altL]
    refine or_congr ?_ Iff.rfl
    unfold flatO
    split
    · rename_i h
      obtain ⟨k,a,b,c,d,mn,mx,subs⟩:=t
      simp only [T.kind] at h
      subst h
      rw [L_k4,T.subs]
    · simp [altL]
theorem catL_flat : ∀ (l : List T) (w : List Nat),catL (flatL 3 l) w↔catL l w
  | [],w=>Iff.rfl
  | t :: l,w=>by
    rw [flatL,catL_app,catL]
    have e : ∀ u,catL (flatO 3 t) u↔L t u:=by
      intro u
      unfold flatO
      split
      · rename_i h
        obtain ⟨k,a,b,c,d,mn,mx,subs⟩:=t
        simp only [T.kind] at h
        subst h
        rw [L_k3,T.subs]
      · exact catL_one t u
    simp only [e,catL_flat l]
theorem catL_no : ∀ (l : List T) (w : List Nat),l.any isNo=true→¬ catL l w
  | t :: l,w,h=>by
    rintro ⟨u,v,rfl,h1,h2⟩
    rw [List.any_cons,Bool.or_eq_true] at h
    rcases h with h | h
    · exact isNo_L h u h1
    · exact catL_no l v h h2
theorem kind1_L {t : T} (h : t.kind=1) (w : List Nat) : L t w↔w=[]:=by
  obtain ⟨k,a,b,c,d,mn,mx,subs⟩:=t
  simp only [T.kind] at h
  subst h
  exact L_k1
theorem catL_filter : ∀ (l : List T) (w : List Nat),catL (l.filter notE) w↔catL l w
  | [],w=>Iff.rfl
  | t :: l,w=>by
    rw [List.filter_cons]
    split
    · simp only [catL,catL_filter l]
    · rename_i h
      have hk : t.kind=1:=by simpa [notE] using h
      rw [catL_filter l w,catL]
      simp only [kind1_L hk]
      constructor
      · intro h;exact ⟨[],w,rfl,rfl,h⟩
      · rintro ⟨u,v,rfl,rfl,h⟩;exact h
theorem catS_L (l : List T) (w : List Nat) : L (catS l) w↔catL l w:=by
  unfold catS
  split
  · rename_i h
    rw [← catL_flat]
    exact ⟨fun h1=>absurd h1 (L_noneT w),fun h1=>absurd h1 (catL_no _ w h)⟩
  · rw [L_of3,catL_filter,catL_flat]
def okS : T→Prop
  | .node _ a b c d _ _ _=>okW a∧okW b∧okW c∧okW d
theorem altL_set : ∀ (l : List T) (i : Nat) (u : T) (h : i < l.length) (w : List Nat),(∀ w,L l[i] w→L u w)→(altL (l.set i u) w↔altL l w ∨ L u w)
  | t :: l,0,u,_,w,hu=>by
    simp only [List.set_cons_zero,altL]
    constructor
    · rintro (h | h)
      · exact .inr h
      · exact .inl (.inr h)
    · rintro ((h | h) | h)
      · exact .inl (hu w h)
      · exact .inr h
      · exact .inl h
  | t :: l,i + 1,u,h,w,hu=>by
    simp only [List.set_cons_succ,altL,altL_set l i u (by simpa using h) w hu,or_assoc]
theorem altL_mem : ∀ (l : List T) (t : T),t ∈ l→∀ w,L t w→altL l w
  | u :: l,t,h,w,hw=>by
    rcases List.mem_cons.1 h with rfl | h
    · exact .inl hw
    · exact .inr (altL_mem l t h w hw)
theorem orN_L {t u : T} (ht : t.kind=2) (hu : u.kind=2) (h1 : okS t) (h2 : okS u) (w : List Nat) : L (orN t u) w↔L t w ∨ L u w:=by
  obtain ⟨k,a,b,c,d,mn,mx,subs⟩:=t
  obtain ⟨k',a',b',c',d',mn',mx',subs'⟩:=u
  simp only [T.kind] at ht hu
  subst ht hu
  obtain ⟨p1,p2,p3,p4⟩:=h1
  obtain ⟨q1,q2,q3,q4⟩:=h2
  rw [orN,L_k2,L_k2,L_k2]
  simp only [inG_or p1 p2 p3 p4 q1 q2 q3 q4,Bool.or_eq_true]
  constructor
  · rintro ⟨x,rfl,h | h⟩
    · exact .inl ⟨x,rfl,h⟩
    · exact .inr ⟨x,rfl,h⟩
  · rintro (⟨x,rfl,h⟩ | ⟨x,rfl,h⟩)
    · exact ⟨x,rfl,.inl h⟩
    · exact ⟨x,rfl,.inr h⟩
theorem clsN_L {t : T} (h : t.kind=2) (w : List Nat) : L (clsN t) w↔L t w:=by
  obtain ⟨k,a,b,c,d,mn,mx,subs⟩:=t
  simp only [T.kind] at h
  subst h
  rw [clsN,L_k2,L_k2]
def AltI (s : List T × Option Nat) : Prop:=∀ i,s.2=some i→∃ a b c d,s.1[i]?=some (.node 2 a b c d 0 0 [])∧okW a∧okW b∧okW c∧okW d
theorem AltI.lt {s : List T × Option Nat} (h : AltI s) {i : Nat} (hi : s.2=some i) : i < s.1.length:=by
  obtain ⟨a,b,c,d,h,_⟩:=h i hi
  exact (List.getElem?_eq_some_iff.1 h).1
theorem altStep_I {s : List T × Option Nat} {t : T} (h : AltI s) (ht : okS t) : AltI (altStep s t):=by
  unfold altStep
  split
  · exact h
  split
  · split
    · rename_i i hi
      intro j hj
      cases hj
      obtain ⟨a,b,c,d,h1,ha,hb,hc,hd⟩:=h i hi
      have hlt:=(List.getElem?_eq_some_iff.1 h1).1
      obtain ⟨k',a',b',c',d',mn',mx',subs'⟩:=t
      obtain ⟨q1,q2,q3,q4⟩:=ht
      refine ⟨orW a a',orW b b',orW c c',orW d d',?_,okW_or ha q1,okW_or hb q2,okW_or hc q3,okW_or hd q4⟩
      rw [List.getElem?_set_self hlt,List.getD_eq_getElem?_getD,h1]
      rfl
    · intro j hj
      cases hj
      obtain ⟨k',a',b',c',d',mn',mx',subs'⟩:=t
      exact ⟨a',b',c',d',by rw [List.getElem?_append_right (Nat.le_refl _),Nat.sub_self];rfl,ht⟩
  · split
    · exact h
    · intro j hj
      obtain ⟨a,b,c,d,h1,h2⟩:=h j hj
      exact ⟨a,b,c,d,by rw [List.getElem?_append_left (List.getElem?_eq_some_iff.1 h1).1];exact h1,h2⟩
theorem altStep_L {s : List T × Option Nat} {t : T} (h : AltI s) (ht : okS t) (w : List Nat) : altL (altStep s t).1 w↔altL s.1 w ∨ L t w:=by
  unfold altStep
  split
  · rename_i hn
    have:=isNo_L hn w
    simp [this]
  split
  · rename_i hk
    split
    · rename_i i hi
      obtain ⟨a,b,c,d,h1,ha,hb,hc,hd⟩:=h i hi
      obtain ⟨hlt,h1'⟩:=List.getElem?_eq_some_iff.1 h1
      have e : s.1.getD i noneT=.node 2 a b c d 0 0 []:=by rw [List.getD_eq_getElem?_getD,h1];rfl
      have ho:=orN_L (t:=.node 2 a b c d 0 0 []) rfl hk ⟨ha,hb,hc,hd⟩ ht
      simp only [e]
      rw [altL_set _ _ _ hlt _ (fun w hw=>(ho w).2 (.inl (h1' ▸ hw))),ho w]
      constructor
      · rintro (h | h | h)
        · exact .inl h
        · exact .inl (altL_mem _ _ (List.getElem_mem hlt) w (h1' ▸ h))
        · exact .inr h
      · rintro (h | h)
        · exact .inl h
        · exact .inr (.inr h)
    · simp only [altL_app,altL,or_false,clsN_L hk]
  · split
    · rename_i hs
      obtain ⟨u,hu,he⟩:=List.any_eq_true.1 hs
      have:=(sameT_iff u t).1 he
      subst this
      constructor
      · exact .inl
      · rintro (h | h)
        · exact h
        · exact altL_mem _ _ hu w h
    · simp only [altL_app,altL,or_false]
theorem altFold_L : ∀ (l : List T) (s : List T × Option Nat),AltI s→(∀ t ∈ l,okS t)→∀ w,altL (l.foldl altStep s).1 w↔altL s.1 w ∨ altL l w
  | [],s,_,_,w=>by simp [altL]
  | t :: l,s,h,ht,w=>by
    rw [List.foldl_cons,altFold_L l _ (altStep_I h (ht t (by simp))) (fun u hu=>ht u (by simp [hu])) w,altStep_L h (ht t (by simp)) w,altL,or_assoc]
theorem altS_L (l : List T) (h : ∀ t ∈ flatL 4 l,okS t) (w : List Nat) : L (altS l) w↔altL l w:=by
  unfold altS altF
  rw [L_of4,altFold_L _ _ (fun i hi=>by cases hi) h w,altL_flat]
  simp [altL]
theorem okT_S {t : T} (h : okT t) : okS t:=by
  obtain ⟨k,a,b,c,d,mn,mx,subs⟩:=t
  simp only [okT,okN] at h
  exact ⟨h.1.1,h.1.2.1,h.1.2.2.1,h.1.2.2.2.1⟩
theorem okT_subs' {t : T} (h : okT t) : okL t.subs:=by cases t;exact okT_subs h
theorem okL_flat (k : Int) : ∀ {l : List T},okL l→okL (flatL k l)
  | [],_=>trivial
  | t :: l,h=>by
    simp only [okL] at h
    rw [flatL,okL_iff]
    intro u hu
    rcases List.mem_append.1 hu with hu | hu
    · unfold flatO at hu
      split at hu
      · exact (okL_iff _).1 (okT_subs' h.1) u hu
      · rw [List.mem_singleton] at hu;rw [hu];exact h.1
    · exact (okL_iff _).1 (okL_flat k h.2) u hu
end Go.Sv
namespace Go.Sv
open Go
def AltN (l : List T) (at' : Option Nat) : Prop :=
  (∀ j,(∃ u,l[j]?=some u∧u.kind=2)↔at'=some j)∧(∀ u ∈ l,isNo u=false)∧l.Nodup∧(∀ u ∈ l,u.kind=2→clsN u=u∧okS u)
def sfN : T→Prop
  | .node k _ _ _ _ mn mx subs =>
    (k=3→2≤subs.length∧∀ u ∈ subs,u.kind ≠ 3∧u.kind ≠ 1∧isNo u=false) ∧
    (k=4→2≤subs.length∧(∀ u ∈ subs,u.kind ≠ 4)∧∃ at',AltN subs at') ∧
    (k=5→mx ≠ 0∧∃ u,subs=[u]∧u.kind ≠ 1∧isNo u=false∧¬ (mn=1∧mx=1)∧isStar u=false∧¬ (mn=0∧mx=-1∧u.kind=5∧u.mn≤1∧0≤u.mn))
mutual
def sfT : T→Prop
  | .node k a b c d mn mx subs=>sfN (.node k a b c d mn mx subs)∧sfL subs
def sfL : List T→Prop
  | []=>True
  | t :: l=>sfT t∧sfL l
end
theorem sfL_iff : ∀ (l : List T),sfL l↔∀ t ∈ l,sfT t
  | []=>by simp [sfL]
  | t :: l=>by simp [sfL,sfL_iff l]
theorem sfT_subs {t : T} (h : sfT t) : sfL t.subs:=by cases t;exact h.2
theorem sf_leaf {k a b c d mn mx : Int} (h3 : k ≠ 3) (h4 : k ≠ 4) (h5 : k ≠ 5) : sfT (.node k a b c d mn mx []):=⟨⟨fun h=>absurd h h3,fun h=>absurd h h4,fun h=>absurd h h5⟩,trivial⟩
theorem sf_empty : sfT emptyT:=sf_leaf (by omega) (by omega) (by omega)
theorem sf_none : sfT noneT:=sf_leaf (by omega) (by omega) (by omega)

theorem isNo_cls (t : T) (h : t.kind=2) : isNo (clsN t)=isNo t:=by
  obtain ⟨k,a,b,c,d,mn,mx,subs⟩:=t
  simp only [T.kind] at h
  subst h;rfl
theorem clsN_cls (t : T) : clsN (clsN t)=clsN t:=by cases t;rfl
theorem clsN_kind (t : T) : (clsN t).kind=2:=by cases t;rfl
theorem okS_cls {t : T} (h : okS t) : okS (clsN t):=by cases t;exact h
theorem orN_kind (t u : T) : (orN t u).kind=2:=by cases t;cases u;rfl
theorem clsN_or (t u : T) : clsN (orN t u)=orN t u:=by cases t;cases u;rfl
theorem okS_or {t u : T} (h1 : okS t) (h2 : okS u) : okS (orN t u):=by
  cases t;cases u
  exact ⟨okW_or h1.1 h2.1,okW_or h1.2.1 h2.2.1,okW_or h1.2.2.1 h2.2.2.1,okW_or h1.2.2.2 h2.2.2.2⟩
theorem orW_zero {a b : Int} (ha : okW a) (hb : okW b) (h : orW a b=0) : b=0:=by
  obtain ⟨m,rfl,hm⟩:=okW_nat ha
  obtain ⟨n,rfl,hn⟩:=okW_nat hb
  rw [orW_nat hm hn] at h
  have h : m ||| n=0:=by omega
  have : n=0:=by
    refine Nat.eq_of_testBit_eq fun i=>?_
    have:=congrArg (fun x=>Nat.testBit x i) h
    simp only [Nat.testBit_or,Nat.zero_testBit,Bool.or_eq_false_iff] at this
    rw [this.2,Nat.zero_testBit]
  omega
theorem isNo_or {t u : T} (h1 : okS t) (h2 : okS u) (hu : u.kind=2) (hn : isNo u=false) : isNo (orN t u)=false:=by
  obtain ⟨k,a,b,c,d,mn,mx,subs⟩:=t
  obtain ⟨k',a',b',c',d',mn',mx',subs'⟩:=u
  simp only [T.kind] at hu
  subst hu
  cases e : isNo (orN (.node k a b c d mn mx subs) (.node 2 a' b' c' d' mn' mx' subs')) with
  | false=>rfl
  | true =>
    exfalso
    simp [isNo,orN,isZero] at e hn
    exact hn (orW_zero h1.1 h2.1 e.1) (orW_zero h1.2.1 h2.2.1 e.2.1) (orW_zero h1.2.2.1 h2.2.2.1 e.2.2.1) (orW_zero h1.2.2.2 h2.2.2.2 e.2.2.2)
theorem altN_nil : AltN [] none:=⟨fun j=>by simp,fun u h=>absurd h (by simp),List.nodup_nil,fun u h=>absurd h (by simp)⟩
theorem AltN.lt {l : List T} {q : Option Nat} (h : AltN l q) {j : Nat} (hj : q=some j) : j < l.length:=by
  obtain ⟨u,hu,_⟩:=(h.1 j).2 hj
  exact (List.getElem?_eq_some_iff.1 hu).1
theorem altN_snoc {l : List T} {q q' : Option Nat} (h : AltN l q) {t : T} (hn : isNo t=false) (hs : ∀ u ∈ l,u ≠ t) (hc : t.kind=2→clsN t=t∧okS t) (hq : (t.kind=2∧q=none∧q'=some l.length) ∨ (t.kind ≠ 2∧q'=q)) : AltN (l++[t]) q':=by
  obtain ⟨h1,h2,h3,h4⟩:=h
  have hlt : ∀ j,q=some j→j < l.length:=fun j hj=>AltN.lt ⟨h1,h2,h3,h4⟩ hj
  refine ⟨fun j=>?_,fun u hu=>?_,?_,fun u hu=>?_⟩
  · rcases Nat.lt_trichotomy j l.length with hj | rfl | hj
    · rw [List.getElem?_append_left hj,h1 j]
      rcases hq with ⟨_,rfl,rfl⟩ | ⟨_,rfl⟩
      · simp;omega
      · exact Iff.rfl
    · rw [List.getElem?_append_right (Nat.le_refl _),Nat.sub_self]
      simp only [List.getElem?_cons_zero,Option.some.injEq,exists_eq_left']
      rcases hq with ⟨hk,rfl,rfl⟩ | ⟨hk,rfl⟩
      · simp [hk]
      · simp only [hk,false_iff]
        intro e;have:=hlt _ e;omega
    · rw [List.getElem?_eq_none (by simp;omega)]
      constructor
      · rintro ⟨u,hu,_⟩;cases hu
      · intro e
        rcases hq with ⟨_,rfl,rfl⟩ | ⟨_,rfl⟩
        · cases e;omega
        · have:=hlt _ e;omega
  · rcases List.mem_append.1 hu with hu | hu
    · exact h2 u hu
    · rw [List.mem_singleton] at hu;rw [hu];exact hn
  · rw [List.nodup_append]
    refine ⟨h3,by simp,fun a ha b hb=>?_⟩
    rw [List.mem_singleton] at hb;rw [hb];exact hs a ha
  · rcases List.mem_append.1 hu with hu | hu
    · exact h4 u hu
    · rw [List.mem_singleton] at hu;rw [hu];exact hc
theorem nodup_set {l : List T} (h : l.Nodup) (i : Nat) (u : T) (hu : ∀ j x,j ≠ i→l[j]?=some x→x ≠ u) : (l.set i u).Nodup:=by
  have h:=List.pairwise_iff_getElem.1 h
  refine List.pairwise_iff_getElem.2 fun a b ha hb hab=>?_
  rw [List.length_set] at ha hb
  rw [List.getElem_set,List.getElem_set]
  split
  · rename_i e
    rw [if_neg (by omega)]
    exact fun e2=>hu b _ (by omega) (List.getElem?_eq_getElem hb) e2.symm
  · split
    · exact fun e2=>hu a _ (by omega) (List.getElem?_eq_getElem ha) e2
    · exact h a b ha hb hab
theorem altStep_N {s : List T × Option Nat} {t : T} (h : AltN s.1 s.2) (ht : okS t) : AltN (altStep s t).1 (altStep s t).2:=by
  unfold altStep
  split
  · exact h
  rename_i hn
  have hn : isNo t=false:=by simpa using hn
  split
  · rename_i hk
    split
    · rename_i i hi
      have hlt:=h.lt hi
      obtain ⟨x,hx,hxk⟩:=(h.1 i).2 hi
      obtain ⟨h1,h2,h3,h4⟩:=h
      have hxm : x ∈ s.1:=List.mem_of_getElem? hx
      have e : s.1.getD i noneT=x:=by rw [List.getD_eq_getElem?_getD,hx];rfl
      simp only [e]
      have hnk : ∀ j y,j ≠ i→s.1[j]?=some y→y.kind ≠ 2:=fun j y hj hy hk'=>hj (by
        have:=(h1 j).1 ⟨y,hy,hk'⟩
        rw [hi] at this;cases this;rfl)
      refine ⟨fun j=>?_,fun u hu=>?_,nodup_set h3 _ _ fun j y hj hy e=>hnk j y hj hy (e ▸ orN_kind x t),fun u hu hk'=>?_⟩
      · rw [List.getElem?_set]
        by_cases hj : i=j
        · subst hj
          rw [if_pos rfl,if_pos hlt]
          simp [orN_kind]
        · rw [if_neg hj,h1 j,hi]
      · rcases List.mem_or_eq_of_mem_set hu with hu | rfl
        · exact h2 u hu
        · exact isNo_or (h4 x hxm hxk).2 ht hk hn
      · rcases List.mem_or_eq_of_mem_set hu with hu | rfl
        · exact h4 u hu hk'
        · exact ⟨clsN_or _ _,okS_or (h4 x hxm hxk).2 ht⟩
    · rename_i hi
      refine altN_snoc h ((isNo_cls t hk).trans hn) (fun u hu e=>?_) (fun _=>⟨clsN_cls t,okS_cls ht⟩) (.inl ⟨clsN_kind t,hi,rfl⟩)
      obtain ⟨j,hj,rfl⟩:=List.getElem_of_mem hu
      have:=(h.1 j).1 ⟨_,List.getElem?_eq_getElem hj,by rw [e];exact clsN_kind t⟩
      rw [hi] at this;cases this
  · rename_i hk
    split
    · exact h
    · rename_i hs
      refine altN_snoc h hn (fun u hu e=>hs ?_) (fun h=>absurd h hk) (.inr ⟨hk,rfl⟩)
      exact List.any_eq_true.2 ⟨u,hu,by rw [e];exact sameT_self t⟩
theorem altF_N (l : List T) (h : ∀ t ∈ flatL 4 l,okS t) : AltN (altF l).1 (altF l).2:=by
  unfold altF
  have key : ∀ (l : List T) (s : List T × Option Nat),AltN s.1 s.2→(∀ t ∈ l,okS t)→AltN (l.foldl altStep s).1 (l.foldl altStep s).2:=by
    intro l
    induction l with
    | nil=>intro s h _;exact h
    | cons t l ih=>intro s h ht;exact ih _ (altStep_N h (ht t (by simp))) (fun u hu=>ht u (by simp [hu]))
  exact key _ _ altN_nil h
theorem plainT_34 {k a b c d mn mx : Int} {subs : List T} (hk : k=3 ∨ k=4) (h : plainT (.node k a b c d mn mx subs)=true) : a=0∧b=0∧c=0∧d=0∧mn=0∧mx=0∧2≤subs.length:=by
  rcases hk with rfl | rfl<;>(simp [plainT,isZero] at h;omega)
theorem sf_flat (k : Int) : ∀ {l : List T},sfL l→sfL (flatL k l)
  | [],_=>trivial
  | t :: l,h=>by
    simp only [sfL] at h
    rw [flatL,sfL_iff]
    intro u hu
    rcases List.mem_append.1 hu with hu | hu
    · unfold flatO at hu
      split at hu
      · exact (sfL_iff _).1 (sfT_subs h.1) u hu
      · rw [List.mem_singleton] at hu;rw [hu];exact h.1
    · exact (sfL_iff _).1 (sf_flat k h.2) u hu
theorem sf3_sub {t u : T} (h : sfT t) (hk : t.kind=3) (hu : u ∈ t.subs) : u.kind ≠ 3∧u.kind ≠ 1∧isNo u=false:=by
  obtain ⟨k,a,b,c,d,mn,mx,subs⟩:=t
  exact (h.1.1 hk).2 u hu
theorem sf4_sub {t u : T} (h : sfT t) (hk : t.kind=4) (hu : u ∈ t.subs) : u.kind ≠ 4:=by
  obtain ⟨k,a,b,c,d,mn,mx,subs⟩:=t
  exact (h.1.2.1 hk).2.1 u hu
theorem flat3_kind : ∀ {l : List T},sfL l→∀ u ∈ flatL 3 l,u.kind ≠ 3
  | [],_,u,h=>by simp [flatL] at h
  | t :: l,h,u,hu=>by
    simp only [sfL] at h
    rw [flatL] at hu
    rcases List.mem_append.1 hu with hu | hu
    · unfold flatO at hu
      split at hu
      · rename_i hk;exact (sf3_sub h.1 hk hu).1
      · rw [List.mem_singleton] at hu;rw [hu];assumption
    · exact flat3_kind h.2 u hu
theorem flat4_kind : ∀ {l : List T},sfL l→∀ u ∈ flatL 4 l,u.kind ≠ 4
  | [],_,u,h=>by simp [flatL] at h
  | t :: l,h,u,hu=>by
    simp only [sfL] at h
    rw [flatL] at hu
    rcases List.mem_append.1 hu with hu | hu
    · unfold flatO at hu
      split at hu
      · rename_i hk;exact sf4_sub h.1 hk hu
      · rw [List.mem_singleton] at hu;rw [hu];assumption
    · exact flat4_kind h.2 u hu
theorem two_of {l : List T} (h1 : l ≠ []) (h2 : ∀ t,l ≠ [t]) : 2≤l.length:=by
  match l with
  | []=>exact absurd rfl h1
  | [t]=>exact absurd rfl (h2 t)
  | _ :: _ :: _=>simp
theorem sf_cat {l : List T} (h : sfL l) : sfT (catS l):=by
  unfold catS
  split
  · exact sf_none
  · rename_i hn
    have hn : (flatL 3 l).any isNo=false:=by simpa using hn
    rw [List.any_eq_false] at hn
    have hs : ∀ u ∈ (flatL 3 l).filter notE,sfT u∧u.kind ≠ 3∧u.kind ≠ 1∧isNo u=false:=by
      intro u hu
      rw [List.mem_filter] at hu
      exact ⟨(sfL_iff _).1 (sf_flat 3 h) u hu.1,flat3_kind h u hu.1,by simpa [notE] using hu.2,by simpa using hn u hu.1⟩
    generalize (flatL 3 l).filter notE=r at hs
    unfold ofT
    split
    · exact sf_empty
    · rename_i u;exact (hs u (by simp)).1
    · rename_i h1 h2
      refine ⟨⟨fun _=>⟨two_of h1 h2,fun u hu=>(hs u hu).2⟩,fun h=>absurd h (by omega),fun h=>absurd h (by omega)⟩,(sfL_iff _).2 fun u hu=>(hs u hu).1⟩
theorem altStep_mem {P : T→Prop} (hc : ∀ t,t.kind=2→P (clsN t)) (ho : ∀ t u,P (orN t u)) {s : List T × Option Nat} {t : T} (h : ∀ u ∈ s.1,P u) (ht : P t) : ∀ u ∈ (altStep s t).1,P u:=by
  unfold altStep
  split
  · exact h
  split
  · rename_i hk
    split
    · intro u hu
      rcases List.mem_or_eq_of_mem_set hu with hu | rfl
      · exact h u hu
      · exact ho _ _
    · intro u hu
      rcases List.mem_append.1 hu with hu | hu
      · exact h u hu
      · rw [List.mem_singleton] at hu;rw [hu];exact hc t hk
  · split
    · exact h
    · intro u hu
      rcases List.mem_append.1 hu with hu | hu
      · exact h u hu
      · rw [List.mem_singleton] at hu;rw [hu];exact ht
theorem altF_mem {P : T→Prop} (hc : ∀ t,t.kind=2→P (clsN t)) (ho : ∀ t u,P (orN t u)) {l : List T} (h : ∀ u ∈ flatL 4 l,P u) : ∀ u ∈ (altF l).1,P u:=by
  unfold altF
  have key : ∀ (l : List T) (s : List T × Option Nat),(∀ u ∈ s.1,P u)→(∀ t ∈ l,P t)→∀ u ∈ (l.foldl altStep s).1,P u:=by
    intro l
    induction l with
    | nil=>intro s h _;exact h
    | cons t l ih=>intro s h ht;exact ih _ (altStep_mem hc ho h (ht t (by simp))) (fun u hu=>ht u (by simp [hu]))
  exact key _ _ (by simp) h
theorem sf_cls (t : T) : sfT (clsN t):=by cases t;exact sf_leaf (by omega) (by omega) (by omega)
theorem sf_or (t u : T) : sfT (orN t u):=by cases t;cases u;exact sf_leaf (by omega) (by omega) (by omega)
theorem sf_alt {l : List T} (h : sfL l) (ho : okL l) : sfT (altS l):=by
  unfold altS
  have hok : ∀ t ∈ flatL 4 l,okS t:=fun t ht=>okT_S ((okL_iff _).1 (okL_flat 4 ho) t ht)
  have hN:=altF_N l hok
  have hs : ∀ u ∈ (altF l).1,sfT u∧u.kind ≠ 4:=altF_mem (fun t _=>⟨sf_cls t,by rw [clsN_kind];omega⟩) (fun t u=>⟨sf_or t u,by rw [orN_kind];omega⟩) fun u hu=>⟨(sfL_iff _).1 (sf_flat 4 h) u hu,flat4_kind h u hu⟩
  generalize (altF l).2=q at hN
  generalize (altF l).1=r at hN hs
  unfold ofT
  split
  · exact sf_none
  · rename_i u;exact (hs u (by simp)).1
  · rename_i h1 h2
    refine ⟨⟨fun h=>absurd h (by omega),fun _=>⟨two_of h1 h2,fun u hu=>(hs u hu).2,q,hN⟩,fun h=>absurd h (by omega)⟩,(sfL_iff _).2 fun u hu=>(hs u hu).1⟩
theorem sf_rep : ∀ (t : T) (lo hi : Int),okT t→sfT t→sfT (repS t lo hi)
  | .node k a b c d mn mx subs,lo,hi,ho,hs=>by
    rw [repS]
    split
    · exact sf_empty
    rename_i h1
    split
    · exact hs
    rename_i h2
    have hk : ∀ (hsub : ¬ (lo=0∧hi=-1∧k=5∧mn≤1∧0≤mn)),sfT (.node 5 0 0 0 0 lo hi [.node k a b c d mn mx subs]):=by
      intro h3
      refine ⟨⟨fun h=>absurd h (by omega),fun h=>absurd h (by omega),fun _=>⟨fun h=>h1 (.inl h),_,rfl,fun h=>h1 (.inr (.inl h)),?_,fun h=>h2 (.inr (.inl h)),?_,fun h=>h3 ⟨h.1,h.2.1,h.2.2.1,h.2.2.2.1,h.2.2.2.2⟩⟩⟩,hs,trivial⟩
      · cases e : isNo (.node k a b c d mn mx subs) with
        | false=>rfl
        | true=>exact absurd (.inl e) h2
      · cases e : isStar (.node k a b c d mn mx subs) with
        | false=>rfl
        | true =>
          simp [isStar,T.kind,T.mn,T.mx] at e
          exact absurd (.inr (.inr ⟨e.1.1,e.1.2,e.2⟩)) h2
    split
    · rename_i h3
      obtain ⟨_,_,rfl,_,_⟩:=h3
      obtain ⟨u,rfl⟩:=plainT_5 (okT_plain ho)
      rw [repF_one]
      exact sf_rep u 0 (-1) (okT_subs ho).1 hs.2.1
    · rename_i h3
      exact hk h3
theorem okT_noneT : okT noneT:=okT_mk (by simp [plainT]) trivial
theorem okT_emptyT : okT emptyT:=okT_empty
theorem okT_of {k : Int} (hk : k=3 ∨ k=4) {l : List T} {e : T} (h : okL l) (he : okT e) : okT (ofT k l e):=by
  unfold ofT
  split
  · exact he
  · exact h.1
  · rename_i h1 h2
    refine okT_mk ?_ h
    have:=two_of h1 h2
    rcases hk with rfl | rfl<;>simp [plainT,isZero,this]
theorem okT_cat {l : List T} (h : okL l) : okT (catS l):=by
  unfold catS
  split
  · exact okT_noneT
  · refine okT_of (.inl rfl) ?_ okT_emptyT
    rw [okL_iff]
    intro u hu
    rw [List.mem_filter] at hu
    exact (okL_iff _).1 (okL_flat 3 h) u hu.1
theorem okT_clsS {t : T} (h : okS t) : okT (clsN t):=by
  obtain ⟨k,a,b,c,d,mn,mx,subs⟩:=t
  exact ⟨⟨h.1,h.2.1,h.2.2.1,h.2.2.2,by simp [plainT]⟩,trivial⟩
theorem okT_orS {t u : T} (h1 : okS t) (h2 : okS u) : okT (orN t u):=by
  have:=okT_clsS (okS_or h1 h2)
  rwa [clsN_or] at this
theorem okT_alt {l : List T} (h : okL l) : okT (altS l):=by
  have hok : ∀ t ∈ flatL 4 l,okT t:=(okL_iff _).1 (okL_flat 4 h)
  unfold altS
  refine okT_of (.inr rfl) ?_ okT_noneT
  unfold altF
  have key : ∀ (l : List T) (s : List T × Option Nat),(∀ u ∈ s.1,okT u)→(∀ t ∈ l,okT t)→∀ u ∈ (l.foldl altStep s).1,okT u:=by
    intro l
    induction l with
    | nil=>intro s h _;exact h
    | cons t l ih =>
      intro s h ht
      refine ih _ ?_ (fun u hu=>ht u (by simp [hu]))
      have htt:=ht t (by simp)
      unfold altStep
      split
      · exact h
      split
      · split
        · intro u hu
          rcases List.mem_or_eq_of_mem_set hu with hu | rfl
          · exact h u hu
          · refine okT_orS ?_ (okT_S htt)
            rw [List.getD_eq_getElem?_getD]
            cases e : s.1[‹Nat›]? with
            | none=>exact okT_S okT_noneT
            | some x=>exact okT_S (h x (List.mem_of_getElem? e))
        · intro u hu
          rcases List.mem_append.1 hu with hu | hu
          · exact h u hu
          · rw [List.mem_singleton] at hu;rw [hu];exact okT_clsS (okT_S htt)
      · split
        · exact h
        · intro u hu
          rcases List.mem_append.1 hu with hu | hu
          · exact h u hu
          · rw [List.mem_singleton] at hu;rw [hu];exact htt
  rw [okL_iff]
  exact key _ _ (by simp) hok
theorem okT_rep : ∀ (t : T) (lo hi : Int),okT t→((0≤lo∧lo≤20)∧(hi=-1 ∨ (lo≤hi∧hi≤20)))→okT (repS t lo hi)
  | .node k a b c d mn mx subs,lo,hi,ho,hr=>by
    rw [repS]
    split
    · exact okT_emptyT
    split
    · exact ho
    have hk : okT (.node 5 0 0 0 0 lo hi [.node k a b c d mn mx subs]):=okT_mk (by simp [plainT,isZero];omega) ⟨ho,trivial⟩
    split
    · rename_i h3
      obtain ⟨_,_,rfl,_,_⟩:=h3
      obtain ⟨u,rfl⟩:=plainT_5 (okT_plain ho)
      rw [repF_one]
      exact okT_rep u 0 (-1) (okT_subs ho).1 (by omega)
    · exact hk
mutual
theorem simT_ok : ∀ t : T,okT t→okT (simT t)
  | .node k a b c d mn mx subs,ho=>by
    have hx:=simL_ok subs (okT_subs ho)
    have hp:=okT_plain ho
    have hR:=okT_R ho
    rw [simT]
    split
    · exact okT_cat hx
    split
    · exact okT_alt hx
    split
    · rename_i h5
      subst h5
      obtain ⟨u,rfl⟩:=plainT_5 hp
      simp only [simL,List.headD_cons] at hx ⊢
      exact okT_rep _ _ _ hx.1 (hR rfl)
    · exact ho
theorem simL_ok : ∀ l : List T,okL l→okL (simL l)
  | [],_=>trivial
  | t :: l,ho=>by
    simp only [okL] at ho
    exact ⟨simT_ok t ho.1,simL_ok l ho.2⟩
end
mutual
theorem simT_sf : ∀ t : T,okT t→sfT (simT t)
  | .node k a b c d mn mx subs,ho=>by
    have hx:=simL_sf subs (okT_subs ho)
    have hxo:=simL_ok subs (okT_subs ho)
    have hp:=okT_plain ho
    rw [simT]
    split
    · exact sf_cat hx
    split
    · exact sf_alt hx hxo
    split
    · rename_i h5
      subst h5
      obtain ⟨u,rfl⟩:=plainT_5 hp
      simp only [simL,List.headD_cons] at hx hxo ⊢
      exact sf_rep _ _ _ hxo.1 hx.1
    · rename_i h3 h4 h5
      have hz : subs=[]:=by
        have:=(plainT_kind hp).1
        exact plainT_leaf (by omega) hp
      subst hz
      exact sf_leaf h3 h4 h5
theorem simL_sf : ∀ l : List T,okL l→sfL (simL l)
  | [],_=>trivial
  | t :: l,ho=>by
    simp only [okL] at ho
    exact ⟨simT_sf t ho.1,simL_sf l ho.2⟩
end
end Go.Sv
namespace Go.Sv
open Go
theorem powL_nil : ∀ (r : Nat) (w : List Nat),powL (fun w=>w=[]) r w↔w=[]
  | 0,w=>Iff.rfl
  | r + 1,w=>by
    simp only [powL,powL_nil r]
    constructor
    · rintro ⟨u,v,rfl,rfl,rfl⟩;rfl
    · rintro rfl;exact ⟨[],[],rfl,rfl,rfl⟩
theorem powL_no {P : List Nat→Prop} (h : ∀ w,¬ P w) {r : Nat} (hr : 0 < r) (w : List Nat) : ¬ powL P r w:=by
  cases r with
  | zero=>omega
  | succ r=>rintro ⟨u,v,_,h1,_⟩;exact h u h1
theorem powL_one (P : List Nat→Prop) (w : List Nat) : powL P 1 w↔P w:=by
  simp only [powL]
  constructor
  · rintro ⟨u,v,rfl,h,rfl⟩;simpa using h
  · intro h;exact ⟨w,[],by simp,h,rfl⟩
theorem powL_mono {P Q : List Nat→Prop} (h : ∀ w,P w→Q w) : ∀ (r : Nat) (w : List Nat),powL P r w→powL Q r w
  | 0,_,hw=>hw
  | r + 1,_,⟨u,v,e,h1,h2⟩=>⟨u,v,e,h u h1,powL_mono h r v h2⟩
theorem powL_pow {P Q : List Nat→Prop} (h : ∀ w,Q w→∃ j,powL P j w) : ∀ (r : Nat) (w : List Nat),powL Q r w→∃ j,powL P j w
  | 0,_,hw=>⟨0,hw⟩
  | r + 1,_,⟨u,v,e,h1,h2⟩=>by
    obtain ⟨i,hi⟩:=h u h1
    obtain ⟨j,hj⟩:=powL_pow h r v h2
    exact ⟨i + j,(powL_add P i j _).2 ⟨u,v,e,hi,hj⟩⟩
theorem repS_L : ∀ (t : T) (lo hi : Int),okT t→sfT t→0≤lo→(hi=-1 ∨ lo≤hi)→∀ w,L (repS t lo hi) w↔∃ r : Nat,lo≤r∧(hi < 0 ∨ (r : Int)≤hi)∧powL (L t) r w
  | .node k a b c d mn mx subs,lo,hi,ho,hs,h0,hh,w=>by
    rw [repS]
    obtain ⟨m,rfl⟩:=Int.eq_ofNat_of_zero_le h0
    split
    · rename_i h1
      rw [L_emptyT]
      rcases h1 with rfl | rfl | ⟨h1,h2⟩
      · constructor
        · rintro rfl;exact ⟨0,by omega,by omega,rfl⟩
        · rintro ⟨r,_,h,h2⟩
          have : r=0:=by omega
          subst this;exact h2
      · simp only [powL_congr (fun w=>(L_k1 (a:=a) (b:=b) (c:=c) (d:=d) (mn:=mn) (mx:=mx) (subs:=subs) (w:=w))),powL_nil]
        constructor
        · intro h;exact ⟨m,by omega,by omega,h⟩
        · rintro ⟨_,_,_,h⟩;exact h
      · constructor
        · rintro rfl;exact ⟨0,by omega,by omega,rfl⟩
        · rintro ⟨r,_,_,h⟩
          cases r with
          | zero=>exact h
          | succ r=>exact absurd h (powL_no (isNo_L h1) (by omega) w)
    rename_i h1
    split
    · rename_i h2
      rcases h2 with h2 | ⟨h2,h3⟩ | ⟨rfl,rfl,rfl⟩
      · have hm : 0 < m:=by
          rcases Nat.eq_zero_or_pos m with h | h
          · exact absurd (.inr (.inr ⟨h2,by omega⟩)) h1
          · exact h
        constructor
        · intro h;exact absurd h (isNo_L h2 w)
        · rintro ⟨r,h3,_,h⟩;exact absurd h (powL_no (isNo_L h2) (by omega) w)
      · have hm : m=1:=by omega
        subst hm h3
        constructor
        · intro h;exact ⟨1,by omega,by omega,(powL_one _ w).2 h⟩
        · rintro ⟨r,h3,h4,h⟩
          have : r=1:=by omega
          subst this;exact (powL_one _ w).1 h
      · have hL : ∀ w,L (.node 5 a b c d 0 (-1) subs) w↔∃ r : Nat,powL (fstL subs) r w:=fun w=>by
          rw [L_k5]
          constructor
          · rintro ⟨r,_,_,h⟩;exact ⟨r,h⟩
          · rintro ⟨r,h⟩;exact ⟨r,by omega,.inl (by omega),h⟩
        constructor
        · intro h
          rcases Nat.eq_zero_or_pos m with hm | hm
          · refine ⟨1,by omega,?_,(powL_one _ w).2 h⟩
            have : hi ≠ 0:=fun e=>h1 (.inl e)
            omega
          · obtain ⟨q,rfl⟩ : ∃ q,m=q + 1:=⟨m - 1,by omega⟩
            refine ⟨q + 1,by omega,by omega,w,[],by simp,h,?_⟩
            refine powL_mono (P:=fun w=>w=[]) ?_ q [] ((powL_nil q []).2 rfl)
            rintro w rfl
            exact (hL []).2 ⟨0,rfl⟩
        · rintro ⟨r,_,_,h⟩
          exact (hL w).2 (powL_pow (fun w hw=>(hL w).1 hw) r w h)
    rename_i h2
    have hk : L (.node 5 0 0 0 0 (m : Int) hi [.node k a b c d mn mx subs]) w↔∃ r : Nat,(m : Int)≤r∧(hi < 0 ∨ (r : Int)≤hi)∧powL (L (.node k a b c d mn mx subs)) r w:=by
      rw [L_k5]
      have : ∀ w,fstL [.node k a b c d mn mx subs] w↔L (.node k a b c d mn mx subs) w:=fun w=>by rw [fstL]
      simp only [powL_congr this]
    split
    · rename_i h3
      obtain ⟨e0,rfl,rfl,h4,h5⟩:=h3
      have e0 : m=0:=by omega
      subst e0
      obtain ⟨u,rfl⟩:=plainT_5 (okT_plain ho)
      obtain ⟨hm0,_⟩:=hs.1.2.2 rfl
      have hR:=okT_R ho rfl
      rw [repF_one,repS_L u 0 (-1) (okT_subs ho).1 hs.2.1 (by omega) (by omega) w]
      constructor
      · rintro ⟨r,_,_,h⟩
        refine ⟨r,by omega,by omega,powL_mono (fun w hw=>?_) r w h⟩
        rw [L_k5]
        exact ⟨1,by omega,by omega,(powL_one _ w).2 (by rw [fstL];exact hw)⟩
      · rintro ⟨r,_,_,h⟩
        obtain ⟨j,hj⟩:=powL_pow (P:=L u) (fun w hw=>by
          rw [L_k5] at hw
          obtain ⟨j,_,_,h⟩:=hw
          exact ⟨j,powL_mono (fun w hw=>by rwa [fstL] at hw) j w h⟩) r w h
        exact ⟨j,by omega,by omega,hj⟩
    · exact hk
mutual
theorem simT_L : ∀ (t : T),okT t→∀ w,L (simT t) w↔L t w
  | .node k a b c d mn mx subs,ho,w=>by
    have hx:=simL_L subs (okT_subs ho)
    have hxo:=simL_ok subs (okT_subs ho)
    have hxs:=simL_sf subs (okT_subs ho)
    have hp:=okT_plain ho
    have hR:=okT_R ho
    rw [simT]
    split
    · rename_i h;subst h
      rw [catS_L,L_k3];exact hx.1 w
    split
    · rename_i h;subst h
      rw [altS_L _ (fun t ht=>okT_S ((okL_iff _).1 (okL_flat 4 hxo) t ht)),L_k4];exact hx.2.1 w
    split
    · rename_i h5
      subst h5
      obtain ⟨u,rfl⟩:=plainT_5 hp
      simp only [simL,List.headD_cons] at hx hxo hxs ⊢
      have hr:=hR rfl
      rw [repS_L _ _ _ hxo.1 hxs.1 (by omega) (by omega),L_k5]
      have hu : ∀ w,L (simT u) w↔fstL [u] w:=fun w=>hx.2.2 w
      simp only [powL_congr hu]
    · exact Iff.rfl
theorem simL_L : ∀ (l : List T),okL l→(∀ w,catL (simL l) w↔catL l w)∧(∀ w,altL (simL l) w↔altL l w)∧(∀ w,fstL (simL l) w↔fstL l w)
  | [],_=>⟨fun _=>Iff.rfl,fun _=>Iff.rfl,fun _=>Iff.rfl⟩
  | t :: l,h=>by
    simp only [okL] at h
    have h1:=simT_L t h.1
    have h2:=simL_L l h.2
    refine ⟨fun w=>?_,fun w=>?_,fun w=>?_⟩
    · simp only [simL,catL,h1,h2.1]
    · simp only [simL,altL,h1,h2.2.1]
    · simp only [simL,fstL,h1]
end

theorem cntL_filter (p : T→Bool) : ∀ l : List T,cntL (l.filter p)≤cntL l
  | []=>Nat.le_refl _
  | t :: l=>by
    have:=cntL_filter p l
    rw [List.filter_cons]
    split<;>(simp only [cntL];omega)
theorem cntL_flat (k : Int) : ∀ l : List T,cntL (flatL k l)≤cntL l
  | []=>Nat.le_refl _
  | t :: l=>by
    have:=cntL_flat k l
    rw [flatL,cntL_app,cntL]
    have : cntL (flatO k t)≤t.cnt:=by
      unfold flatO
      split
      · cases t;simp [T.subs,T.cnt]
      · simp [cntL]
    omega
theorem cnt_of (k : Int) (l : List T) (e : T) (h : e.cnt=1) : (ofT k l e).cnt≤1 + cntL l:=by
  unfold ofT
  split
  · omega
  · simp [cntL]
  · rw [T.cnt];exact Nat.le_refl _
theorem cnt_cat (l : List T) : (catS l).cnt≤1 + cntL l:=by
  unfold catS
  split
  · simp [noneT,T.cnt,cntL]
  · have:=cnt_of 3 ((flatL 3 l).filter notE) emptyT rfl
    have:=cntL_filter notE (flatL 3 l)
    have:=cntL_flat 3 l
    omega
theorem cntL_set : ∀ (l : List T) (i : Nat) (u : T),u.cnt=1→cntL (l.set i u)≤cntL l
  | [],_,_,_=>by simp
  | t :: l,0,u,h=>by
    have:=cnt_pos t
    simp only [List.set_cons_zero,cntL];omega
  | t :: l,i + 1,u,h=>by
    have:=cntL_set l i u h
    simp only [List.set_cons_succ,cntL];omega
theorem cnt_cls (t : T) : (clsN t).cnt=1:=by cases t;rfl
theorem cnt_or (t u : T) : (orN t u).cnt=1:=by cases t;cases u;rfl
theorem cnt_step (s : List T × Option Nat) (t : T) : cntL (altStep s t).1≤cntL s.1 + t.cnt:=by
  have:=cnt_pos t
  unfold altStep
  split
  · omega
  split
  · split
    · have:=cntL_set s.1 ‹Nat› _ (cnt_or (s.1.getD ‹Nat› noneT) t)
      simp only;omega
    · simp only [cntL_app,cntL,cnt_cls];omega
  · split
    · omega
    · simp only [cntL_app,cntL];omega
theorem cnt_alt (l : List T) : (altS l).cnt≤1 + cntL l:=by
  unfold altS
  have h1:=cnt_of 4 (altF l).1 noneT rfl
  have h2:=cntL_flat 4 l
  have key : ∀ (l : List T) (s : List T × Option Nat),cntL (l.foldl altStep s).1≤cntL s.1 + cntL l:=by
    intro l
    induction l with
    | nil=>intro s;simp [cntL]
    | cons t l ih =>
      intro s
      have h1:=ih (altStep s t)
      have h2:=cnt_step s t
      rw [List.foldl_cons,cntL];omega
  have h3:=key (flatL 4 l) ([],none)
  simp only [cntL] at h3
  unfold altF at *
  omega
mutual
theorem cnt_rep : ∀ (t : T) (lo hi : Int),(repS t lo hi).cnt≤1 + t.cnt
  | .node k a b c d mn mx subs,lo,hi=>by
    have h:=cnt_repF subs (.node k a b c d mn mx subs) (by rw [T.cnt];omega)
    rw [repS]
    split
    · simp [emptyT,T.cnt,cntL]
    split
    · omega
    split
    · exact h
    · rw [T.cnt,cntL,cntL];omega
theorem cnt_repF : ∀ (l : List T) (t : T),cntL l≤t.cnt→(repF l t).cnt≤1 + t.cnt
  | [],t,_=>by rw [repF,T.cnt,cntL,cntL];omega
  | u :: l,t,h=>by
    have h1:=cnt_rep u 0 (-1)
    rw [cntL] at h
    rw [repF]
    split
    · omega
    · rw [T.cnt,cntL,cntL];omega
end
mutual
theorem simT_cnt : ∀ t : T,okT t→(simT t).cnt≤t.cnt
  | .node k a b c d mn mx subs,ho=>by
    have hx:=simL_cnt subs (okT_subs ho)
    have hp:=okT_plain ho
    rw [simT,T.cnt]
    split
    · have:=cnt_cat (simL subs);omega
    split
    · have:=cnt_alt (simL subs);omega
    split
    · rename_i h5
      subst h5
      obtain ⟨u,rfl⟩:=plainT_5 hp
      simp only [simL,List.headD_cons,cntL] at hx ⊢
      have:=cnt_rep (simT u) mn mx
      omega
    · rw [T.cnt];exact Nat.le_refl _
theorem simL_cnt : ∀ l : List T,okL l→cntL (simL l)≤cntL l
  | [],_=>Nat.le_refl _
  | t :: l,ho=>by
    simp only [okL] at ho
    have:=simT_cnt t ho.1
    have:=simL_cnt l ho.2
    rw [simL,cntL,cntL];omega
end

end Go.Sv
namespace Go.Sv
open Go
set_option linter.unusedVariables false
def addB (ws : List Int) (x : Nat) : List Int:=if bitG (ws.getD (x / 64) 0) x=true then ws else ws.set (x / 64) (ws.getD (x / 64) 0 + 2 ^ (x % 64))
def setWs (l : List Nat) : List Int:=l.foldl addB [0,0,0,0]
def inWs (ws : List Int) (x : Nat) : Bool:=bitG (ws.getD (x / 64) 0) x
def okWs (ws : List Int) : Prop:=ws.length=4∧∀ w ∈ ws,okW w
theorem okWs_getD {ws : List Int} (h : okWs ws) (j : Nat) : okW (ws.getD j 0):=by
  rw [List.getD_eq_getElem?_getD]
  cases e : ws[j]? with
  | none=>exact okW_0
  | some w=>exact h.2 w (List.mem_of_getElem? e)
theorem add_bit {w k : Nat} (hw : w < 2 ^ 64) (hk : k < 64) (hb : w.testBit k=false) : w + 2 ^ k < 2 ^ 64∧∀ j,(w + 2 ^ k).testBit j=(w.testBit j || j == k):=by
  have h0 : w / 2 ^ k % 2=0:=by
    rw [Nat.testBit_eq_decide_div_mod_eq] at hb
    simp at hb;omega
  have hr : w % 2 ^ k < 2 ^ k:=Nat.mod_lt _ (Nat.two_pow_pos k)
  have e1 : w=2 ^ k * (2 * (w / 2 ^ k / 2)) + w % 2 ^ k:=by
    have:=Nat.div_add_mod w (2 ^ k)
    have h2 : 2 * (w / 2 ^ k / 2)=w / 2 ^ k:=by omega
    rw [h2];omega
  have e2 : w + 2 ^ k=2 ^ k * (2 * (w / 2 ^ k / 2) + 1) + w % 2 ^ k:=by
    rw [Nat.mul_add,Nat.mul_one];omega
  generalize hq : w / 2 ^ k / 2=q at e1 e2
  generalize w % 2 ^ k=r at hr e1 e2
  constructor
  · have h64 : 2 ^ 64=2 ^ k * 2 ^ (64 - k):=by rw [← Nat.pow_add];congr 1;omega
    have hev : ∃ m,2 ^ (64 - k)=2 * m:=⟨2 ^ (63 - k),by rw [show 64 - k=63 - k + 1 by omega,Nat.pow_succ,Nat.mul_comm]⟩
    obtain ⟨m,hm⟩:=hev
    have hlt : 2 * q < 2 * m:=by
      have : 2 ^ k * (2 * q) < 2 ^ k * (2 * m):=by rw [← hm,← h64];omega
      exact Nat.lt_of_mul_lt_mul_left this
    have h3 : 2 ^ k * (2 * q + 1) + 2 ^ k≤2 ^ k * (2 * m):=by
      have : 2 ^ k * (2 * q + 1) + 2 ^ k=2 ^ k * (2 * q + 2):=by simp only [Nat.mul_add];omega
      rw [this]
      exact Nat.mul_le_mul_left _ (by omega)
    rw [h64,hm]
    omega
  · intro j
    have l1 : w.testBit j=if j < k then r.testBit j else (2 * q).testBit (j - k):=by
      rw [e1];exact Nat.testBit_two_pow_mul_add _ hr j
    have l2 : (w + 2 ^ k).testBit j=if j < k then r.testBit j else (2 * q + 1).testBit (j - k):=by
      rw [e2];exact Nat.testBit_two_pow_mul_add _ hr j
    rw [l1,l2]
    by_cases hj : j < k
    · rw [if_pos hj,if_pos hj]
      have : (j == k)=false:=by simp;omega
      rw [this,Bool.or_false]
    · rw [if_neg hj,if_neg hj]
      rcases Nat.eq_or_lt_of_le (Nat.le_of_not_lt hj) with h | h
      · subst h;simp
      · obtain ⟨i,hi⟩ : ∃ i,j - k=i + 1:=⟨j - k - 1,by omega⟩
        have : (j == k)=false:=by simp;omega
        rw [hi,this,Bool.or_false,Nat.testBit_succ,Nat.testBit_succ]
        congr 1;omega
theorem two_pow_int (k : Nat) : ((2 : Int) ^ k)=((2 ^ k : Nat) : Int):=by rw [Int.natCast_pow];rfl
theorem addW_ok {w : Int} {x : Nat} (h : okW w) (hb : bitG w x=false) : okW (w + 2 ^ (x % 64))∧∀ y,bitG (w + 2 ^ (x % 64)) y=(bitG w y || (y % 64 == x % 64)):=by
  obtain ⟨n,rfl,hn⟩:=okW_nat h
  rw [bitG_nat] at hb
  obtain ⟨h1,h2⟩:=add_bit hn (Nat.mod_lt x (by omega)) hb
  have e : ((n : Int) + 2 ^ (x % 64))=((n + 2 ^ (x % 64) : Nat) : Int):=by rw [two_pow_int,Int.natCast_add]
  rw [e]
  refine ⟨?_,fun y=>by rw [bitG_nat,bitG_nat,h2]⟩
  generalize n + 2 ^ (x % 64)=m at h1
  unfold okW;omega
theorem addB_ok {ws : List Int} (h : okWs ws) {x : Nat} (hx : x < 256) : okWs (addB ws x)∧∀ y,y < 256→inWs (addB ws x) y=(inWs ws y || y == x):=by
  unfold addB
  split
  · rename_i hb
    refine ⟨h,fun y _=>?_⟩
    by_cases e : y=x
    · subst e;unfold inWs;rw [hb];rfl
    · have : (y == x)=false:=by simpa using e
      rw [this,Bool.or_false]
  · rename_i hb
    have hb : bitG (ws.getD (x / 64) 0) x=false:=by simpa using hb
    obtain ⟨h1,h2⟩:=addW_ok (okWs_getD h (x / 64)) hb
    have hlt : x / 64 < ws.length:=by rw [h.1];omega
    refine ⟨⟨by rw [List.length_set];exact h.1,fun w hw=>?_⟩,fun y hy=>?_⟩
    · rcases List.mem_or_eq_of_mem_set hw with hw | rfl
      · exact h.2 w hw
      · exact h1
    · unfold inWs
      by_cases e : x / 64=y / 64
      · rw [List.getD_eq_getElem?_getD,← e,List.getElem?_set_self hlt,Option.getD_some,h2]
        have : (y % 64 == x % 64)=(y == x):=by
          rw [Bool.eq_iff_iff];simp;omega
        rw [this]
      · rw [List.getD_eq_getElem?_getD,List.getElem?_set_ne e,← List.getD_eq_getElem?_getD]
        have : (y == x)=false:=by simp;omega
        rw [this,Bool.or_false]
theorem okWs_0 : okWs [0,0,0,0]:=⟨rfl,fun w h=>by simp at h;rw [h];exact okW_0⟩
theorem setWs_ok' : ∀ (l : List Nat) (ws : List Int),okWs ws→(∀ x ∈ l,x < 256)→okWs (l.foldl addB ws)∧∀ y,y < 256→(inWs (l.foldl addB ws) y=true↔inWs ws y=true ∨ y ∈ l)
  | [],ws,h,_=>⟨h,fun y _=>by simp⟩
  | x :: l,ws,h,hx=>by
    obtain ⟨h1,h2⟩:=addB_ok h (hx x (by simp))
    obtain ⟨h3,h4⟩:=setWs_ok' l (addB ws x) h1 (fun y hy=>hx y (by simp [hy]))
    refine ⟨h3,fun y hy=>?_⟩
    rw [List.foldl_cons,h4 y hy,h2 y hy,Bool.or_eq_true,beq_iff_eq,List.mem_cons,or_assoc]
theorem setWs_ok {l : List Nat} (h : ∀ x ∈ l,x < 256) : okWs (setWs l)∧∀ y,y < 256→(inWs (setWs l) y=true↔y ∈ l):=by
  obtain ⟨h1,h2⟩:=setWs_ok' l [0,0,0,0] okWs_0 h
  refine ⟨h1,fun y hy=>?_⟩
  unfold setWs
  rw [h2 y hy]
  have : inWs [0,0,0,0] y=false:=inG_0 y
  rw [this];simp
theorem setWs_snoc (l : List Nat) (x : Nat) : setWs (l++[x])=addB (setWs l) x:=by simp [setWs,List.foldl_append]
theorem words_ext {ws vs : List Int} (h : okWs ws) (g : okWs vs) (e : ∀ y,y < 256→inWs ws y=inWs vs y) : ws=vs:=by
  refine List.ext_getElem (by rw [h.1,g.1]) fun j h1 h2=>?_
  have hj : j < 4:=by rw [h.1] at h1;exact h1
  obtain ⟨m,hm,hm2⟩:=okW_nat (h.2 _ (List.getElem_mem h1))
  obtain ⟨n,hn,hn2⟩:=okW_nat (g.2 _ (List.getElem_mem h2))
  rw [hm,hn]
  congr 1
  refine Nat.eq_of_testBit_eq fun i=>?_
  rcases Nat.lt_or_ge i 64 with hi | hi
  · have:=e (64 * j + i) (by omega)
    unfold inWs at this
    rw [show (64 * j + i) / 64=j by omega,List.getD_eq_getElem?_getD,List.getElem?_eq_getElem h1,List.getD_eq_getElem?_getD,List.getElem?_eq_getElem h2,Option.getD_some,Option.getD_some,hm,hn,bitG_nat,bitG_nat,show (64 * j + i) % 64=i by omega] at this
    exact this
  · rw [Nat.testBit_lt_two_pow (Nat.lt_of_lt_of_le hm2 (Nat.pow_le_pow_right (by omega) hi)),Nat.testBit_lt_two_pow (Nat.lt_of_lt_of_le hn2 (Nat.pow_le_pow_right (by omega) hi))]
def listTo (a b c d : Int) : Nat→List Nat
  | 0=>[]
  | m + 1=>if inG a b c d m=true then listTo a b c d m++[m] else listTo a b c d m
theorem mem_listTo (a b c d : Int) (y : Nat) : ∀ m,y ∈ listTo a b c d m↔y < m∧inG a b c d y=true
  | 0=>by simp [listTo]
  | m + 1=>by
    rw [listTo]
    have ih:=mem_listTo a b c d y m
    split
    · rename_i h
      rw [List.mem_append,ih,List.mem_singleton]
      constructor
      · rintro (⟨h1,h2⟩ | rfl)
        · exact ⟨by omega,h2⟩
        · exact ⟨by omega,h⟩
      · rintro ⟨h1,h2⟩
        by_cases e : y=m
        · exact .inr e
        · exact .inl ⟨by omega,h2⟩
    · rename_i h
      rw [ih]
      constructor
      · rintro ⟨h1,h2⟩;exact ⟨by omega,h2⟩
      · rintro ⟨h1,h2⟩
        refine ⟨?_,h2⟩
        rcases Nat.lt_or_ge y m with h3 | h3
        · exact h3
        · have : y=m:=by omega
          subst this;exact absurd h2 h
theorem listTo_len (a b c d : Int) : ∀ m,(listTo a b c d m).length≤m
  | 0=>by simp [listTo]
  | m + 1=>by
    have:=listTo_len a b c d m
    rw [listTo]
    split
    · rw [List.length_append];simp;omega
    · omega
def encJ (l : List Nat) : List Int:=List.map (fun (x : Nat)=>(x : Int)) l
theorem encJ_app (l r : List Nat) : encJ (l++r)=encJ l++encJ r:=List.map_append
theorem encJ_len (l : List Nat) : (encJ l).length=l.length:=List.length_map _

section
variable {P : Program} {Q : Cont} {fr : Fr} {C : Heap} {Z : Frz} {nx : Nat} {base n d : Nat} {l : List (Nat × XO)} {kp : Option (List Nat)} {x i y s : X} {j c : Nat}
theorem r_quoI {e : Int} (hx : x.ev fr=.i e) (hy : y.ev fr=.i 64) (he : e=(c : Nat)) (hc : c < 1000000) (k : R P l base kp Q nx (fr.put d (.i ((c / 64 : Nat) : Int))) C Z) : R P ((n,⟨some d,none,.arith .quo x y⟩) :: l) base kp Q nx fr C Z:=by
  subst he
  refine r_p ?_ k
  have e : IntKind.wrap .i64 (Int.tdiv (c : Int) 64)=((c / 64 : Nat) : Int):=by
    rw [Int.tdiv_eq_ediv_of_nonneg (by omega),wrap_in (by omega)];omega
  simp only [xp,hx,hy,arith]
  exact congrArg (fun z=>some (AV.d (DV.val (Value.int .i64 z)))) e
theorem r_remI {e : Int} (hx : x.ev fr=.i e) (hy : y.ev fr=.i 64) (he : e=(c : Nat)) (k : R P l base kp Q nx (fr.put d (.i ((c % 64 : Nat) : Int))) C Z) : R P ((n,⟨some d,none,.arith .rem x y⟩) :: l) base kp Q nx fr C Z:=by
  subst he
  refine r_p ?_ k
  have e : Int.tmod (c : Int) 64=((c % 64 : Nat) : Int):=by
    rw [Int.tmod_eq_emod_of_nonneg (by omega)];omega
  simp only [xp,hx,hy,arith]
  exact congrArg (fun z=>some (AV.d (DV.val (Value.int .i64 z)))) e
theorem r_shrI {w : Int} (hx : x.ev fr=.d (.val (.int .u64 w))) (hy : y.ev fr=.i (c : Nat)) (hw : okW w) (hc : c < 64) (k : R P l base kp Q nx (fr.put d (.d (.val (.int .u64 (w / 2 ^ c))))) C Z) : R P ((n,⟨some d,none,.arith .shr x y⟩) :: l) base kp Q nx fr C Z:=by
  refine r_p ?_ k
  simp only [xp,hx,hy,arith]
  simp [IntKind.bits]
  rw [Nat.min_eq_left (by omega),Int.fdiv_eq_ediv_of_nonneg _ (by exact Int.le_of_lt (Int.pow_pos (by omega)))]
theorem r_shlI (hx : x.ev fr=.d (.val (.int .u64 1))) (hy : y.ev fr=.i (c : Nat)) (hc : c < 64) (k : R P l base kp Q nx (fr.put d (.d (.val (.int .u64 (2 ^ c))))) C Z) : R P ((n,⟨some d,none,.arith .shl x y⟩) :: l) base kp Q nx fr C Z:=by
  refine r_p ?_ k
  have e : IntKind.wrap .u64 (1 * 2 ^ (min ((c : Int).toNat) 64))=2 ^ c:=by
    rw [Int.toNat_natCast,Nat.min_eq_left (by omega),Int.one_mul,two_pow_int]
    have h1 : 2 ^ c < 2 ^ 64:=Nat.pow_lt_pow_right (by omega) hc
    simp only [IntKind.wrap,IntKind.signed,IntKind.bits]
    generalize 2 ^ c=z at *
    simp;omega
  have h0 : (0 : Int)≤(c : Int):=by omega
  simp only [xp,hx,hy,arith,h0,if_true]
  exact congrArg (fun z=>some (AV.d (DV.val (Value.int .u64 z)))) e
theorem r_addW {a b : Int} (hx : x.ev fr=.d (.val (.int .u64 a))) (hy : y.ev fr=.d (.val (.int .u64 b))) (h : okW (a + b)) (k : R P l base kp Q nx (fr.put d (.d (.val (.int .u64 (a + b))))) C Z) : R P ((n,⟨some d,none,.arith .add x y⟩) :: l) base kp Q nx fr C Z:=by
  refine r_p ?_ k
  have e : IntKind.wrap .u64 (a + b)=a + b:=by
    obtain ⟨h1,h2⟩:=h
    simp [IntKind.wrap,IntKind.signed,IntKind.bits];omega
  simp only [xp,hx,hy,arith,if_true]
  exact congrArg (fun z=>some (AV.d (DV.val (Value.int .u64 z)))) e
def encW (ws : List Int) : List AV:=ws.map fun w=>.d (.val (.int .u64 w))
theorem encW_len (ws : List Int) : (encW ws).length=ws.length:=List.length_map _
theorem encW_isD (ws : List Int) : (encW ws).all AV.isD=true:=by simp [encW,AV.isD]
theorem r_ldWs {b : Nat} {ws : List Int} (hx : x.ev fr=.ptrL b (0 + j)) (hC : C b=some (encW ws)) (hj : j < ws.length) (k : R P l base kp Q nx (fr.put d (.d (.val (.int .u64 (ws.getD j 0))))) C Z) : R P ((n,⟨some d,none,.load none x⟩) :: l) base kp Q nx fr C Z:=by
  refine r_l ?_ k
  simp only [xl,hx,rowOf,hC,Option.map_some,Option.bind_some,subA,Nat.zero_add,encW,List.getElem?_map,List.getElem?_eq_getElem hj,List.getD_eq_getElem?_getD,Option.getD_some]
theorem r_stWs {a : X} {b : Nat} {w : Int} {ws : List Int} (ha : a.ev fr=.ptrL b (0 + j)) (hx : x.ev fr=.d (.val (.int .u64 w))) (hC : C b=some (encW ws)) (hz : Z b=false) (hj : j < ws.length) (k : R P l base kp Q nx fr (C.put b (encW (ws.set j w))) Z) : R P ((n,⟨none,none,.store 1 a x⟩) :: l) base kp Q nx fr C Z:=by
  refine r_stL (cs:=[.d (.val (.int .u64 w))]) ha hC hx rfl hz ?_ ?_ k
  · simp [AV.one,encW_len];omega
  · have : ws.set j w=ws.take j++w :: ws.drop (j + 1):=by rw [List.set_eq_take_append_cons_drop,if_pos hj]
    rw [this]
    simp [splice,encW,List.map_take,List.map_drop]
theorem r_eqX {a b c e a' b' c' e' : Int} {q r : Bool} (hx : x.ev fr=.agg [.d (.val (.int .u64 a)),.d (.val (.int .u64 b)),.d (.val (.int .u64 c)),.d (.val (.int .u64 e))]) (hy : y.ev fr=.agg [.d (.val (.int .u64 a')),.d (.val (.int .u64 b')),.d (.val (.int .u64 c')),.d (.val (.int .u64 e'))]) (h : (if q then !(a == a' && (b == b' && (c == c' && e == e'))) else (a == a' && (b == b' && (c == c' && e == e'))))=r) (k : R P l base kp Q nx (fr.put d (.b r)) C Z) : R P ((n,⟨some d,none,.eqAgg 4 q x y⟩) :: l) base kp Q nx fr C Z:=by
  subst h
  refine r_p ?_ k
  simp only [xp,hx,hy,eqCells,List.length_cons,List.length_nil,if_true,Option.map_some]
  simp
end
end Go.Sv
namespace Go.Sv
open Go Go.Proofs
def x138 : XC:=(.seq (.ops 2 [ (0,⟨some 1,none,.box (.t 0)⟩),(1,⟨some 2,none,.mv (.k (.d (.val (.bool false))))⟩)] (some [1])) (.seq (.ops 10 [ (0,⟨some 3,none,.fadd 0 (.t 1)⟩),(1,⟨some 4,none,.load none (.t 3)⟩),(2,⟨some 5,none,.arith .eql (.t 4) (.k (.d (.val (.int .i64 2))))⟩),(3,⟨some 6,none,.mv (.t 5)⟩),(4,⟨some 7,(some (6,true)),.fadd 1 (.t 1)⟩),(5,⟨some 8,(some (6,true)),.load (some 4) (.t 7)⟩),(6,⟨some 9,(some (6,true)),.build [(.int .u64 0),(.int .u64 0),(.int .u64 0),(.int .u64 0)] []⟩),(7,⟨some 10,(some (6,true)),.eqAgg 4 false (.t 8) (.t 9)⟩),(8,⟨some 11,none,.pick (.t 6) (.t 10) (.k (.d (.val (.bool false))))⟩),(9,⟨some 2,none,.mv (.t 11)⟩)] (some [2])) .ret))
def md138 : FuncId→Option Nat × Bool
  | _=>(none,false)
def od138 : Nat→List (List Nat) × List Nat × Option (List Nat)
  | 0=>([],[],some [1])
  | 1=>([],[],some [2])
  | _=>([],[],none)
theorem b138 {ags : List AV} {row : Option (List DV)} {r : AV} {row' nw : Option (List DV)} (hal : ags.length≤12) (hrow : row'.isSome=true→row.isSome=true) (h : xwp Try.prog x138 (retK [.tmp 2] row.isSome r row' nw) (St.init ags row)) : Good Try.prog 138 ags row r row' nw :=
  good_of_body' (md:=md138) (od:=od138) Try.f138 (by kernel_rfl) (by kernel_rfl) (by kernel_rfl) (by kernel_rfl) (by kernel_rfl) hal hrow h

def x139 : XC:=(.seq (.ops 2 [ (0,⟨some 5,none,.box (.t 2)⟩),(1,⟨some 6,none,.alloc [(.int .i64 0),(.int .u64 0),(.int .u64 0),(.int .u64 0),(.int .u64 0),(.int .i64 0),(.int .i64 0),(.slice none 0 0)]⟩)] (some [0,1,5,6])) (.seq (.seq (.ops 3 [ (0,⟨some 7,none,.mv (.t 1)⟩),(1,⟨some 8,none,.lenS (.t 7)⟩),(2,⟨some 9,none,.arith .eql (.t 8) (.k (.d (.val (.int .i64 0))))⟩)] (some [0,1,5,6,9])) (.cond (.t 9) (.seq (.ops 2 [ (0,⟨some 10,none,.load (some 8) (.t 5)⟩),(1,⟨none,none,.store 8 (.t 6) (.t 10)⟩)] (some [6])) .ret) .skip)) (.seq (.seq (.ops 3 [ (0,⟨some 11,none,.mv (.t 1)⟩),(1,⟨some 12,none,.lenS (.t 11)⟩),(2,⟨some 13,none,.arith .eql (.t 12) (.k (.d (.val (.int .i64 1))))⟩)] (some [0,1,6,13])) (.cond (.t 13) (.seq (.ops 4 [ (0,⟨some 14,none,.mv (.t 1)⟩),(1,⟨some 15,none,.idxS 8 (.t 14) (.k (.d (.val (.int .i64 0))))⟩),(2,⟨some 16,none,.load (some 8) (.t 15)⟩),(3,⟨none,none,.store 8 (.t 6) (.t 16)⟩)] (some [6])) .ret) .skip)) (.seq (.ops 4 [ (0,⟨some 17,none,.mv (.t 0)⟩),(1,⟨some 18,none,.mv (.t 1)⟩),(2,⟨some 19,none,.build [(.int .i64 0),(.int .u64 0),(.int .u64 0),(.int .u64 0),(.int .u64 0),(.int .i64 0),(.int .i64 0),(.slice none 0 0)] [(0,1,(.t 17)),(7,1,(.t 18))]⟩),(3,⟨none,none,.store 8 (.t 6) (.t 19)⟩)] (some [6])) .ret))))
def md139 : FuncId→Option Nat × Bool
  | _=>(none,false)
def od139 : Nat→List (List Nat) × List Nat × Option (List Nat)
  | 0=>([],[],some [0,1,5,6])
  | 1=>([],[],some [0,1,5,6,9])
  | 2=>([],[],some [6])
  | 3=>([],[],some [0,1,6,13])
  | 4=>([],[],some [6])
  | 5=>([],[],some [6])
  | _=>([],[],none)
theorem b139 {ags : List AV} {row : Option (List DV)} {r : AV} {row' nw : Option (List DV)} (hal : ags.length≤20) (hrow : row'.isSome=true→row.isSome=true) (h : xwp Try.prog x139 (retK [.cell 6 (some 8)] row.isSome r row' nw) (St.init ags row)) : Good Try.prog 139 ags row r row' nw :=
  good_of_body' (md:=md139) (od:=od139) Try.f139 (by kernel_rfl) (by kernel_rfl) (by kernel_rfl) (by kernel_rfl) (by kernel_rfl) hal hrow h

def x124 : XC:=(.seq (.ops 2 [ (0,⟨some 2,none,.box (.t 0)⟩),(1,⟨some 4,none,.mv (.k (.d (.val (.bool false))))⟩)] (some [1,2])) (.seq (.ops 10 [ (0,⟨some 5,none,.mv (.t 1)⟩),(1,⟨some 6,none,.arith .quo (.t 5) (.k (.d (.val (.int .i64 64))))⟩),(2,⟨some 7,none,.idxP 4 1 (.t 2) (.t 6)⟩),(3,⟨some 8,none,.load none (.t 7)⟩),(4,⟨some 9,none,.mv (.t 1)⟩),(5,⟨some 10,none,.arith .rem (.t 9) (.k (.d (.val (.int .i64 64))))⟩),(6,⟨some 11,none,.arith .shr (.t 8) (.t 10)⟩),(7,⟨some 12,none,.arith .rem (.t 11) (.k (.d (.val (.int .u64 2))))⟩),(8,⟨some 13,none,.arith .eql (.t 12) (.k (.d (.val (.int .u64 1))))⟩),(9,⟨some 4,none,.mv (.t 13)⟩)] (some [4])) .ret))
def md124 : FuncId→Option Nat × Bool
  | _=>(none,false)
def od124 : Nat→List (List Nat) × List Nat × Option (List Nat)
  | 0=>([],[],some [1,2])
  | 1=>([],[],some [4])
  | _=>([],[],none)
theorem b124 {ags : List AV} {row : Option (List DV)} {r : AV} {row' nw : Option (List DV)} (hal : ags.length≤14) (hrow : row'.isSome=true→row.isSome=true) (h : xwp Try.prog x124 (retK [.tmp 4] row.isSome r row' nw) (St.init ags row)) : Good Try.prog 124 ags row r row' nw :=
  good_of_body' (md:=md124) (od:=od124) Try.f124 (by kernel_rfl) (by kernel_rfl) (by kernel_rfl) (by kernel_rfl) (by kernel_rfl) hal hrow h

def x74 : XC:=(.seq (.ops 2 [ (0,⟨some 1,none,.box (.t 0)⟩),(1,⟨some 2,none,.mv (.k (.d (.val (.slice none 0 0))))⟩)] (some [1])) (.seq (.ops 1 [ (0,⟨some 3,none,.mv (.k (.d (.val (.slice none 0 0))))⟩)] (some [1,3])) (.seq (.seq (.ops 1 [ (0,⟨some 4,none,.mv (.k (.d (.val (.int .i64 0))))⟩)] (some [1,3,4])) (.block 0 (.loop (.seq (.seq (.ops 2 [ (0,⟨some 5,none,.mv (.t 4)⟩),(1,⟨some 6,none,.arith .lss (.t 5) (.k (.d (.val (.int .i64 256))))⟩)] (some [1,3,4,6])) (.cond (.t 6) .skip (.exit 0))) (.seq (.block 1 (.seq (.ops 3 [ (0,⟨some 9,none,.load (some 4) (.t 1)⟩),(1,⟨some 10,none,.mv (.t 4)⟩),(2,⟨some 11,none,.call 124 [(.t 9),(.t 10)] none false⟩)] (some [1,3,4,11])) (.cond (.t 11) (.ops 5 [ (0,⟨some 12,none,.mv (.t 3)⟩),(1,⟨some 13,none,.mv (.t 4)⟩),(2,⟨some 14,none,.mkrow [(.int .i64 0)] 1 1 [(0,1,(.t 13))]⟩),(3,⟨some 15,none,.app [(.int .i64 0)] 8 (.t 12) (.t 14)⟩),(4,⟨some 3,none,.mv (.t 15)⟩)] (some [1,3,4])) .skip))) (.ops 3 [ (0,⟨some 7,none,.mv (.t 4)⟩),(1,⟨some 8,none,.arith .add (.t 7) (.k (.d (.val (.int .i64 1))))⟩),(2,⟨some 4,none,.mv (.t 8)⟩)] (some [1,3,4]))))))) (.seq (.ops 2 [ (0,⟨some 16,none,.mv (.t 3)⟩),(1,⟨some 2,none,.mv (.t 16)⟩)] (some [2])) .ret))))
def md74 : FuncId→Option Nat × Bool
  | _=>(none,false)
def od74 : Nat→List (List Nat) × List Nat × Option (List Nat)
  | 0=>([],[],some [1])
  | 1=>([],[],some [1,3])
  | 2=>([],[],some [1,3,4])
  | 3=>([],[],some [1,3,4,6])
  | 4=>([],[],some [1,3,4])
  | 5=>([],[],some [1,3,4,11])
  | 6=>([],[],some [1,3,4])
  | 7=>([],[],some [2])
  | _=>([],[],none)
theorem b74 {ags : List AV} {row : Option (List DV)} {r : AV} {row' nw : Option (List DV)} (hal : ags.length≤17) (hrow : row'.isSome=true→row.isSome=true) (h : xwp Try.prog x74 (retK [.tmp 2] row.isSome r row' nw) (St.init ags row)) : Good Try.prog 74 ags row r row' nw :=
  good_of_body' (md:=md74) (od:=od74) Try.f74 (by kernel_rfl) (by kernel_rfl) (by kernel_rfl) (by kernel_rfl) (by kernel_rfl) hal hrow h

def x99 : XC:=(.seq (.ops 1 [ (0,⟨some 2,none,.alloc [(.int .u64 0),(.int .u64 0),(.int .u64 0),(.int .u64 0)]⟩)] (some [0,2])) (.seq (.ops 1 [ (0,⟨some 3,none,.alloc [(.int .u64 0),(.int .u64 0),(.int .u64 0),(.int .u64 0)]⟩)] (some [0,2,3])) (.seq (.seq (.ops 1 [ (0,⟨some 4,none,.mv (.k (.d (.val (.int .i64 0))))⟩)] (some [0,2,3,4])) (.block 0 (.loop (.seq (.seq (.ops 4 [ (0,⟨some 5,none,.mv (.t 4)⟩),(1,⟨some 6,none,.mv (.t 0)⟩),(2,⟨some 7,none,.lenS (.t 6)⟩),(3,⟨some 8,none,.arith .lss (.t 5) (.t 7)⟩)] (some [0,2,3,4,8])) (.cond (.t 8) .skip (.exit 0))) (.seq (.block 1 (.seq (.ops 7 [ (0,⟨some 11,none,.load (some 4) (.t 3)⟩),(1,⟨some 12,none,.mv (.t 0)⟩),(2,⟨some 13,none,.mv (.t 4)⟩),(3,⟨some 14,none,.idxS 1 (.t 12) (.t 13)⟩),(4,⟨some 15,none,.load none (.t 14)⟩),(5,⟨some 16,none,.call 124 [(.t 11),(.t 15)] none false⟩),(6,⟨some 17,none,.un .not (.t 16)⟩)] (some [0,2,3,4,17])) (.cond (.t 17) (.ops 16 [ (0,⟨some 18,none,.mv (.t 0)⟩),(1,⟨some 19,none,.mv (.t 4)⟩),(2,⟨some 20,none,.idxS 1 (.t 18) (.t 19)⟩),(3,⟨some 21,none,.load none (.t 20)⟩),(4,⟨some 22,none,.arith .quo (.t 21) (.k (.d (.val (.int .i64 64))))⟩),(5,⟨some 23,none,.idxP 4 1 (.t 3) (.t 22)⟩),(6,⟨some 24,none,.load none (.t 23)⟩),(7,⟨some 25,none,.mv (.t 0)⟩),(8,⟨some 26,none,.mv (.t 4)⟩),(9,⟨some 27,none,.idxS 1 (.t 25) (.t 26)⟩),(10,⟨some 28,none,.load none (.t 27)⟩),(11,⟨some 29,none,.arith .rem (.t 28) (.k (.d (.val (.int .i64 64))))⟩),(12,⟨some 30,none,.arith .shl (.k (.d (.val (.int .u64 1)))) (.t 29)⟩),(13,⟨some 31,none,.arith .add (.t 24) (.t 30)⟩),(14,⟨some 32,none,.idxP 4 1 (.t 3) (.t 22)⟩),(15,⟨none,none,.store 1 (.t 32) (.t 31)⟩)] (some [0,2,3,4])) .skip))) (.ops 3 [ (0,⟨some 9,none,.mv (.t 4)⟩),(1,⟨some 10,none,.arith .add (.t 9) (.k (.d (.val (.int .i64 1))))⟩),(2,⟨some 4,none,.mv (.t 10)⟩)] (some [0,2,3,4]))))))) (.seq (.ops 2 [ (0,⟨some 33,none,.load (some 4) (.t 3)⟩),(1,⟨none,none,.store 4 (.t 2) (.t 33)⟩)] (some [2])) .ret))))
def md99 : FuncId→Option Nat × Bool
  | _=>(none,false)
def od99 : Nat→List (List Nat) × List Nat × Option (List Nat)
  | 0=>([],[],some [0,2])
  | 1=>([],[],some [0,2,3])
  | 2=>([],[],some [0,2,3,4])
  | 3=>([],[],some [0,2,3,4,8])
  | 4=>([],[],some [0,2,3,4])
  | 5=>([[],[],[],[1,2],[1,2,3],[0,1,2,3,4],[0,1,2,3,4,5]],[0,1,2,3,4,5,6],some [0,2,3,4,17])
  | 6=>([[],[],[0,1],[0,1,2],[0,1,2,3],[0,1,2,3,4],[0,1,2,3,4,5],[],[],[7,8],[7,8,9],[7,8,9,10],[7,8,9,10,11],[0,1,2,3,4,5,6,7,8,9,10,11,12],[0,1,2,3,4,5,6,7,8,9,10,11,12,13],[0,1,2,3,4,5,6,7,8,9,10,11,12,13,14]],[0,1,2,3,4,5,6,7,8,9,10,11,12,13,14,15],some [0,2,3,4])
  | 7=>([],[],some [2])
  | _=>([],[],none)
theorem b99 {ags : List AV} {row : Option (List DV)} {r : AV} {row' nw : Option (List DV)} (hal : ags.length≤34) (hrow : row'.isSome=true→row.isSome=true) (h : xwp Try.prog x99 (retK [.cell 2 (some 4)] row.isSome r row' nw) (St.init ags row)) : Good Try.prog 99 ags row r row' nw :=
  good_of_body' (md:=md99) (od:=od99) Try.f99 (by kernel_rfl) (by kernel_rfl) (by kernel_rfl) (by kernel_rfl) (by kernel_rfl) hal hrow h

set_option maxRecDepth 100000
set_option maxHeartbeats 4000000
attribute [local irreducible] W E R KP thenK blockK retK Good xwp aRun
theorem same47g_good : ∀ (n : Nat) (t u : T),t.cnt≤n→n≤100000000→Good Try.prog 47 [nodeA t,nodeA u] none (.b (sameT t u)) none none:=by
  intro n
  induction n with
  | zero=>intro t u ht;have:=cnt_pos t;omega
  | succ n ih =>
  intro t u ht hc
  obtain ⟨k,a,b,c,d,mn,mx,subs⟩:=t
  obtain ⟨k2,a2,b2,c2,d2,mn2,mx2,subs2⟩:=u
  have ih' : ∀ i (h : i < subs.length) (h2 : i < subs2.length),Good Try.prog 47 [nodeA subs[i],nodeA subs2[i]] none (.b (sameT subs[i] subs2[i])) none none:=by
    intro i h h2
    refine ih _ _ ?_ (by omega)
    have:=cntL_get subs i h
    simp only [T.cnt] at ht
    omega
  have hlen : subs.length≤100000000:=by
    have:=cntL_len subs
    simp only [T.cnt] at ht
    omega
  have e0 : nodeA (.node k a b c d mn mx subs)=.agg [.i k,.d (.val (.int .u64 a)),.d (.val (.int .u64 b)),.d (.val (.int .u64 c)),.d (.val (.int .u64 d)),.i mn,.i mx,.d (.sl (encL subs) subs.length)]:=rfl
  have e1 : nodeA (.node k2 a2 b2 c2 d2 mn2 mx2 subs2)=.agg [.i k2,.d (.val (.int .u64 a2)),.d (.val (.int .u64 b2)),.d (.val (.int .u64 c2)),.d (.val (.int .u64 d2)),.i mn2,.i mx2,.d (.sl (encL subs2) subs2.length)]:=rfl
  rw [e0,e1]
  clear ih ht
  by_cases hk : k=k2
  case neg =>
    refine b47 (by simp) (by simp) (w_init ?_)
    unfold x47
    repeat' (first|(apply r_mvV;rfl)|(apply r_faddL;rfl)|(apply r_ldL;rfl;rfl;rfl)|(apply r_neq;rfl;rfl;(first|(apply dT;omega)|(apply dF;omega)|rfl))|(apply r_pickT;rfl)|(apply r_gF';rfl;rfl)|(apply r_box;((conv=>lhs;simp only [Nat.reduceAdd])<;>rfl);rfl;rfl;rfl)|(apply r_nilK)|(apply k_V;rfl)|(apply k_PL;rfl)|(apply k_nil)|(apply e_ret (vs:=[.d (.val _)]);rfl)|(apply w_seq)|(apply w_ops;((conv=>lhs;simp only [Nat.reduceAdd])<;>rfl))|(apply w_condT;rfl)|(apply e_thenN)|(apply e_thenR)|(apply w_ret))
    exact retB (by simp [sameT,hk])
  subst hk
  rcases Bool.eq_false_or_eq_true (a == a2 && (b == b2 && (c == c2 && d == d2))) with hw | hw
  case inr =>
    refine b47 (by simp) (by simp) (w_init ?_)
    unfold x47
    repeat' (first|(apply r_mvV;rfl)|(apply r_faddL;rfl)|(apply r_ldL (v:=.agg [.d (.val (.int .u64 a)),.d (.val (.int .u64 b)),.d (.val (.int .u64 c)),.d (.val (.int .u64 d))]);rfl;rfl;rfl)|(apply r_ldL (v:=.agg [.d (.val (.int .u64 a2)),.d (.val (.int .u64 b2)),.d (.val (.int .u64 c2)),.d (.val (.int .u64 d2))]);rfl;rfl;rfl)|(apply r_eqX (r:=true);rfl;rfl;(rw [if_pos rfl,hw];rfl))|(apply r_ldL;rfl;rfl;rfl)|(apply r_neq;rfl;rfl;(first|(apply dT;omega)|(apply dF;omega)|rfl))|(apply r_pickT;rfl)|(apply r_pickF;rfl)|(apply r_gT;rfl)|(apply r_gF';rfl;rfl)|(apply r_box;((conv=>lhs;simp only [Nat.reduceAdd])<;>rfl);rfl;rfl;rfl)|(apply r_nilK)|(apply k_V;rfl)|(apply k_PL;rfl)|(apply k_nil)|(apply e_ret (vs:=[.d (.val _)]);rfl)|(apply w_seq)|(apply w_ops;((conv=>lhs;simp only [Nat.reduceAdd])<;>rfl))|(apply w_condT;rfl)|(apply e_thenN)|(apply e_thenR)|(apply w_ret))
    refine retB ?_
    simp only [Bool.and_eq_false_iff,beq_eq_false_iff_ne] at hw
    simp only [sameT]
    symm
    simp only [Bool.and_eq_false_iff,beq_eq_false_iff_ne]
    rcases hw with h | h | h | h
    · exact .inl (.inl (.inl (.inr (.inl (.inl (.inl h))))))
    · exact .inl (.inl (.inl (.inr (.inl (.inl (.inr h))))))
    · exact .inl (.inl (.inl (.inr (.inl (.inr h)))))
    · exact .inl (.inl (.inl (.inr (.inr h))))
  have hs : sameT (.node k a b c d mn mx subs) (.node k a2 b2 c2 d2 mn2 mx2 subs2)=(mn == mn2 && mx == mx2 && sameL subs subs2):=by
    simp only [Bool.and_eq_true,beq_iff_eq] at hw
    obtain ⟨h1,h2,h3,h4⟩:=hw
    simp [sameT,h1,h2,h3,h4]
  rw [hs]
  clear hs
  by_cases hm : mn=mn2
  case neg =>
    refine b47 (by simp) (by simp) (w_init ?_)
    unfold x47
    repeat' (first|(apply r_mvV;rfl)|(apply r_faddL;rfl)|(apply r_ldL (v:=.agg [.d (.val (.int .u64 a)),.d (.val (.int .u64 b)),.d (.val (.int .u64 c)),.d (.val (.int .u64 d))]);rfl;rfl;rfl)|(apply r_ldL (v:=.agg [.d (.val (.int .u64 a2)),.d (.val (.int .u64 b2)),.d (.val (.int .u64 c2)),.d (.val (.int .u64 d2))]);rfl;rfl;rfl)|(apply r_eqX (r:=false);rfl;rfl;(rw [if_pos rfl,hw];rfl))|(apply r_ldL;rfl;rfl;rfl)|(apply r_neq;rfl;rfl;(first|(apply dT;omega)|(apply dF;omega)|rfl))|(apply r_pickT;rfl)|(apply r_pickF;rfl)|(apply r_gT;rfl)|(apply r_gF';rfl;rfl)|(apply r_box;((conv=>lhs;simp only [Nat.reduceAdd])<;>rfl);rfl;rfl;rfl)|(apply r_nilK)|(apply k_V;rfl)|(apply k_PL;rfl)|(apply k_nil)|(apply e_ret (vs:=[.d (.val _)]);rfl)|(apply w_seq)|(apply w_ops;((conv=>lhs;simp only [Nat.reduceAdd])<;>rfl))|(apply w_condT;rfl)|(apply e_thenN)|(apply e_thenR)|(apply w_ret))
    exact retB (by simp [hm])
  by_cases hx : mx=mx2
  case neg =>
    refine b47 (by simp) (by simp) (w_init ?_)
    unfold x47
    repeat' (first|(apply r_mvV;rfl)|(apply r_faddL;rfl)|(apply r_ldL (v:=.agg [.d (.val (.int .u64 a)),.d (.val (.int .u64 b)),.d (.val (.int .u64 c)),.d (.val (.int .u64 d))]);rfl;rfl;rfl)|(apply r_ldL (v:=.agg [.d (.val (.int .u64 a2)),.d (.val (.int .u64 b2)),.d (.val (.int .u64 c2)),.d (.val (.int .u64 d2))]);rfl;rfl;rfl)|(apply r_eqX (r:=false);rfl;rfl;(rw [if_pos rfl,hw];rfl))|(apply r_ldL;rfl;rfl;rfl)|(apply r_neq;rfl;rfl;(first|(apply dT;omega)|(apply dF;omega)|rfl))|(apply r_pickT;rfl)|(apply r_pickF;rfl)|(apply r_gT;rfl)|(apply r_gF';rfl;rfl)|(apply r_box;((conv=>lhs;simp only [Nat.reduceAdd])<;>rfl);rfl;rfl;rfl)|(apply r_nilK)|(apply k_V;rfl)|(apply k_PL;rfl)|(apply k_nil)|(apply e_ret (vs:=[.d (.val _)]);rfl)|(apply w_seq)|(apply w_ops;((conv=>lhs;simp only [Nat.reduceAdd])<;>rfl))|(apply w_condT;rfl)|(apply e_thenN)|(apply e_thenR)|(apply w_ret))
    exact retB (by simp [hx])
  by_cases hl : subs.length=subs2.length
  case neg =>
    refine b47 (by simp) (by simp) (w_init ?_)
    unfold x47
    repeat' (first|(apply r_mvV;rfl)|(apply r_faddL;rfl)|(apply r_ldL (v:=.agg [.d (.val (.int .u64 a)),.d (.val (.int .u64 b)),.d (.val (.int .u64 c)),.d (.val (.int .u64 d))]);rfl;rfl;rfl)|(apply r_ldL (v:=.agg [.d (.val (.int .u64 a2)),.d (.val (.int .u64 b2)),.d (.val (.int .u64 c2)),.d (.val (.int .u64 d2))]);rfl;rfl;rfl)|(apply r_eqX (r:=false);rfl;rfl;(rw [if_pos rfl,hw];rfl))|(apply r_ldL;rfl;rfl;rfl)|(apply r_neq;rfl;rfl;(first|(apply dT;omega)|(apply dF;omega)|rfl))|(apply r_pickF;rfl)|(apply r_lenD;rfl)|(apply r_gT;rfl)|(apply r_box;((conv=>lhs;simp only [Nat.reduceAdd])<;>rfl);rfl;rfl;rfl)|(apply r_nilK)|(apply k_V;rfl)|(apply k_PL;rfl)|(apply k_nil)|(apply e_ret (vs:=[.d (.val _)]);rfl)|(apply w_seq)|(apply w_ops;((conv=>lhs;simp only [Nat.reduceAdd])<;>rfl))|(apply w_condT;rfl)|(apply e_thenN)|(apply e_thenR)|(apply w_ret))
    exact retB (by rw [sameL_len hl];simp)
  subst hm hx
  rw [show (mn == mn && mx == mx && sameL subs subs2)=sameL subs subs2 by simp]
  refine b47 (by simp) (by simp) (w_init ?_)
  unfold x47
  repeat' (first|(apply r_mvV;rfl)|(apply r_faddL;rfl)|(apply r_ldL (v:=.agg [.d (.val (.int .u64 a)),.d (.val (.int .u64 b)),.d (.val (.int .u64 c)),.d (.val (.int .u64 d))]);rfl;rfl;rfl)|(apply r_ldL (v:=.agg [.d (.val (.int .u64 a2)),.d (.val (.int .u64 b2)),.d (.val (.int .u64 c2)),.d (.val (.int .u64 d2))]);rfl;rfl;rfl)|(apply r_eqX (r:=false);rfl;rfl;(rw [if_pos rfl,hw];rfl))|(apply r_ldL;rfl;rfl;rfl)|(apply r_neq;rfl;rfl;(first|(apply dT;omega)|(apply dF;omega)|rfl))|(apply r_pickF;rfl)|(apply r_lenD;rfl)|(apply r_gT;rfl)|(apply r_box;((conv=>lhs;simp only [Nat.reduceAdd])<;>rfl);rfl;rfl;rfl)|(apply r_nilK)|(apply k_V;rfl)|(apply k_PL;rfl)|(apply k_nil)|(apply w_seq)|(apply w_ops;((conv=>lhs;simp only [Nat.reduceAdd])<;>rfl))|(apply w_condF;rfl)|(apply e_thenN)|(apply w_block)|(apply w_skip))
  apply w_loopI (S:=fun i : Nat=>⟨((Fr.nil.put 2 (.ptrL 1 0)).put 3 (.ptrL 2 0)).put 5 (.i i),rowsOf [(1,[.i k,.d (.val (.int .u64 a)),.d (.val (.int .u64 b)),.d (.val (.int .u64 c)),.d (.val (.int .u64 d)),.i mn,.i mx,.d (.sl (encL subs) subs.length)]),(2,[.i k,.d (.val (.int .u64 a2)),.d (.val (.int .u64 b2)),.d (.val (.int .u64 c2)),.d (.val (.int .u64 d2)),.i mn,.i mx,.d (.sl (encL subs2) subs2.length)])],Frz.lo 100,100⟩) (m:=fun i=>subs.length - i) (I:=fun i=>i≤subs.length∧sameL subs subs2=sameL (subs.drop i) (subs2.drop i)) (i0:=0)
  · exact ⟨Nat.zero_le _,rfl⟩
  · refine wkRs (by omega) ?_ ?_
    · intro p hp
      simp only [List.mem_cons,List.not_mem_nil,or_false] at hp
      rcases hp with rfl | rfl<;>exact ⟨by omega,rfl,rfl⟩
    · repeat' (first|exact FWk.nil|(apply FWk.i;rfl;(first|rfl|omega|(simp;done)))|(apply FWk.ptr;rfl;rfl;rfl;omega;rfl))
  rintro i K ⟨hi,hq⟩ hK
  dsimp only
  rcases Nat.lt_or_ge i subs.length with hlt | hge
  · have hlt2 : i < subs2.length:=by omega
    have hs:=NodeAt.sub hlt
    have hs2:=NodeAt.sub hlt2
    have hg:=ih' i hlt hlt2
    have hd:=sameL_drop subs subs2 i hlt hlt2
    have hna : [nodeA subs[i],nodeA subs2[i]].all AV.nrm=true:=by rw [List.all_cons,nodeA_nrm,List.all_cons,nodeA_nrm];rfl
    rcases Bool.eq_false_or_eq_true (sameT subs[i] subs2[i]) with hr | hr
    · rw [hr] at hg hd
      repeat' (first|(apply r_mvV;rfl)|(apply r_faddL;rfl)|(apply r_p;apply ix_sub;rfl;rfl;omega)|(apply r_l;apply ld_node';exact hs;rfl)|(apply r_l;apply ld_node';exact hs2;rfl)|(apply r_callA (ags:=[nodeA subs[i],nodeA subs2[i]]);rfl;exact hna;exact hg)|(apply r_ldL;rfl;rfl;rfl)|(apply r_lss;rfl;rfl;(first|(apply dT;omega)|(apply dF;omega)|rfl))|(apply r_add;rfl;rfl;rfl;omega)|(apply r_not;rfl;rfl)|(apply r_lenD;rfl)|(apply r_nilK)|(apply k_V;rfl)|(apply k_PL;rfl)|(apply k_nil)|(apply w_seq)|(apply w_ops;((conv=>lhs;simp only [Nat.reduceAdd])<;>rfl))|(apply w_condT;rfl)|(apply w_condF;rfl)|(apply e_thenN)|(apply w_block)|(apply e_blkN)|(apply w_skip))
      apply e_thenK
      apply hK (i + 1)
      · exact ⟨by omega,by rw [hq,hd,Bool.true_and]⟩
      · omega
      · refine wkRs (by omega) ?_ ?_
        · intro p hp
          simp only [List.mem_cons,List.not_mem_nil,or_false] at hp
          rcases hp with rfl | rfl<;>exact ⟨by omega,rfl,rfl⟩
        · repeat' (first|exact FWk.nil|(apply FWk.i;rfl;(first|rfl|omega|(simp;done)))|(apply FWk.ptr;rfl;rfl;rfl;omega;rfl))
    · rw [hr] at hg hd
      repeat' (first|(apply r_mvV;rfl)|(apply r_faddL;rfl)|(apply r_p;apply ix_sub;rfl;rfl;omega)|(apply r_l;apply ld_node';exact hs;rfl)|(apply r_l;apply ld_node';exact hs2;rfl)|(apply r_callA (ags:=[nodeA subs[i],nodeA subs2[i]]);rfl;exact hna;exact hg)|(apply r_ldL;rfl;rfl;rfl)|(apply r_lss;rfl;rfl;(first|(apply dT;omega)|(apply dF;omega)|rfl))|(apply r_not;rfl;rfl)|(apply r_lenD;rfl)|(apply r_nilK)|(apply k_V;rfl)|(apply k_PL;rfl)|(apply k_nil)|(apply e_ret (vs:=[.d (.val _)]);rfl)|(apply w_seq)|(apply w_ops;((conv=>lhs;simp only [Nat.reduceAdd])<;>rfl))|(apply w_condT;rfl)|(apply e_thenN)|(apply w_block)|(apply e_thenR)|(apply e_blkR)|(apply w_ret)|(apply w_skip))
      exact retB (by rw [hq,hd,Bool.false_and])
  · have e : sameL subs subs2=true:=by rw [hq,List.drop_of_length_le hge,List.drop_of_length_le (by omega),sameL]
    repeat' (first|(apply r_mvV;rfl)|(apply r_faddL;rfl)|(apply r_ldL;rfl;rfl;rfl)|(apply r_lss;rfl;rfl;(first|(apply dT;omega)|(apply dF;omega)|rfl))|(apply r_lenD;rfl)|(apply r_nilK)|(apply k_V;rfl)|(apply k_PL;rfl)|(apply k_nil)|(apply e_ret (vs:=[.d (.val _)]);rfl)|(apply w_seq)|(apply w_ops;((conv=>lhs;simp only [Nat.reduceAdd])<;>rfl))|(apply w_condF;rfl)|(apply e_thenN)|(apply e_thenX)|(apply e_blkE)|(apply w_exit)|(apply w_ret))
    exact retB e.symm
theorem no138_good (t : T) : Good Try.prog 138 [nodeA t] none (.b (isNo t)) none none:=by
  obtain ⟨k,a,b,c,d,mn,mx,subs⟩:=t
  have e0 : nodeA (.node k a b c d mn mx subs)=.agg [.i k,.d (.val (.int .u64 a)),.d (.val (.int .u64 b)),.d (.val (.int .u64 c)),.d (.val (.int .u64 d)),.i mn,.i mx,.d (.sl (encL subs) subs.length)]:=rfl
  rw [e0]
  by_cases hk : k=2
  · refine b138 (by simp) (by simp) (w_init ?_)
    unfold x138
    repeat' (first|(apply r_mvV;rfl)|(apply r_faddL;rfl)|(apply r_ldL (v:=.agg [.d (.val (.int .u64 a)),.d (.val (.int .u64 b)),.d (.val (.int .u64 c)),.d (.val (.int .u64 d))]);rfl;rfl;rfl)|(apply r_p (v:=.agg [.d (.val (.int .u64 0)),.d (.val (.int .u64 0)),.d (.val (.int .u64 0)),.d (.val (.int .u64 0))]);rfl)|(apply r_eqX;rfl;rfl;rfl)|(apply r_ldL;rfl;rfl;rfl)|(apply r_eql;rfl;rfl;(first|(apply dT;omega)|(apply dF;omega)|rfl))|(apply r_pickT;rfl)|(apply r_gT;rfl)|(apply r_box;((conv=>lhs;simp only [Nat.reduceAdd])<;>rfl);rfl;rfl;rfl)|(apply r_nilK)|(apply k_V;rfl)|(apply k_PL;rfl)|(apply k_nil)|(apply e_ret (vs:=[.d (.val _)]);rfl)|(apply w_seq)|(apply w_ops;((conv=>lhs;simp only [Nat.reduceAdd])<;>rfl))|(apply e_thenN)|(apply w_ret))
    exact retB (by simp [isNo,isZero,hk])
  · refine b138 (by simp) (by simp) (w_init ?_)
    unfold x138
    repeat' (first|(apply r_mvV;rfl)|(apply r_faddL;rfl)|(apply r_ldL;rfl;rfl;rfl)|(apply r_eql;rfl;rfl;(first|(apply dT;omega)|(apply dF;omega)|rfl))|(apply r_pickF;rfl)|(apply r_gF';rfl;rfl)|(apply r_box;((conv=>lhs;simp only [Nat.reduceAdd])<;>rfl);rfl;rfl;rfl)|(apply r_nilK)|(apply k_V;rfl)|(apply k_PL;rfl)|(apply k_nil)|(apply e_ret (vs:=[.d (.val _)]);rfl)|(apply w_seq)|(apply w_ops;((conv=>lhs;simp only [Nat.reduceAdd])<;>rfl))|(apply e_thenN)|(apply w_ret))
    exact retB (by simp [isNo,hk])
theorem of139_good (k : Int) (l : List T) (e : T) (hl : l.length≤100000000) : Good Try.prog 139 [.i k,.d (.sl (encL l) l.length),nodeA e] none (nodeA (ofT k l e)) none none:=by
  obtain ⟨k1,a1,b1,c1,d1,mn1,mx1,subs1⟩:=e
  have e1 : nodeA (.node k1 a1 b1 c1 d1 mn1 mx1 subs1)=.agg [.i k1,.d (.val (.int .u64 a1)),.d (.val (.int .u64 b1)),.d (.val (.int .u64 c1)),.d (.val (.int .u64 d1)),.i mn1,.i mx1,.d (.sl (encL subs1) subs1.length)]:=rfl
  rw [e1]
  match l,hl with
  | [],_ =>
    refine b139 (by simp) (by simp) (w_init ?_)
    unfold x139
    simp only [List.length_nil]
    repeat' (first|(apply r_mvS;rfl)|(apply r_ldL (v:=.agg [.i k1,.d (.val (.int .u64 a1)),.d (.val (.int .u64 b1)),.d (.val (.int .u64 c1)),.d (.val (.int .u64 d1)),.i mn1,.i mx1,.d (.sl (encL subs1) subs1.length)]);rfl;rfl;rfl)|(apply r_eql;rfl;rfl;(first|(apply dT;omega)|(apply dF;omega)|rfl))|(apply r_lenD;rfl)|(apply r_alloc;((conv=>lhs;simp only [Nat.reduceAdd])<;>rfl);rfl)|(apply r_box;((conv=>lhs;simp only [Nat.reduceAdd])<;>rfl);rfl;rfl;rfl)|(apply r_stL;rfl;rfl;rfl;rfl;(first|rfl|(simp only [z_nil,z_add]<;>rfl));rfl;rfl)|(apply r_nilK)|(apply k_V;rfl)|(apply k_PL;rfl)|(apply k_S;rfl)|(apply k_nil)|(apply e_ret;rfl)|(apply w_seq)|(apply w_ops;((conv=>lhs;simp only [Nat.reduceAdd])<;>rfl))|(apply w_condT;rfl)|(apply e_thenN)|(apply e_thenR)|(apply w_ret))
    exact .data _ rfl
  | [u],_ =>
    obtain ⟨k2,a2,b2,c2,d2,mn2,mx2,subs2⟩:=u
    refine b139 (by simp) (by simp) (w_init ?_)
    unfold x139
    simp only [List.length_cons,List.length_nil,Nat.zero_add]
    repeat' (first|(apply r_mvS;rfl)|(apply r_p (v:=.d (.ptr (encL [.node k2 a2 b2 c2 d2 mn2 mx2 subs2]) 0));rfl)|(apply r_l (v:=.agg [.i k2,.d (.val (.int .u64 a2)),.d (.val (.int .u64 b2)),.d (.val (.int .u64 c2)),.d (.val (.int .u64 d2)),.i mn2,.i mx2,.d (.sl (encL subs2) subs2.length)]);rfl)|(apply r_eql;rfl;rfl;(first|(apply dT;omega)|(apply dF;omega)|rfl))|(apply r_lenD;rfl)|(apply r_alloc;((conv=>lhs;simp only [Nat.reduceAdd])<;>rfl);rfl)|(apply r_box;((conv=>lhs;simp only [Nat.reduceAdd])<;>rfl);rfl;rfl;rfl)|(apply r_stL;rfl;rfl;rfl;rfl;(first|rfl|(simp only [z_nil,z_add]<;>rfl));rfl;rfl)|(apply r_nilK)|(apply k_V;rfl)|(apply k_PL;rfl)|(apply k_S;rfl)|(apply k_nil)|(apply e_ret;rfl)|(apply w_seq)|(apply w_ops;((conv=>lhs;simp only [Nat.reduceAdd])<;>rfl))|(apply w_condT;rfl)|(apply w_condF;rfl)|(apply e_thenN)|(apply e_thenR)|(apply w_ret)|(apply w_skip))
    exact .data _ rfl
  | x :: y :: z,hl =>
    refine b139 (by simp) (by simp) (w_init ?_)
    unfold x139
    simp only [List.length_cons] at hl ⊢
    repeat' (first|(apply r_mvV;rfl)|(apply r_mvS;rfl)|(apply r_p (v:=.agg [.i k,.d (.val (.int .u64 0)),.d (.val (.int .u64 0)),.d (.val (.int .u64 0)),.d (.val (.int .u64 0)),.i 0,.i 0,.d (.sl (encL (x :: y :: z)) (z.length + 1 + 1))]);rfl)|(apply r_eql;rfl;rfl;(first|(apply dT;omega)|(apply dF;omega)|rfl))|(apply r_lenD;rfl)|(apply r_alloc;((conv=>lhs;simp only [Nat.reduceAdd])<;>rfl);rfl)|(apply r_box;((conv=>lhs;simp only [Nat.reduceAdd])<;>rfl);rfl;rfl;rfl)|(apply r_stL;rfl;rfl;rfl;rfl;(first|rfl|(simp only [z_nil,z_add]<;>rfl));rfl;rfl)|(apply r_nilK)|(apply k_V;rfl)|(apply k_PL;rfl)|(apply k_S;rfl)|(apply k_nil)|(apply e_ret;rfl)|(apply w_seq)|(apply w_ops;((conv=>lhs;simp only [Nat.reduceAdd])<;>rfl))|(apply w_condF;rfl)|(apply e_thenN)|(apply w_ret)|(apply w_skip))
    exact .data _ rfl
theorem has124_good {a b c d : Int} (ha : okW a) (hb : okW b) (hc : okW c) (hd : okW d) (x : Nat) (hx : x < 256) : Good Try.prog 124 [setA a b c d,.i (x : Nat)] none (.b (inG a b c d x)) none none:=by
  unfold setA
  refine b124 (by simp) (by simp) (w_init ?_)
  unfold x124
  have hw : okW ([a,b,c,d].getD (x / 64) 0):=by
    have : x / 64 < 4:=by omega
    match x / 64,this with
    | 0,_=>exact ha
    | 1,_=>exact hb
    | 2,_=>exact hc
    | 3,_=>exact hd
  repeat' (first|(apply r_mvV;rfl)|(apply r_quoI;rfl;rfl;rfl;omega)|(apply r_remI;rfl;rfl;rfl)|(apply r_ixPL;rfl;rfl;omega)|(apply r_ldWL;rfl;rfl;omega)|(apply r_shrI;rfl;rfl;exact hw;omega)|(apply r_rem2;rfl;rfl;exact (okW_div hw _).1)|(apply r_eqlU;rfl;rfl;rfl)|(apply r_box;((conv=>lhs;simp only [Nat.reduceAdd])<;>rfl);rfl;rfl;rfl)|(apply r_nilK)|(apply k_V;rfl)|(apply k_PL;rfl)|(apply k_nil)|(apply e_ret (vs:=[.d (.val _)]);rfl)|(apply w_seq)|(apply w_ops;((conv=>lhs;simp only [Nat.reduceAdd])<;>rfl))|(apply e_thenN)|(apply w_ret))
  exact retB rfl
theorem list74_good {a b c d : Int} (ha : okW a) (hb : okW b) (hc : okW c) (hd : okW d) : Good Try.prog 74 [setA a b c d] none (.d (.sl (encI (encJ (listTo a b c d 256))) (listTo a b c d 256).length)) none none:=by
  unfold setA
  refine b74 (by simp) (by simp) (w_init ?_)
  unfold x74
  repeat' (first|(apply r_mvV;rfl)|(apply r_box;((conv=>lhs;simp only [Nat.reduceAdd])<;>rfl);rfl;rfl;rfl)|(apply r_nilK)|(apply k_V;rfl)|(apply k_PL;rfl)|(apply k_nil)|(apply w_seq)|(apply w_ops;((conv=>lhs;simp only [Nat.reduceAdd])<;>rfl))|(apply e_thenN)|(apply w_block))
  apply w_loopI (S:=fun i : Nat=>⟨((Fr.nil.put 1 (.ptrL 1 0)).put 3 (.slL 50 0 (listTo a b c d i).length 1)).put 4 (.i i),rowsOf [(1,[.d (.val (.int .u64 a)),.d (.val (.int .u64 b)),.d (.val (.int .u64 c)),.d (.val (.int .u64 d))]),(50,(encI (encJ (listTo a b c d i))).map AV.d)],Frz.buts 100 [50],100⟩) (m:=fun i=>256 - i) (I:=fun i=>i≤256) (i0:=0)
  · exact Nat.zero_le _
  · refine wkM [] [50] rfl ?_ ?_ rfl ?_
    · intro p hp
      simp only [List.mem_cons,List.not_mem_nil,or_false] at hp
      rcases hp with rfl | rfl
      · exact ⟨by omega,.inr ⟨rfl,_,rfl,.data rfl⟩⟩
      · exact ⟨by omega,.inl ⟨rfl,rfl⟩⟩
    · intro q hq;simp only [List.mem_cons,List.not_mem_nil,or_false] at hq;rcases hq with rfl<;>rfl
    · repeat' (first|exact FWk.nil|(apply FWk.i;rfl;(first|rfl|omega|(simp;done)))|(apply FWk.ptr;rfl;rfl;rfl;omega;rfl)|(apply FWk.slN;rfl;omega;rfl))
  intro i K hi hK
  dsimp only
  rcases Nat.lt_or_ge i 256 with hlt | hge
  · have hh:=has124_good ha hb hc hd i hlt
    unfold setA at hh
    have hidx:=listTo_len a b c d i
    rcases Bool.eq_false_or_eq_true (inG a b c d i) with hq | hq
    · rw [hq] at hh
      have e : listTo a b c d (i + 1)=listTo a b c d i++[i]:=by rw [listTo,if_pos hq]
      repeat' (first|(apply r_mvV;rfl)|(apply r_mvSL;rfl)|(apply r_ldL (v:=.agg [.d (.val (.int .u64 a)),.d (.val (.int .u64 b)),.d (.val (.int .u64 c)),.d (.val (.int .u64 d))]);rfl;rfl;rfl)|(apply r_callA;rfl;rfl;exact hh)|(apply r_mkrow1;rfl;((conv=>lhs;simp only [Nat.reduceAdd])<;>rfl))|(apply r_app1 (li:=encJ (listTo a b c d i));rfl;rfl;rfl;rfl;rfl;((conv=>lhs;simp only [Nat.reduceAdd])<;>rfl);exact encJ_len _;omega)|(apply r_lss;rfl;rfl;(first|(apply dT;omega)|(apply dF;omega)|rfl))|(apply r_add;rfl;rfl;rfl;omega)|(apply r_nilK)|(apply k_V;rfl)|(apply k_PL;rfl)|(apply k_SL;rfl)|(apply k_nil)|(apply w_seq)|(apply w_ops;((conv=>lhs;simp only [Nat.reduceAdd])<;>rfl))|(apply w_condT;rfl)|(apply e_thenN)|(apply w_block)|(apply e_blkN)|(apply w_skip))
      apply e_thenK
      apply hK (i + 1)
      · omega
      · omega
      · rw [e]
        refine wkM [(50,108)] [] rfl ?_ ?_ rfl ?_
        · intro p hp
          simp only [List.mem_cons,List.not_mem_nil,or_false] at hp
          rcases hp with rfl | rfl
          · exact ⟨by omega,.inr ⟨rfl,_,rfl,.data rfl⟩⟩
          · refine ⟨by omega,.inr ⟨rfl,_,?_,.data (by simp [encI,AV.isD])⟩⟩
            rw [encJ_app];rfl
        · intro q hq;simp only [List.mem_cons,List.not_mem_nil,or_false] at hq;rcases hq with rfl<;>rfl
        · rw [List.length_append]
          repeat' (first|exact FWk.nil|(apply FWk.i;rfl;(first|rfl|omega|(simp;done)))|(apply FWk.sl;rfl;rfl;rfl;rfl;omega;rfl)|(apply FWk.ptr;rfl;rfl;rfl;omega;rfl))
    · rw [hq] at hh
      have e : listTo a b c d (i + 1)=listTo a b c d i:=by rw [listTo,if_neg (by simp [hq])]
      repeat' (first|(apply r_mvV;rfl)|(apply r_ldL (v:=.agg [.d (.val (.int .u64 a)),.d (.val (.int .u64 b)),.d (.val (.int .u64 c)),.d (.val (.int .u64 d))]);rfl;rfl;rfl)|(apply r_callA;rfl;rfl;exact hh)|(apply r_lss;rfl;rfl;(first|(apply dT;omega)|(apply dF;omega)|rfl))|(apply r_add;rfl;rfl;rfl;omega)|(apply r_nilK)|(apply k_V;rfl)|(apply k_PL;rfl)|(apply k_SL;rfl)|(apply k_nil)|(apply w_seq)|(apply w_ops;((conv=>lhs;simp only [Nat.reduceAdd])<;>rfl))|(apply w_condT;rfl)|(apply w_condF;rfl)|(apply e_thenN)|(apply w_block)|(apply e_blkN)|(apply w_skip))
      apply e_thenK
      apply hK (i + 1)
      · omega
      · omega
      · rw [e]
        refine wkM [] [] rfl ?_ ?_ rfl ?_
        · intro p hp
          simp only [List.mem_cons,List.not_mem_nil,or_false] at hp
          rcases hp with rfl | rfl
          · exact ⟨by omega,.inr ⟨rfl,_,rfl,.data rfl⟩⟩
          · exact ⟨by omega,.inr ⟨rfl,_,rfl,.data (by simp [encI,AV.isD])⟩⟩
        · intro q hq;simp only [List.mem_cons,List.not_mem_nil,or_false] at hq;rcases hq with rfl<;>rfl
        · repeat' (first|exact FWk.nil|(apply FWk.i;rfl;(first|rfl|omega|(simp;done)))|(apply FWk.sl;rfl;rfl;rfl;rfl;omega;rfl)|(apply FWk.ptr;rfl;rfl;rfl;omega;rfl))
  · have ei : i=256:=by omega
    subst ei
    repeat' (first|(apply r_mvV;rfl)|(apply r_mvSL;rfl)|(apply r_lss;rfl;rfl;(first|(apply dT;omega)|(apply dF;omega)|rfl))|(apply r_nilK)|(apply k_V;rfl)|(apply k_PL;rfl)|(apply k_SL;rfl)|(apply k_nil)|(apply e_ret;rfl)|(apply w_seq)|(apply w_ops;((conv=>lhs;simp only [Nat.reduceAdd])<;>rfl))|(apply w_condF;rfl)|(apply e_thenN)|(apply e_thenX)|(apply e_blkE)|(apply w_exit)|(apply w_ret))
    exact retL1 rfl (encJ_len _)
theorem set99_good (l : List Nat) (hx : ∀ x ∈ l,x < 256) (hl : l.length≤10000000000) : Good Try.prog 99 [.d (.sl (encI (encJ l)) l.length)] none (.agg (encW (setWs l))) none none:=by
  have hle : (encJ l).length=l.length:=encJ_len l
  refine b99 (by simp) (by simp) (w_init ?_)
  unfold x99
  repeat' (first|(apply r_mvV;rfl)|(apply r_alloc;((conv=>lhs;simp only [Nat.reduceAdd])<;>rfl);rfl)|(apply r_nilK)|(apply k_V;rfl)|(apply k_PL;rfl)|(apply k_S;rfl)|(apply k_nil)|(apply w_seq)|(apply w_ops;((conv=>lhs;simp only [Nat.reduceAdd])<;>rfl))|(apply e_thenN)|(apply w_block))
  apply w_loopI (S:=fun i : Nat=>⟨(((Fr.nil.put 0 (.d (.sl (encI (encJ l)) l.length))).put 2 (.ptrL 1 0)).put 3 (.ptrL 2 0)).put 4 (.i i),rowsOf [(1,encW [0,0,0,0]),(2,encW (setWs (l.take i)))],Frz.buts 100 [1,2],100⟩) (m:=fun i=>l.length - i) (I:=fun i=>i≤l.length) (i0:=0)
  · exact Nat.zero_le _
  · refine wkM [] [] rfl ?_ ?_ rfl ?_
    · intro p hp
      simp only [List.mem_cons,List.not_mem_nil,or_false] at hp
      rcases hp with rfl | rfl
      · exact ⟨by omega,.inr ⟨rfl,_,rfl,.data rfl⟩⟩
      · exact ⟨by omega,.inr ⟨rfl,_,rfl,.data rfl⟩⟩
    · intro q hq;simp only [List.mem_cons,List.not_mem_nil,or_false] at hq;rcases hq with rfl | rfl<;>rfl
    · repeat' (first|exact FWk.nil|(apply FWk.i;rfl;(first|rfl|omega|(simp;done)))|(apply FWk.ptr;rfl;rfl;rfl;omega;rfl)|(apply FWk.d;rfl;rfl))
  intro i K hi hK
  dsimp only
  rcases Nat.lt_or_ge i l.length with hlt | hge
  · have hxi : l[i] < 256:=hx _ (List.getElem_mem hlt)
    have hget : (encJ l)[i]?=some ((l[i] : Nat) : Int):=by
      simp [encJ,List.getElem?_eq_getElem hlt]
    have htk : l.take (i + 1)=l.take i++[l[i]]:=List.take_succ_eq_append_getElem hlt
    obtain ⟨hok,_⟩:=setWs_ok (l:=l.take i) (fun x h=>hx x (List.mem_of_mem_take h))
    have hst : setWs (l.take (i + 1))=addB (setWs (l.take i)) l[i]:=by rw [htk,setWs_snoc]
    generalize l[i]=x at hxi hget hst
    generalize setWs (l.take i)=ws at hok hst ⊢
    have h4:=hok.1
    have hw:=okWs_getD hok (x / 64)
    have key : ∀ w,bitG (ws.getD (x / 64) 0) x=w→(if w=true then ws else ws.set (x / 64) (ws.getD (x / 64) 0 + 2 ^ (x % 64)))=addB ws x:=by
      intro w h;subst h;rfl
    have hadd:=fun h=>(addW_ok (x:=x) hw h).1
    match ws,h4 with
    | [w0,w1,w2,w3],_ =>
    have hh:=has124_good (hok.2 w0 (by simp)) (hok.2 w1 (by simp)) (hok.2 w2 (by simp)) (hok.2 w3 (by simp)) x hxi
    unfold setA at hh
    have hin : inG w0 w1 w2 w3 x=bitG ([w0,w1,w2,w3].getD (x / 64) 0) x:=rfl
    rcases Bool.eq_false_or_eq_true (bitG ([w0,w1,w2,w3].getD (x / 64) 0) x) with hq | hq
    · rw [hin,hq] at hh
      have e:=key true hq
      rw [if_pos rfl] at e
      repeat' (first|(apply r_mvV;rfl)|(apply r_mvS;rfl)|(apply r_ldL (v:=.agg [.d (.val (.int .u64 w0)),.d (.val (.int .u64 w1)),.d (.val (.int .u64 w2)),.d (.val (.int .u64 w3))]);rfl;rfl;rfl)|(apply r_ixI (j:=i);rfl;rfl;rfl;exact hle;exact hlt)|(apply r_ldI;rfl;exact hget)|(apply r_callA;rfl;rfl;exact hh)|(apply r_lss;rfl;rfl;(first|(apply dT;omega)|(apply dF;omega)|rfl))|(apply r_add;rfl;rfl;rfl;omega)|(apply r_not;rfl;rfl)|(apply r_lenD;rfl)|(apply r_nilK)|(apply k_V;rfl)|(apply k_PL;rfl)|(apply k_S;rfl)|(apply k_nil)|(apply w_seq)|(apply w_ops;((conv=>lhs;simp only [Nat.reduceAdd])<;>rfl))|(apply w_condT;rfl)|(apply w_condF;rfl)|(apply e_thenN)|(apply w_block)|(apply e_blkN)|(apply w_skip))
      apply e_thenK
      apply hK (i + 1)
      · omega
      · omega
      · rw [hst,← e]
        refine wkM [] [] rfl ?_ ?_ rfl ?_
        · intro p hp
          simp only [List.mem_cons,List.not_mem_nil,or_false] at hp
          rcases hp with rfl | rfl
          · exact ⟨by omega,.inr ⟨rfl,_,rfl,.data rfl⟩⟩
          · exact ⟨by omega,.inr ⟨rfl,_,rfl,.data rfl⟩⟩
        · intro q hq;simp only [List.mem_cons,List.not_mem_nil,or_false] at hq;rcases hq with rfl | rfl<;>rfl
        · repeat' (first|exact FWk.nil|(apply FWk.i;rfl;(first|rfl|omega|(simp;done)))|(apply FWk.ptr;rfl;rfl;rfl;omega;rfl)|(apply FWk.d;rfl;rfl))
    · rw [hin,hq] at hh
      have e:=key false hq
      rw [if_neg (by simp)] at e
      have ha:=hadd hq
      repeat' (first|(apply r_mvV;rfl)|(apply r_mvS;rfl)|(apply r_ldL (v:=.agg [.d (.val (.int .u64 w0)),.d (.val (.int .u64 w1)),.d (.val (.int .u64 w2)),.d (.val (.int .u64 w3))]);rfl;rfl;rfl)|(apply r_ixI (j:=i);rfl;rfl;rfl;exact hle;exact hlt)|(apply r_ldI;rfl;exact hget)|(apply r_callA;rfl;rfl;exact hh)|(apply r_quoI;rfl;rfl;rfl;omega)|(apply r_remI;rfl;rfl;rfl)|(apply r_ixPL;rfl;rfl;omega)|(apply r_ldWs (ws:=[w0,w1,w2,w3]);rfl;rfl;(simp;omega))|(apply r_shlI;rfl;rfl;omega)|(apply r_addW;rfl;rfl;exact ha)|(apply r_stWs (ws:=[w0,w1,w2,w3]);rfl;rfl;rfl;rfl;(simp;omega))|(apply r_lss;rfl;rfl;(first|(apply dT;omega)|(apply dF;omega)|rfl))|(apply r_add;rfl;rfl;rfl;omega)|(apply r_not;rfl;rfl)|(apply r_lenD;rfl)|(apply r_nilK)|(apply k_V;rfl)|(apply k_PL;rfl)|(apply k_S;rfl)|(apply k_nil)|(apply w_seq)|(apply w_ops;((conv=>lhs;simp only [Nat.reduceAdd])<;>rfl))|(apply w_condT;rfl)|(apply e_thenN)|(apply w_block)|(apply e_blkN)|(apply w_skip))
      apply e_thenK
      apply hK (i + 1)
      · omega
      · omega
      · rw [hst,← e]
        refine wkM [] [] rfl ?_ ?_ rfl ?_
        · intro p hp
          simp only [List.mem_cons,List.not_mem_nil,or_false] at hp
          rcases hp with rfl | rfl
          · exact ⟨by omega,.inr ⟨rfl,_,rfl,.data rfl⟩⟩
          · exact ⟨by omega,.inr ⟨rfl,_,rfl,.data (encW_isD _)⟩⟩
        · intro q hq;simp only [List.mem_cons,List.not_mem_nil,or_false] at hq;rcases hq with rfl | rfl<;>rfl
        · repeat' (first|exact FWk.nil|(apply FWk.i;rfl;(first|rfl|omega|(simp;done)))|(apply FWk.ptr;rfl;rfl;rfl;omega;rfl)|(apply FWk.d;rfl;rfl))
  · rw [List.take_of_length_le hge]
    obtain ⟨hok,_⟩:=setWs_ok hx
    generalize setWs l=ws at hok
    match ws,hok.1 with
    | [w0,w1,w2,w3],_ =>
    repeat' (first|(apply r_mvV;rfl)|(apply r_mvS;rfl)|(apply r_ldL (v:=.agg [.d (.val (.int .u64 w0)),.d (.val (.int .u64 w1)),.d (.val (.int .u64 w2)),.d (.val (.int .u64 w3))]);rfl;rfl;rfl)|(apply r_lss;rfl;rfl;(first|(apply dT;omega)|(apply dF;omega)|rfl))|(apply r_lenD;rfl)|(apply r_stL;rfl;rfl;rfl;rfl;(first|rfl|(simp only [z_nil,z_add]<;>rfl));rfl;rfl)|(apply r_nilK)|(apply k_V;rfl)|(apply k_PL;rfl)|(apply k_S;rfl)|(apply k_nil)|(apply e_ret;rfl)|(apply w_seq)|(apply w_ops;((conv=>lhs;simp only [Nat.reduceAdd])<;>rfl))|(apply w_condF;rfl)|(apply e_thenN)|(apply e_thenX)|(apply e_blkE)|(apply w_exit)|(apply w_ret))
    exact .data _ rfl
end Go.Sv
namespace Go.Sv
open Go Go.Proofs
def x92 : XC:=(.seq (.ops 1 [ (0,⟨some 2,none,.alloc [(.int .i64 0),(.int .u64 0),(.int .u64 0),(.int .u64 0),(.int .u64 0),(.int .i64 0),(.int .i64 0),(.slice none 0 0)]⟩)] (some [0,2])) (.seq (.ops 1 [ (0,⟨some 3,none,.mv (.k (.d (.val (.slice none 0 0))))⟩)] (some [0,2,3])) (.seq (.seq (.ops 1 [ (0,⟨some 4,none,.mv (.k (.d (.val (.int .i64 0))))⟩)] (some [0,2,3,4])) (.block 0 (.loop (.seq (.seq (.ops 4 [ (0,⟨some 7,none,.mv (.t 4)⟩),(1,⟨some 8,none,.mv (.t 0)⟩),(2,⟨some 9,none,.lenS (.t 8)⟩),(3,⟨some 10,none,.arith .lss (.t 7) (.t 9)⟩)] (some [0,2,3,4,10])) (.cond (.t 10) .skip (.exit 0))) (.seq (.block 1 (.seq (.ops 6 [ (0,⟨some 13,none,.mv (.t 0)⟩),(1,⟨some 14,none,.mv (.t 4)⟩),(2,⟨some 15,none,.idxS 8 (.t 13) (.t 14)⟩),(3,⟨some 16,none,.fadd 0 (.t 15)⟩),(4,⟨some 17,none,.load none (.t 16)⟩),(5,⟨some 18,none,.arith .eql (.t 17) (.k (.d (.val (.int .i64 3))))⟩)] (some [0,2,3,4,18])) (.cond (.t 18) (.ops 8 [ (0,⟨some 19,none,.mv (.t 3)⟩),(1,⟨some 20,none,.mv (.t 0)⟩),(2,⟨some 21,none,.mv (.t 4)⟩),(3,⟨some 22,none,.idxS 8 (.t 20) (.t 21)⟩),(4,⟨some 23,none,.fadd 7 (.t 22)⟩),(5,⟨some 24,none,.load none (.t 23)⟩),(6,⟨some 25,none,.app [(.int .i64 0),(.int .u64 0),(.int .u64 0),(.int .u64 0),(.int .u64 0),(.int .i64 0),(.int .i64 0),(.slice none 0 0)] 80 (.t 19) (.t 24)⟩),(7,⟨some 3,none,.mv (.t 25)⟩)] (some [0,2,3,4])) (.ops 8 [ (0,⟨some 26,none,.mv (.t 3)⟩),(1,⟨some 27,none,.mv (.t 0)⟩),(2,⟨some 28,none,.mv (.t 4)⟩),(3,⟨some 29,none,.idxS 8 (.t 27) (.t 28)⟩),(4,⟨some 30,none,.load (some 8) (.t 29)⟩),(5,⟨some 31,none,.mkrow [(.int .i64 0),(.int .u64 0),(.int .u64 0),(.int .u64 0),(.int .u64 0),(.int .i64 0),(.int .i64 0),(.slice none 0 0)] 1 8 [(0,8,(.t 30))]⟩),(6,⟨some 32,none,.app [(.int .i64 0),(.int .u64 0),(.int .u64 0),(.int .u64 0),(.int .u64 0),(.int .i64 0),(.int .i64 0),(.slice none 0 0)] 80 (.t 26) (.t 31)⟩),(7,⟨some 3,none,.mv (.t 32)⟩)] (some [0,2,3,4]))))) (.ops 3 [ (0,⟨some 11,none,.mv (.t 4)⟩),(1,⟨some 12,none,.arith .add (.t 11) (.k (.d (.val (.int .i64 1))))⟩),(2,⟨some 4,none,.mv (.t 12)⟩)] (some [0,2,3,4]))))))) (.seq (.ops 1 [ (0,⟨some 5,none,.mv (.k (.d (.val (.slice none 0 0))))⟩)] (some [2,3,5])) (.seq (.seq (.ops 1 [ (0,⟨some 6,none,.mv (.k (.d (.val (.int .i64 0))))⟩)] (some [2,3,5,6])) (.block 2 (.loop (.seq (.seq (.ops 4 [ (0,⟨some 33,none,.mv (.t 6)⟩),(1,⟨some 34,none,.mv (.t 3)⟩),(2,⟨some 35,none,.lenS (.t 34)⟩),(3,⟨some 36,none,.arith .lss (.t 33) (.t 35)⟩)] (some [2,3,5,6,36])) (.cond (.t 36) .skip (.exit 2))) (.seq (.block 3 (.seq (.seq (.ops 5 [ (0,⟨some 39,none,.mv (.t 3)⟩),(1,⟨some 40,none,.mv (.t 6)⟩),(2,⟨some 41,none,.idxS 8 (.t 39) (.t 40)⟩),(3,⟨some 42,none,.load (some 8) (.t 41)⟩),(4,⟨some 43,none,.call 138 [(.t 42)] none false⟩)] (some [2,3,5,6,43])) (.cond (.t 43) (.seq (.ops 2 [ (0,⟨some 44,none,.build [(.int .i64 0),(.int .u64 0),(.int .u64 0),(.int .u64 0),(.int .u64 0),(.int .i64 0),(.int .i64 0),(.slice none 0 0)] [(0,1,(.k (.d (.val (.int .i64 2)))))]⟩),(1,⟨none,none,.store 8 (.t 2) (.t 44)⟩)] (some [2])) .ret) .skip)) (.seq (.ops 6 [ (0,⟨some 45,none,.mv (.t 3)⟩),(1,⟨some 46,none,.mv (.t 6)⟩),(2,⟨some 47,none,.idxS 8 (.t 45) (.t 46)⟩),(3,⟨some 48,none,.fadd 0 (.t 47)⟩),(4,⟨some 49,none,.load none (.t 48)⟩),(5,⟨some 50,none,.arith .neq (.t 49) (.k (.d (.val (.int .i64 1))))⟩)] (some [2,3,5,6,50])) (.cond (.t 50) (.ops 8 [ (0,⟨some 51,none,.mv (.t 5)⟩),(1,⟨some 52,none,.mv (.t 3)⟩),(2,⟨some 53,none,.mv (.t 6)⟩),(3,⟨some 54,none,.idxS 8 (.t 52) (.t 53)⟩),(4,⟨some 55,none,.load (some 8) (.t 54)⟩),(5,⟨some 56,none,.mkrow [(.int .i64 0),(.int .u64 0),(.int .u64 0),(.int .u64 0),(.int .u64 0),(.int .i64 0),(.int .i64 0),(.slice none 0 0)] 1 8 [(0,8,(.t 55))]⟩),(6,⟨some 57,none,.app [(.int .i64 0),(.int .u64 0),(.int .u64 0),(.int .u64 0),(.int .u64 0),(.int .i64 0),(.int .i64 0),(.slice none 0 0)] 80 (.t 51) (.t 56)⟩),(7,⟨some 5,none,.mv (.t 57)⟩)] (some [2,3,5,6])) .skip)))) (.ops 3 [ (0,⟨some 37,none,.mv (.t 6)⟩),(1,⟨some 38,none,.arith .add (.t 37) (.k (.d (.val (.int .i64 1))))⟩),(2,⟨some 6,none,.mv (.t 38)⟩)] (some [2,3,5,6]))))))) (.seq (.ops 4 [ (0,⟨some 58,none,.mv (.t 5)⟩),(1,⟨some 59,none,.build [(.int .i64 0),(.int .u64 0),(.int .u64 0),(.int .u64 0),(.int .u64 0),(.int .i64 0),(.int .i64 0),(.slice none 0 0)] [(0,1,(.k (.d (.val (.int .i64 1)))))]⟩),(2,⟨some 60,none,.call 139 [(.k (.d (.val (.int .i64 3)))),(.t 58),(.t 59)] none false⟩),(3,⟨none,none,.store 8 (.t 2) (.t 60)⟩)] (some [2])) .ret))))))
def md92 : FuncId→Option Nat × Bool
  | _=>(none,false)
def od92 : Nat→List (List Nat) × List Nat × Option (List Nat)
  | 0=>([],[],some [0,2])
  | 1=>([],[],some [0,2,3])
  | 2=>([],[],some [0,2,3,4])
  | 3=>([],[],some [0,2,3,4,10])
  | 4=>([],[],some [0,2,3,4])
  | 5=>([],[],some [0,2,3,4,18])
  | 6=>([],[],some [0,2,3,4])
  | 7=>([],[],some [0,2,3,4])
  | 8=>([],[],some [2,3,5])
  | 9=>([],[],some [2,3,5,6])
  | 10=>([],[],some [2,3,5,6,36])
  | 11=>([],[],some [2,3,5,6])
  | 12=>([],[],some [2,3,5,6,43])
  | 13=>([],[],some [2])
  | 14=>([],[],some [2,3,5,6,50])
  | 15=>([],[],some [2,3,5,6])
  | 16=>([],[],some [2])
  | _=>([],[],none)
theorem b92 {ags : List AV} {row : Option (List DV)} {r : AV} {row' nw : Option (List DV)} (hal : ags.length≤61) (hrow : row'.isSome=true→row.isSome=true) (h : xwp Try.prog x92 (retK [.cell 2 (some 8)] row.isSome r row' nw) (St.init ags row)) : Good Try.prog 92 ags row r row' nw :=
  good_of_body' (md:=md92) (od:=od92) Try.f92 (by kernel_rfl) (by kernel_rfl) (by kernel_rfl) (by kernel_rfl) (by kernel_rfl) hal hrow h

section
variable {P : Program} {Q : Cont} {fr : Fr} {C : Heap} {Z : Frz} {nx : Nat} {base n d : Nat} {l : List (Nat × XO)} {kp : Option (List Nat)} {x i y s : X}
theorem r_callS2 {f : FuncId} {xs : List X} {pre pre' post post' : List AV} {b m : Nat} {L : List T} {r : AV} {us : List Nat} (ha : xs.map (X.ev fr)=pre++.slL b 0 m 8 :: post) (hn : convAs C (fun _=>false) pre=some (pre',[])) (hp : convAs C (fun _=>false) post=some (post',[])) (hC : C b=some ((encL L).map AV.d)) (hm : L.length=m) (hg : Good P f (pre'++.d (.sl (encL L) m) :: post') none r none none) (hu : (if r.scalar=true then [] else if m=0 then [] else [b])=us)
    (k : R P l base kp Q nx (fr.put d r) C (Z.add us)) : R P ((n,⟨some d,none,.call f xs none false⟩) :: l) base kp Q nx fr C Z:=by
  subst hu
  refine r_call (bs:=pre'++.d (.sl (encL L) m) :: post') (us:=[]++((if m=0 then [] else [b])++[])) ha ?_ hg (by simp) k
  refine convAs_app hn ?_
  simp only [convAs,conv_rowA (ex:=fun _=>false) hC hm rfl,Option.bind_some,hp,Option.map_some]
end
theorem flatL_take (k : Int) (l : List T) (i : Nat) (h : i < l.length) : flatL k (l.take (i + 1))=flatL k (l.take i)++flatO k l[i]:=by
  rw [List.take_succ_eq_append_getElem h]
  have : ∀ l r : List T,flatL k (l++r)=flatL k l++flatL k r:=by
    intro l r
    induction l with
    | nil=>rfl
    | cons t l ih=>rw [List.cons_append,flatL,ih,flatL,List.append_assoc]
  rw [this,flatL,flatL,List.append_nil]
theorem flatL_len (k : Int) (l : List T) : (flatL k l).length≤cntL l:=Nat.le_trans (cntL_len _) (cntL_flat k l)
theorem filter_take (p : T→Bool) (l : List T) (i : Nat) (h : i < l.length) : (l.take (i + 1)).filter p=(l.take i).filter p++(if p l[i]=true then [l[i]] else []):=by
  rw [List.take_succ_eq_append_getElem h,List.filter_append]
  congr 1
  rw [List.filter_cons]
  split<;>rfl
theorem any_take (p : T→Bool) (l : List T) (i : Nat) (h : i < l.length) : (l.take (i + 1)).any p=((l.take i).any p || p l[i]):=by
  rw [List.take_succ_eq_append_getElem h,List.any_append];simp
set_option maxRecDepth 100000
set_option maxHeartbeats 4000000
attribute [local irreducible] W E R KP thenK blockK retK Good xwp aRun
theorem cat92_good (l : List T) (hc : cntL l≤50000000) : Good Try.prog 92 [.d (.sl (encL l) l.length)] none (nodeA (catS l)) none none:=by
  have hll:=cntL_len l
  have hfl:=flatL_len 3 l
  have hft : ∀ i,(flatL 3 (l.take i)).length≤50000000:=fun i=>by
    have h1:=flatL_len 3 (l.take i)
    have h2:=cntL_take_le l i
    omega
  refine b92 (by simp) (by simp) (w_init ?_)
  unfold x92
  repeat' (first|(apply r_mvV;rfl)|(apply r_alloc;((conv=>lhs;simp only [Nat.reduceAdd])<;>rfl);rfl)|(apply r_nilK)|(apply k_V;rfl)|(apply k_PL;rfl)|(apply k_S;rfl)|(apply k_nil)|(apply w_seq)|(apply w_ops;((conv=>lhs;simp only [Nat.reduceAdd])<;>rfl))|(apply e_thenN)|(apply w_block))
  apply w_loopI (S:=fun i : Nat=>⟨(((Fr.nil.put 0 (.d (.sl (encL l) l.length))).put 2 (.ptrL 1 0)).put 3 (.slL 50 0 (flatL 3 (l.take i)).length 8)).put 4 (.i i),rowsOf [(1,zeroA zsN),(50,(encL (flatL 3 (l.take i))).map AV.d)],Frz.buts 100 [1,50],100⟩) (m:=fun i=>l.length - i) (I:=fun i=>i≤l.length) (i0:=0)
  · exact Nat.zero_le _
  · refine wkM [] [50] rfl ?_ ?_ rfl ?_
    · intro p hp
      simp only [List.mem_cons,List.not_mem_nil,or_false] at hp
      rcases hp with rfl | rfl
      · exact ⟨by omega,.inr ⟨rfl,_,rfl,.data rfl⟩⟩
      · exact ⟨by omega,.inl ⟨rfl,rfl⟩⟩
    · intro q hq;simp only [List.mem_cons,List.not_mem_nil,or_false] at hq;rcases hq with rfl | rfl<;>rfl
    · repeat' (first|exact FWk.nil|(apply FWk.i;rfl;(first|rfl|omega|(simp;done)))|(apply FWk.ptr;rfl;rfl;rfl;omega;rfl)|(apply FWk.d;rfl;rfl)|(apply FWk.slN;rfl;omega;rfl))
  intro i K hi hK
  dsimp only
  rcases Nat.lt_or_ge i l.length with hlt | hge
  · have hs:=NodeAt.sub hlt
    have htk:=flatL_take 3 l i hlt
    have h1:=hft i
    have h2:=hft (i + 1)
    have hsub : l[i].subs.length≤50000000:=by
      have h3:=cntL_get l i hlt
      have h4:=cntL_len l[i].subs
      have h5 : cntL l[i].subs≤l[i].cnt:=by cases l[i];simp [T.subs,T.cnt]
      omega
    by_cases hk : l[i].kind=3
    · have e : flatO 3 l[i]=l[i].subs:=by rw [flatO,if_pos hk]
      rw [e] at htk
      generalize l[i]=v at hs hk htk hsub
      repeat' (first|(apply r_mvV;rfl)|(apply r_mvS;rfl)|(apply r_mvSL;rfl)|(apply r_faddD;rfl)|(apply r_p;apply ix_sub;rfl;rfl;omega)|(apply r_l;apply ld_kind';exact hs;rfl)|(apply r_l;apply ld_subs';exact hs;rfl)|(apply r_appD (b:=50) (id:=116) (K:=flatL 3 (l.take i)) (L:=v.subs);rfl;rfl;rfl;rfl;rfl;rfl;rfl;omega)|(apply r_eql;rfl;rfl;(first|(apply dT;omega)|(apply dF;omega)|rfl))|(apply r_lss;rfl;rfl;(first|(apply dT;omega)|(apply dF;omega)|rfl))|(apply r_add;rfl;rfl;rfl;omega)|(apply r_lenD;rfl)|(apply r_nilK)|(apply k_V;rfl)|(apply k_PL;rfl)|(apply k_S;rfl)|(apply k_SL;rfl)|(apply k_nil)|(apply w_seq)|(apply w_ops;((conv=>lhs;simp only [Nat.reduceAdd])<;>rfl))|(apply w_condT;rfl)|(apply e_thenN)|(apply w_block)|(apply e_blkN)|(apply w_skip))
      apply e_thenK
      apply hK (i + 1)
      · omega
      · omega
      · rw [htk]
        refine wkM [(50,116)] [] rfl ?_ ?_ rfl ?_
        · intro p hp
          simp only [List.mem_cons,List.not_mem_nil,or_false] at hp
          rcases hp with rfl | rfl
          · exact ⟨by omega,.inr ⟨rfl,_,rfl,.data rfl⟩⟩
          · exact ⟨by omega,.inr ⟨rfl,_,rfl,.data (isD_encL _)⟩⟩
        · intro q hq;simp only [List.mem_cons,List.not_mem_nil,or_false] at hq;rcases hq with rfl | rfl<;>rfl
        · rw [List.length_append]
          repeat' (first|exact FWk.nil|(apply FWk.i;rfl;(first|rfl|omega|(simp;done)))|(apply FWk.sl;rfl;rfl;rfl;rfl;omega;rfl)|(apply FWk.ptr;rfl;rfl;rfl;omega;rfl)|(apply FWk.d;rfl;rfl))
    · have e : flatO 3 l[i]=[l[i]]:=by rw [flatO,if_neg hk]
      rw [e] at htk
      generalize l[i]=v at hs hk htk hsub
      repeat' (first|(apply r_mvV;rfl)|(apply r_mvS;rfl)|(apply r_mvSL;rfl)|(apply r_faddD;rfl)|(apply r_p;apply ix_sub;rfl;rfl;omega)|(apply r_l;apply ld_kind';exact hs;rfl)|(apply r_l;apply ld_node';exact hs;rfl)|(apply r_mkN (t:=v) (id:=115);rfl;rfl)|(apply r_appE (b:=50) (c:=115) (id:=116) (K:=flatL 3 (l.take i)) (L:=[v]) (j:=1);rfl;rfl;rfl;rfl;rfl;rfl;rfl;rfl;omega)|(apply r_eql;rfl;rfl;(first|(apply dT;omega)|(apply dF;omega)|rfl))|(apply r_lss;rfl;rfl;(first|(apply dT;omega)|(apply dF;omega)|rfl))|(apply r_add;rfl;rfl;rfl;omega)|(apply r_lenD;rfl)|(apply r_nilK)|(apply k_V;rfl)|(apply k_PL;rfl)|(apply k_S;rfl)|(apply k_SL;rfl)|(apply k_nil)|(apply w_seq)|(apply w_ops;((conv=>lhs;simp only [Nat.reduceAdd])<;>rfl))|(apply w_condT;rfl)|(apply w_condF;rfl)|(apply e_thenN)|(apply w_block)|(apply e_blkN)|(apply w_skip))
      apply e_thenK
      apply hK (i + 1)
      · omega
      · omega
      · rw [htk]
        refine wkM [(50,116)] [] rfl ?_ ?_ rfl ?_
        · intro p hp
          simp only [List.mem_cons,List.not_mem_nil,or_false] at hp
          rcases hp with rfl | rfl
          · exact ⟨by omega,.inr ⟨rfl,_,rfl,.data rfl⟩⟩
          · exact ⟨by omega,.inr ⟨rfl,_,rfl,.data (isD_encL _)⟩⟩
        · intro q hq;simp only [List.mem_cons,List.not_mem_nil,or_false] at hq;rcases hq with rfl | rfl<;>rfl
        · rw [List.length_append]
          repeat' (first|exact FWk.nil|(apply FWk.i;rfl;(first|rfl|omega|(simp;done)))|(apply FWk.sl;rfl;rfl;rfl;rfl;omega;rfl)|(apply FWk.ptr;rfl;rfl;rfl;omega;rfl)|(apply FWk.d;rfl;rfl))
  have ei : i=l.length:=by omega
  subst ei
  rw [List.take_length]
  have hcat : catS l=if (flatL 3 l).any isNo=true then noneT else ofT 3 ((flatL 3 l).filter notE) emptyT:=rfl
  rw [hcat]
  clear hcat hK hft hge hi
  generalize flatL 3 l=out at hfl ⊢
  repeat' (first|(apply r_mvV;rfl)|(apply r_mvS;rfl)|(apply r_lss;rfl;rfl;(first|(apply dT;omega)|(apply dF;omega)|rfl))|(apply r_lenD;rfl)|(apply r_nilK)|(apply k_V;rfl)|(apply k_PL;rfl)|(apply k_S;rfl)|(apply k_SL;rfl)|(apply k_nil)|(apply w_seq)|(apply w_ops;((conv=>lhs;simp only [Nat.reduceAdd])<;>rfl))|(apply w_condF;rfl)|(apply e_thenN)|(apply w_block)|(apply e_thenX)|(apply e_blkE)|(apply w_exit))
  apply w_loopI (S:=fun j : Nat=>⟨(((Fr.nil.put 2 (.ptrL 1 0)).put 3 (.slL 50 0 out.length 8)).put 5 (.slL 51 0 ((out.take j).filter notE).length 8)).put 6 (.i j),rowsOf [(1,zeroA zsN),(50,(encL out).map AV.d),(51,(encL ((out.take j).filter notE)).map AV.d)],Frz.buts 100 [1,51],100⟩) (m:=fun j=>out.length - j) (I:=fun j=>j≤out.length∧(out.take j).any isNo=false) (i0:=0)
  · exact ⟨Nat.zero_le _,rfl⟩
  · refine wkM [(51,1000000)] [51] rfl ?_ ?_ rfl ?_
    · intro p hp
      simp only [List.mem_cons,List.not_mem_nil,or_false] at hp
      rcases hp with rfl | rfl | rfl
      · exact ⟨by omega,.inr ⟨rfl,_,rfl,.data rfl⟩⟩
      · exact ⟨by omega,.inr ⟨rfl,_,rfl,.data (isD_encL _)⟩⟩
      · exact ⟨by omega,.inl ⟨rfl,rfl⟩⟩
    · intro q hq;simp only [List.mem_cons,List.not_mem_nil,or_false] at hq;rcases hq with rfl | rfl<;>rfl
    · repeat' (first|exact FWk.nil|(apply FWk.i;rfl;(first|rfl|omega|(simp;done)))|(apply FWk.sl;rfl;rfl;rfl;rfl;omega;rfl)|(apply FWk.ptr;rfl;rfl;rfl;omega;rfl)|(apply FWk.slN;rfl;omega;rfl))
  rintro j K ⟨hj,hany⟩ hK
  dsimp only
  rcases Nat.lt_or_ge j out.length with hlt | hge
  · have hs:=NodeAt.sub hlt
    have htk:=filter_take notE out j hlt
    have hat:=any_take isNo out j hlt
    rw [hany,Bool.false_or] at hat
    have hn:=no138_good out[j]
    have hna : [nodeA out[j]].all AV.nrm=true:=by rw [List.all_cons,nodeA_nrm];rfl
    have hmem : out[j] ∈ out:=List.getElem_mem hlt
    have hfl2 : ((out.take j).filter notE).length≤j:=Nat.le_trans (List.length_filter_le _ _) (by rw [List.length_take];omega)
    rcases Bool.eq_false_or_eq_true (isNo out[j]) with hq | hq
    · have hcat : out.any isNo=true:=List.any_eq_true.2 ⟨_,hmem,hq⟩
      rw [if_pos hcat]
      rw [hq] at hn
      generalize out[j]=v at hs hn hna
      repeat' (first|(apply r_mvV;rfl)|(apply r_mvSL;rfl)|(apply r_ixN (j:=j);rfl;rfl;rfl;omega)|(apply r_ldN;rfl;rfl;exact hs)|(apply r_callA (ags:=[nodeA v]);rfl;exact hna;exact hn)|(apply r_p (v:=.agg [.i 2,.d (.val (.int .u64 0)),.d (.val (.int .u64 0)),.d (.val (.int .u64 0)),.d (.val (.int .u64 0)),.i 0,.i 0,.d (.val (.slice none 0 0))]);rfl)|(apply r_lss;rfl;rfl;(first|(apply dT;omega)|(apply dF;omega)|rfl))|(apply r_lenL;rfl)|(apply r_stL;rfl;rfl;rfl;rfl;(first|rfl|(simp only [z_nil,z_add]<;>rfl));rfl;rfl)|(apply r_nilK)|(apply k_V;rfl)|(apply k_PL;rfl)|(apply k_SL;rfl)|(apply k_nil)|(apply e_ret;rfl)|(apply w_seq)|(apply w_ops;((conv=>lhs;simp only [Nat.reduceAdd])<;>rfl))|(apply w_condT;rfl)|(apply e_thenN)|(apply w_block)|(apply e_thenR)|(apply e_blkR)|(apply w_ret)|(apply w_skip))
      exact .data _ rfl
    · rw [hq] at hn hat
      by_cases hk : out[j].kind=1
      · have e : notE out[j]=false:=by simp [notE,hk]
        rw [if_neg (by simp [e]),List.append_nil] at htk
        generalize out[j]=v at hs hn hna hk
        repeat' (first|(apply r_mvV;rfl)|(apply r_mvSL;rfl)|(apply r_faddL;rfl)|(apply r_ixN (j:=j);rfl;rfl;rfl;omega)|(apply r_ldN;rfl;rfl;exact hs)|(apply r_callA (ags:=[nodeA v]);rfl;exact hna;exact hn)|(apply r_ldNk;rfl;rfl;exact hs)|(apply r_neq;rfl;rfl;(first|(apply dT;omega)|(apply dF;omega)|rfl))|(apply r_lss;rfl;rfl;(first|(apply dT;omega)|(apply dF;omega)|rfl))|(apply r_add;rfl;rfl;rfl;omega)|(apply r_lenL;rfl)|(apply r_nilK)|(apply k_V;rfl)|(apply k_PL;rfl)|(apply k_SL;rfl)|(apply k_nil)|(apply w_seq)|(apply w_ops;((conv=>lhs;simp only [Nat.reduceAdd])<;>rfl))|(apply w_condT;rfl)|(apply w_condF;rfl)|(apply e_thenN)|(apply w_block)|(apply e_blkN)|(apply w_skip))
        apply e_thenK
        apply hK (j + 1)
        · exact ⟨by omega,hat⟩
        · omega
        · rw [htk]
          refine wkM [] [] rfl ?_ ?_ rfl ?_
          · intro p hp
            simp only [List.mem_cons,List.not_mem_nil,or_false] at hp
            rcases hp with rfl | rfl | rfl
            · exact ⟨by omega,.inr ⟨rfl,_,rfl,.data rfl⟩⟩
            · exact ⟨by omega,.inr ⟨rfl,_,rfl,.data (isD_encL _)⟩⟩
            · exact ⟨by omega,.inr ⟨rfl,_,rfl,.data (isD_encL _)⟩⟩
          · intro q hq;simp only [List.mem_cons,List.not_mem_nil,or_false] at hq;rcases hq with rfl | rfl<;>rfl
          · repeat' (first|exact FWk.nil|(apply FWk.i;rfl;(first|rfl|omega|(simp;done)))|(apply FWk.sl;rfl;rfl;rfl;rfl;omega;rfl)|(apply FWk.ptr;rfl;rfl;rfl;omega;rfl))
      · have e : notE out[j]=true:=by simp [notE,hk]
        rw [if_pos e] at htk
        generalize out[j]=v at hs hn hna hk htk
        repeat' (first|(apply r_mvV;rfl)|(apply r_mvSL;rfl)|(apply r_faddL;rfl)|(apply r_ixN (j:=j);rfl;rfl;rfl;omega)|(apply r_ldN;rfl;rfl;exact hs)|(apply r_callA (ags:=[nodeA v]);rfl;exact hna;exact hn)|(apply r_ldNk;rfl;rfl;exact hs)|(apply r_mkN (t:=v) (id:=120);rfl;rfl)|(apply r_appE (b:=51) (c:=120) (id:=121) (K:=(out.take j).filter notE) (L:=[v]) (j:=1);rfl;rfl;rfl;rfl;rfl;rfl;rfl;rfl;omega)|(apply r_neq;rfl;rfl;(first|(apply dT;omega)|(apply dF;omega)|rfl))|(apply r_lss;rfl;rfl;(first|(apply dT;omega)|(apply dF;omega)|rfl))|(apply r_add;rfl;rfl;rfl;omega)|(apply r_lenL;rfl)|(apply r_nilK)|(apply k_V;rfl)|(apply k_PL;rfl)|(apply k_SL;rfl)|(apply k_nil)|(apply w_seq)|(apply w_ops;((conv=>lhs;simp only [Nat.reduceAdd])<;>rfl))|(apply w_condT;rfl)|(apply w_condF;rfl)|(apply e_thenN)|(apply w_block)|(apply e_blkN)|(apply w_skip))
        apply e_thenK
        apply hK (j + 1)
        · exact ⟨by omega,hat⟩
        · omega
        · rw [htk]
          refine wkM [(51,121)] [] rfl ?_ ?_ rfl ?_
          · intro p hp
            simp only [List.mem_cons,List.not_mem_nil,or_false] at hp
            rcases hp with rfl | rfl | rfl
            · exact ⟨by omega,.inr ⟨rfl,_,rfl,.data rfl⟩⟩
            · exact ⟨by omega,.inr ⟨rfl,_,rfl,.data (isD_encL _)⟩⟩
            · exact ⟨by omega,.inr ⟨rfl,_,rfl,.data (isD_encL _)⟩⟩
          · intro q hq;simp only [List.mem_cons,List.not_mem_nil,or_false] at hq;rcases hq with rfl | rfl<;>rfl
          · rw [List.length_append]
            repeat' (first|exact FWk.nil|(apply FWk.i;rfl;(first|rfl|omega|(simp;done)))|(apply FWk.sl;rfl;rfl;rfl;rfl;omega;rfl)|(apply FWk.ptr;rfl;rfl;rfl;omega;rfl))
  have ej : j=out.length:=by omega
  subst ej
  rw [List.take_length] at hany ⊢
  rw [if_neg (by simp [hany])]
  have hle : (out.filter notE).length≤100000000:=by
    have:=List.length_filter_le notE out
    omega
  clear hK hge hj hany
  have hof:=of139_good 3 (out.filter notE) emptyT hle
  generalize out.filter notE=L at hle hof ⊢
  generalize ofT 3 L emptyT=u at hof
  obtain ⟨k2,a2,b2,c2,d2,mn2,mx2,subs2⟩:=u
  match L,hle,hof with
  | [],hle,hof =>
    simp only [List.length_nil] at hof ⊢
    repeat' (first|(apply r_mvV;rfl)|(apply r_mvSL;rfl)|(apply r_p (v:=.agg [.i 1,.d (.val (.int .u64 0)),.d (.val (.int .u64 0)),.d (.val (.int .u64 0)),.d (.val (.int .u64 0)),.i 0,.i 0,.d (.val (.slice none 0 0))]);rfl)|(apply r_callS2 (pre:=[.i 3]) (pre':=[.i 3]) (post:=[.agg [.i 1,.d (.val (.int .u64 0)),.d (.val (.int .u64 0)),.d (.val (.int .u64 0)),.d (.val (.int .u64 0)),.i 0,.i 0,.d (.val (.slice none 0 0))]]) (post':=[nodeA emptyT]) (b:=51) (L:=[]) (us:=[]);rfl;rfl;rfl;rfl;rfl;exact hof;rfl)|(apply r_lss;rfl;rfl;(first|(apply dT;omega)|(apply dF;omega)|rfl))|(apply r_lenL;rfl)|(apply r_stL;rfl;rfl;rfl;rfl;(first|rfl|(simp only [z_nil,z_add]<;>rfl));rfl;rfl)|(apply r_nilK)|(apply k_V;rfl)|(apply k_PL;rfl)|(apply k_SL;rfl)|(apply k_nil)|(apply e_ret;rfl)|(apply w_seq)|(apply w_ops;((conv=>lhs;simp only [Nat.reduceAdd])<;>rfl))|(apply w_condF;rfl)|(apply e_thenN)|(apply e_thenX)|(apply e_blkE)|(apply w_exit)|(apply w_ret))
    exact .data _ rfl
  | x :: r,hle,hof =>
    simp only [List.length_cons] at hof ⊢
    repeat' (first|(apply r_mvV;rfl)|(apply r_mvSL;rfl)|(apply r_p (v:=.agg [.i 1,.d (.val (.int .u64 0)),.d (.val (.int .u64 0)),.d (.val (.int .u64 0)),.d (.val (.int .u64 0)),.i 0,.i 0,.d (.val (.slice none 0 0))]);rfl)|(apply r_callS2 (pre:=[.i 3]) (pre':=[.i 3]) (post:=[.agg [.i 1,.d (.val (.int .u64 0)),.d (.val (.int .u64 0)),.d (.val (.int .u64 0)),.d (.val (.int .u64 0)),.i 0,.i 0,.d (.val (.slice none 0 0))]]) (post':=[nodeA emptyT]) (b:=51) (L:=x :: r) (us:=[51]);rfl;rfl;rfl;rfl;rfl;exact hof;rfl)|(apply r_lss;rfl;rfl;(first|(apply dT;omega)|(apply dF;omega)|rfl))|(apply r_lenL;rfl)|(apply r_stL;rfl;rfl;rfl;rfl;(first|rfl|(simp only [z_nil,z_add]<;>rfl));rfl;rfl)|(apply r_nilK)|(apply k_V;rfl)|(apply k_PL;rfl)|(apply k_SL;rfl)|(apply k_nil)|(apply e_ret;rfl)|(apply w_seq)|(apply w_ops;((conv=>lhs;simp only [Nat.reduceAdd])<;>rfl))|(apply w_condF;rfl)|(apply e_thenN)|(apply e_thenX)|(apply e_blkE)|(apply w_exit)|(apply w_ret))
    exact .data _ rfl
end Go.Sv
