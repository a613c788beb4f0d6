/- A part of the proof of the law ExpandFirst: that it answers true for every input, and that the input reads behind the call as before (no condition). -/
import Derived.Test.YtcnlgmajkclgjaaExpandFirstG7
set_option linter.all false
set_option linter.unusedSectionVars false
set_option linter.unusedVariables false
set_option linter.unusedSimpArgs false
namespace Go.Sv
open Go Go.Proofs
set_option maxRecDepth 100000
set_option maxHeartbeats 4000000
attribute [local irreducible] W E R KP thenK blockK retK Good xwp aRun
theorem least62_m (m0 : Nat) : ∀ (n : Nat) (t : T),t.cnt≤n→n≤1000000→okT t→allK m0 t→((t.cnt : Nat) : Int) * pw m0≤16384000000000000000→Good Try.prog 62 [nodeA t] none (.i (knT t).lo) none none:=by
  intro n
  induction n with
  | zero=>intro t ht;have:=cnt_pos t;omega
  | succ n ih =>
  intro t ht hc hok hak hbt
  have hnn:=none51_good 1000000 t (by omega) (by omega) hok
  rw [nn_kn hok] at hnn
  have hkt:=allK_self hak
  obtain ⟨k,a,b,c,d,mn,mx,subs⟩:=t
  have e0 : nodeA (T.node k a b c d mn mx subs)=.agg [.i k,.d (.val (.int .u64 a)),.d (.val (.int .u64 b)),.d (.val (.int .u64 c)),.d (.val (.int .u64 d)),.i mn,.i mx,.d (.sl (encL subs) subs.length)]:=rfl
  have hoks:=okT_subs hok
  have hakl : allKL m0 subs:=hak.2
  have hpw:=pw_pos m0
  have hR:=okT_R hok
  have ih' : ∀ i (h : i < subs.length),Good Try.prog 62 [nodeA subs[i]] none (.i (knT subs[i]).lo) none none:=by
    intro i h
    refine ih _ ?_ (by omega) (okL_get subs i h hoks) (allKL_get hakl i h) ?_
    · have:=cntL_get subs i h
      simp only [T.cnt] at ht
      omega
    · have h1:=cntL_get subs i h
      have : ((subs[i].cnt : Nat) : Int) * pw m0≤(((T.node k a b c d mn mx subs).cnt : Nat) : Int) * pw m0:=Int.mul_le_mul_of_nonneg_right (by simp only [T.cnt];omega) (by omega)
      omega
  have hksub : ∀ i (h : i < subs.length),okF (knT subs[i]) ((subs[i].cnt : Nat) * pw m0):=fun i h=>allK_self (allKL_get hakl i h)
  have hpl:=okT_plain hok
  have hlen : subs.length≤1000000:=by
    have:=cntL_len subs
    simp only [T.cnt] at ht
    omega
  rw [e0] at hnn ⊢
  cases hno : (knT (T.node k a b c d mn mx subs)).no with
  | true =>
    have e : (knT (T.node k a b c d mn mx subs)).lo=-1:=by rw [hkt.2.1 hno];rfl
    rw [e]
    rw [hno] at hnn
    clear ih ih' hksub hkt hok hoks hbt ht hR hpl hno e
    refine b62 (by simp) (by simp) (w_init ?_)
    unfold x62
    repeat' (first
    | (apply r_mvV;rfl)
    | (apply r_mvP;rfl)
    | (apply r_mvPL;rfl)
    | (apply r_mvS;rfl)
    | (apply r_mvSL;rfl)
    | (apply r_mvA;rfl)
    | (apply r_mvT;rfl)
    | (apply r_mvF;rfl)
    | (apply r_mvD;rfl)
    | (apply r_faddD;rfl)
    | (apply r_faddL;rfl)
    | (apply r_l;apply ld_kind;assumption;rfl)
    | (apply r_l;apply ld_mn;assumption;rfl)
    | (apply r_l;apply ld_mx;assumption;rfl)
    | (apply r_l;apply ld_subs;assumption;rfl)
    | (apply r_l;apply ld_set;assumption;rfl)
    | (apply r_l;apply ld_node;assumption;rfl)
    | (apply r_l;apply ld_kind';assumption;rfl)
    | (apply r_l;apply ld_mn';assumption;rfl)
    | (apply r_l;apply ld_mx';assumption;rfl)
    | (apply r_l;apply ld_subs';assumption;rfl)
    | (apply r_l;apply ld_node';assumption;rfl)
    | (apply r_callA (f:=51);rfl;rfl;exact hnn)
    | (apply r_ldL;rfl;rfl;rfl)
    | (apply r_eql;rfl;rfl;(first | (apply dT;omega) | (apply dF;omega) | rfl))
    | (apply r_lss;rfl;rfl;(first | (apply dT;omega) | (apply dF;omega) | rfl))
    | (apply r_gtr;rfl;rfl;(first | (apply dT;omega) | (apply dF;omega) | rfl))
    | (apply r_geq;rfl;rfl;(first | (apply dT;omega) | (apply dF;omega) | rfl))
    | (apply r_add;rfl;rfl;rfl;omega)
    | (apply r_pickT;rfl)
    | (apply r_pickF;rfl)
    | (apply r_lenD;rfl)
    | (apply r_lenL;rfl)
    | (apply r_len0;rfl)
    | (apply r_gT;rfl)
    | (apply r_gF';rfl;rfl)
    | (apply r_gN';rfl)
    | ((apply r_gS (o:=default);rfl)<;>(intro h;try simp only [decide_eq_true_eq,decide_eq_false_iff_not,Bool.not_eq_true,Bool.not_eq_false] at h))
    | (apply r_box;((conv=>lhs;simp only [Nat.reduceAdd])<;>rfl);rfl;rfl;rfl)
    | (apply r_p;rfl)
    | (apply r_nilK)
    | (apply r_nil)
    | (apply k_V;rfl)
    | (apply k_P;rfl)
    | (apply k_PL;rfl)
    | (apply k_S;rfl)
    | (apply k_SL;rfl)
    | (apply k_A;rfl)
    | (apply k_T;rfl)
    | (apply k_F;rfl)
    | (apply k_D;rfl;rotate_left;rfl)
    | (apply k_nil)
    | (apply e_ret (vs:=[.d (.val _)]);rfl)
    | (apply e_ret;rfl)
    | (apply e_ret' (vs:=[.d (.val _)]);rfl)
    | (apply e_ret';rfl)
    | (apply w_seq)
    | (apply w_ops;((conv=>lhs;simp only [Nat.reduceAdd])<;>rfl))
    | (apply w_condT;rfl)
    | (apply w_condF;rfl)
    | ((apply w_condS;rfl)<;>(intro h;try simp only [decide_eq_true_eq,decide_eq_false_iff_not,Bool.not_eq_true,Bool.not_eq_false] at h))
    | (apply e_thenN)
    | (apply w_block)
    | (apply e_thenR)
    | (apply e_thenX)
    | (apply e_blkN)
    | (apply e_blkR)
    | (apply e_blkE)
    | (apply w_exit)
    | (apply w_ret)
    | (apply w_skip)
    | (apply e_blkE';rfl))
    exact retI rfl
  | false =>
  rw [hno] at hnn
  by_cases h2 : k=2
  · have e : (knT (T.node k a b c d mn mx subs)).lo=1:=by
      rw [knT,if_pos h2] at hno ⊢
      split
      · rename_i hz;rw [if_pos hz] at hno;simp [faNo] at hno
      · rfl
    rw [e]
    clear ih ih' hksub hkt hok hoks hbt ht hR hpl hno e
    refine b62 (by simp) (by simp) (w_init ?_)
    unfold x62
    repeat' (first
    | (apply r_mvV;rfl)
    | (apply r_mvP;rfl)
    | (apply r_mvPL;rfl)
    | (apply r_mvS;rfl)
    | (apply r_mvSL;rfl)
    | (apply r_mvA;rfl)
    | (apply r_mvT;rfl)
    | (apply r_mvF;rfl)
    | (apply r_mvD;rfl)
    | (apply r_faddD;rfl)
    | (apply r_faddL;rfl)
    | (apply r_l;apply ld_kind;assumption;rfl)
    | (apply r_l;apply ld_mn;assumption;rfl)
    | (apply r_l;apply ld_mx;assumption;rfl)
    | (apply r_l;apply ld_subs;assumption;rfl)
    | (apply r_l;apply ld_set;assumption;rfl)
    | (apply r_l;apply ld_node;assumption;rfl)
    | (apply r_l;apply ld_kind';assumption;rfl)
    | (apply r_l;apply ld_mn';assumption;rfl)
    | (apply r_l;apply ld_mx';assumption;rfl)
    | (apply r_l;apply ld_subs';assumption;rfl)
    | (apply r_l;apply ld_node';assumption;rfl)
    | (apply r_callA (f:=51);rfl;rfl;exact hnn)
    | (apply r_ldL;rfl;rfl;rfl)
    | (apply r_eql;rfl;rfl;(first | (apply dT;omega) | (apply dF;omega) | rfl))
    | (apply r_lss;rfl;rfl;(first | (apply dT;omega) | (apply dF;omega) | rfl))
    | (apply r_gtr;rfl;rfl;(first | (apply dT;omega) | (apply dF;omega) | rfl))
    | (apply r_geq;rfl;rfl;(first | (apply dT;omega) | (apply dF;omega) | rfl))
    | (apply r_add;rfl;rfl;rfl;omega)
    | (apply r_pickT;rfl)
    | (apply r_pickF;rfl)
    | (apply r_lenD;rfl)
    | (apply r_lenL;rfl)
    | (apply r_len0;rfl)
    | (apply r_gT;rfl)
    | (apply r_gF';rfl;rfl)
    | (apply r_gN';rfl)
    | ((apply r_gS (o:=default);rfl)<;>(intro h;try simp only [decide_eq_true_eq,decide_eq_false_iff_not,Bool.not_eq_true,Bool.not_eq_false] at h))
    | (apply r_box;((conv=>lhs;simp only [Nat.reduceAdd])<;>rfl);rfl;rfl;rfl)
    | (apply r_p;rfl)
    | (apply r_nilK)
    | (apply r_nil)
    | (apply k_V;rfl)
    | (apply k_P;rfl)
    | (apply k_PL;rfl)
    | (apply k_S;rfl)
    | (apply k_SL;rfl)
    | (apply k_A;rfl)
    | (apply k_T;rfl)
    | (apply k_F;rfl)
    | (apply k_D;rfl;rotate_left;rfl)
    | (apply k_nil)
    | (apply e_ret (vs:=[.d (.val _)]);rfl)
    | (apply e_ret;rfl)
    | (apply e_ret' (vs:=[.d (.val _)]);rfl)
    | (apply e_ret';rfl)
    | (apply w_seq)
    | (apply w_ops;((conv=>lhs;simp only [Nat.reduceAdd])<;>rfl))
    | (apply w_condT;rfl)
    | (apply w_condF;rfl)
    | ((apply w_condS;rfl)<;>(intro h;try simp only [decide_eq_true_eq,decide_eq_false_iff_not,Bool.not_eq_true,Bool.not_eq_false] at h))
    | (apply e_thenN)
    | (apply w_block)
    | (apply e_thenR)
    | (apply e_thenX)
    | (apply e_blkN)
    | (apply e_blkR)
    | (apply e_blkE)
    | (apply w_exit)
    | (apply w_ret)
    | (apply w_skip)
    | (apply e_blkE';rfl))
    exact retI rfl
  have hsub' : ∀ u ∈ subs,okF (knT u) ((u.cnt : Nat) * pw m0):=fun u hu=>allK_self (allKL_mem hakl hu)
  have hpb : ∀ i,((cntL (subs.take i) : Nat) : Int) * pw m0≤16384000000000000000:=by
    intro i
    have h1:=cntL_take_le subs i
    have h2 : ((cntL (subs.take i) : Nat) : Int) * pw m0≤(((T.node k a b c d mn mx subs).cnt : Nat) : Int) * pw m0:=by
      exact Int.mul_le_mul_of_nonneg_right (by simp only [T.cnt];omega) (by omega)
    omega
  by_cases h3 : k=3
  · have e : knT (T.node k a b c d mn mx subs)=knC subs faE:=by rw [knT,if_neg h2,if_pos h3]
    rw [e] at hno ⊢
    obtain ⟨_,hall⟩:=knC_no subs faE hno
    have hacc : ∀ i,i≤subs.length→(knC (subs.take i) faE).no=false∧0≤(knC (subs.take i) faE).lo∧2 * (knC (subs.take i) faE).lo≤16384000000000000000:=by
      intro i hi
      have h1:=knC_ok m0 (subs.take i) faE 0 (Int.le_refl _) (okF_E (Int.le_refl _)) (fun u hu=>hsub' u (List.mem_of_mem_take hu))
      have h4 : (knC (subs.take i) faE).no=false:=by
        have : knC subs faE=knC (subs.drop i) (knC (subs.take i) faE):=by rw [← knC_app,List.take_append_drop]
        rw [this] at hno
        exact (knC_no _ _ hno).1
      refine ⟨h4,(h1.2.2.1 h4).1,?_⟩
      have:=hpb i
      have:=h1.2.2.2.1
      omega
    have hstep : ∀ i (h : i < subs.length),(knC (subs.take (i + 1)) faE).lo=(knC (subs.take i) faE).lo + (knT subs[i]).lo:=fun i h=>by
      rw [knC_step subs i h]
      exact (faThen_val (hacc i (by omega)).1 (hall _ (List.getElem_mem h))).1
    have hlos : ∀ i (h : i < subs.length),0≤(knT subs[i]).lo:=fun i h=>((hksub i h).2.2.1 (hall _ (List.getElem_mem h))).1
    clear ih hkt hok hbt ht hR hpl hsub' hpb hall e hksub hoks
    refine b62 (by simp) (by simp) (w_init ?_)
    unfold x62
    repeat' (first
    | (apply r_mvV;rfl)
    | (apply r_mvP;rfl)
    | (apply r_mvPL;rfl)
    | (apply r_mvS;rfl)
    | (apply r_mvSL;rfl)
    | (apply r_mvA;rfl)
    | (apply r_mvT;rfl)
    | (apply r_mvF;rfl)
    | (apply r_mvD;rfl)
    | (apply r_faddD;rfl)
    | (apply r_faddL;rfl)
    | (apply r_l;apply ld_kind;assumption;rfl)
    | (apply r_l;apply ld_mn;assumption;rfl)
    | (apply r_l;apply ld_mx;assumption;rfl)
    | (apply r_l;apply ld_subs;assumption;rfl)
    | (apply r_l;apply ld_set;assumption;rfl)
    | (apply r_l;apply ld_node;assumption;rfl)
    | (apply r_l;apply ld_kind';assumption;rfl)
    | (apply r_l;apply ld_mn';assumption;rfl)
    | (apply r_l;apply ld_mx';assumption;rfl)
    | (apply r_l;apply ld_subs';assumption;rfl)
    | (apply r_l;apply ld_node';assumption;rfl)
    | (apply r_callA (f:=51);rfl;rfl;exact hnn)
    | (apply r_ldL;rfl;rfl;rfl)
    | (apply r_eql;rfl;rfl;(first | (apply dT;omega) | (apply dF;omega) | rfl))
    | (apply r_lss;rfl;rfl;(first | (apply dT;omega) | (apply dF;omega) | rfl))
    | (apply r_gtr;rfl;rfl;(first | (apply dT;omega) | (apply dF;omega) | rfl))
    | (apply r_geq;rfl;rfl;(first | (apply dT;omega) | (apply dF;omega) | rfl))
    | (apply r_add;rfl;rfl;rfl;omega)
    | (apply r_pickT;rfl)
    | (apply r_pickF;rfl)
    | (apply r_lenD;rfl)
    | (apply r_lenL;rfl)
    | (apply r_len0;rfl)
    | (apply r_gT;rfl)
    | (apply r_gF';rfl;rfl)
    | (apply r_gN';rfl)
    | ((apply r_gS (o:=default);rfl)<;>(intro h;try simp only [decide_eq_true_eq,decide_eq_false_iff_not,Bool.not_eq_true,Bool.not_eq_false] at h))
    | (apply r_box;((conv=>lhs;simp only [Nat.reduceAdd])<;>rfl);rfl;rfl;rfl)
    | (apply r_p;rfl)
    | (apply r_nilK)
    | (apply r_nil)
    | (apply k_V;rfl)
    | (apply k_P;rfl)
    | (apply k_PL;rfl)
    | (apply k_S;rfl)
    | (apply k_SL;rfl)
    | (apply k_A;rfl)
    | (apply k_T;rfl)
    | (apply k_F;rfl)
    | (apply k_D;rfl;rotate_left;rfl)
    | (apply k_nil)
    | (apply e_ret (vs:=[.d (.val _)]);rfl)
    | (apply e_ret;rfl)
    | (apply e_ret' (vs:=[.d (.val _)]);rfl)
    | (apply e_ret';rfl)
    | (apply w_seq)
    | (apply w_ops;((conv=>lhs;simp only [Nat.reduceAdd])<;>rfl))
    | (apply w_condT;rfl)
    | (apply w_condF;rfl)
    | ((apply w_condS;rfl)<;>(intro h;try simp only [decide_eq_true_eq,decide_eq_false_iff_not,Bool.not_eq_true,Bool.not_eq_false] at h))
    | (apply e_thenN)
    | (apply w_block)
    | (apply e_thenR)
    | (apply e_thenX)
    | (apply e_blkN)
    | (apply e_blkR)
    | (apply e_blkE)
    | (apply w_exit)
    | (apply w_ret)
    | (apply w_skip)
    | (apply e_blkE';rfl))
    apply w_loopI (S:=fun i : Nat=>⟨(((Fr.nil.put 1 (.ptrL 1 0)).put 3 (.i (knC (subs.take i) faE).lo))).put 4 (.i i),rowsOf [(1,[.i k,.d (.val (.int .u64 a)),.d (.val (.int .u64 b)),.d (.val (.int .u64 c)),.d (.val (.int .u64 d)),.i mn,.i mx,.d (.sl (encL subs) subs.length)])],Frz.lo 100,100⟩) (m:=fun i=>subs.length - i) (I:=fun i=>i≤subs.length) (i0:=0)
    · exact Nat.zero_le _
    · refine wkRs (by omega) ?_ ?_
      · intro p hp;simp only [List.mem_cons,List.not_mem_nil,or_false] at hp;rcases hp with rfl<;>exact ⟨by omega,rfl,rfl⟩
      · repeat' (first
    | exact FWk.nil
    | (apply FWk.i;rfl;(first | rfl | omega | (simp;done)))
    | (apply FWk.sl;rfl;rfl;rfl;rfl;omega;rfl)
    | (apply FWk.ptr;rfl;rfl;rfl;omega;rfl)
    | (apply FWk.d;rfl;rfl)
    | (apply FWk.a;rfl;rfl;rfl)
    | (apply FWk.slN;rfl;omega;rfl))
    intro i K hi hK
    dsimp only
    rcases Nat.lt_or_ge i subs.length with hlt | hge
    · have hsu:=NodeAt.sub hlt
      have hg:=ih' i hlt
      have hs1:=hstep i hlt
      have hb1:=hacc i (by omega)
      have hb2:=hacc (i + 1) (by omega)
      have hl:=hlos i hlt
      have hnu:=nodeA_nrm subs[i]
      have hna : [nodeA subs[i]].all AV.nrm=true:=by rw [List.all_cons,hnu];rfl
      have fin : ∀ fr C Z nx,Wk ⟨fr,C,Z,nx⟩ ⟨(((Fr.nil.put 1 (.ptrL 1 0)).put 3 (.i ((knC (subs.take i) faE).lo + (knT subs[i]).lo)))).put 4 (.i ((i + 1 : Nat) : Int)),rowsOf [(1,[.i k,.d (.val (.int .u64 a)),.d (.val (.int .u64 b)),.d (.val (.int .u64 c)),.d (.val (.int .u64 d)),.i mn,.i mx,.d (.sl (encL subs) subs.length)])],Frz.lo 100,100⟩→K ⟨fr,C,Z,nx⟩:=fun fr C Z nx hw=>hK (i + 1) fr C Z nx (by omega) (by omega) (by rw [hs1];exact hw)
      rw [hs1] at hb2
      generalize (knC (subs.take i) faE).lo=f1 at *
      generalize (knT subs[i]).lo=g1 at *
      generalize subs[i]=u at hsu hg hna
      clear hacc hstep hlos ih'
      repeat' (first
    | (apply r_mvV;rfl)
    | (apply r_mvP;rfl)
    | (apply r_mvPL;rfl)
    | (apply r_mvS;rfl)
    | (apply r_mvSL;rfl)
    | (apply r_mvA;rfl)
    | (apply r_mvT;rfl)
    | (apply r_mvF;rfl)
    | (apply r_mvD;rfl)
    | (apply r_faddD;rfl)
    | (apply r_faddL;rfl)
    | (apply r_l;apply ld_kind;assumption;rfl)
    | (apply r_l;apply ld_mn;assumption;rfl)
    | (apply r_l;apply ld_mx;assumption;rfl)
    | (apply r_l;apply ld_subs;assumption;rfl)
    | (apply r_l;apply ld_set;assumption;rfl)
    | (apply r_l;apply ld_node;assumption;rfl)
    | (apply r_l;apply ld_kind';assumption;rfl)
    | (apply r_l;apply ld_mn';assumption;rfl)
    | (apply r_l;apply ld_mx';assumption;rfl)
    | (apply r_l;apply ld_subs';assumption;rfl)
    | (apply r_l;apply ld_node';assumption;rfl)
    | (apply r_p;apply ix_sub;rfl;rfl;omega)
    | (apply r_l;apply ld_node';exact hsu;rfl)
    | (apply r_callA (f:=62) (ags:=[nodeA u]);rfl;exact hna;exact hg)
    | (apply r_ldL;rfl;rfl;rfl)
    | (apply r_eql;rfl;rfl;(first | (apply dT;omega) | (apply dF;omega) | rfl))
    | (apply r_lss;rfl;rfl;(first | (apply dT;omega) | (apply dF;omega) | rfl))
    | (apply r_gtr;rfl;rfl;(first | (apply dT;omega) | (apply dF;omega) | rfl))
    | (apply r_geq;rfl;rfl;(first | (apply dT;omega) | (apply dF;omega) | rfl))
    | (apply r_add;rfl;rfl;rfl;omega)
    | (apply r_pickT;rfl)
    | (apply r_pickF;rfl)
    | (apply r_lenD;rfl)
    | (apply r_lenL;rfl)
    | (apply r_len0;rfl)
    | (apply r_gT;rfl)
    | (apply r_gF';rfl;rfl)
    | (apply r_gN';rfl)
    | ((apply r_gS (o:=default);rfl)<;>(intro h;try simp only [decide_eq_true_eq,decide_eq_false_iff_not,Bool.not_eq_true,Bool.not_eq_false] at h))
    | (apply r_box;((conv=>lhs;simp only [Nat.reduceAdd])<;>rfl);rfl;rfl;rfl)
    | (apply r_p;rfl)
    | (apply r_nilK)
    | (apply r_nil)
    | (apply k_V;rfl)
    | (apply k_P;rfl)
    | (apply k_PL;rfl)
    | (apply k_S;rfl)
    | (apply k_SL;rfl)
    | (apply k_A;rfl)
    | (apply k_T;rfl)
    | (apply k_F;rfl)
    | (apply k_D;rfl;rotate_left;rfl)
    | (apply k_nil)
    | (apply e_ret (vs:=[.d (.val _)]);rfl)
    | (apply e_ret;rfl)
    | (apply e_ret' (vs:=[.d (.val _)]);rfl)
    | (apply e_ret';rfl)
    | (apply w_seq)
    | (apply w_ops;((conv=>lhs;simp only [Nat.reduceAdd])<;>rfl))
    | (apply w_condT;rfl)
    | (apply w_condF;rfl)
    | ((apply w_condS;rfl)<;>(intro h;try simp only [decide_eq_true_eq,decide_eq_false_iff_not,Bool.not_eq_true,Bool.not_eq_false] at h))
    | (apply e_thenN)
    | (apply w_block)
    | (apply e_thenR)
    | (apply e_thenX)
    | (apply e_blkN)
    | (apply e_blkR)
    | (apply e_blkE)
    | (apply w_exit)
    | (apply w_ret)
    | (apply w_skip)
    | (apply e_blkE';rfl))
      apply e_thenK
      apply fin
      refine wkRs (by omega) ?_ ?_
      · intro p hp;simp only [List.mem_cons,List.not_mem_nil,or_false] at hp;rcases hp with rfl<;>exact ⟨by omega,rfl,rfl⟩
      · repeat' (first
    | exact FWk.nil
    | (apply FWk.i;rfl;(first | rfl | omega | (simp;done)))
    | (apply FWk.sl;rfl;rfl;rfl;rfl;omega;rfl)
    | (apply FWk.ptr;rfl;rfl;rfl;omega;rfl)
    | (apply FWk.d;rfl;rfl)
    | (apply FWk.a;rfl;rfl;rfl)
    | (apply FWk.slN;rfl;omega;rfl))
    · rw [List.take_of_length_le hge]
      generalize (knC subs faE).lo=f1
      repeat' (first
    | (apply r_mvV;rfl)
    | (apply r_mvP;rfl)
    | (apply r_mvPL;rfl)
    | (apply r_mvS;rfl)
    | (apply r_mvSL;rfl)
    | (apply r_mvA;rfl)
    | (apply r_mvT;rfl)
    | (apply r_mvF;rfl)
    | (apply r_mvD;rfl)
    | (apply r_faddD;rfl)
    | (apply r_faddL;rfl)
    | (apply r_l;apply ld_kind;assumption;rfl)
    | (apply r_l;apply ld_mn;assumption;rfl)
    | (apply r_l;apply ld_mx;assumption;rfl)
    | (apply r_l;apply ld_subs;assumption;rfl)
    | (apply r_l;apply ld_set;assumption;rfl)
    | (apply r_l;apply ld_node;assumption;rfl)
    | (apply r_l;apply ld_kind';assumption;rfl)
    | (apply r_l;apply ld_mn';assumption;rfl)
    | (apply r_l;apply ld_mx';assumption;rfl)
    | (apply r_l;apply ld_subs';assumption;rfl)
    | (apply r_l;apply ld_node';assumption;rfl)
    | (apply r_ldL;rfl;rfl;rfl)
    | (apply r_eql;rfl;rfl;(first | (apply dT;omega) | (apply dF;omega) | rfl))
    | (apply r_lss;rfl;rfl;(first | (apply dT;omega) | (apply dF;omega) | rfl))
    | (apply r_gtr;rfl;rfl;(first | (apply dT;omega) | (apply dF;omega) | rfl))
    | (apply r_geq;rfl;rfl;(first | (apply dT;omega) | (apply dF;omega) | rfl))
    | (apply r_add;rfl;rfl;rfl;omega)
    | (apply r_pickT;rfl)
    | (apply r_pickF;rfl)
    | (apply r_lenD;rfl)
    | (apply r_lenL;rfl)
    | (apply r_len0;rfl)
    | (apply r_gT;rfl)
    | (apply r_gF';rfl;rfl)
    | (apply r_gN';rfl)
    | ((apply r_gS (o:=default);rfl)<;>(intro h;try simp only [decide_eq_true_eq,decide_eq_false_iff_not,Bool.not_eq_true,Bool.not_eq_false] at h))
    | (apply r_box;((conv=>lhs;simp only [Nat.reduceAdd])<;>rfl);rfl;rfl;rfl)
    | (apply r_p;rfl)
    | (apply r_nilK)
    | (apply r_nil)
    | (apply k_V;rfl)
    | (apply k_P;rfl)
    | (apply k_PL;rfl)
    | (apply k_S;rfl)
    | (apply k_SL;rfl)
    | (apply k_A;rfl)
    | (apply k_T;rfl)
    | (apply k_F;rfl)
    | (apply k_D;rfl;rotate_left;rfl)
    | (apply k_nil)
    | (apply e_ret (vs:=[.d (.val _)]);rfl)
    | (apply e_ret;rfl)
    | (apply e_ret' (vs:=[.d (.val _)]);rfl)
    | (apply e_ret';rfl)
    | (apply w_seq)
    | (apply w_ops;((conv=>lhs;simp only [Nat.reduceAdd])<;>rfl))
    | (apply w_condT;rfl)
    | (apply w_condF;rfl)
    | ((apply w_condS;rfl)<;>(intro h;try simp only [decide_eq_true_eq,decide_eq_false_iff_not,Bool.not_eq_true,Bool.not_eq_false] at h))
    | (apply e_thenN)
    | (apply w_block)
    | (apply e_thenR)
    | (apply e_thenX)
    | (apply e_blkN)
    | (apply e_blkR)
    | (apply e_blkE)
    | (apply w_exit)
    | (apply w_ret)
    | (apply w_skip)
    | (apply e_blkE';rfl))
      exact retI rfl
  by_cases h4 : k=4
  · have e : knT (T.node k a b c d mn mx subs)=knO subs faNo:=by rw [knT,if_neg h2,if_neg h3,if_pos h4]
    rw [e] at hno ⊢
    have hacc : ∀ i,(((knO (subs.take i) faNo).no=true∧(knO (subs.take i) faNo).lo=-1) ∨ ((knO (subs.take i) faNo).no=false∧0≤(knO (subs.take i) faNo).lo))∧(knO (subs.take i) faNo).lo < 9223372036854775808:=by
      intro i
      have h1:=knO_ok m0 (subs.take i) faNo 0 (Int.le_refl _) (okF_no (Int.le_refl _)) (fun u hu=>hsub' u (List.mem_of_mem_take hu))
      have h5:=hpb i
      have h6:=h1.2.2.2.1
      refine ⟨?_,by omega⟩
      cases h4 : (knO (subs.take i) faNo).no with
      | true=>exact .inl ⟨rfl,by rw [h1.2.1 h4];rfl⟩
      | false=>exact .inr ⟨rfl,(h1.2.2.1 h4).1⟩
    have hlos : ∀ i (h : i < subs.length),((knT subs[i]).no=true∧(knT subs[i]).lo=-1) ∨ ((knT subs[i]).no=false∧0≤(knT subs[i]).lo):=fun i h=>by
      cases h4 : (knT subs[i]).no with
      | true=>exact .inl ⟨rfl,by rw [(hksub i h).2.1 h4];rfl⟩
      | false=>exact .inr ⟨rfl,((hksub i h).2.2.1 h4).1⟩
    have hstep : ∀ i (h : i < subs.length),(knO (subs.take (i + 1)) faNo).lo=if 0≤(knT subs[i]).lo∧((knO (subs.take i) faNo).lo < 0 ∨ (knT subs[i]).lo < (knO (subs.take i) faNo).lo) then (knT subs[i]).lo else (knO (subs.take i) faNo).lo:=fun i h=>by
      rw [knO_step subs i h]
      have h1:=(hacc i).1
      have h2:=hlos i h
      generalize knO (subs.take i) faNo=f at h1 ⊢
      generalize knT subs[i]=g at h2 ⊢
      rcases h1 with ⟨a1,b1⟩ | ⟨a1,b1⟩
      · rw [faOr,if_pos a1]
        rcases h2 with ⟨a2,b2⟩ | ⟨a2,b2⟩<;>(split<;>omega)
      · rw [faOr,if_neg (by simp [a1])]
        rcases h2 with ⟨a2,b2⟩ | ⟨a2,b2⟩
        · rw [if_pos a2];split<;>omega
        · rw [if_neg (by simp [a2])]
          simp only
          split<;>omega
    clear ih hkt hok hbt ht hR hpl hsub' hpb e hksub hoks hno
    refine b62 (by simp) (by simp) (w_init ?_)
    unfold x62
    repeat' (first
    | (apply r_mvV;rfl)
    | (apply r_mvP;rfl)
    | (apply r_mvPL;rfl)
    | (apply r_mvS;rfl)
    | (apply r_mvSL;rfl)
    | (apply r_mvA;rfl)
    | (apply r_mvT;rfl)
    | (apply r_mvF;rfl)
    | (apply r_mvD;rfl)
    | (apply r_faddD;rfl)
    | (apply r_faddL;rfl)
    | (apply r_l;apply ld_kind;assumption;rfl)
    | (apply r_l;apply ld_mn;assumption;rfl)
    | (apply r_l;apply ld_mx;assumption;rfl)
    | (apply r_l;apply ld_subs;assumption;rfl)
    | (apply r_l;apply ld_set;assumption;rfl)
    | (apply r_l;apply ld_node;assumption;rfl)
    | (apply r_l;apply ld_kind';assumption;rfl)
    | (apply r_l;apply ld_mn';assumption;rfl)
    | (apply r_l;apply ld_mx';assumption;rfl)
    | (apply r_l;apply ld_subs';assumption;rfl)
    | (apply r_l;apply ld_node';assumption;rfl)
    | (apply r_callA (f:=51);rfl;rfl;exact hnn)
    | (apply r_ldL;rfl;rfl;rfl)
    | (apply r_eql;rfl;rfl;(first | (apply dT;omega) | (apply dF;omega) | rfl))
    | (apply r_lss;rfl;rfl;(first | (apply dT;omega) | (apply dF;omega) | rfl))
    | (apply r_gtr;rfl;rfl;(first | (apply dT;omega) | (apply dF;omega) | rfl))
    | (apply r_geq;rfl;rfl;(first | (apply dT;omega) | (apply dF;omega) | rfl))
    | (apply r_add;rfl;rfl;rfl;omega)
    | (apply r_pickT;rfl)
    | (apply r_pickF;rfl)
    | (apply r_lenD;rfl)
    | (apply r_lenL;rfl)
    | (apply r_len0;rfl)
    | (apply r_gT;rfl)
    | (apply r_gF';rfl;rfl)
    | (apply r_gN';rfl)
    | ((apply r_gS (o:=default);rfl)<;>(intro h;try simp only [decide_eq_true_eq,decide_eq_false_iff_not,Bool.not_eq_true,Bool.not_eq_false] at h))
    | (apply r_box;((conv=>lhs;simp only [Nat.reduceAdd])<;>rfl);rfl;rfl;rfl)
    | (apply r_p;rfl)
    | (apply r_nilK)
    | (apply r_nil)
    | (apply k_V;rfl)
    | (apply k_P;rfl)
    | (apply k_PL;rfl)
    | (apply k_S;rfl)
    | (apply k_SL;rfl)
    | (apply k_A;rfl)
    | (apply k_T;rfl)
    | (apply k_F;rfl)
    | (apply k_D;rfl;rotate_left;rfl)
    | (apply k_nil)
    | (apply e_ret (vs:=[.d (.val _)]);rfl)
    | (apply e_ret;rfl)
    | (apply e_ret' (vs:=[.d (.val _)]);rfl)
    | (apply e_ret';rfl)
    | (apply w_seq)
    | (apply w_ops;((conv=>lhs;simp only [Nat.reduceAdd])<;>rfl))
    | (apply w_condT;rfl)
    | (apply w_condF;rfl)
    | ((apply w_condS;rfl)<;>(intro h;try simp only [decide_eq_true_eq,decide_eq_false_iff_not,Bool.not_eq_true,Bool.not_eq_false] at h))
    | (apply e_thenN)
    | (apply w_block)
    | (apply e_thenR)
    | (apply e_thenX)
    | (apply e_blkN)
    | (apply e_blkR)
    | (apply e_blkE)
    | (apply w_exit)
    | (apply w_ret)
    | (apply w_skip)
    | (apply e_blkE';rfl))
    apply w_loopI (S:=fun i : Nat=>⟨(((Fr.nil.put 1 (.ptrL 1 0)).put 5 (.i (knO (subs.take i) faNo).lo))).put 6 (.i i),rowsOf [(1,[.i k,.d (.val (.int .u64 a)),.d (.val (.int .u64 b)),.d (.val (.int .u64 c)),.d (.val (.int .u64 d)),.i mn,.i mx,.d (.sl (encL subs) subs.length)])],Frz.lo 100,100⟩) (m:=fun i=>subs.length - i) (I:=fun i=>i≤subs.length) (i0:=0)
    · exact Nat.zero_le _
    · refine wkRs (by omega) ?_ ?_
      · intro p hp;simp only [List.mem_cons,List.not_mem_nil,or_false] at hp;rcases hp with rfl<;>exact ⟨by omega,rfl,rfl⟩
      · repeat' (first
    | exact FWk.nil
    | (apply FWk.i;rfl;(first | rfl | omega | (simp;done)))
    | (apply FWk.sl;rfl;rfl;rfl;rfl;omega;rfl)
    | (apply FWk.ptr;rfl;rfl;rfl;omega;rfl)
    | (apply FWk.d;rfl;rfl)
    | (apply FWk.a;rfl;rfl;rfl)
    | (apply FWk.slN;rfl;omega;rfl))
    intro i K hi hK
    dsimp only
    rcases Nat.lt_or_ge i subs.length with hlt | hge
    · have hsu:=NodeAt.sub hlt
      have hg:=ih' i hlt
      have hs1:=hstep i hlt
      have hb1:=(hacc i).2
      have hnu:=nodeA_nrm subs[i]
      have hna : [nodeA subs[i]].all AV.nrm=true:=by rw [List.all_cons,hnu];rfl
      have fin : ∀ fr C Z nx,Wk ⟨fr,C,Z,nx⟩ ⟨(((Fr.nil.put 1 (.ptrL 1 0)).put 5 (.i (if 0≤(knT subs[i]).lo∧((knO (subs.take i) faNo).lo < 0 ∨ (knT subs[i]).lo < (knO (subs.take i) faNo).lo) then (knT subs[i]).lo else (knO (subs.take i) faNo).lo)))).put 6 (.i ((i + 1 : Nat) : Int)),rowsOf [(1,[.i k,.d (.val (.int .u64 a)),.d (.val (.int .u64 b)),.d (.val (.int .u64 c)),.d (.val (.int .u64 d)),.i mn,.i mx,.d (.sl (encL subs) subs.length)])],Frz.lo 100,100⟩→K ⟨fr,C,Z,nx⟩:=fun fr C Z nx hw=>hK (i + 1) fr C Z nx (by omega) (by omega) (by rw [hs1];exact hw)
      clear hs1
      generalize (knO (subs.take i) faNo).lo=f1 at *
      generalize (knT subs[i]).lo=g1 at *
      generalize subs[i]=u at hsu hg hna
      clear hacc hstep hlos ih'
      by_cases c1 : 0≤g1
      · by_cases c2 : f1 < 0
        · rw [if_pos ⟨c1,.inl c2⟩] at fin
          repeat' (first
    | (apply r_mvV;rfl)
    | (apply r_mvP;rfl)
    | (apply r_mvPL;rfl)
    | (apply r_mvS;rfl)
    | (apply r_mvSL;rfl)
    | (apply r_mvA;rfl)
    | (apply r_mvT;rfl)
    | (apply r_mvF;rfl)
    | (apply r_mvD;rfl)
    | (apply r_faddD;rfl)
    | (apply r_faddL;rfl)
    | (apply r_l;apply ld_kind;assumption;rfl)
    | (apply r_l;apply ld_mn;assumption;rfl)
    | (apply r_l;apply ld_mx;assumption;rfl)
    | (apply r_l;apply ld_subs;assumption;rfl)
    | (apply r_l;apply ld_set;assumption;rfl)
    | (apply r_l;apply ld_node;assumption;rfl)
    | (apply r_l;apply ld_kind';assumption;rfl)
    | (apply r_l;apply ld_mn';assumption;rfl)
    | (apply r_l;apply ld_mx';assumption;rfl)
    | (apply r_l;apply ld_subs';assumption;rfl)
    | (apply r_l;apply ld_node';assumption;rfl)
    | (apply r_p;apply ix_sub;rfl;rfl;omega)
    | (apply r_l;apply ld_node';exact hsu;rfl)
    | (apply r_callA (f:=62) (ags:=[nodeA u]);rfl;exact hna;exact hg)
    | (apply r_ldL;rfl;rfl;rfl)
    | (apply r_eql;rfl;rfl;(first | (apply dT;omega) | (apply dF;omega) | rfl))
    | (apply r_lss;rfl;rfl;(first | (apply dT;omega) | (apply dF;omega) | rfl))
    | (apply r_gtr;rfl;rfl;(first | (apply dT;omega) | (apply dF;omega) | rfl))
    | (apply r_geq;rfl;rfl;(first | (apply dT;omega) | (apply dF;omega) | rfl))
    | (apply r_add;rfl;rfl;rfl;omega)
    | (apply r_pickT;rfl)
    | (apply r_pickF;rfl)
    | (apply r_lenD;rfl)
    | (apply r_lenL;rfl)
    | (apply r_len0;rfl)
    | (apply r_gT;rfl)
    | (apply r_gF';rfl;rfl)
    | (apply r_gN';rfl)
    | ((apply r_gS (o:=default);rfl)<;>(intro h;try simp only [decide_eq_true_eq,decide_eq_false_iff_not,Bool.not_eq_true,Bool.not_eq_false] at h))
    | (apply r_box;((conv=>lhs;simp only [Nat.reduceAdd])<;>rfl);rfl;rfl;rfl)
    | (apply r_p;rfl)
    | (apply r_nilK)
    | (apply r_nil)
    | (apply k_V;rfl)
    | (apply k_P;rfl)
    | (apply k_PL;rfl)
    | (apply k_S;rfl)
    | (apply k_SL;rfl)
    | (apply k_A;rfl)
    | (apply k_T;rfl)
    | (apply k_F;rfl)
    | (apply k_D;rfl;rotate_left;rfl)
    | (apply k_nil)
    | (apply e_ret (vs:=[.d (.val _)]);rfl)
    | (apply e_ret;rfl)
    | (apply e_ret' (vs:=[.d (.val _)]);rfl)
    | (apply e_ret';rfl)
    | (apply w_seq)
    | (apply w_ops;((conv=>lhs;simp only [Nat.reduceAdd])<;>rfl))
    | (apply w_condT;rfl)
    | (apply w_condF;rfl)
    | ((apply w_condS;rfl)<;>(intro h;try simp only [decide_eq_true_eq,decide_eq_false_iff_not,Bool.not_eq_true,Bool.not_eq_false] at h))
    | (apply e_thenN)
    | (apply w_block)
    | (apply e_thenR)
    | (apply e_thenX)
    | (apply e_blkN)
    | (apply e_blkR)
    | (apply e_blkE)
    | (apply w_exit)
    | (apply w_ret)
    | (apply w_skip)
    | (apply e_blkE';rfl))
          apply e_thenK
          apply fin
          refine wkRs (by omega) ?_ ?_
          · intro p hp;simp only [List.mem_cons,List.not_mem_nil,or_false] at hp;rcases hp with rfl<;>exact ⟨by omega,rfl,rfl⟩
          · repeat' (first
    | exact FWk.nil
    | (apply FWk.i;rfl;(first | rfl | omega | (simp;done)))
    | (apply FWk.sl;rfl;rfl;rfl;rfl;omega;rfl)
    | (apply FWk.ptr;rfl;rfl;rfl;omega;rfl)
    | (apply FWk.d;rfl;rfl)
    | (apply FWk.a;rfl;rfl;rfl)
    | (apply FWk.slN;rfl;omega;rfl))
        · by_cases c3 : g1 < f1
          · rw [if_pos ⟨c1,.inr c3⟩] at fin
            repeat' (first
    | (apply r_mvV;rfl)
    | (apply r_mvP;rfl)
    | (apply r_mvPL;rfl)
    | (apply r_mvS;rfl)
    | (apply r_mvSL;rfl)
    | (apply r_mvA;rfl)
    | (apply r_mvT;rfl)
    | (apply r_mvF;rfl)
    | (apply r_mvD;rfl)
    | (apply r_faddD;rfl)
    | (apply r_faddL;rfl)
    | (apply r_l;apply ld_kind;assumption;rfl)
    | (apply r_l;apply ld_mn;assumption;rfl)
    | (apply r_l;apply ld_mx;assumption;rfl)
    | (apply r_l;apply ld_subs;assumption;rfl)
    | (apply r_l;apply ld_set;assumption;rfl)
    | (apply r_l;apply ld_node;assumption;rfl)
    | (apply r_l;apply ld_kind';assumption;rfl)
    | (apply r_l;apply ld_mn';assumption;rfl)
    | (apply r_l;apply ld_mx';assumption;rfl)
    | (apply r_l;apply ld_subs';assumption;rfl)
    | (apply r_l;apply ld_node';assumption;rfl)
    | (apply r_p;apply ix_sub;rfl;rfl;omega)
    | (apply r_l;apply ld_node';exact hsu;rfl)
    | (apply r_callA (f:=62) (ags:=[nodeA u]);rfl;exact hna;exact hg)
    | (apply r_ldL;rfl;rfl;rfl)
    | (apply r_eql;rfl;rfl;(first | (apply dT;omega) | (apply dF;omega) | rfl))
    | (apply r_lss;rfl;rfl;(first | (apply dT;omega) | (apply dF;omega) | rfl))
    | (apply r_gtr;rfl;rfl;(first | (apply dT;omega) | (apply dF;omega) | rfl))
    | (apply r_geq;rfl;rfl;(first | (apply dT;omega) | (apply dF;omega) | rfl))
    | (apply r_add;rfl;rfl;rfl;omega)
    | (apply r_pickT;rfl)
    | (apply r_pickF;rfl)
    | (apply r_lenD;rfl)
    | (apply r_lenL;rfl)
    | (apply r_len0;rfl)
    | (apply r_gT;rfl)
    | (apply r_gF';rfl;rfl)
    | (apply r_gN';rfl)
    | ((apply r_gS (o:=default);rfl)<;>(intro h;try simp only [decide_eq_true_eq,decide_eq_false_iff_not,Bool.not_eq_true,Bool.not_eq_false] at h))
    | (apply r_box;((conv=>lhs;simp only [Nat.reduceAdd])<;>rfl);rfl;rfl;rfl)
    | (apply r_p;rfl)
    | (apply r_nilK)
    | (apply r_nil)
    | (apply k_V;rfl)
    | (apply k_P;rfl)
    | (apply k_PL;rfl)
    | (apply k_S;rfl)
    | (apply k_SL;rfl)
    | (apply k_A;rfl)
    | (apply k_T;rfl)
    | (apply k_F;rfl)
    | (apply k_D;rfl;rotate_left;rfl)
    | (apply k_nil)
    | (apply e_ret (vs:=[.d (.val _)]);rfl)
    | (apply e_ret;rfl)
    | (apply e_ret' (vs:=[.d (.val _)]);rfl)
    | (apply e_ret';rfl)
    | (apply w_seq)
    | (apply w_ops;((conv=>lhs;simp only [Nat.reduceAdd])<;>rfl))
    | (apply w_condT;rfl)
    | (apply w_condF;rfl)
    | ((apply w_condS;rfl)<;>(intro h;try simp only [decide_eq_true_eq,decide_eq_false_iff_not,Bool.not_eq_true,Bool.not_eq_false] at h))
    | (apply e_thenN)
    | (apply w_block)
    | (apply e_thenR)
    | (apply e_thenX)
    | (apply e_blkN)
    | (apply e_blkR)
    | (apply e_blkE)
    | (apply w_exit)
    | (apply w_ret)
    | (apply w_skip)
    | (apply e_blkE';rfl))
            apply e_thenK
            apply fin
            refine wkRs (by omega) ?_ ?_
            · intro p hp;simp only [List.mem_cons,List.not_mem_nil,or_false] at hp;rcases hp with rfl<;>exact ⟨by omega,rfl,rfl⟩
            · repeat' (first
    | exact FWk.nil
    | (apply FWk.i;rfl;(first | rfl | omega | (simp;done)))
    | (apply FWk.sl;rfl;rfl;rfl;rfl;omega;rfl)
    | (apply FWk.ptr;rfl;rfl;rfl;omega;rfl)
    | (apply FWk.d;rfl;rfl)
    | (apply FWk.a;rfl;rfl;rfl)
    | (apply FWk.slN;rfl;omega;rfl))
          · rw [if_neg (by omega)] at fin
            repeat' (first
    | (apply r_mvV;rfl)
    | (apply r_mvP;rfl)
    | (apply r_mvPL;rfl)
    | (apply r_mvS;rfl)
    | (apply r_mvSL;rfl)
    | (apply r_mvA;rfl)
    | (apply r_mvT;rfl)
    | (apply r_mvF;rfl)
    | (apply r_mvD;rfl)
    | (apply r_faddD;rfl)
    | (apply r_faddL;rfl)
    | (apply r_l;apply ld_kind;assumption;rfl)
    | (apply r_l;apply ld_mn;assumption;rfl)
    | (apply r_l;apply ld_mx;assumption;rfl)
    | (apply r_l;apply ld_subs;assumption;rfl)
    | (apply r_l;apply ld_set;assumption;rfl)
    | (apply r_l;apply ld_node;assumption;rfl)
    | (apply r_l;apply ld_kind';assumption;rfl)
    | (apply r_l;apply ld_mn';assumption;rfl)
    | (apply r_l;apply ld_mx';assumption;rfl)
    | (apply r_l;apply ld_subs';assumption;rfl)
    | (apply r_l;apply ld_node';assumption;rfl)
    | (apply r_p;apply ix_sub;rfl;rfl;omega)
    | (apply r_l;apply ld_node';exact hsu;rfl)
    | (apply r_callA (f:=62) (ags:=[nodeA u]);rfl;exact hna;exact hg)
    | (apply r_ldL;rfl;rfl;rfl)
    | (apply r_eql;rfl;rfl;(first | (apply dT;omega) | (apply dF;omega) | rfl))
    | (apply r_lss;rfl;rfl;(first | (apply dT;omega) | (apply dF;omega) | rfl))
    | (apply r_gtr;rfl;rfl;(first | (apply dT;omega) | (apply dF;omega) | rfl))
    | (apply r_geq;rfl;rfl;(first | (apply dT;omega) | (apply dF;omega) | rfl))
    | (apply r_add;rfl;rfl;rfl;omega)
    | (apply r_pickT;rfl)
    | (apply r_pickF;rfl)
    | (apply r_lenD;rfl)
    | (apply r_lenL;rfl)
    | (apply r_len0;rfl)
    | (apply r_gT;rfl)
    | (apply r_gF';rfl;rfl)
    | (apply r_gN';rfl)
    | ((apply r_gS (o:=default);rfl)<;>(intro h;try simp only [decide_eq_true_eq,decide_eq_false_iff_not,Bool.not_eq_true,Bool.not_eq_false] at h))
    | (apply r_box;((conv=>lhs;simp only [Nat.reduceAdd])<;>rfl);rfl;rfl;rfl)
    | (apply r_p;rfl)
    | (apply r_nilK)
    | (apply r_nil)
    | (apply k_V;rfl)
    | (apply k_P;rfl)
    | (apply k_PL;rfl)
    | (apply k_S;rfl)
    | (apply k_SL;rfl)
    | (apply k_A;rfl)
    | (apply k_T;rfl)
    | (apply k_F;rfl)
    | (apply k_D;rfl;rotate_left;rfl)
    | (apply k_nil)
    | (apply e_ret (vs:=[.d (.val _)]);rfl)
    | (apply e_ret;rfl)
    | (apply e_ret' (vs:=[.d (.val _)]);rfl)
    | (apply e_ret';rfl)
    | (apply w_seq)
    | (apply w_ops;((conv=>lhs;simp only [Nat.reduceAdd])<;>rfl))
    | (apply w_condT;rfl)
    | (apply w_condF;rfl)
    | ((apply w_condS;rfl)<;>(intro h;try simp only [decide_eq_true_eq,decide_eq_false_iff_not,Bool.not_eq_true,Bool.not_eq_false] at h))
    | (apply e_thenN)
    | (apply w_block)
    | (apply e_thenR)
    | (apply e_thenX)
    | (apply e_blkN)
    | (apply e_blkR)
    | (apply e_blkE)
    | (apply w_exit)
    | (apply w_ret)
    | (apply w_skip)
    | (apply e_blkE';rfl))
            apply e_thenK
            apply fin
            refine wkRs (by omega) ?_ ?_
            · intro p hp;simp only [List.mem_cons,List.not_mem_nil,or_false] at hp;rcases hp with rfl<;>exact ⟨by omega,rfl,rfl⟩
            · repeat' (first
    | exact FWk.nil
    | (apply FWk.i;rfl;(first | rfl | omega | (simp;done)))
    | (apply FWk.sl;rfl;rfl;rfl;rfl;omega;rfl)
    | (apply FWk.ptr;rfl;rfl;rfl;omega;rfl)
    | (apply FWk.d;rfl;rfl)
    | (apply FWk.a;rfl;rfl;rfl)
    | (apply FWk.slN;rfl;omega;rfl))
      · rw [if_neg (by omega)] at fin
        repeat' (first
    | (apply r_mvV;rfl)
    | (apply r_mvP;rfl)
    | (apply r_mvPL;rfl)
    | (apply r_mvS;rfl)
    | (apply r_mvSL;rfl)
    | (apply r_mvA;rfl)
    | (apply r_mvT;rfl)
    | (apply r_mvF;rfl)
    | (apply r_mvD;rfl)
    | (apply r_faddD;rfl)
    | (apply r_faddL;rfl)
    | (apply r_l;apply ld_kind;assumption;rfl)
    | (apply r_l;apply ld_mn;assumption;rfl)
    | (apply r_l;apply ld_mx;assumption;rfl)
    | (apply r_l;apply ld_subs;assumption;rfl)
    | (apply r_l;apply ld_set;assumption;rfl)
    | (apply r_l;apply ld_node;assumption;rfl)
    | (apply r_l;apply ld_kind';assumption;rfl)
    | (apply r_l;apply ld_mn';assumption;rfl)
    | (apply r_l;apply ld_mx';assumption;rfl)
    | (apply r_l;apply ld_subs';assumption;rfl)
    | (apply r_l;apply ld_node';assumption;rfl)
    | (apply r_p;apply ix_sub;rfl;rfl;omega)
    | (apply r_l;apply ld_node';exact hsu;rfl)
    | (apply r_callA (f:=62) (ags:=[nodeA u]);rfl;exact hna;exact hg)
    | (apply r_ldL;rfl;rfl;rfl)
    | (apply r_eql;rfl;rfl;(first | (apply dT;omega) | (apply dF;omega) | rfl))
    | (apply r_lss;rfl;rfl;(first | (apply dT;omega) | (apply dF;omega) | rfl))
    | (apply r_gtr;rfl;rfl;(first | (apply dT;omega) | (apply dF;omega) | rfl))
    | (apply r_geq;rfl;rfl;(first | (apply dT;omega) | (apply dF;omega) | rfl))
    | (apply r_add;rfl;rfl;rfl;omega)
    | (apply r_pickT;rfl)
    | (apply r_pickF;rfl)
    | (apply r_lenD;rfl)
    | (apply r_lenL;rfl)
    | (apply r_len0;rfl)
    | (apply r_gT;rfl)
    | (apply r_gF';rfl;rfl)
    | (apply r_gN';rfl)
    | ((apply r_gS (o:=default);rfl)<;>(intro h;try simp only [decide_eq_true_eq,decide_eq_false_iff_not,Bool.not_eq_true,Bool.not_eq_false] at h))
    | (apply r_box;((conv=>lhs;simp only [Nat.reduceAdd])<;>rfl);rfl;rfl;rfl)
    | (apply r_p;rfl)
    | (apply r_nilK)
    | (apply r_nil)
    | (apply k_V;rfl)
    | (apply k_P;rfl)
    | (apply k_PL;rfl)
    | (apply k_S;rfl)
    | (apply k_SL;rfl)
    | (apply k_A;rfl)
    | (apply k_T;rfl)
    | (apply k_F;rfl)
    | (apply k_D;rfl;rotate_left;rfl)
    | (apply k_nil)
    | (apply e_ret (vs:=[.d (.val _)]);rfl)
    | (apply e_ret;rfl)
    | (apply e_ret' (vs:=[.d (.val _)]);rfl)
    | (apply e_ret';rfl)
    | (apply w_seq)
    | (apply w_ops;((conv=>lhs;simp only [Nat.reduceAdd])<;>rfl))
    | (apply w_condT;rfl)
    | (apply w_condF;rfl)
    | ((apply w_condS;rfl)<;>(intro h;try simp only [decide_eq_true_eq,decide_eq_false_iff_not,Bool.not_eq_true,Bool.not_eq_false] at h))
    | (apply e_thenN)
    | (apply w_block)
    | (apply e_thenR)
    | (apply e_thenX)
    | (apply e_blkN)
    | (apply e_blkR)
    | (apply e_blkE)
    | (apply w_exit)
    | (apply w_ret)
    | (apply w_skip)
    | (apply e_blkE';rfl))
        apply e_thenK
        apply fin
        refine wkRs (by omega) ?_ ?_
        · intro p hp;simp only [List.mem_cons,List.not_mem_nil,or_false] at hp;rcases hp with rfl<;>exact ⟨by omega,rfl,rfl⟩
        · repeat' (first
    | exact FWk.nil
    | (apply FWk.i;rfl;(first | rfl | omega | (simp;done)))
    | (apply FWk.sl;rfl;rfl;rfl;rfl;omega;rfl)
    | (apply FWk.ptr;rfl;rfl;rfl;omega;rfl)
    | (apply FWk.d;rfl;rfl)
    | (apply FWk.a;rfl;rfl;rfl)
    | (apply FWk.slN;rfl;omega;rfl))
    · rw [List.take_of_length_le hge]
      generalize (knO subs faNo).lo=f1
      repeat' (first
    | (apply r_mvV;rfl)
    | (apply r_mvP;rfl)
    | (apply r_mvPL;rfl)
    | (apply r_mvS;rfl)
    | (apply r_mvSL;rfl)
    | (apply r_mvA;rfl)
    | (apply r_mvT;rfl)
    | (apply r_mvF;rfl)
    | (apply r_mvD;rfl)
    | (apply r_faddD;rfl)
    | (apply r_faddL;rfl)
    | (apply r_l;apply ld_kind;assumption;rfl)
    | (apply r_l;apply ld_mn;assumption;rfl)
    | (apply r_l;apply ld_mx;assumption;rfl)
    | (apply r_l;apply ld_subs;assumption;rfl)
    | (apply r_l;apply ld_set;assumption;rfl)
    | (apply r_l;apply ld_node;assumption;rfl)
    | (apply r_l;apply ld_kind';assumption;rfl)
    | (apply r_l;apply ld_mn';assumption;rfl)
    | (apply r_l;apply ld_mx';assumption;rfl)
    | (apply r_l;apply ld_subs';assumption;rfl)
    | (apply r_l;apply ld_node';assumption;rfl)
    | (apply r_ldL;rfl;rfl;rfl)
    | (apply r_eql;rfl;rfl;(first | (apply dT;omega) | (apply dF;omega) | rfl))
    | (apply r_lss;rfl;rfl;(first | (apply dT;omega) | (apply dF;omega) | rfl))
    | (apply r_gtr;rfl;rfl;(first | (apply dT;omega) | (apply dF;omega) | rfl))
    | (apply r_geq;rfl;rfl;(first | (apply dT;omega) | (apply dF;omega) | rfl))
    | (apply r_add;rfl;rfl;rfl;omega)
    | (apply r_pickT;rfl)
    | (apply r_pickF;rfl)
    | (apply r_lenD;rfl)
    | (apply r_lenL;rfl)
    | (apply r_len0;rfl)
    | (apply r_gT;rfl)
    | (apply r_gF';rfl;rfl)
    | (apply r_gN';rfl)
    | ((apply r_gS (o:=default);rfl)<;>(intro h;try simp only [decide_eq_true_eq,decide_eq_false_iff_not,Bool.not_eq_true,Bool.not_eq_false] at h))
    | (apply r_box;((conv=>lhs;simp only [Nat.reduceAdd])<;>rfl);rfl;rfl;rfl)
    | (apply r_p;rfl)
    | (apply r_nilK)
    | (apply r_nil)
    | (apply k_V;rfl)
    | (apply k_P;rfl)
    | (apply k_PL;rfl)
    | (apply k_S;rfl)
    | (apply k_SL;rfl)
    | (apply k_A;rfl)
    | (apply k_T;rfl)
    | (apply k_F;rfl)
    | (apply k_D;rfl;rotate_left;rfl)
    | (apply k_nil)
    | (apply e_ret (vs:=[.d (.val _)]);rfl)
    | (apply e_ret;rfl)
    | (apply e_ret' (vs:=[.d (.val _)]);rfl)
    | (apply e_ret';rfl)
    | (apply w_seq)
    | (apply w_ops;((conv=>lhs;simp only [Nat.reduceAdd])<;>rfl))
    | (apply w_condT;rfl)
    | (apply w_condF;rfl)
    | ((apply w_condS;rfl)<;>(intro h;try simp only [decide_eq_true_eq,decide_eq_false_iff_not,Bool.not_eq_true,Bool.not_eq_false] at h))
    | (apply e_thenN)
    | (apply w_block)
    | (apply e_thenR)
    | (apply e_thenX)
    | (apply e_blkN)
    | (apply e_blkR)
    | (apply e_blkE)
    | (apply w_exit)
    | (apply w_ret)
    | (apply w_skip)
    | (apply e_blkE';rfl))
      exact retI rfl
  by_cases h5 : k=5
  · obtain ⟨u,rfl⟩ : ∃ u,subs=[u]:=by
      subst h5;exact plainT_5 hpl
    have e : knT (.node k a b c d mn mx [u])=faTimes (knT u) mn mx:=by rw [knT,if_neg h2,if_neg h3,if_neg h4,if_pos h5,knR]
    have hr:=hR h5
    have hg:=ih' 0 (by simp)
    simp only [List.getElem_cons_zero] at hg
    have hs:=NodeAt.sub (l:=[u]) (i:=0) (by simp)
    simp only [List.getElem_cons_zero,Nat.zero_mul] at hs
    have h22:=hkt.2.2.2.1
    have hku:=hksub 0 (by simp)
    simp only [List.getElem_cons_zero] at hku
    rw [e] at hno h22 ⊢
    have hnu:=nodeA_nrm u
    have hna : [nodeA u].all AV.nrm=true:=by rw [List.all_cons,hnu];rfl
    clear ih ih' hksub hkt hok hoks ht hsub' hpb e hR hpl
    by_cases c1 : 0 < mn
    · have hlo : (faTimes (knT u) mn mx).lo=mn * (knT u).lo:=by
        unfold faTimes at hno ⊢
        rw [if_neg (by omega)] at hno ⊢
        split
        · rename_i hf;rw [if_pos hf] at hno;simp [faNo] at hno
        · exact Int.mul_comm _ _
      have hge0 : -9223372036854775808≤mn * (knT u).lo:=by
        have : (knT u).no=false:=by
          cases hx : (knT u).no with
          | false=>rfl
          | true =>
            unfold faTimes at hno
            rw [if_neg (by omega),if_pos hx] at hno
            simp [faNo] at hno
        have h0 : -1≤(knT u).lo:=by
          have:=(hku.2.2.1 this).1
          omega
        have : mn * (-1)≤mn * (knT u).lo:=Int.mul_le_mul_of_nonneg_left h0 (by omega)
        omega
      rw [hlo] at h22 ⊢
      have hrange : -9223372036854775808≤mn * (knT u).lo∧mn * (knT u).lo < 9223372036854775808:=by omega
      generalize (knT u).lo=g1 at *
      refine b62 (by simp) (by simp) (w_init ?_)
      unfold x62
      repeat' (first
    | (apply r_mvV;rfl)
    | (apply r_mvP;rfl)
    | (apply r_mvPL;rfl)
    | (apply r_mvS;rfl)
    | (apply r_mvSL;rfl)
    | (apply r_mvA;rfl)
    | (apply r_mvT;rfl)
    | (apply r_mvF;rfl)
    | (apply r_mvD;rfl)
    | (apply r_faddD;rfl)
    | (apply r_faddL;rfl)
    | (apply r_l;apply ld_kind;assumption;rfl)
    | (apply r_l;apply ld_mn;assumption;rfl)
    | (apply r_l;apply ld_mx;assumption;rfl)
    | (apply r_l;apply ld_subs;assumption;rfl)
    | (apply r_l;apply ld_set;assumption;rfl)
    | (apply r_l;apply ld_node;assumption;rfl)
    | (apply r_l;apply ld_kind';assumption;rfl)
    | (apply r_l;apply ld_mn';assumption;rfl)
    | (apply r_l;apply ld_mx';assumption;rfl)
    | (apply r_l;apply ld_subs';assumption;rfl)
    | (apply r_l;apply ld_node';assumption;rfl)
    | (apply r_callA (f:=51);rfl;rfl;exact hnn)
    | (apply r_p;apply ix_sub0;rfl;rfl;simp)
    | (apply r_l;apply ld_node';exact hs;rfl)
    | (apply r_callA (f:=62) (ags:=[nodeA u]);rfl;exact hna;exact hg)
    | (apply r_mul;rfl;rfl;rfl;exact hrange)
    | (apply r_ldL;rfl;rfl;rfl)
    | (apply r_eql;rfl;rfl;(first | (apply dT;omega) | (apply dF;omega) | rfl))
    | (apply r_lss;rfl;rfl;(first | (apply dT;omega) | (apply dF;omega) | rfl))
    | (apply r_gtr;rfl;rfl;(first | (apply dT;omega) | (apply dF;omega) | rfl))
    | (apply r_geq;rfl;rfl;(first | (apply dT;omega) | (apply dF;omega) | rfl))
    | (apply r_add;rfl;rfl;rfl;omega)
    | (apply r_pickT;rfl)
    | (apply r_pickF;rfl)
    | (apply r_lenD;rfl)
    | (apply r_lenL;rfl)
    | (apply r_len0;rfl)
    | (apply r_gT;rfl)
    | (apply r_gF';rfl;rfl)
    | (apply r_gN';rfl)
    | ((apply r_gS (o:=default);rfl)<;>(intro h;try simp only [decide_eq_true_eq,decide_eq_false_iff_not,Bool.not_eq_true,Bool.not_eq_false] at h))
    | (apply r_box;((conv=>lhs;simp only [Nat.reduceAdd])<;>rfl);rfl;rfl;rfl)
    | (apply r_p;rfl)
    | (apply r_nilK)
    | (apply r_nil)
    | (apply k_V;rfl)
    | (apply k_P;rfl)
    | (apply k_PL;rfl)
    | (apply k_S;rfl)
    | (apply k_SL;rfl)
    | (apply k_A;rfl)
    | (apply k_T;rfl)
    | (apply k_F;rfl)
    | (apply k_D;rfl;rotate_left;rfl)
    | (apply k_nil)
    | (apply e_ret (vs:=[.d (.val _)]);rfl)
    | (apply e_ret;rfl)
    | (apply e_ret' (vs:=[.d (.val _)]);rfl)
    | (apply e_ret';rfl)
    | (apply w_seq)
    | (apply w_ops;((conv=>lhs;simp only [Nat.reduceAdd])<;>rfl))
    | (apply w_condT;rfl)
    | (apply w_condF;rfl)
    | ((apply w_condS;rfl)<;>(intro h;try simp only [decide_eq_true_eq,decide_eq_false_iff_not,Bool.not_eq_true,Bool.not_eq_false] at h))
    | (apply e_thenN)
    | (apply w_block)
    | (apply e_thenR)
    | (apply e_thenX)
    | (apply e_blkN)
    | (apply e_blkR)
    | (apply e_blkE)
    | (apply w_exit)
    | (apply w_ret)
    | (apply w_skip)
    | (apply e_blkE';rfl))
      exact retI rfl
    · have hlo : (faTimes (knT u) mn mx).lo=0:=by
        have : mn=0:=by omega
        subst this
        unfold faTimes at hno ⊢
        split
        · rfl
        · split
          · rename_i h1 h2;simp [h2] at h1
          · simp
      rw [hlo]
      refine b62 (by simp) (by simp) (w_init ?_)
      unfold x62
      repeat' (first
    | (apply r_mvV;rfl)
    | (apply r_mvP;rfl)
    | (apply r_mvPL;rfl)
    | (apply r_mvS;rfl)
    | (apply r_mvSL;rfl)
    | (apply r_mvA;rfl)
    | (apply r_mvT;rfl)
    | (apply r_mvF;rfl)
    | (apply r_mvD;rfl)
    | (apply r_faddD;rfl)
    | (apply r_faddL;rfl)
    | (apply r_l;apply ld_kind;assumption;rfl)
    | (apply r_l;apply ld_mn;assumption;rfl)
    | (apply r_l;apply ld_mx;assumption;rfl)
    | (apply r_l;apply ld_subs;assumption;rfl)
    | (apply r_l;apply ld_set;assumption;rfl)
    | (apply r_l;apply ld_node;assumption;rfl)
    | (apply r_l;apply ld_kind';assumption;rfl)
    | (apply r_l;apply ld_mn';assumption;rfl)
    | (apply r_l;apply ld_mx';assumption;rfl)
    | (apply r_l;apply ld_subs';assumption;rfl)
    | (apply r_l;apply ld_node';assumption;rfl)
    | (apply r_callA (f:=51);rfl;rfl;exact hnn)
    | (apply r_ldL;rfl;rfl;rfl)
    | (apply r_eql;rfl;rfl;(first | (apply dT;omega) | (apply dF;omega) | rfl))
    | (apply r_lss;rfl;rfl;(first | (apply dT;omega) | (apply dF;omega) | rfl))
    | (apply r_gtr;rfl;rfl;(first | (apply dT;omega) | (apply dF;omega) | rfl))
    | (apply r_geq;rfl;rfl;(first | (apply dT;omega) | (apply dF;omega) | rfl))
    | (apply r_add;rfl;rfl;rfl;omega)
    | (apply r_pickT;rfl)
    | (apply r_pickF;rfl)
    | (apply r_lenD;rfl)
    | (apply r_lenL;rfl)
    | (apply r_len0;rfl)
    | (apply r_gT;rfl)
    | (apply r_gF';rfl;rfl)
    | (apply r_gN';rfl)
    | ((apply r_gS (o:=default);rfl)<;>(intro h;try simp only [decide_eq_true_eq,decide_eq_false_iff_not,Bool.not_eq_true,Bool.not_eq_false] at h))
    | (apply r_box;((conv=>lhs;simp only [Nat.reduceAdd])<;>rfl);rfl;rfl;rfl)
    | (apply r_p;rfl)
    | (apply r_nilK)
    | (apply r_nil)
    | (apply k_V;rfl)
    | (apply k_P;rfl)
    | (apply k_PL;rfl)
    | (apply k_S;rfl)
    | (apply k_SL;rfl)
    | (apply k_A;rfl)
    | (apply k_T;rfl)
    | (apply k_F;rfl)
    | (apply k_D;rfl;rotate_left;rfl)
    | (apply k_nil)
    | (apply e_ret (vs:=[.d (.val _)]);rfl)
    | (apply e_ret;rfl)
    | (apply e_ret' (vs:=[.d (.val _)]);rfl)
    | (apply e_ret';rfl)
    | (apply w_seq)
    | (apply w_ops;((conv=>lhs;simp only [Nat.reduceAdd])<;>rfl))
    | (apply w_condT;rfl)
    | (apply w_condF;rfl)
    | ((apply w_condS;rfl)<;>(intro h;try simp only [decide_eq_true_eq,decide_eq_false_iff_not,Bool.not_eq_true,Bool.not_eq_false] at h))
    | (apply e_thenN)
    | (apply w_block)
    | (apply e_thenR)
    | (apply e_thenX)
    | (apply e_blkN)
    | (apply e_blkR)
    | (apply e_blkE)
    | (apply w_exit)
    | (apply w_ret)
    | (apply w_skip)
    | (apply e_blkE';rfl))
      exact retI rfl
  · have e : (knT (T.node k a b c d mn mx subs)).lo=0:=by rw [knT,if_neg h2,if_neg h3,if_neg h4,if_neg h5];rfl
    rw [e]
    clear ih ih' hksub hkt hok hoks hbt ht hsub' hpb hR hpl hno e
    refine b62 (by simp) (by simp) (w_init ?_)
    unfold x62
    repeat' (first
    | (apply r_mvV;rfl)
    | (apply r_mvP;rfl)
    | (apply r_mvPL;rfl)
    | (apply r_mvS;rfl)
    | (apply r_mvSL;rfl)
    | (apply r_mvA;rfl)
    | (apply r_mvT;rfl)
    | (apply r_mvF;rfl)
    | (apply r_mvD;rfl)
    | (apply r_faddD;rfl)
    | (apply r_faddL;rfl)
    | (apply r_l;apply ld_kind;assumption;rfl)
    | (apply r_l;apply ld_mn;assumption;rfl)
    | (apply r_l;apply ld_mx;assumption;rfl)
    | (apply r_l;apply ld_subs;assumption;rfl)
    | (apply r_l;apply ld_set;assumption;rfl)
    | (apply r_l;apply ld_node;assumption;rfl)
    | (apply r_l;apply ld_kind';assumption;rfl)
    | (apply r_l;apply ld_mn';assumption;rfl)
    | (apply r_l;apply ld_mx';assumption;rfl)
    | (apply r_l;apply ld_subs';assumption;rfl)
    | (apply r_l;apply ld_node';assumption;rfl)
    | (apply r_callA (f:=51);rfl;rfl;exact hnn)
    | (apply r_ldL;rfl;rfl;rfl)
    | (apply r_eql;rfl;rfl;(first | (apply dT;omega) | (apply dF;omega) | rfl))
    | (apply r_lss;rfl;rfl;(first | (apply dT;omega) | (apply dF;omega) | rfl))
    | (apply r_gtr;rfl;rfl;(first | (apply dT;omega) | (apply dF;omega) | rfl))
    | (apply r_geq;rfl;rfl;(first | (apply dT;omega) | (apply dF;omega) | rfl))
    | (apply r_add;rfl;rfl;rfl;omega)
    | (apply r_pickT;rfl)
    | (apply r_pickF;rfl)
    | (apply r_lenD;rfl)
    | (apply r_lenL;rfl)
    | (apply r_len0;rfl)
    | (apply r_gT;rfl)
    | (apply r_gF';rfl;rfl)
    | (apply r_gN';rfl)
    | ((apply r_gS (o:=default);rfl)<;>(intro h;try simp only [decide_eq_true_eq,decide_eq_false_iff_not,Bool.not_eq_true,Bool.not_eq_false] at h))
    | (apply r_box;((conv=>lhs;simp only [Nat.reduceAdd])<;>rfl);rfl;rfl;rfl)
    | (apply r_p;rfl)
    | (apply r_nilK)
    | (apply r_nil)
    | (apply k_V;rfl)
    | (apply k_P;rfl)
    | (apply k_PL;rfl)
    | (apply k_S;rfl)
    | (apply k_SL;rfl)
    | (apply k_A;rfl)
    | (apply k_T;rfl)
    | (apply k_F;rfl)
    | (apply k_D;rfl;rotate_left;rfl)
    | (apply k_nil)
    | (apply e_ret (vs:=[.d (.val _)]);rfl)
    | (apply e_ret;rfl)
    | (apply e_ret' (vs:=[.d (.val _)]);rfl)
    | (apply e_ret';rfl)
    | (apply w_seq)
    | (apply w_ops;((conv=>lhs;simp only [Nat.reduceAdd])<;>rfl))
    | (apply w_condT;rfl)
    | (apply w_condF;rfl)
    | ((apply w_condS;rfl)<;>(intro h;try simp only [decide_eq_true_eq,decide_eq_false_iff_not,Bool.not_eq_true,Bool.not_eq_false] at h))
    | (apply e_thenN)
    | (apply w_block)
    | (apply e_thenR)
    | (apply e_thenX)
    | (apply e_blkN)
    | (apply e_blkR)
    | (apply e_blkE)
    | (apply w_exit)
    | (apply w_ret)
    | (apply w_skip)
    | (apply e_blkE';rfl))
    exact retI rfl
theorem most63_m (m0 : Nat) : ∀ (n : Nat) (t : T),t.cnt≤n→n≤1000000→okT t→allK m0 t→((t.cnt : Nat) : Int) * pw m0≤16384000000000000000→Good Try.prog 63 [nodeA t] none (.i (knT t).hi) none none:=by
  intro n
  induction n with
  | zero=>intro t ht;have:=cnt_pos t;omega
  | succ n ih =>
  intro t ht hc hok hak hbt
  have hnn:=none51_good 1000000 t (by omega) (by omega) hok
  rw [nn_kn hok] at hnn
  have hkt:=allK_self hak
  obtain ⟨k,a,b,c,d,mn,mx,subs⟩:=t
  have e0 : nodeA (T.node k a b c d mn mx subs)=.agg [.i k,.d (.val (.int .u64 a)),.d (.val (.int .u64 b)),.d (.val (.int .u64 c)),.d (.val (.int .u64 d)),.i mn,.i mx,.d (.sl (encL subs) subs.length)]:=rfl
  have hoks:=okT_subs hok
  have hakl : allKL m0 subs:=hak.2
  have hpw:=pw_pos m0
  have hR:=okT_R hok
  have ih' : ∀ i (h : i < subs.length),Good Try.prog 63 [nodeA subs[i]] none (.i (knT subs[i]).hi) none none:=by
    intro i h
    refine ih _ ?_ (by omega) (okL_get subs i h hoks) (allKL_get hakl i h) ?_
    · have:=cntL_get subs i h
      simp only [T.cnt] at ht
      omega
    · have h1:=cntL_get subs i h
      have : ((subs[i].cnt : Nat) : Int) * pw m0≤(((T.node k a b c d mn mx subs).cnt : Nat) : Int) * pw m0:=Int.mul_le_mul_of_nonneg_right (by simp only [T.cnt];omega) (by omega)
      omega
  have hns : ∀ i (h : i < subs.length),Good Try.prog 51 [nodeA subs[i]] none (.b (knT subs[i]).no) none none:=by
    intro i h
    have h1:=none51_good 1000000 subs[i] (by
      have:=cntL_get subs i h
      simp only [T.cnt] at ht
      omega) (by omega) (okL_get subs i h hoks)
    rw [nn_kn (okL_get subs i h hoks)] at h1
    exact h1
  have hksub : ∀ i (h : i < subs.length),okF (knT subs[i]) ((subs[i].cnt : Nat) * pw m0):=fun i h=>allK_self (allKL_get hakl i h)
  have hpl:=okT_plain hok
  have hlen : subs.length≤1000000:=by
    have:=cntL_len subs
    simp only [T.cnt] at ht
    omega
  rw [e0] at hnn ⊢
  cases hno : (knT (T.node k a b c d mn mx subs)).no with
  | true =>
    have e : (knT (T.node k a b c d mn mx subs)).hi=-1:=by rw [hkt.2.1 hno];rfl
    rw [e]
    rw [hno] at hnn
    clear ih ih' hns hksub hkt hok hoks hbt ht hR hpl hno e
    refine b63 (by simp) (by simp) (w_init ?_)
    unfold x63
    repeat' (first
    | (apply r_mvV;rfl)
    | (apply r_mvP;rfl)
    | (apply r_mvPL;rfl)
    | (apply r_mvS;rfl)
    | (apply r_mvSL;rfl)
    | (apply r_mvA;rfl)
    | (apply r_mvT;rfl)
    | (apply r_mvF;rfl)
    | (apply r_mvD;rfl)
    | (apply r_faddD;rfl)
    | (apply r_faddL;rfl)
    | (apply r_l;apply ld_kind;assumption;rfl)
    | (apply r_l;apply ld_mn;assumption;rfl)
    | (apply r_l;apply ld_mx;assumption;rfl)
    | (apply r_l;apply ld_subs;assumption;rfl)
    | (apply r_l;apply ld_set;assumption;rfl)
    | (apply r_l;apply ld_node;assumption;rfl)
    | (apply r_l;apply ld_kind';assumption;rfl)
    | (apply r_l;apply ld_mn';assumption;rfl)
    | (apply r_l;apply ld_mx';assumption;rfl)
    | (apply r_l;apply ld_subs';assumption;rfl)
    | (apply r_l;apply ld_node';assumption;rfl)
    | (apply r_callA (f:=51);rfl;rfl;exact hnn)
    | (apply r_ldL;rfl;rfl;rfl)
    | (apply r_eql;rfl;rfl;(first | (apply dT;omega) | (apply dF;omega) | rfl))
    | (apply r_lss;rfl;rfl;(first | (apply dT;omega) | (apply dF;omega) | rfl))
    | (apply r_add;rfl;rfl;rfl;omega)
    | (apply r_max2;rfl;rfl;rfl)
    | (apply r_pickT;rfl)
    | (apply r_pickF;rfl)
    | (apply r_lenD;rfl)
    | (apply r_lenL;rfl)
    | (apply r_len0;rfl)
    | (apply r_gT;rfl)
    | (apply r_gF';rfl;rfl)
    | (apply r_gN';rfl)
    | ((apply r_gS (o:=default);rfl)<;>(intro h;try simp only [decide_eq_true_eq,decide_eq_false_iff_not,Bool.not_eq_true,Bool.not_eq_false] at h))
    | (apply r_box;((conv=>lhs;simp only [Nat.reduceAdd])<;>rfl);rfl;rfl;rfl)
    | (apply r_p;rfl)
    | (apply r_nilK)
    | (apply r_nil)
    | (apply k_V;rfl)
    | (apply k_P;rfl)
    | (apply k_PL;rfl)
    | (apply k_S;rfl)
    | (apply k_SL;rfl)
    | (apply k_A;rfl)
    | (apply k_T;rfl)
    | (apply k_F;rfl)
    | (apply k_D;rfl;rotate_left;rfl)
    | (apply k_nil)
    | (apply e_ret (vs:=[.d (.val _)]);rfl)
    | (apply e_ret;rfl)
    | (apply e_ret' (vs:=[.d (.val _)]);rfl)
    | (apply e_ret';rfl)
    | (apply w_seq)
    | (apply w_ops;((conv=>lhs;simp only [Nat.reduceAdd])<;>rfl))
    | (apply w_condT;rfl)
    | (apply w_condF;rfl)
    | ((apply w_condS;rfl)<;>(intro h;try simp only [decide_eq_true_eq,decide_eq_false_iff_not,Bool.not_eq_true,Bool.not_eq_false] at h))
    | (apply e_thenN)
    | (apply w_block)
    | (apply e_thenR)
    | (apply e_thenX)
    | (apply e_blkN)
    | (apply e_blkR)
    | (apply e_blkE)
    | (apply w_exit)
    | (apply w_ret)
    | (apply w_skip)
    | (apply e_blkE';rfl))
    exact retI rfl
  | false =>
  rw [hno] at hnn
  by_cases h2 : k=2
  · have e : (knT (T.node k a b c d mn mx subs)).hi=1:=by
      rw [knT,if_pos h2] at hno ⊢
      split
      · rename_i hz;rw [if_pos hz] at hno;simp [faNo] at hno
      · rfl
    rw [e]
    clear ih ih' hns hksub hkt hok hoks hbt ht hR hpl hno e
    refine b63 (by simp) (by simp) (w_init ?_)
    unfold x63
    repeat' (first
    | (apply r_mvV;rfl)
    | (apply r_mvP;rfl)
    | (apply r_mvPL;rfl)
    | (apply r_mvS;rfl)
    | (apply r_mvSL;rfl)
    | (apply r_mvA;rfl)
    | (apply r_mvT;rfl)
    | (apply r_mvF;rfl)
    | (apply r_mvD;rfl)
    | (apply r_faddD;rfl)
    | (apply r_faddL;rfl)
    | (apply r_l;apply ld_kind;assumption;rfl)
    | (apply r_l;apply ld_mn;assumption;rfl)
    | (apply r_l;apply ld_mx;assumption;rfl)
    | (apply r_l;apply ld_subs;assumption;rfl)
    | (apply r_l;apply ld_set;assumption;rfl)
    | (apply r_l;apply ld_node;assumption;rfl)
    | (apply r_l;apply ld_kind';assumption;rfl)
    | (apply r_l;apply ld_mn';assumption;rfl)
    | (apply r_l;apply ld_mx';assumption;rfl)
    | (apply r_l;apply ld_subs';assumption;rfl)
    | (apply r_l;apply ld_node';assumption;rfl)
    | (apply r_callA (f:=51);rfl;rfl;exact hnn)
    | (apply r_ldL;rfl;rfl;rfl)
    | (apply r_eql;rfl;rfl;(first | (apply dT;omega) | (apply dF;omega) | rfl))
    | (apply r_lss;rfl;rfl;(first | (apply dT;omega) | (apply dF;omega) | rfl))
    | (apply r_add;rfl;rfl;rfl;omega)
    | (apply r_max2;rfl;rfl;rfl)
    | (apply r_pickT;rfl)
    | (apply r_pickF;rfl)
    | (apply r_lenD;rfl)
    | (apply r_lenL;rfl)
    | (apply r_len0;rfl)
    | (apply r_gT;rfl)
    | (apply r_gF';rfl;rfl)
    | (apply r_gN';rfl)
    | ((apply r_gS (o:=default);rfl)<;>(intro h;try simp only [decide_eq_true_eq,decide_eq_false_iff_not,Bool.not_eq_true,Bool.not_eq_false] at h))
    | (apply r_box;((conv=>lhs;simp only [Nat.reduceAdd])<;>rfl);rfl;rfl;rfl)
    | (apply r_p;rfl)
    | (apply r_nilK)
    | (apply r_nil)
    | (apply k_V;rfl)
    | (apply k_P;rfl)
    | (apply k_PL;rfl)
    | (apply k_S;rfl)
    | (apply k_SL;rfl)
    | (apply k_A;rfl)
    | (apply k_T;rfl)
    | (apply k_F;rfl)
    | (apply k_D;rfl;rotate_left;rfl)
    | (apply k_nil)
    | (apply e_ret (vs:=[.d (.val _)]);rfl)
    | (apply e_ret;rfl)
    | (apply e_ret' (vs:=[.d (.val _)]);rfl)
    | (apply e_ret';rfl)
    | (apply w_seq)
    | (apply w_ops;((conv=>lhs;simp only [Nat.reduceAdd])<;>rfl))
    | (apply w_condT;rfl)
    | (apply w_condF;rfl)
    | ((apply w_condS;rfl)<;>(intro h;try simp only [decide_eq_true_eq,decide_eq_false_iff_not,Bool.not_eq_true,Bool.not_eq_false] at h))
    | (apply e_thenN)
    | (apply w_block)
    | (apply e_thenR)
    | (apply e_thenX)
    | (apply e_blkN)
    | (apply e_blkR)
    | (apply e_blkE)
    | (apply w_exit)
    | (apply w_ret)
    | (apply w_skip)
    | (apply e_blkE';rfl))
    exact retI rfl
  have hsub' : ∀ u ∈ subs,okF (knT u) ((u.cnt : Nat) * pw m0):=fun u hu=>allK_self (allKL_mem hakl hu)
  have hpb : ∀ i,((cntL (subs.take i) : Nat) : Int) * pw m0≤16384000000000000000:=by
    intro i
    have h1:=cntL_take_le subs i
    have h2 : ((cntL (subs.take i) : Nat) : Int) * pw m0≤(((T.node k a b c d mn mx subs).cnt : Nat) : Int) * pw m0:=by
      exact Int.mul_le_mul_of_nonneg_right (by simp only [T.cnt];omega) (by omega)
    omega
  by_cases h3 : k=3
  · have e : knT (T.node k a b c d mn mx subs)=knC subs faE:=by rw [knT,if_neg h2,if_pos h3]
    rw [e] at hno ⊢
    obtain ⟨_,hall⟩:=knC_no subs faE hno
    have hpre : ∀ i,(knC (subs.take i) faE).no=false∧2 * (knC (subs.take i) faE).hi≤16384000000000000000∧-1≤(knC (subs.take i) faE).hi:=by
      intro i
      have h1:=knC_ok m0 (subs.take i) faE 0 (Int.le_refl _) (okF_E (Int.le_refl _)) (fun u hu=>hsub' u (List.mem_of_mem_take hu))
      have h4 : (knC (subs.take i) faE).no=false:=by
        have : knC subs faE=knC (subs.drop i) (knC (subs.take i) faE):=by rw [← knC_app,List.take_append_drop]
        rw [this] at hno
        exact (knC_no _ _ hno).1
      have:=hpb i
      have:=h1.2.2.2.2
      exact ⟨h4,by omega,(h1.2.2.1 h4).2⟩
    have hhs : ∀ i (h : i < subs.length),(knC (subs.take (i + 1)) faE).hi=plusH (knC (subs.take i) faE).hi (knT subs[i]).hi:=fun i h=>by
      rw [knC_step subs i h]
      exact (faThen_val (hpre i).1 (hall _ (List.getElem_mem h))).2.1
    have hnn3 : ∀ i,i≤subs.length→(∀ j (h : j < subs.length),j < i→(knT subs[j]).no=true ∨ 0≤(knT subs[j]).hi)→0≤(knC (subs.take i) faE).hi:=by
      intro i
      induction i with
      | zero=>intro _ _;simp [knC,faE]
      | succ i ih2 =>
        intro hi hj
        have h1:=ih2 (by omega) fun j h hj'=>hj j h (by omega)
        have h2:=hj i (by omega) (by omega)
        have h3:=hall subs[i] (List.getElem_mem (by omega))
        rw [h3] at h2
        have h2 : 0≤(knT subs[i]).hi:=by simpa using h2
        rw [hhs i (by omega),plusH,if_neg (by omega)]
        omega
    refine most_loop (.inl h3) (fun i=>(knC (subs.take i) faE).hi) _ hnn hlen ih' hns rfl ?_ ?_ ?_ ?_ ?_
    · intro i hi hj
      have:=(hpre i).2.1
      exact ⟨hnn3 i hi hj,by omega⟩
    · intro i h hj hn hp
      have:=hnn3 i (by omega) hj
      try dsimp only
      rw [if_pos h3,hhs i h,plusH,if_neg (by omega)]
    · intro i h hn
      rw [hall _ (List.getElem_mem h)] at hn;cases hn
    · intro i h hn hneg
      have h1:=((hksub i h).2.2.1 hn).2
      have e2 : knC subs faE=knC (subs.drop (i + 1)) (knC (subs.take (i + 1)) faE):=by rw [← knC_app,List.take_append_drop]
      rw [e2] at hno ⊢
      refine knC_end _ _ hno ?_
      rw [hhs i h,plusH,if_pos (by omega)]
    · intro _
      try dsimp only
      rw [List.take_length]
  by_cases h4 : k=4
  · have e : knT (T.node k a b c d mn mx subs)=knO subs faNo:=by rw [knT,if_neg h2,if_neg h3,if_pos h4]
    rw [e] at hno ⊢
    have hpre : ∀ i,2 * (knO (subs.take i) faNo).hi≤16384000000000000000:=by
      intro i
      have h1:=knO_ok m0 (subs.take i) faNo 0 (Int.le_refl _) (okF_no (Int.le_refl _)) (fun u hu=>hsub' u (List.mem_of_mem_take hu))
      have:=hpb i
      have:=h1.2.2.2.2
      omega
    have hval : ∀ f g : Fa,(g.no=true→hiA (faOr f g)=hiA f)∧(g.no=false→0≤g.hi→0≤hiA f→hiA (faOr f g)=max (hiA f) g.hi):=by
      intro f g
      unfold faOr hiA
      constructor
      · intro hg
        cases hf : f.no<;>simp [hf,hg]
      · intro hg h1 h2
        cases hf : f.no with
        | true=>simp [hg];omega
        | false =>
          simp only [hf,hg,if_false,Bool.false_eq_true] at h2 ⊢
          rw [if_neg (by omega)]
    have hnn4 : ∀ i,i≤subs.length→(∀ j (h : j < subs.length),j < i→(knT subs[j]).no=true ∨ 0≤(knT subs[j]).hi)→0≤hiA (knO (subs.take i) faNo):=by
      intro i
      induction i with
      | zero=>intro _ _;simp [knO,faNo,hiA]
      | succ i ih2 =>
        intro hi hj
        have h1:=ih2 (by omega) fun j h hj'=>hj j h (by omega)
        have h2:=hj i (by omega) (by omega)
        have h3:=hval (knO (subs.take i) faNo) (knT subs[i])
        rw [knO_step subs i (by omega)]
        cases hg : (knT subs[i]).no with
        | true=>rw [h3.1 hg];exact h1
        | false =>
          rw [hg] at h2
          have h2 : 0≤(knT subs[i]).hi:=by simpa using h2
          rw [h3.2 hg h2 h1];omega
    refine most_loop (.inr h4) (fun i=>hiA (knO (subs.take i) faNo)) _ hnn hlen ih' hns rfl ?_ ?_ ?_ ?_ ?_
    · intro i hi hj
      have:=hpre i
      refine ⟨hnn4 i hi hj,?_⟩
      try dsimp only
      unfold hiA
      split<;>omega
    · intro i h hj hn hp
      try dsimp only
      rw [if_neg h3,knO_step subs i h]
      exact (hval _ _).2 hn hp (hnn4 i (by omega) hj)
    · intro i h hn
      try dsimp only
      rw [knO_step subs i h]
      exact (hval _ _).1 hn
    · intro i h hn hneg
      have h1:=((hksub i h).2.2.1 hn).2
      have e2 : knO subs faNo=knO (subs.drop (i + 1)) (knO (subs.take (i + 1)) faNo):=by rw [← knO_app,List.take_append_drop]
      rw [e2]
      have h6 : (faOr (knO (subs.take i) faNo) (knT subs[i])).no=false∧(faOr (knO (subs.take i) faNo) (knT subs[i])).hi=-1:=by
        unfold faOr
        split
        · exact ⟨hn,by omega⟩
        · rw [if_neg (by simp [hn])]
          exact ⟨rfl,by simp;omega⟩
      rw [knO_step subs i h]
      exact knO_end _ _ h6.1 h6.2
    · intro _
      try dsimp only
      rw [List.take_length]
      unfold hiA
      rw [if_neg (by simp [hno])]
  by_cases h5 : k=5
  · obtain ⟨u,rfl⟩ : ∃ u,subs=[u]:=by
      subst h5;exact plainT_5 hpl
    have e : knT (.node k a b c d mn mx [u])=faTimes (knT u) mn mx:=by rw [knT,if_neg h2,if_neg h3,if_neg h4,if_pos h5,knR]
    have hr:=hR h5
    have hg:=ih' 0 (by simp)
    have hgn:=hns 0 (by simp)
    have hku:=hksub 0 (by simp)
    simp only [List.getElem_cons_zero] at hg hgn hku
    have hs:=NodeAt.sub (l:=[u]) (i:=0) (by simp)
    simp only [List.getElem_cons_zero,Nat.zero_mul] at hs
    have h22:=hkt.2.2.2.2
    rw [e] at hno h22 ⊢
    have hnu:=nodeA_nrm u
    have hna : [nodeA u].all AV.nrm=true:=by rw [List.all_cons,hnu];rfl
    clear ih ih' hns hksub hkt hok hoks ht hsub' hpb e hR hpl
    have e1:=hku.2.1
    have e2:=hku.2.2.1
    generalize knT u=f at *
    by_cases c0 : f.no=true
    · have e3 : (faTimes f mn mx).hi=0:=by
        unfold faTimes at hno ⊢
        split
        · rfl
        · rename_i h1
          rw [if_neg h1,if_pos c0] at hno
          simp [faNo] at hno
      rw [e3]
      rw [c0] at hgn
      refine b63 (by simp) (by simp) (w_init ?_)
      unfold x63
      repeat' (first
    | (apply r_mvV;rfl)
    | (apply r_mvP;rfl)
    | (apply r_mvPL;rfl)
    | (apply r_mvS;rfl)
    | (apply r_mvSL;rfl)
    | (apply r_mvA;rfl)
    | (apply r_mvT;rfl)
    | (apply r_mvF;rfl)
    | (apply r_mvD;rfl)
    | (apply r_faddD;rfl)
    | (apply r_faddL;rfl)
    | (apply r_l;apply ld_kind;assumption;rfl)
    | (apply r_l;apply ld_mn;assumption;rfl)
    | (apply r_l;apply ld_mx;assumption;rfl)
    | (apply r_l;apply ld_subs;assumption;rfl)
    | (apply r_l;apply ld_set;assumption;rfl)
    | (apply r_l;apply ld_node;assumption;rfl)
    | (apply r_l;apply ld_kind';assumption;rfl)
    | (apply r_l;apply ld_mn';assumption;rfl)
    | (apply r_l;apply ld_mx';assumption;rfl)
    | (apply r_l;apply ld_subs';assumption;rfl)
    | (apply r_l;apply ld_node';assumption;rfl)
    | (apply r_p;apply ix_sub0;rfl;rfl;simp)
    | (apply r_l;apply ld_node';exact hs;rfl)
    | (apply r_callA (f:=51) (ags:=[nodeA u]);rfl;exact hna;exact hgn)
    | (apply r_callA (f:=51);rfl;rfl;exact hnn)
    | (apply r_ldL;rfl;rfl;rfl)
    | (apply r_eql;rfl;rfl;(first | (apply dT;omega) | (apply dF;omega) | rfl))
    | (apply r_lss;rfl;rfl;(first | (apply dT;omega) | (apply dF;omega) | rfl))
    | (apply r_add;rfl;rfl;rfl;omega)
    | (apply r_max2;rfl;rfl;rfl)
    | (apply r_pickT;rfl)
    | (apply r_pickF;rfl)
    | (apply r_lenD;rfl)
    | (apply r_lenL;rfl)
    | (apply r_len0;rfl)
    | (apply r_gT;rfl)
    | (apply r_gF';rfl;rfl)
    | (apply r_gN';rfl)
    | ((apply r_gS (o:=default);rfl)<;>(intro h;try simp only [decide_eq_true_eq,decide_eq_false_iff_not,Bool.not_eq_true,Bool.not_eq_false] at h))
    | (apply r_box;((conv=>lhs;simp only [Nat.reduceAdd])<;>rfl);rfl;rfl;rfl)
    | (apply r_p;rfl)
    | (apply r_nilK)
    | (apply r_nil)
    | (apply k_V;rfl)
    | (apply k_P;rfl)
    | (apply k_PL;rfl)
    | (apply k_S;rfl)
    | (apply k_SL;rfl)
    | (apply k_A;rfl)
    | (apply k_T;rfl)
    | (apply k_F;rfl)
    | (apply k_D;rfl;rotate_left;rfl)
    | (apply k_nil)
    | (apply e_ret (vs:=[.d (.val _)]);rfl)
    | (apply e_ret;rfl)
    | (apply e_ret' (vs:=[.d (.val _)]);rfl)
    | (apply e_ret';rfl)
    | (apply w_seq)
    | (apply w_ops;((conv=>lhs;simp only [Nat.reduceAdd])<;>rfl))
    | (apply w_condT;rfl)
    | (apply w_condF;rfl)
    | ((apply w_condS;rfl)<;>(intro h;try simp only [decide_eq_true_eq,decide_eq_false_iff_not,Bool.not_eq_true,Bool.not_eq_false] at h))
    | (apply e_thenN)
    | (apply w_block)
    | (apply e_thenR)
    | (apply e_thenX)
    | (apply e_blkN)
    | (apply e_blkR)
    | (apply e_blkE)
    | (apply w_exit)
    | (apply w_ret)
    | (apply w_skip)
    | (apply e_blkE';rfl))
      exact retI rfl
    have c0 : f.no=false:=by simpa using c0
    rw [c0] at hgn
    have e2:=e2 c0
    by_cases c1 : mx=0
    · have e3 : (faTimes f mn mx).hi=0:=by unfold faTimes;rw [if_pos (.inl c1)];rfl
      rw [e3]
      refine b63 (by simp) (by simp) (w_init ?_)
      unfold x63
      repeat' (first
    | (apply r_mvV;rfl)
    | (apply r_mvP;rfl)
    | (apply r_mvPL;rfl)
    | (apply r_mvS;rfl)
    | (apply r_mvSL;rfl)
    | (apply r_mvA;rfl)
    | (apply r_mvT;rfl)
    | (apply r_mvF;rfl)
    | (apply r_mvD;rfl)
    | (apply r_faddD;rfl)
    | (apply r_faddL;rfl)
    | (apply r_l;apply ld_kind;assumption;rfl)
    | (apply r_l;apply ld_mn;assumption;rfl)
    | (apply r_l;apply ld_mx;assumption;rfl)
    | (apply r_l;apply ld_subs;assumption;rfl)
    | (apply r_l;apply ld_set;assumption;rfl)
    | (apply r_l;apply ld_node;assumption;rfl)
    | (apply r_l;apply ld_kind';assumption;rfl)
    | (apply r_l;apply ld_mn';assumption;rfl)
    | (apply r_l;apply ld_mx';assumption;rfl)
    | (apply r_l;apply ld_subs';assumption;rfl)
    | (apply r_l;apply ld_node';assumption;rfl)
    | (apply r_p;apply ix_sub0;rfl;rfl;simp)
    | (apply r_l;apply ld_node';exact hs;rfl)
    | (apply r_callA (f:=51) (ags:=[nodeA u]);rfl;exact hna;exact hgn)
    | (apply r_callA (f:=51);rfl;rfl;exact hnn)
    | (apply r_ldL;rfl;rfl;rfl)
    | (apply r_eql;rfl;rfl;(first | (apply dT;omega) | (apply dF;omega) | rfl))
    | (apply r_lss;rfl;rfl;(first | (apply dT;omega) | (apply dF;omega) | rfl))
    | (apply r_add;rfl;rfl;rfl;omega)
    | (apply r_max2;rfl;rfl;rfl)
    | (apply r_pickT;rfl)
    | (apply r_pickF;rfl)
    | (apply r_lenD;rfl)
    | (apply r_lenL;rfl)
    | (apply r_len0;rfl)
    | (apply r_gT;rfl)
    | (apply r_gF';rfl;rfl)
    | (apply r_gN';rfl)
    | ((apply r_gS (o:=default);rfl)<;>(intro h;try simp only [decide_eq_true_eq,decide_eq_false_iff_not,Bool.not_eq_true,Bool.not_eq_false] at h))
    | (apply r_box;((conv=>lhs;simp only [Nat.reduceAdd])<;>rfl);rfl;rfl;rfl)
    | (apply r_p;rfl)
    | (apply r_nilK)
    | (apply r_nil)
    | (apply k_V;rfl)
    | (apply k_P;rfl)
    | (apply k_PL;rfl)
    | (apply k_S;rfl)
    | (apply k_SL;rfl)
    | (apply k_A;rfl)
    | (apply k_T;rfl)
    | (apply k_F;rfl)
    | (apply k_D;rfl;rotate_left;rfl)
    | (apply k_nil)
    | (apply e_ret (vs:=[.d (.val _)]);rfl)
    | (apply e_ret;rfl)
    | (apply e_ret' (vs:=[.d (.val _)]);rfl)
    | (apply e_ret';rfl)
    | (apply w_seq)
    | (apply w_ops;((conv=>lhs;simp only [Nat.reduceAdd])<;>rfl))
    | (apply w_condT;rfl)
    | (apply w_condF;rfl)
    | ((apply w_condS;rfl)<;>(intro h;try simp only [decide_eq_true_eq,decide_eq_false_iff_not,Bool.not_eq_true,Bool.not_eq_false] at h))
    | (apply e_thenN)
    | (apply w_block)
    | (apply e_thenR)
    | (apply e_thenX)
    | (apply e_blkN)
    | (apply e_blkR)
    | (apply e_blkE)
    | (apply w_exit)
    | (apply w_ret)
    | (apply w_skip)
    | (apply e_blkE';rfl))
      exact retI rfl
    have e3 : (faTimes f mn mx).hi=if f.hi=0 then 0 else if f.hi=-1 ∨ mx=-1 then -1 else f.hi * mx:=by
      unfold faTimes;rw [if_neg (by simp [c1,c0]),if_neg (by simp [c0])]
    rw [e3] at h22 ⊢
    generalize f.hi=fh at *
    by_cases c2 : fh=0
    · rw [if_pos c2]
      refine b63 (by simp) (by simp) (w_init ?_)
      unfold x63
      repeat' (first
    | (apply r_mvV;rfl)
    | (apply r_mvP;rfl)
    | (apply r_mvPL;rfl)
    | (apply r_mvS;rfl)
    | (apply r_mvSL;rfl)
    | (apply r_mvA;rfl)
    | (apply r_mvT;rfl)
    | (apply r_mvF;rfl)
    | (apply r_mvD;rfl)
    | (apply r_faddD;rfl)
    | (apply r_faddL;rfl)
    | (apply r_l;apply ld_kind;assumption;rfl)
    | (apply r_l;apply ld_mn;assumption;rfl)
    | (apply r_l;apply ld_mx;assumption;rfl)
    | (apply r_l;apply ld_subs;assumption;rfl)
    | (apply r_l;apply ld_set;assumption;rfl)
    | (apply r_l;apply ld_node;assumption;rfl)
    | (apply r_l;apply ld_kind';assumption;rfl)
    | (apply r_l;apply ld_mn';assumption;rfl)
    | (apply r_l;apply ld_mx';assumption;rfl)
    | (apply r_l;apply ld_subs';assumption;rfl)
    | (apply r_l;apply ld_node';assumption;rfl)
    | (apply r_p;apply ix_sub0;rfl;rfl;simp)
    | (apply r_l;apply ld_node';exact hs;rfl)
    | (apply r_callA (f:=51) (ags:=[nodeA u]);rfl;exact hna;exact hgn)
    | (apply r_callA (f:=51);rfl;rfl;exact hnn)
    | (apply r_callA (f:=63) (ags:=[nodeA u]);rfl;exact hna;exact hg)
    | (apply r_ldL;rfl;rfl;rfl)
    | (apply r_eql;rfl;rfl;(first | (apply dT;omega) | (apply dF;omega) | rfl))
    | (apply r_lss;rfl;rfl;(first | (apply dT;omega) | (apply dF;omega) | rfl))
    | (apply r_add;rfl;rfl;rfl;omega)
    | (apply r_max2;rfl;rfl;rfl)
    | (apply r_pickT;rfl)
    | (apply r_pickF;rfl)
    | (apply r_lenD;rfl)
    | (apply r_lenL;rfl)
    | (apply r_len0;rfl)
    | (apply r_gT;rfl)
    | (apply r_gF';rfl;rfl)
    | (apply r_gN';rfl)
    | ((apply r_gS (o:=default);rfl)<;>(intro h;try simp only [decide_eq_true_eq,decide_eq_false_iff_not,Bool.not_eq_true,Bool.not_eq_false] at h))
    | (apply r_box;((conv=>lhs;simp only [Nat.reduceAdd])<;>rfl);rfl;rfl;rfl)
    | (apply r_p;rfl)
    | (apply r_nilK)
    | (apply r_nil)
    | (apply k_V;rfl)
    | (apply k_P;rfl)
    | (apply k_PL;rfl)
    | (apply k_S;rfl)
    | (apply k_SL;rfl)
    | (apply k_A;rfl)
    | (apply k_T;rfl)
    | (apply k_F;rfl)
    | (apply k_D;rfl;rotate_left;rfl)
    | (apply k_nil)
    | (apply e_ret (vs:=[.d (.val _)]);rfl)
    | (apply e_ret;rfl)
    | (apply e_ret' (vs:=[.d (.val _)]);rfl)
    | (apply e_ret';rfl)
    | (apply w_seq)
    | (apply w_ops;((conv=>lhs;simp only [Nat.reduceAdd])<;>rfl))
    | (apply w_condT;rfl)
    | (apply w_condF;rfl)
    | ((apply w_condS;rfl)<;>(intro h;try simp only [decide_eq_true_eq,decide_eq_false_iff_not,Bool.not_eq_true,Bool.not_eq_false] at h))
    | (apply e_thenN)
    | (apply w_block)
    | (apply e_thenR)
    | (apply e_thenX)
    | (apply e_blkN)
    | (apply e_blkR)
    | (apply e_blkE)
    | (apply w_exit)
    | (apply w_ret)
    | (apply w_skip)
    | (apply e_blkE';rfl))
      exact retI rfl
    rw [if_neg c2] at h22 ⊢
    by_cases c3 : fh=-1 ∨ mx=-1
    · rw [if_pos c3]
      rcases c3 with c3 | c3
      all_goals
        refine b63 (by simp) (by simp) (w_init ?_)
        unfold x63
        repeat' (first
    | (apply r_mvV;rfl)
    | (apply r_mvP;rfl)
    | (apply r_mvPL;rfl)
    | (apply r_mvS;rfl)
    | (apply r_mvSL;rfl)
    | (apply r_mvA;rfl)
    | (apply r_mvT;rfl)
    | (apply r_mvF;rfl)
    | (apply r_mvD;rfl)
    | (apply r_faddD;rfl)
    | (apply r_faddL;rfl)
    | (apply r_l;apply ld_kind;assumption;rfl)
    | (apply r_l;apply ld_mn;assumption;rfl)
    | (apply r_l;apply ld_mx;assumption;rfl)
    | (apply r_l;apply ld_subs;assumption;rfl)
    | (apply r_l;apply ld_set;assumption;rfl)
    | (apply r_l;apply ld_node;assumption;rfl)
    | (apply r_l;apply ld_kind';assumption;rfl)
    | (apply r_l;apply ld_mn';assumption;rfl)
    | (apply r_l;apply ld_mx';assumption;rfl)
    | (apply r_l;apply ld_subs';assumption;rfl)
    | (apply r_l;apply ld_node';assumption;rfl)
    | (apply r_p;apply ix_sub0;rfl;rfl;simp)
    | (apply r_l;apply ld_node';exact hs;rfl)
    | (apply r_callA (f:=51) (ags:=[nodeA u]);rfl;exact hna;exact hgn)
    | (apply r_callA (f:=51);rfl;rfl;exact hnn)
    | (apply r_callA (f:=63) (ags:=[nodeA u]);rfl;exact hna;exact hg)
    | (apply r_ldL;rfl;rfl;rfl)
    | (apply r_eql;rfl;rfl;(first | (apply dT;omega) | (apply dF;omega) | rfl))
    | (apply r_lss;rfl;rfl;(first | (apply dT;omega) | (apply dF;omega) | rfl))
    | (apply r_add;rfl;rfl;rfl;omega)
    | (apply r_max2;rfl;rfl;rfl)
    | (apply r_pickT;rfl)
    | (apply r_pickF;rfl)
    | (apply r_lenD;rfl)
    | (apply r_lenL;rfl)
    | (apply r_len0;rfl)
    | (apply r_gT;rfl)
    | (apply r_gF';rfl;rfl)
    | (apply r_gN';rfl)
    | ((apply r_gS (o:=default);rfl)<;>(intro h;try simp only [decide_eq_true_eq,decide_eq_false_iff_not,Bool.not_eq_true,Bool.not_eq_false] at h))
    | (apply r_box;((conv=>lhs;simp only [Nat.reduceAdd])<;>rfl);rfl;rfl;rfl)
    | (apply r_p;rfl)
    | (apply r_nilK)
    | (apply r_nil)
    | (apply k_V;rfl)
    | (apply k_P;rfl)
    | (apply k_PL;rfl)
    | (apply k_S;rfl)
    | (apply k_SL;rfl)
    | (apply k_A;rfl)
    | (apply k_T;rfl)
    | (apply k_F;rfl)
    | (apply k_D;rfl;rotate_left;rfl)
    | (apply k_nil)
    | (apply e_ret (vs:=[.d (.val _)]);rfl)
    | (apply e_ret;rfl)
    | (apply e_ret' (vs:=[.d (.val _)]);rfl)
    | (apply e_ret';rfl)
    | (apply w_seq)
    | (apply w_ops;((conv=>lhs;simp only [Nat.reduceAdd])<;>rfl))
    | (apply w_condT;rfl)
    | (apply w_condF;rfl)
    | ((apply w_condS;rfl)<;>(intro h;try simp only [decide_eq_true_eq,decide_eq_false_iff_not,Bool.not_eq_true,Bool.not_eq_false] at h))
    | (apply e_thenN)
    | (apply w_block)
    | (apply e_thenR)
    | (apply e_thenX)
    | (apply e_blkN)
    | (apply e_blkR)
    | (apply e_blkE)
    | (apply w_exit)
    | (apply w_ret)
    | (apply w_skip)
    | (apply e_blkE';rfl))
        all_goals exact retI rfl
    · rw [if_neg c3] at h22 ⊢
      have c4 : 0≤fh∧0≤mx:=by omega
      have hge : 0≤fh * mx:=Int.mul_nonneg c4.1 c4.2
      have hrange : -9223372036854775808≤fh * mx∧fh * mx < 9223372036854775808:=by omega
      refine b63 (by simp) (by simp) (w_init ?_)
      unfold x63
      repeat' (first
    | (apply r_mvV;rfl)
    | (apply r_mvP;rfl)
    | (apply r_mvPL;rfl)
    | (apply r_mvS;rfl)
    | (apply r_mvSL;rfl)
    | (apply r_mvA;rfl)
    | (apply r_mvT;rfl)
    | (apply r_mvF;rfl)
    | (apply r_mvD;rfl)
    | (apply r_faddD;rfl)
    | (apply r_faddL;rfl)
    | (apply r_l;apply ld_kind;assumption;rfl)
    | (apply r_l;apply ld_mn;assumption;rfl)
    | (apply r_l;apply ld_mx;assumption;rfl)
    | (apply r_l;apply ld_subs;assumption;rfl)
    | (apply r_l;apply ld_set;assumption;rfl)
    | (apply r_l;apply ld_node;assumption;rfl)
    | (apply r_l;apply ld_kind';assumption;rfl)
    | (apply r_l;apply ld_mn';assumption;rfl)
    | (apply r_l;apply ld_mx';assumption;rfl)
    | (apply r_l;apply ld_subs';assumption;rfl)
    | (apply r_l;apply ld_node';assumption;rfl)
    | (apply r_p;apply ix_sub0;rfl;rfl;simp)
    | (apply r_l;apply ld_node';exact hs;rfl)
    | (apply r_callA (f:=51) (ags:=[nodeA u]);rfl;exact hna;exact hgn)
    | (apply r_callA (f:=51);rfl;rfl;exact hnn)
    | (apply r_callA (f:=63) (ags:=[nodeA u]);rfl;exact hna;exact hg)
    | (apply r_mul;rfl;rfl;rfl;exact hrange)
    | (apply r_ldL;rfl;rfl;rfl)
    | (apply r_eql;rfl;rfl;(first | (apply dT;omega) | (apply dF;omega) | rfl))
    | (apply r_lss;rfl;rfl;(first | (apply dT;omega) | (apply dF;omega) | rfl))
    | (apply r_add;rfl;rfl;rfl;omega)
    | (apply r_max2;rfl;rfl;rfl)
    | (apply r_pickT;rfl)
    | (apply r_pickF;rfl)
    | (apply r_lenD;rfl)
    | (apply r_lenL;rfl)
    | (apply r_len0;rfl)
    | (apply r_gT;rfl)
    | (apply r_gF';rfl;rfl)
    | (apply r_gN';rfl)
    | ((apply r_gS (o:=default);rfl)<;>(intro h;try simp only [decide_eq_true_eq,decide_eq_false_iff_not,Bool.not_eq_true,Bool.not_eq_false] at h))
    | (apply r_box;((conv=>lhs;simp only [Nat.reduceAdd])<;>rfl);rfl;rfl;rfl)
    | (apply r_p;rfl)
    | (apply r_nilK)
    | (apply r_nil)
    | (apply k_V;rfl)
    | (apply k_P;rfl)
    | (apply k_PL;rfl)
    | (apply k_S;rfl)
    | (apply k_SL;rfl)
    | (apply k_A;rfl)
    | (apply k_T;rfl)
    | (apply k_F;rfl)
    | (apply k_D;rfl;rotate_left;rfl)
    | (apply k_nil)
    | (apply e_ret (vs:=[.d (.val _)]);rfl)
    | (apply e_ret;rfl)
    | (apply e_ret' (vs:=[.d (.val _)]);rfl)
    | (apply e_ret';rfl)
    | (apply w_seq)
    | (apply w_ops;((conv=>lhs;simp only [Nat.reduceAdd])<;>rfl))
    | (apply w_condT;rfl)
    | (apply w_condF;rfl)
    | ((apply w_condS;rfl)<;>(intro h;try simp only [decide_eq_true_eq,decide_eq_false_iff_not,Bool.not_eq_true,Bool.not_eq_false] at h))
    | (apply e_thenN)
    | (apply w_block)
    | (apply e_thenR)
    | (apply e_thenX)
    | (apply e_blkN)
    | (apply e_blkR)
    | (apply e_blkE)
    | (apply w_exit)
    | (apply w_ret)
    | (apply w_skip)
    | (apply e_blkE';rfl))
      exact retI rfl
  · have e : (knT (T.node k a b c d mn mx subs)).hi=0:=by rw [knT,if_neg h2,if_neg h3,if_neg h4,if_neg h5];rfl
    rw [e]
    clear ih ih' hns hksub hkt hok hoks hbt ht hsub' hpb hR hpl hno e
    refine b63 (by simp) (by simp) (w_init ?_)
    unfold x63
    repeat' (first
    | (apply r_mvV;rfl)
    | (apply r_mvP;rfl)
    | (apply r_mvPL;rfl)
    | (apply r_mvS;rfl)
    | (apply r_mvSL;rfl)
    | (apply r_mvA;rfl)
    | (apply r_mvT;rfl)
    | (apply r_mvF;rfl)
    | (apply r_mvD;rfl)
    | (apply r_faddD;rfl)
    | (apply r_faddL;rfl)
    | (apply r_l;apply ld_kind;assumption;rfl)
    | (apply r_l;apply ld_mn;assumption;rfl)
    | (apply r_l;apply ld_mx;assumption;rfl)
    | (apply r_l;apply ld_subs;assumption;rfl)
    | (apply r_l;apply ld_set;assumption;rfl)
    | (apply r_l;apply ld_node;assumption;rfl)
    | (apply r_l;apply ld_kind';assumption;rfl)
    | (apply r_l;apply ld_mn';assumption;rfl)
    | (apply r_l;apply ld_mx';assumption;rfl)
    | (apply r_l;apply ld_subs';assumption;rfl)
    | (apply r_l;apply ld_node';assumption;rfl)
    | (apply r_callA (f:=51);rfl;rfl;exact hnn)
    | (apply r_ldL;rfl;rfl;rfl)
    | (apply r_eql;rfl;rfl;(first | (apply dT;omega) | (apply dF;omega) | rfl))
    | (apply r_lss;rfl;rfl;(first | (apply dT;omega) | (apply dF;omega) | rfl))
    | (apply r_add;rfl;rfl;rfl;omega)
    | (apply r_max2;rfl;rfl;rfl)
    | (apply r_pickT;rfl)
    | (apply r_pickF;rfl)
    | (apply r_lenD;rfl)
    | (apply r_lenL;rfl)
    | (apply r_len0;rfl)
    | (apply r_gT;rfl)
    | (apply r_gF';rfl;rfl)
    | (apply r_gN';rfl)
    | ((apply r_gS (o:=default);rfl)<;>(intro h;try simp only [decide_eq_true_eq,decide_eq_false_iff_not,Bool.not_eq_true,Bool.not_eq_false] at h))
    | (apply r_box;((conv=>lhs;simp only [Nat.reduceAdd])<;>rfl);rfl;rfl;rfl)
    | (apply r_p;rfl)
    | (apply r_nilK)
    | (apply r_nil)
    | (apply k_V;rfl)
    | (apply k_P;rfl)
    | (apply k_PL;rfl)
    | (apply k_S;rfl)
    | (apply k_SL;rfl)
    | (apply k_A;rfl)
    | (apply k_T;rfl)
    | (apply k_F;rfl)
    | (apply k_D;rfl;rotate_left;rfl)
    | (apply k_nil)
    | (apply e_ret (vs:=[.d (.val _)]);rfl)
    | (apply e_ret;rfl)
    | (apply e_ret' (vs:=[.d (.val _)]);rfl)
    | (apply e_ret';rfl)
    | (apply w_seq)
    | (apply w_ops;((conv=>lhs;simp only [Nat.reduceAdd])<;>rfl))
    | (apply w_condT;rfl)
    | (apply w_condF;rfl)
    | ((apply w_condS;rfl)<;>(intro h;try simp only [decide_eq_true_eq,decide_eq_false_iff_not,Bool.not_eq_true,Bool.not_eq_false] at h))
    | (apply e_thenN)
    | (apply w_block)
    | (apply e_thenR)
    | (apply e_thenX)
    | (apply e_blkN)
    | (apply e_blkR)
    | (apply e_blkE)
    | (apply w_exit)
    | (apply w_ret)
    | (apply w_skip)
    | (apply e_blkE';rfl))
    exact retI rfl
end Go.Sv
namespace Go.Sv
open Go Go.Proofs
set_option maxRecDepth 100000
set_option maxHeartbeats 4000000
attribute [local irreducible] W E R KP thenK blockK retK Good xwp aRun
end Go.Sv
namespace Go.Sv
open Go Go.Proofs Go.WideMaps Go.ChangeMaps
set_option linter.unusedVariables false
theorem firstW_x {t u : T} (h : ∀ w,L t w↔L u w) : firstW t=firstW u:=by
  have : L t=L u:=funext fun w=>propext (h w)
  unfold firstW
  rw [this]
set_option maxRecDepth 100000
set_option maxHeartbeats 4000000
attribute [local irreducible] W E R KP thenK blockK retK Good xwp aRun
theorem law18 (t : T) (ht : inT t) : Good Try.prog 18 [nodeA t] none (.b true) none none:=by
  have haw:=awake13_good
  have h45:=few_good t
  by_cases hf : sizeT t 601≤200
  case neg =>
    rw [show decide (sizeT t 601≤200)=false by simp [hf]] at h45
    clear ht hf
    obtain ⟨k,a,b,c,d,mn,mx,subs⟩:=t
    have e0 : nodeA (.node k a b c d mn mx subs)=.agg [.i k,.d (.val (.int .u64 a)),.d (.val (.int .u64 b)),.d (.val (.int .u64 c)),.d (.val (.int .u64 d)),.i mn,.i mx,.d (.sl (encL subs) subs.length)]:=rfl
    rw [e0] at h45 ⊢
    refine good18 (by simp) (fun _=>False) (w_init ?_) (fun st h=>h.elim)
    unfold xp0 xp1 xp2 xp3
    repeat' (first
    | (apply r_mvV;rfl)
    | (apply r_mvP;rfl)
    | (apply r_mvPL;rfl)
    | (apply r_mvS;rfl)
    | (apply r_mvSL;rfl)
    | (apply r_mvA;rfl)
    | (apply r_mvT;rfl)
    | (apply r_mvF;rfl)
    | (apply r_mvD;rfl)
    | (apply r_ldL (v:=.agg [.i k,.d (.val (.int .u64 a)),.d (.val (.int .u64 b)),.d (.val (.int .u64 c)),.d (.val (.int .u64 d)),.i mn,.i mx,.d (.sl (encL subs) subs.length)]);rfl;rfl;rfl)
    | (apply r_callA (f:=56) (ags:=[]);rfl;rfl;exact haw)
    | (apply r_callA (f:=45);rfl;rfl;exact h45)
    | (apply r_ldL;rfl;rfl;rfl)
    | (apply r_eql;rfl;rfl;(first | (apply dT;omega) | (apply dF;omega) | rfl))
    | (apply r_neq;rfl;rfl;(first | (apply dT;omega) | (apply dF;omega) | rfl))
    | (apply r_lss;rfl;rfl;(first | (apply dT;omega) | (apply dF;omega) | rfl))
    | (apply r_add;rfl;rfl;rfl;omega)
    | (apply r_not;rfl;rfl)
    | (apply r_pickT;rfl)
    | (apply r_pickF;rfl)
    | (apply r_lenD;rfl)
    | (apply r_lenL;rfl)
    | (apply r_len0;rfl)
    | (apply r_ext;rfl;rfl)
    | (apply r_gT;rfl)
    | (apply r_gF';rfl;rfl)
    | (apply r_gN';rfl)
    | ((apply r_gS (o:=default);rfl)<;>(intro h;try simp only [decide_eq_true_eq,decide_eq_false_iff_not,Bool.not_eq_true,Bool.not_eq_false] at h))
    | (apply r_alloc;((conv=>lhs;simp only [Nat.reduceAdd])<;>rfl);rfl)
    | (apply r_box;((conv=>lhs;simp only [Nat.reduceAdd])<;>rfl);rfl;rfl;rfl)
    | (apply r_stL;rfl;rfl;rfl;rfl;(first | rfl | (simp only [z_nil,z_add]<;>rfl));rfl;rfl)
    | (apply r_p;rfl)
    | (apply r_nilK)
    | (apply r_nil)
    | (apply k_V;rfl)
    | (apply k_P;rfl)
    | (apply k_PL;rfl)
    | (apply k_S;rfl)
    | (apply k_SL;rfl)
    | (apply k_A;rfl)
    | (apply k_T;rfl)
    | (apply k_F;rfl)
    | (apply k_D;rfl;rotate_left;rfl)
    | (apply k_nil)
    | (apply e_ret (vs:=[.d (.val _)]);rfl)
    | (apply e_ret;rfl)
    | (apply e_ret' (vs:=[.d (.val _)]);rfl)
    | (apply e_ret';rfl)
    | (apply w_seq)
    | (apply w_ops;((conv=>lhs;simp only [Nat.reduceAdd])<;>rfl))
    | (apply w_condT;rfl)
    | (apply w_condF;rfl)
    | ((apply w_condS;rfl)<;>(intro h;try simp only [decide_eq_true_eq,decide_eq_false_iff_not,Bool.not_eq_true,Bool.not_eq_false] at h))
    | (apply e_thenN)
    | (apply w_block)
    | (apply e_thenR)
    | (apply e_thenX)
    | (apply e_blkN)
    | (apply e_blkR)
    | (apply e_blkE)
    | (apply w_exit)
    | (apply w_ret)
    | (apply w_skip)
    | (apply e_blkE';rfl))
    exact retB rfl
  have hc:=few_cnt hf
  have h32:=right8_good t (by omega)
  rw [show decide (sizeT t 601≤200)=true by simp [hf]] at h45
  by_cases hr : rightT t=true
  case neg =>
    have hr : rightT t=false:=by simpa using hr
    rw [hr] at h32
    clear ht hf hc hr
    obtain ⟨k,a,b,c,d,mn,mx,subs⟩:=t
    have e0 : nodeA (.node k a b c d mn mx subs)=.agg [.i k,.d (.val (.int .u64 a)),.d (.val (.int .u64 b)),.d (.val (.int .u64 c)),.d (.val (.int .u64 d)),.i mn,.i mx,.d (.sl (encL subs) subs.length)]:=rfl
    rw [e0] at h45 h32 ⊢
    refine good18 (by simp) (fun _=>False) (w_init ?_) (fun st h=>h.elim)
    unfold xp0 xp1 xp2 xp3
    repeat' (first
    | (apply r_mvV;rfl)
    | (apply r_mvP;rfl)
    | (apply r_mvPL;rfl)
    | (apply r_mvS;rfl)
    | (apply r_mvSL;rfl)
    | (apply r_mvA;rfl)
    | (apply r_mvT;rfl)
    | (apply r_mvF;rfl)
    | (apply r_mvD;rfl)
    | (apply r_ldL (v:=.agg [.i k,.d (.val (.int .u64 a)),.d (.val (.int .u64 b)),.d (.val (.int .u64 c)),.d (.val (.int .u64 d)),.i mn,.i mx,.d (.sl (encL subs) subs.length)]);rfl;rfl;rfl)
    | (apply r_callA (f:=56) (ags:=[]);rfl;rfl;exact haw)
    | (apply r_callA (f:=45);rfl;rfl;exact h45)
    | (apply r_callA (f:=32);rfl;rfl;exact h32)
    | (apply r_ldL;rfl;rfl;rfl)
    | (apply r_eql;rfl;rfl;(first | (apply dT;omega) | (apply dF;omega) | rfl))
    | (apply r_neq;rfl;rfl;(first | (apply dT;omega) | (apply dF;omega) | rfl))
    | (apply r_lss;rfl;rfl;(first | (apply dT;omega) | (apply dF;omega) | rfl))
    | (apply r_add;rfl;rfl;rfl;omega)
    | (apply r_not;rfl;rfl)
    | (apply r_pickT;rfl)
    | (apply r_pickF;rfl)
    | (apply r_lenD;rfl)
    | (apply r_lenL;rfl)
    | (apply r_len0;rfl)
    | (apply r_ext;rfl;rfl)
    | (apply r_gT;rfl)
    | (apply r_gF';rfl;rfl)
    | (apply r_gN';rfl)
    | ((apply r_gS (o:=default);rfl)<;>(intro h;try simp only [decide_eq_true_eq,decide_eq_false_iff_not,Bool.not_eq_true,Bool.not_eq_false] at h))
    | (apply r_alloc;((conv=>lhs;simp only [Nat.reduceAdd])<;>rfl);rfl)
    | (apply r_box;((conv=>lhs;simp only [Nat.reduceAdd])<;>rfl);rfl;rfl;rfl)
    | (apply r_stL;rfl;rfl;rfl;rfl;(first | rfl | (simp only [z_nil,z_add]<;>rfl));rfl;rfl)
    | (apply r_p;rfl)
    | (apply r_nilK)
    | (apply r_nil)
    | (apply k_V;rfl)
    | (apply k_P;rfl)
    | (apply k_PL;rfl)
    | (apply k_S;rfl)
    | (apply k_SL;rfl)
    | (apply k_A;rfl)
    | (apply k_T;rfl)
    | (apply k_F;rfl)
    | (apply k_D;rfl;rotate_left;rfl)
    | (apply k_nil)
    | (apply e_ret (vs:=[.d (.val _)]);rfl)
    | (apply e_ret;rfl)
    | (apply e_ret' (vs:=[.d (.val _)]);rfl)
    | (apply e_ret';rfl)
    | (apply w_seq)
    | (apply w_ops;((conv=>lhs;simp only [Nat.reduceAdd])<;>rfl))
    | (apply w_condT;rfl)
    | (apply w_condF;rfl)
    | ((apply w_condS;rfl)<;>(intro h;try simp only [decide_eq_true_eq,decide_eq_false_iff_not,Bool.not_eq_true,Bool.not_eq_false] at h))
    | (apply e_thenN)
    | (apply w_block)
    | (apply e_thenR)
    | (apply e_thenX)
    | (apply e_blkN)
    | (apply e_blkR)
    | (apply e_blkE)
    | (apply w_exit)
    | (apply w_ret)
    | (apply w_skip)
    | (apply e_blkE';rfl))
    exact retB rfl
  have hfi : fitsT t 12=true:=by rw [← right_fits];exact hr
  have hok : okT t:=ok_of_right ht hr
  rw [hr] at h32
  have h57:=xPlain_good t (by omega) (fun _=>hok) 400
  by_cases hw : 400 < wideT t
  · have e1 : eE t 400=11:=by simp [eE,hfi,hw]
    have e2 : eN t 400=zT:=by simp [eN,e1]
    have ez : nodeA zT=.agg [.i 0,.d (.val (.int .u64 0)),.d (.val (.int .u64 0)),.d (.val (.int .u64 0)),.d (.val (.int .u64 0)),.i 0,.i 0,.d (.sl [] 0)]:=rfl
    rw [e1,e2,ez] at h57
    clear ht hf hc hr hfi hok hw e1 e2
    obtain ⟨k,a,b,c,d,mn,mx,subs⟩:=t
    have e0 : nodeA (.node k a b c d mn mx subs)=.agg [.i k,.d (.val (.int .u64 a)),.d (.val (.int .u64 b)),.d (.val (.int .u64 c)),.d (.val (.int .u64 d)),.i mn,.i mx,.d (.sl (encL subs) subs.length)]:=rfl
    rw [e0] at h45 h32 h57 ⊢
    refine good18 (by simp) (fun _=>False) (w_init ?_) (fun st h=>h.elim)
    unfold xp0 xp1 xp2 xp3
    repeat' (first
    | (apply r_mvV;rfl)
    | (apply r_mvP;rfl)
    | (apply r_mvPL;rfl)
    | (apply r_mvS;rfl)
    | (apply r_mvSL;rfl)
    | (apply r_mvA;rfl)
    | (apply r_mvT;rfl)
    | (apply r_mvF;rfl)
    | (apply r_mvD;rfl)
    | (apply r_ldL (v:=.agg [.i k,.d (.val (.int .u64 a)),.d (.val (.int .u64 b)),.d (.val (.int .u64 c)),.d (.val (.int .u64 d)),.i mn,.i mx,.d (.sl (encL subs) subs.length)]);rfl;rfl;rfl)
    | (apply r_callA (f:=56) (ags:=[]);rfl;rfl;exact haw)
    | (apply r_callA (f:=45);rfl;rfl;exact h45)
    | (apply r_callA (f:=32);rfl;rfl;exact h32)
    | (apply r_callA (f:=57);rfl;rfl;exact h57)
    | (apply r_ldL;rfl;rfl;rfl)
    | (apply r_eql;rfl;rfl;(first | (apply dT;omega) | (apply dF;omega) | rfl))
    | (apply r_neq;rfl;rfl;(first | (apply dT;omega) | (apply dF;omega) | rfl))
    | (apply r_lss;rfl;rfl;(first | (apply dT;omega) | (apply dF;omega) | rfl))
    | (apply r_add;rfl;rfl;rfl;omega)
    | (apply r_not;rfl;rfl)
    | (apply r_pickT;rfl)
    | (apply r_pickF;rfl)
    | (apply r_lenD;rfl)
    | (apply r_lenL;rfl)
    | (apply r_len0;rfl)
    | (apply r_ext;rfl;rfl)
    | (apply r_gT;rfl)
    | (apply r_gF';rfl;rfl)
    | (apply r_gN';rfl)
    | ((apply r_gS (o:=default);rfl)<;>(intro h;try simp only [decide_eq_true_eq,decide_eq_false_iff_not,Bool.not_eq_true,Bool.not_eq_false] at h))
    | (apply r_alloc;((conv=>lhs;simp only [Nat.reduceAdd])<;>rfl);rfl)
    | (apply r_box;((conv=>lhs;simp only [Nat.reduceAdd])<;>rfl);rfl;rfl;rfl)
    | (apply r_stL;rfl;rfl;rfl;rfl;(first | rfl | (simp only [z_nil,z_add]<;>rfl));rfl;rfl)
    | (apply r_p;rfl)
    | (apply r_nilK)
    | (apply r_nil)
    | (apply k_V;rfl)
    | (apply k_P;rfl)
    | (apply k_PL;rfl)
    | (apply k_S;rfl)
    | (apply k_SL;rfl)
    | (apply k_A;rfl)
    | (apply k_T;rfl)
    | (apply k_F;rfl)
    | (apply k_D;rfl;rotate_left;rfl)
    | (apply k_nil)
    | (apply e_ret (vs:=[.d (.val _)]);rfl)
    | (apply e_ret;rfl)
    | (apply e_ret' (vs:=[.d (.val _)]);rfl)
    | (apply e_ret';rfl)
    | (apply w_seq)
    | (apply w_ops;((conv=>lhs;simp only [Nat.reduceAdd])<;>rfl))
    | (apply w_condT;rfl)
    | (apply w_condF;rfl)
    | ((apply w_condS;rfl)<;>(intro h;try simp only [decide_eq_true_eq,decide_eq_false_iff_not,Bool.not_eq_true,Bool.not_eq_false] at h))
    | (apply e_thenN)
    | (apply w_block)
    | (apply e_thenR)
    | (apply e_thenX)
    | (apply e_blkN)
    | (apply e_blkR)
    | (apply e_blkE)
    | (apply w_exit)
    | (apply w_ret)
    | (apply w_skip)
    | (apply e_blkE';rfl))
    exact retB rfl
  have e1 : eE t 400=0:=by simp [eE,hfi,hw]
  have e2 : eN t 400=xT t:=by simp [eN,e1]
  rw [e1,e2] at h57
  have hoku:=xT_ok t hok
  have hcu : (xT t).cnt≤400:=by
    rcases xT_wide t hok with h | h<;>omega
  have hL:=xT_L t hok
  obtain ⟨el,eh⟩:=same_len hoku hok hL
  have ef : firstW (xT t)=firstW t:=firstW_x hL
  have hp0 : pw 0=20:=rfl
  have h61:=setsR61_good 1000000 t (by omega) (by omega)
  have h61':=setsR61_good 1000000 (xT t) (by omega) (by omega)
  have h50:=first50_good 300000 t (by omega) (by omega) hok
  have h50':=first50_good 300000 (xT t) (by omega) (by omega) hoku
  have h62:=least62_good 1000000 t (by omega) (by omega) hok (bT_few hc hfi)
  have h63:=most63_good 1000000 t (by omega) (by omega) hok (bT_few hc hfi)
  have hak:=plain_allK (xT t) hoku (xT_isP t hok)
  have h62':=least62_m 0 1000000 (xT t) (by omega) (by omega) hoku hak (by rw [hp0];omega)
  have h63':=most63_m 0 1000000 (xT t) (by omega) (by omega) hoku hak (by rw [hp0];omega)
  rw [el] at h62'
  rw [eh] at h63'
  rw [ef] at h50'
  obtain ⟨v0,v1,v2,v3,hws,_⟩:=words4 (firstW_ok t).1
  rw [hws] at h50 h50'
  have h50 : Good Try.prog 50 [nodeA t] none (.agg [.d (.val (.int .u64 v0)),.d (.val (.int .u64 v1)),.d (.val (.int .u64 v2)),.d (.val (.int .u64 v3))]) none none:=h50
  have h50' : Good Try.prog 50 [nodeA (xT t)] none (.agg [.d (.val (.int .u64 v0)),.d (.val (.int .u64 v1)),.d (.val (.int .u64 v2)),.d (.val (.int .u64 v3))]) none none:=h50'
  have hokq:=okQ_sets hok
  have hsub:=sets_xT t hok
  have hl1:=setsT_len t
  have hl2:=setsT_len (xT t)
  have hl1' : (setsT t).length≤1000000:=by omega
  have hl2' : (setsT (xT t)).length≤1000000:=by omega
  clear ht hf hc hr hfi hok hw e1 e2 hoku hcu hL el eh ef hp0 hak hws hl1 hl2
  generalize (knT t).lo=lo at h62 h62'
  generalize (knT t).hi=hi at h63 h63'
  generalize setsT (xT t)=K2 at h61' hsub hl2'
  generalize setsT t=K at h61 hsub hokq hl1'
  generalize xT t=u at h57 h61' h50' h62' h63'
  obtain ⟨k,a,b,c,d,mn,mx,subs⟩:=t
  obtain ⟨k2,a2,b2,c2,d2,mn2,mx2,subs2⟩:=u
  have e0 : nodeA (.node k a b c d mn mx subs)=.agg [.i k,.d (.val (.int .u64 a)),.d (.val (.int .u64 b)),.d (.val (.int .u64 c)),.d (.val (.int .u64 d)),.i mn,.i mx,.d (.sl (encL subs) subs.length)]:=rfl
  have e3 : nodeA (.node k2 a2 b2 c2 d2 mn2 mx2 subs2)=.agg [.i k2,.d (.val (.int .u64 a2)),.d (.val (.int .u64 b2)),.d (.val (.int .u64 c2)),.d (.val (.int .u64 d2)),.i mn2,.i mx2,.d (.sl (encL subs2) subs2.length)]:=rfl
  rw [e0] at h45 h32 h57 h61 h50 h62 h63 ⊢
  rw [e3] at h57 h61' h50' h62' h63'
  refine good18 (by simp) (fun st=>Wk st ⟨(Fr.nil.put 1 (.ptrL 1 0)).put 3 (.ptrL 2 0),rowsOf [(1,[.i k,.d (.val (.int .u64 a)),.d (.val (.int .u64 b)),.d (.val (.int .u64 c)),.d (.val (.int .u64 d)),.i mn,.i mx,.d (.sl (encL subs) subs.length)]),(2,[.i k2,.d (.val (.int .u64 a2)),.d (.val (.int .u64 b2)),.d (.val (.int .u64 c2)),.d (.val (.int .u64 d2)),.i mn2,.i mx2,.d (.sl (encL subs2) subs2.length)])],Frz.buts 100 [],100⟩) (w_init ?_) ?_
  · unfold xp0 xp1 xp2 xp3
    repeat' (first
    | (apply r_mvV;rfl)
    | (apply r_mvP;rfl)
    | (apply r_mvPL;rfl)
    | (apply r_mvS;rfl)
    | (apply r_mvSL;rfl)
    | (apply r_mvA;rfl)
    | (apply r_mvT;rfl)
    | (apply r_mvF;rfl)
    | (apply r_mvD;rfl)
    | (apply r_ldL (v:=.agg [.i k,.d (.val (.int .u64 a)),.d (.val (.int .u64 b)),.d (.val (.int .u64 c)),.d (.val (.int .u64 d)),.i mn,.i mx,.d (.sl (encL subs) subs.length)]);rfl;rfl;rfl)
    | (apply r_callA (f:=56) (ags:=[]);rfl;rfl;exact haw)
    | (apply r_callA (f:=45);rfl;rfl;exact h45)
    | (apply r_callA (f:=32);rfl;rfl;exact h32)
    | (apply r_callA (f:=57);rfl;rfl;exact h57)
    | (apply r_ldL;rfl;rfl;rfl)
    | (apply r_eql;rfl;rfl;(first | (apply dT;omega) | (apply dF;omega) | rfl))
    | (apply r_neq;rfl;rfl;(first | (apply dT;omega) | (apply dF;omega) | rfl))
    | (apply r_lss;rfl;rfl;(first | (apply dT;omega) | (apply dF;omega) | rfl))
    | (apply r_add;rfl;rfl;rfl;omega)
    | (apply r_not;rfl;rfl)
    | (apply r_pickT;rfl)
    | (apply r_pickF;rfl)
    | (apply r_lenD;rfl)
    | (apply r_lenL;rfl)
    | (apply r_len0;rfl)
    | (apply r_ext;rfl;rfl)
    | (apply r_gT;rfl)
    | (apply r_gF';rfl;rfl)
    | (apply r_gN';rfl)
    | ((apply r_gS (o:=default);rfl)<;>(intro h;try simp only [decide_eq_true_eq,decide_eq_false_iff_not,Bool.not_eq_true,Bool.not_eq_false] at h))
    | (apply r_alloc;((conv=>lhs;simp only [Nat.reduceAdd])<;>rfl);rfl)
    | (apply r_box;((conv=>lhs;simp only [Nat.reduceAdd])<;>rfl);rfl;rfl;rfl)
    | (apply r_stL;rfl;rfl;rfl;rfl;(first | rfl | (simp only [z_nil,z_add]<;>rfl));rfl;rfl)
    | (apply r_p;rfl)
    | (apply r_nilK)
    | (apply r_nil)
    | (apply k_V;rfl)
    | (apply k_P;rfl)
    | (apply k_PL;rfl)
    | (apply k_S;rfl)
    | (apply k_SL;rfl)
    | (apply k_A;rfl)
    | (apply k_T;rfl)
    | (apply k_F;rfl)
    | (apply k_D;rfl;rotate_left;rfl)
    | (apply k_nil)
    | (apply e_ret (vs:=[.d (.val _)]);rfl)
    | (apply e_ret;rfl)
    | (apply e_ret' (vs:=[.d (.val _)]);rfl)
    | (apply e_ret';rfl)
    | (apply w_seq)
    | (apply w_ops;((conv=>lhs;simp only [Nat.reduceAdd])<;>rfl))
    | (apply w_condT;rfl)
    | (apply w_condF;rfl)
    | ((apply w_condS;rfl)<;>(intro h;try simp only [decide_eq_true_eq,decide_eq_false_iff_not,Bool.not_eq_true,Bool.not_eq_false] at h))
    | (apply e_thenN)
    | (apply w_block)
    | (apply e_thenR)
    | (apply e_thenX)
    | (apply e_blkN)
    | (apply e_blkR)
    | (apply e_blkE)
    | (apply w_exit)
    | (apply w_ret)
    | (apply w_skip)
    | (apply e_blkE';rfl))
    apply e_thenK
    show Wk _ _
    refine wkM [(2,20)] [] rfl ?_ ?_ rfl ?_
    · (intro p hp;simp only [List.mem_cons,List.not_mem_nil,or_false] at hp;rcases hp with rfl | rfl<;>exact ⟨by omega,.inr ⟨rfl,_,rfl,.data rfl⟩⟩)
    · (intro q hq;simp at hq)
    · repeat' (first
    | exact FWk.nil
    | (apply FWk.i;rfl;(first | rfl | omega | (simp;done)))
    | (apply FWk.sl;rfl;rfl;rfl;rfl;omega;rfl)
    | (apply FWk.ptr;rfl;rfl;rfl;omega;rfl)
    | (apply FWk.d;rfl;rfl)
    | (apply FWk.a;rfl;rfl;rfl)
    | (apply FWk.slN;rfl;omega;rfl))
  · intro st hk rest hrest w0 S Wr pb a' w R hS hs fin
    exact core18 hrest hokq hsub hl1' hl2' h61 h61' h50 h50' h62 h62' h63 h63' hS (hk.sound hs) fin
end Go.Sv
namespace Go.Sv
open Go Go.Proofs Go.Proofs.Ytcnlgmajkclgjaa Go.ChangeShapes Go.WideShapes Go.ChangeAt Go.RowKit
set_option linter.unusedVariables false
set_option maxRecDepth 100000

theorem try_own : ownKnob Try.prog.godebug=none:=by kernel_rfl
theorem try_laidOut : laidOutB Try.prog=true:=by kernel_rfl
theorem rowed : ∀ t ∈ [27,9,3,5,41],Try.prog.readableRec t=true∧t < Try.prog.types.size:=by
  intro t ht
  simp only [List.mem_cons,List.not_mem_nil,or_false] at ht
  rcases ht with rfl | rfl | rfl | rfl | rfl
  all_goals exact ⟨by kernel_rfl,of_decide_eq_true (by kernel_rfl)⟩

section
variable {H : Type} {enc : TypeId × Value→H}
theorem stays_all {W W' : World} {sp : Nat→Bool} (hsame : ∀ p : MemPlace,p.block < W.heap.size→W.sameAt W' p) : ∀ {ts : List TypeId} {vs : List Value} {ds : List (DataW H)} {ps : List MemPlace},(∀ t ∈ ts,Try.prog.readableRec t=true∧t < Try.prog.types.size) →
    DataW.TrodAll enc Try.prog W 0 (fun _=>true) true ts vs ds ps→(∀ p ∈ ps,p.block < W.heap.size)→(∀ p ∈ ps,sp p.block=true)→DataW.TrodAll enc Try.prog W' 0 sp true ts vs ds ps
  | [],[],[],ps,_,h,_,_=>h
  | t :: ts,v :: vs,d :: ds,ps,hr,h,hl,hs=>by
    obtain ⟨p,q,h1,h2,rfl⟩:=h
    refine ⟨p,q,WideElems.Trod_stays try_laidOut (hr t (by simp)).1 (hr t (by simp)).2 h1 (fun x hx=>hsame x (hl x (by simp [hx]))) (fun x hx=>hs x (by simp [hx])),?_,rfl⟩
    exact stays_all hsame (fun t ht=>hr t (by simp [ht])) h2 (fun x hx=>hl x (by simp [hx])) (fun x hx=>hs x (by simp [hx]))

theorem law_post {s : ChangeSpec} {f : Func} {W W' : World} {args : Array Value} {ds gs : List (DataW H)} {before : List MemPlace} (hW : DataW.Whole enc Try.prog f.params.toList s.vars false W args.toList ds gs before) (hsv : s.vars=[])
    (h1 : (s.fn H (ds++gs)).results=[.lit (.bool true)]) (h2 : (s.fn H (ds++gs)).args=ds) (h3 : (s.fn H (ds++gs)).vars=[]) (hrt : f.resultTypes=#[4]) (hb : Below W.heap.size W W')
    (hr : ∀ t ∈ f.params.toList,Try.prog.readableRec t=true∧t < Try.prog.types.size) : s.post enc Try.prog f false true false false W args (.bool true) W':=by
  have hlt:=hW.lt
  have hW0:=hW
  obtain ⟨p,q,hA,hV,rfl,_,_⟩:=hW
  rw [hsv] at hV
  obtain ⟨rfl,rfl⟩:=trodVars_none hV
  have hlt' : ∀ x ∈ p,x.block < W.heap.size:=fun x hx=>by simpa using hlt x (by simp [hx])
  refine ⟨ds,[],p++[],[],p,[],hW0,?_,?_,?_,hb.frame _,fun h=>by cases h⟩
  · rw [hrt,h1]
    exact trodAll_mk1 (shut_bool Try.underlying4 true)
  · rw [h2]
    exact stays_all (fun x hx=>hb.same hx) hr hA hlt' (fun x hx=>by simpa using hlt' x hx)
  · rw [hsv,h3];rfl

theorem Kept.below {w w' : World} (h : Kept w w' (fun k=>(none : Option (List DV)).isSome=true∧(none : Option Nat)=some k)) : Below w.heap.size w w' :=
  ⟨h.os,h.tape,h.output,h.size,fun k hk=>h.keep k hk (by simp)⟩

theorem law_calls {f : FuncId} {ags : List AV} (hg : Good Try.prog f ags none (.b true) none none) {W : World} {args : Array Value} (ha : RAs W NoA (fun _=>none) NoA args ags) : Calls Try.prog f args W fun e W'=>e=.returned (.bool true)∧Below W.heap.size W W':=by
  have hNo : (fun k=>NoA k ∨ ((none : Option (List DV)).isSome=true∧(none : Option Nat)=some k))=NoA:=by
    funext k;simp [NoA]
  have hU : (fun b : Nat=>(none : Option (List DV)).isSome=true∧b=0)=NoA:=by
    funext k;simp [NoA]
  have:=hg.2.2 W NoA none args (fun k h=>h.elim) (fun k h=>by simp at h) (fun ds h=>by cases h) (by rw [hNo,hU];exact ha)
  refine this.mono fun e W' ⟨v,nm,he,hk,_,_,_,hv⟩=>?_
  have:=hv.val_eq
  subst this
  exact ⟨he,hk.below⟩
theorem RAs.nil {W : World} : RAs W NoA (fun _=>none) NoA #[] []:=⟨rfl,fun j h=>by simp at h⟩
theorem RAs.mk : ∀ {W : World} {vs : List Value} {ags : List AV},vs.length=ags.length→(∀ (j : Nat) v a,vs[j]?=some v→ags[j]?=some a→RA W NoA (fun _=>none) NoA v a)→RAs W NoA (fun _=>none) NoA vs.toArray ags:=by
  intro W vs ags hl h
  refine ⟨by simpa using hl,fun j hj=>?_⟩
  have hj2 : j < vs.length:=by omega
  have : vs.toArray.getD j undef=vs[j]:=by simp [Array.getD,hj2]
  rw [this]
  exact h j _ _ (List.getElem?_eq_getElem hj2) (List.getElem?_eq_getElem hj)
theorem RDs.toA {W : World} {vs : List Value} {ds : List DV} (h : RDs W vs ds) : RA W NoA (fun _=>none) NoA (.agg vs.toArray) (.agg (ds.map AV.d)):=by
  refine .agg _ _ (by simpa using h.1) fun j hj=>?_
  have hj1 : j < ds.length:=by simpa using hj
  have hj2 : j < vs.length:=by rw [h.1];exact hj1
  have : vs.toArray.getD j undef=vs[j]:=by simp [Array.getD,hj2]
  rw [this,List.getElem_map]
  exact .d _ _ (h.2 j _ _ (List.getElem?_eq_getElem hj2) (List.getElem?_eq_getElem hj1))
theorem arg_node {W : World} {base : Nat} {v : Value} {d : DataW H} {p : List MemPlace} (hok : Value.okWide Try.prog W .any base 27 v) (h : DataW.Trod enc Try.prog W 0 (fun _=>true) true 27 v d p) : ∃ t : T,inT t∧RA W NoA (fun _=>none) NoA v (nodeA t):=by
  obtain ⟨n,hn⟩:=h
  obtain ⟨t,h1,h2⟩:=node_open n _ _ hn
  have hs : ∃ cs,v=.agg cs:=by
    unfold Value.okWide at hok
    rw [Try.underlying27] at hok
    obtain ⟨cs,h,_⟩:=hok
    exact ⟨cs,h⟩
  obtain ⟨cs,rfl⟩:=hs
  exact ⟨t,h1,h2.toA⟩
end
theorem joined_of {P : Program} {f : FuncId} {fn : Func} {s : ChangeSpec} {c : OpenClaim}
    (k1 : (c.wf (OpenSpec.ofChange s) && laidOutB P && mapsRowed P && fn.params.all (P.readableRec ·) && namedTie P c.named s.vars && (c.stops == []) && (P.stops == []) && (c.knobs == []) && (P.stopKnobs == []))=true)
    (k2 : (c.inPlace == P.inPlace f)=true) (k3 : (c.unfollowed == P.unfollowed f)=true) (k4 : (c.recurses == P.recurses f)=true) (k5 : (c.named == P.varsNamed f)=true)
    (k6 : ((c.maps == (fn.params.toList++s.plain.varTypes P).any (P.mapsRec ·)) && (c.ifaces == (fn.params.toList++s.plain.varTypes P).any (P.ifacesRec ·)) && (c.mapsOut == P.mapsAmong fn.resultTypes.toList) &&
  (c.loops == (fn.params.toList++s.plain.varTypes P).any (P.loopsFrom ·)) && (c.wideKeys == (fn.params.toList++s.plain.varTypes P++fn.resultTypes.toList).any (P.wideKeysFrom ·)) &&
  s.vars.all (P.varReadable ·) && fn.resultTypes.all (fun t=>P.readableRec t && decide (t < P.types.size)) && (c.ifacesOut == fn.resultTypes.toList.any (P.ifacesRec ·)) && (c.loopsOut == fn.resultTypes.toList.any (P.loopsFrom ·)))=true)
    (hm : P.mayEnter=true) (hl : P.liftsFinal=c.lifted) (hk : P.make=some c.make) (k7 : ((c.plainKeys == P.plainKeys) && c.shortTexts.isNone && P.stopsHeard && (c.kinds == (if c.domain.isEmpty then [] else fn.params.toList.map fun t=>match P.underlying t with | some (.int k)=>some k | _=>none)) && (c.pinned == c.pinnedBy) &&
  (c.veiled == (fn.params.toList++s.plain.varTypes P++fn.resultTypes.toList).any (P.veiledRec ·)) && c.veiledFits P fn.params.toList (fn.params.toList++s.plain.varTypes P++fn.resultTypes.toList))=true) : joinedFacts P f fn s c=true:=by
  unfold joinedFacts
  simp only [Bool.and_eq_true] at k1 k6 k7 ⊢
  obtain ⟨⟨⟨⟨⟨⟨⟨⟨a1,a2⟩,a3⟩,a4⟩,a5⟩,a6⟩,a7⟩,a8⟩,a9⟩:=k1
  obtain ⟨⟨⟨⟨⟨⟨⟨⟨b1,b2⟩,b3⟩,b4⟩,b5⟩,b6⟩,b7⟩,b8⟩,b9⟩:=k6
  obtain ⟨⟨⟨⟨⟨⟨c1,c2⟩,c3⟩,c4⟩,c5⟩,c6⟩,c7⟩:=k7
  have d1 : (c.lifted == P.liftsFinal)=true:=by rw [hl];exact beq_self_eq_true _
  have d2 : (P.make == some c.make)=true:=by rw [hk];exact beq_self_eq_true _
  repeat' apply And.intro
  all_goals assumption
end Go.Sv
namespace Go.Sv
open Go Go.Proofs Go.Proofs.Ytcnlgmajkclgjaa
set_option maxRecDepth 100000
def orderN : List Nat:=[104,97,114,110,101,115,115,32,52,100,99,102,50,98,101,99,57,54,53,101,49,53,55,56,102,100,97,52,56,101,99,52,97,101,57,98,98,50,100,98,101,100,51,97,52,98,99,100,100,51,97,57,56,98,50,102,51,57,102,50,50,101,97,100,48,54,49,51,100,51,56,56,32,99,117,116,32,97,116,32,115,105,101,118,101,47,115,105,101,118,101,108,97,119,49,49,46,69,110,100,115,84,101,108,108,32,115,105,101,118,101,47,115,105,101,118,101,108,97,119,49,49,46,69,110,100,115,77,97,116,99,104,32,115,105,101,118,101,47,115,105,101,118,101,108,97,119,49,49,46,69,110,100,115,83,105,109,112,108,101,32,115,105,101,118,101,47,115,105,101,118,101,108,97,119,49,49,46,69,110,100,115,66,101,115,116,32,115,105,101,118,101,47,115,105,101,118,101,108,97,119,49,49,46,69,110,100,115,76,111,110,103,101,114,32,115,105,101,118,101,47,115,105,101,118,101,108,97,119,49,49,46,69,110,100,115,80,97,114,116,115,32,115,105,101,118,101,47,115,105,101,118,101,108,97,119,49,49,46,69,110,100,115,83,116,97,114,32,115,105,101,118,101,47,115,105,101,118,101,108,97,119,49,48,46,83,105,109,112,108,105,102,121,84,101,108,108,115,32,115,105,101,118,101,47,115,105,101,118,101,108,97,119,49,48,46,83,105,109,112,108,105,102,121,65,103,97,105,110,32,115,105,101,118,101,47,115,105,101,118,101,108,97,119,49,48,46,83,105,109,112,108,105,102,121,75,101,101,112,115,32,115,105,101,118,101,47,115,105,101,118,101,108,97,119,49,48,46,83,105,109,112,108,105,102,121,79,110,101,32,115,105,101,118,101,47,115,105,101,118,101,108,97,119,49,51,46,69,120,112,97,110,100,84,101,108,108,115,32,115,105,101,118,101,47,115,105,101,118,101,108,97,119,49,51,46,69,120,112,97,110,100,83,97,109,101,32,115,105,101,118,101,47,115,105,101,118,101,108,97,119,49,51,46,69,120,112,97,110,100,80,108,97,105,110,32,115,105,101,118,101,47,115,105,101,118,101,108,97,119,49,51,46,69,120,112,97,110,100,66,117,100,103,101,116,32,115,105,101,118,101,47,115,105,101,118,101,108,97,119,49,51,46,69,120,112,97,110,100,70,105,114,115,116,32,115,105,101,118,101,47,115,105,101,118,101,108,97,119,48,57,46,77,101,97,115,117,114,101,84,101,108,108,115,32,115,105,101,118,101,47,115,105,101,118,101,108,97,119,48,57,46,77,101,97,115,117,114,101,75,110,111,119,115,32,115,105,101,118,101,47,115,105,101,118,101,108,97,119,48,57,46,77,101,97,115,117,114,101,76,101,110,103,116,104,115,32,115,105,101,118,101,47,115,105,101,118,101,108,97,119,48,57,46,77,101,97,115,117,114,101,80,97,114,116,115,32,115,105,101,118,101,47,115,105,101,118,101,108,97,119,48,57,46,77,101,97,115,117,114,101,82,101,112,32,115,105,101,118,101,47,115,105,101,118,101,108,97,119,49,50,46,68,101,114,105,118,101,84,101,108,108,115,32,115,105,101,118,101,47,115,105,101,118,101,108,97,119,49,50,46,68,101,114,105,118,101,76,111,110,103,101,115,116,32,115,105,101,118,101,47,115,105,101,118,101,108,97,119,49,50,46,68,101,114,105,118,101,87,111,114,100,115,32,115,105,101,118,101,47,115,105,101,118,101,108,97,119,49,50,46,68,101,114,105,118,101,70,105,114,115,116,32,115,105,101,118,101,47,115,105,101,118,101,108,97,119,49,50,46,68,101,114,105,118,101,83,105,109,112,108,101]
theorem order_eq : Try.prog.initOrder=String.ofList (orderN.map Char.ofNat):=by kernel_rfl
theorem order_list : Try.prog.initOrder.toList=orderN.map Char.ofNat:=by rw [order_eq,String.toList_ofList]
theorem ow1 : (stripLifts liftWords (behindMainWord (wordsSigns (orderN.map Char.ofNat)))).1=[]:=by kernel_rfl
theorem ow2 : ((stripLifts liftWords (behindMainWord (wordsSigns (orderN.map Char.ofNat)))).2.head? == some "cut".toList)=true:=by kernel_rfl
theorem ow3 : ((behindMainWord (wordsSigns (orderN.map Char.ofNat))).isEmpty=false):=by kernel_rfl
theorem ow4 : ((behindMainWord (wordsSigns (orderN.map Char.ofNat))).head? == some "cut".toList)=true:=by kernel_rfl
theorem ow5 : ((behindMainWord (wordsSigns (orderN.map Char.ofNat))).head? == some "carried".toList)=false:=by kernel_rfl
theorem ow6 : ((behindMainWord (wordsSigns (orderN.map Char.ofNat))).head? == some "gc".toList)=false:=by kernel_rfl
theorem ow7 : ((behindMainWord (wordsSigns (orderN.map Char.ofNat))).head? == some "spec".toList)=false:=by kernel_rfl
theorem try_lays : Try.prog.laysLater=false:=by kernel_rfl
theorem try_refl : Try.prog.bearsReflect=false:=by kernel_rfl
theorem try_door : Try.prog.doorFits []=true:=by kernel_rfl
theorem headLifts_of {P : Program} {l : List Char} (h : P.initOrder.toList=l) (h1 : (stripLifts liftWords (behindMainWord (wordsSigns l))).1=[]) (h2 : ((stripLifts liftWords (behindMainWord (wordsSigns l))).2.head? == some "cut".toList)=true) : P.headLifts=[]:=by
  subst h
  unfold Program.headLifts
  simp only [h2,if_true,h1]
theorem try_headLifts : Try.prog.headLifts=[]:=headLifts_of order_list ow1 ow2
theorem mayEnter_of {P : Program} {l : List Char} (h : P.initOrder.toList=l) (h1 : (stripLifts liftWords (behindMainWord (wordsSigns l))).1=[]) (h2 : ((stripLifts liftWords (behindMainWord (wordsSigns l))).2.head? == some "cut".toList)=true)
    (h3 : (behindMainWord (wordsSigns l)).isEmpty=false) (k1 : P.laysLater=false) (k2 : P.bearsReflect=false) (k3 : P.doorFits []=true) : P.mayEnter=true:=by
  subst h
  unfold Program.mayEnter
  generalize behindMainWord (wordsSigns P.initOrder.toList)=q at h1 h2 h3 ⊢
  cases q with
  | nil=>cases h3
  | cons c rest =>
    have e1 : ([] : List String).contains "finals"=false:=rfl
    have e2 : ([] : List String).contains "reflectrows"=false:=rfl
    have e3 : ([] : List String).contains "leanrows"=false:=rfl
    simp only [h1,h2,k1,k2,k3,e1,e2,e3,Bool.not_false,Bool.or_true,Bool.and_true,Bool.or_self,Bool.and_self]
theorem try_mayEnter : Try.prog.mayEnter=true:=mayEnter_of order_list ow1 ow2 ow3 try_lays try_refl try_door
theorem lifts_of {P : Program} {l : List Char} (h : P.initOrder.toList=l) (h5 : ((behindMainWord (wordsSigns l)).head? == some "carried".toList)=false) (k : P.headLifts=[]) : P.liftsFinal=false:=by
  subst h
  unfold Program.liftsFinal
  rw [k]
  have e1 : ([] : List String).contains "finals"=false:=rfl
  simp only [h5,e1,Bool.false_and,Bool.or_self]
theorem try_lifts : Try.prog.liftsFinal=false:=lifts_of order_list ow5 try_headLifts
theorem make_of {P : Program} {l : List Char} (h : P.initOrder.toList=l) (h3 : (behindMainWord (wordsSigns l)).isEmpty=false) (h4 : ((behindMainWord (wordsSigns l)).head? == some "cut".toList)=true)
    (h6 : ((behindMainWord (wordsSigns l)).head? == some "gc".toList)=false) (h7 : ((behindMainWord (wordsSigns l)).head? == some "spec".toList)=false) : P.make=some .cut:=by
  subst h
  unfold Program.make
  generalize behindMainWord (wordsSigns P.initOrder.toList)=q at h3 h4 h6 h7 ⊢
  cases q with
  | nil=>cases h3
  | cons c rest =>
    simp only [List.head?_cons] at h4 h6 h7
    have g : ∀ x : List Char,(some c == some x)=(c == x):=fun x=>rfl
    rw [g] at h4 h6 h7
    simp only [h4,h6,h7,Bool.or_self,Bool.false_eq_true,if_false,Bool.true_or,if_true]
theorem try_make : Try.prog.make=some .cut:=make_of order_list ow3 ow4 ow6 ow7
end Go.Sv
