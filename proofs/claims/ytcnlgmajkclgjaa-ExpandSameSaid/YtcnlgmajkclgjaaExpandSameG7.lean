/- A part of the proof of the law ExpandSame: that it answers true for every input, and that the input reads behind the call as before (no condition). -/
import Derived.Test.YtcnlgmajkclgjaaExpandSameG6
import Derived.Test.YtcnlgmajkclgjaaRows
import Derived.ProofKit
import Derived.OpenShut
set_option linter.all false
set_option linter.unusedSectionVars false
set_option linter.unusedVariables false
set_option linter.unusedSimpArgs false
namespace Go.Sv
open Go Go.Proofs
set_option maxRecDepth 100000
set_option maxHeartbeats 4000000
attribute [local irreducible] W E R KP thenK blockK retK Good xwp aRun
theorem rcatG_drop (s : ByteArray) (l : List T) (p : List Bool) (i : Nat) (h : i < l.length) : rcatG s (l.drop i) p = rcatG s (l.drop (i + 1)) (refG s l[i] p) := by
  rw [List.drop_eq_getElem_cons h, rcatG]
theorem raltG_drop (s : ByteArray) (l : List T) (p out : List Bool) (i : Nat) (h : i < l.length) : raltG s (l.drop i) p out = raltG s (l.drop (i + 1)) p (addTo out (refG s l[i] p) (s.size + 1)).1 := by
  rw [List.drop_eq_getElem_cons h, raltG]
theorem ref_good (s : ByteArray) (hsz : s.size ≤ 1000000) : ∀ (n : Nat) (t : T), t.cnt ≤ n → n ≤ 1000000 → okT t → ∀ (p : List Bool), p.length = s.size + 1 →
    Good Try.prog 88 [nodeA t, .d (.val (.string s)), .d (.sl (encB p) (s.size + 1))] none (.d (.sl (encB (refG s t p)) (s.size + 1))) none none := by
  intro n
  induction n with
  | zero => intro t ht; have := cnt_pos t; omega
  | succ n ih =>
  intro t ht hc hok p hp
  obtain ⟨k, a, b, c, d, mn, mx, subs⟩ := t
  have hR := okT_R hok
  simp only [okT, okN] at hok
  obtain ⟨⟨ha, hb, hcc, hd, hpl⟩, hoks⟩ := hok
  have ih' : ∀ i (h : i < subs.length) (q : List Bool), q.length = s.size + 1 → Good Try.prog 88 [nodeA subs[i], .d (.val (.string s)), .d (.sl (encB q) (s.size + 1))] none (.d (.sl (encB (refG s subs[i] q)) (s.size + 1))) none none := by
    intro i h q hq
    refine ih _ ?_ (by omega) (okL_get subs i h hoks) _ hq
    have := cntL_get subs i h
    simp only [T.cnt] at ht
    omega
  have hlen : subs.length ≤ 1000000 := by
    have := cntL_len subs
    simp only [T.cnt] at ht
    omega
  have e0 : nodeA (.node k a b c d mn mx subs) = .agg [.i k, .d (.val (.int .u64 a)), .d (.val (.int .u64 b)), .d (.val (.int .u64 c)), .d (.val (.int .u64 d)), .i mn, .i mx, .d (.sl (encL subs) subs.length)] := rfl
  rw [e0]
  refine b88 (by simp) (by simp) (w_init ?_)
  unfold x88
  by_cases h1 : k = 1
  · repeat' (first
    | (apply r_mvV; rfl)
    | (apply r_mvP; rfl)
    | (apply r_mvPL; rfl)
    | (apply r_mvS; rfl)
    | (apply r_mvSL; rfl)
    | (apply r_mvA; rfl)
    | (apply r_mvT; rfl)
    | (apply r_mvF; rfl)
    | (apply r_mvD; rfl)
    | (apply r_faddD; rfl)
    | (apply r_faddL; rfl)
    | (apply r_l; apply ld_kind; assumption; rfl)
    | (apply r_l; apply ld_mn; assumption; rfl)
    | (apply r_l; apply ld_mx; assumption; rfl)
    | (apply r_l; apply ld_subs; assumption; rfl)
    | (apply r_l; apply ld_set; assumption; rfl)
    | (apply r_l; apply ld_node; assumption; rfl)
    | (apply r_l; apply ld_kind'; assumption; rfl)
    | (apply r_l; apply ld_mn'; assumption; rfl)
    | (apply r_l; apply ld_mx'; assumption; rfl)
    | (apply r_l; apply ld_subs'; assumption; rfl)
    | (apply r_l; apply ld_node'; assumption; rfl)
    | (apply r_mksB (m := s.size + 1); rfl; rfl; ((conv => lhs; simp only [Nat.reduceAdd]) <;> rfl); omega; omega)
    | (apply r_cpyB; rfl; rfl; rfl; rfl; simp; exact hp)
    | (apply r_ldL; rfl; rfl; rfl)
    | (apply r_eql; rfl; rfl; (first | (apply decide_eq_true; omega) | (apply decide_eq_false; omega) | rfl))
    | (apply r_lss; rfl; rfl; (first | (apply decide_eq_true; omega) | (apply decide_eq_false; omega) | rfl))
    | (apply r_leq; rfl; rfl; (first | (apply decide_eq_true; omega) | (apply decide_eq_false; omega) | rfl))
    | (apply r_geq; rfl; rfl; (first | (apply decide_eq_true; omega) | (apply decide_eq_false; omega) | rfl))
    | (apply r_add; rfl; rfl; rfl; omega)
    | (apply r_not; rfl; rfl)
    | (apply r_pickT; rfl)
    | (apply r_pickF; rfl)
    | (apply r_lenD; rfl)
    | (apply r_lenL; rfl)
    | (apply r_len0; rfl)
    | (apply r_lenT; rfl)
    | (apply r_gT; rfl)
    | (apply r_gF'; rfl; rfl)
    | (apply r_gN'; rfl)
    | ((apply r_gS (o := default); rfl) <;> (intro h; try simp only [decide_eq_true_eq, decide_eq_false_iff_not, Bool.not_eq_true, Bool.not_eq_false] at h))
    | (apply r_box; ((conv => lhs; simp only [Nat.reduceAdd]) <;> rfl); rfl; rfl; rfl)
    | (apply r_stL; rfl; rfl; rfl; rfl; (first | rfl | (simp only [z_nil, z_add] <;> rfl)); rfl; rfl)
    | (apply r_p; rfl)
    | (apply r_nilK)
    | (apply r_nil)
    | (apply k_V; rfl)
    | (apply k_P; rfl)
    | (apply k_PL; rfl)
    | (apply k_S; rfl)
    | (apply k_SL; rfl)
    | (apply k_A; rfl)
    | (apply k_T; rfl)
    | (apply k_F; rfl)
    | (apply k_D; rfl; rotate_left; rfl)
    | (apply k_nil)
    | (apply e_ret (vs := [.d (.val _)]); rfl)
    | (apply e_ret; rfl)
    | (apply e_ret' (vs := [.d (.val _)]); rfl)
    | (apply e_ret'; rfl)
    | (apply w_seq)
    | (apply w_ops; ((conv => lhs; simp only [Nat.reduceAdd]) <;> rfl))
    | (apply w_condT; rfl)
    | (apply w_condF; rfl)
    | ((apply w_condS; rfl) <;> (intro h; try simp only [decide_eq_true_eq, decide_eq_false_iff_not, Bool.not_eq_true, Bool.not_eq_false] at h))
    | (apply e_thenN)
    | (apply w_block)
    | (apply e_thenR)
    | (apply e_thenX)
    | (apply e_blkN)
    | (apply e_blkR)
    | (apply e_blkE)
    | (apply w_exit)
    | (apply w_ret)
    | (apply w_skip)
    | (apply e_blkE'; rfl))
    rw [show refG s (.node k a b c d mn mx subs) p = p by simp [refG, h1]]
    exact retSB rfl hp
  by_cases h2 : k = 2
  · repeat' (first
    | (apply r_mvV; rfl)
    | (apply r_mvP; rfl)
    | (apply r_mvPL; rfl)
    | (apply r_mvS; rfl)
    | (apply r_mvSL; rfl)
    | (apply r_mvA; rfl)
    | (apply r_mvT; rfl)
    | (apply r_mvF; rfl)
    | (apply r_mvD; rfl)
    | (apply r_faddD; rfl)
    | (apply r_faddL; rfl)
    | (apply r_l; apply ld_kind; assumption; rfl)
    | (apply r_l; apply ld_mn; assumption; rfl)
    | (apply r_l; apply ld_mx; assumption; rfl)
    | (apply r_l; apply ld_subs; assumption; rfl)
    | (apply r_l; apply ld_set; assumption; rfl)
    | (apply r_l; apply ld_node; assumption; rfl)
    | (apply r_l; apply ld_kind'; assumption; rfl)
    | (apply r_l; apply ld_mn'; assumption; rfl)
    | (apply r_l; apply ld_mx'; assumption; rfl)
    | (apply r_l; apply ld_subs'; assumption; rfl)
    | (apply r_l; apply ld_node'; assumption; rfl)
    | (apply r_mksB (m := s.size + 1); rfl; rfl; ((conv => lhs; simp only [Nat.reduceAdd]) <;> rfl); omega; omega)
    | (apply r_ldL; rfl; rfl; rfl)
    | (apply r_eql; rfl; rfl; (first | (apply decide_eq_true; omega) | (apply decide_eq_false; omega) | rfl))
    | (apply r_lss; rfl; rfl; (first | (apply decide_eq_true; omega) | (apply decide_eq_false; omega) | rfl))
    | (apply r_leq; rfl; rfl; (first | (apply decide_eq_true; omega) | (apply decide_eq_false; omega) | rfl))
    | (apply r_geq; rfl; rfl; (first | (apply decide_eq_true; omega) | (apply decide_eq_false; omega) | rfl))
    | (apply r_add; rfl; rfl; rfl; omega)
    | (apply r_not; rfl; rfl)
    | (apply r_pickT; rfl)
    | (apply r_pickF; rfl)
    | (apply r_lenD; rfl)
    | (apply r_lenL; rfl)
    | (apply r_len0; rfl)
    | (apply r_lenT; rfl)
    | (apply r_gT; rfl)
    | (apply r_gF'; rfl; rfl)
    | (apply r_gN'; rfl)
    | ((apply r_gS (o := default); rfl) <;> (intro h; try simp only [decide_eq_true_eq, decide_eq_false_iff_not, Bool.not_eq_true, Bool.not_eq_false] at h))
    | (apply r_box; ((conv => lhs; simp only [Nat.reduceAdd]) <;> rfl); rfl; rfl; rfl)
    | (apply r_stL; rfl; rfl; rfl; rfl; (first | rfl | (simp only [z_nil, z_add] <;> rfl)); rfl; rfl)
    | (apply r_p; rfl)
    | (apply r_nilK)
    | (apply r_nil)
    | (apply k_V; rfl)
    | (apply k_P; rfl)
    | (apply k_PL; rfl)
    | (apply k_S; rfl)
    | (apply k_SL; rfl)
    | (apply k_A; rfl)
    | (apply k_T; rfl)
    | (apply k_F; rfl)
    | (apply k_D; rfl; rotate_left; rfl)
    | (apply k_nil)
    | (apply e_ret (vs := [.d (.val _)]); rfl)
    | (apply e_ret; rfl)
    | (apply e_ret' (vs := [.d (.val _)]); rfl)
    | (apply e_ret'; rfl)
    | (apply w_seq)
    | (apply w_ops; ((conv => lhs; simp only [Nat.reduceAdd]) <;> rfl))
    | (apply w_condT; rfl)
    | (apply w_condF; rfl)
    | ((apply w_condS; rfl) <;> (intro h; try simp only [decide_eq_true_eq, decide_eq_false_iff_not, Bool.not_eq_true, Bool.not_eq_false] at h))
    | (apply e_thenN)
    | (apply w_block)
    | (apply e_thenR)
    | (apply e_thenX)
    | (apply e_blkN)
    | (apply e_blkR)
    | (apply e_blkE)
    | (apply w_exit)
    | (apply w_ret)
    | (apply w_skip)
    | (apply e_blkE'; rfl))
    apply w_loopI (S := fun i : Nat => ⟨((((Fr.nil.put 1 (.d (.val (.string s)))).put 2 (.d (.sl (encB p) (s.size + 1)))).put 3 (.ptrL 1 0)).put 7 (.slL 6 0 (s.size + 1) 1)).put 8 (.i i), (Heap.nil.put 1 [.i k, .d (.val (.int .u64 a)), .d (.val (.int .u64 b)), .d (.val (.int .u64 c)), .d (.val (.int .u64 d)), .i mn, .i mx, .d (.sl (encL subs) subs.length)]).put 6 ((encB (classTo a b c d s p i)).map AV.d), Frz.but 100 6, 100⟩) (m := fun i => s.size - i) (I := fun i => i ≤ s.size) (i0 := 0)
    · exact Nat.zero_le _
    · exact wk2C (c := 6) (by omega) (by omega) (by omega) (by omega) (by omega) (by omega) rfl rfl rfl rfl encB_isD (FWk.i rfl rfl (FWk.sl rfl rfl rfl rfl (by omega) rfl (FWk.ptr rfl rfl rfl (by omega) rfl (FWk.d rfl rfl (FWk.d rfl rfl FWk.nil)))))
    intro i K hi hK
    dsimp only
    rcases Nat.lt_or_ge i s.size with hlt | hge
    · have hby := byteN_lt s i
      have hl := classTo_len a b c d s p i
      have hg : p[i]? = some (p.getD i false) := by
        rw [List.getD_eq_getElem?_getD, List.getElem?_eq_getElem (by omega)]; rfl
      have hin := in_good ha hb hcc hd (byteN s i) hby
      repeat' (first
    | (apply r_mvV; rfl)
    | (apply r_mvP; rfl)
    | (apply r_mvPL; rfl)
    | (apply r_mvS; rfl)
    | (apply r_mvSL; rfl)
    | (apply r_mvA; rfl)
    | (apply r_mvT; rfl)
    | (apply r_mvF; rfl)
    | (apply r_mvD; rfl)
    | (apply r_faddD; rfl)
    | (apply r_faddL; rfl)
    | (apply r_l; apply ld_kind; assumption; rfl)
    | (apply r_l; apply ld_mn; assumption; rfl)
    | (apply r_l; apply ld_mx; assumption; rfl)
    | (apply r_l; apply ld_subs; assumption; rfl)
    | (apply r_l; apply ld_set; assumption; rfl)
    | (apply r_l; apply ld_node; assumption; rfl)
    | (apply r_l; apply ld_kind'; assumption; rfl)
    | (apply r_l; apply ld_mn'; assumption; rfl)
    | (apply r_l; apply ld_mx'; assumption; rfl)
    | (apply r_l; apply ld_subs'; assumption; rfl)
    | (apply r_l; apply ld_node'; assumption; rfl)
    | (apply r_ixB'; rfl; rfl; omega; exact hp)
    | (apply r_ldB; rfl; exact hg)
    | (apply r_idxT; rfl; rfl; omega)
    | (apply r_callA; rfl; rfl; exact hin)
    | (apply r_ixL1; rfl; rfl; omega)
    | (apply r_stB; rfl; rfl; rfl; rfl; omega)
    | (apply r_ldL; rfl; rfl; rfl)
    | (apply r_eql; rfl; rfl; (first | (apply decide_eq_true; omega) | (apply decide_eq_false; omega) | rfl))
    | (apply r_lss; rfl; rfl; (first | (apply decide_eq_true; omega) | (apply decide_eq_false; omega) | rfl))
    | (apply r_leq; rfl; rfl; (first | (apply decide_eq_true; omega) | (apply decide_eq_false; omega) | rfl))
    | (apply r_geq; rfl; rfl; (first | (apply decide_eq_true; omega) | (apply decide_eq_false; omega) | rfl))
    | (apply r_add; rfl; rfl; rfl; omega)
    | (apply r_not; rfl; rfl)
    | (apply r_pickT; rfl)
    | (apply r_pickF; rfl)
    | (apply r_lenD; rfl)
    | (apply r_lenL; rfl)
    | (apply r_len0; rfl)
    | (apply r_lenT; rfl)
    | (apply r_gT; rfl)
    | (apply r_gF'; rfl; rfl)
    | (apply r_gN'; rfl)
    | ((apply r_gS (o := default); rfl) <;> (intro h; try simp only [decide_eq_true_eq, decide_eq_false_iff_not, Bool.not_eq_true, Bool.not_eq_false] at h))
    | (apply r_box; ((conv => lhs; simp only [Nat.reduceAdd]) <;> rfl); rfl; rfl; rfl)
    | (apply r_stL; rfl; rfl; rfl; rfl; (first | rfl | (simp only [z_nil, z_add] <;> rfl)); rfl; rfl)
    | (apply r_p; rfl)
    | (apply r_nilK)
    | (apply r_nil)
    | (apply k_V; rfl)
    | (apply k_P; rfl)
    | (apply k_PL; rfl)
    | (apply k_S; rfl)
    | (apply k_SL; rfl)
    | (apply k_A; rfl)
    | (apply k_T; rfl)
    | (apply k_F; rfl)
    | (apply k_D; rfl; rotate_left; rfl)
    | (apply k_nil)
    | (apply e_ret (vs := [.d (.val _)]); rfl)
    | (apply e_ret; rfl)
    | (apply e_ret' (vs := [.d (.val _)]); rfl)
    | (apply e_ret'; rfl)
    | (apply w_seq)
    | (apply w_ops; ((conv => lhs; simp only [Nat.reduceAdd]) <;> rfl))
    | (apply w_condT; rfl)
    | (apply w_condF; rfl)
    | ((apply w_condS; rfl) <;> (intro h; try simp only [decide_eq_true_eq, decide_eq_false_iff_not, Bool.not_eq_true, Bool.not_eq_false] at h))
    | (apply e_thenN)
    | (apply w_block)
    | (apply e_thenR)
    | (apply e_thenX)
    | (apply e_blkN)
    | (apply e_blkR)
    | (apply e_blkE)
    | (apply w_exit)
    | (apply w_ret)
    | (apply w_skip)
    | (apply e_blkE'; rfl))
      all_goals (apply e_thenK; apply hK (i + 1); omega; omega; refine wk2C (c := 6) (by omega) (by omega) (by omega) (by omega) (by omega) (by omega) rfl rfl ?_ rfl encB_isD (FWk.i rfl (by simp) (FWk.sl rfl rfl rfl rfl (by omega) rfl (FWk.ptr rfl rfl rfl (by omega) rfl (FWk.d rfl rfl (FWk.d rfl rfl FWk.nil))))); rw [classTo, h]; rfl)
    · repeat' (first
    | (apply r_mvV; rfl)
    | (apply r_mvP; rfl)
    | (apply r_mvPL; rfl)
    | (apply r_mvS; rfl)
    | (apply r_mvSL; rfl)
    | (apply r_mvA; rfl)
    | (apply r_mvT; rfl)
    | (apply r_mvF; rfl)
    | (apply r_mvD; rfl)
    | (apply r_faddD; rfl)
    | (apply r_faddL; rfl)
    | (apply r_l; apply ld_kind; assumption; rfl)
    | (apply r_l; apply ld_mn; assumption; rfl)
    | (apply r_l; apply ld_mx; assumption; rfl)
    | (apply r_l; apply ld_subs; assumption; rfl)
    | (apply r_l; apply ld_set; assumption; rfl)
    | (apply r_l; apply ld_node; assumption; rfl)
    | (apply r_l; apply ld_kind'; assumption; rfl)
    | (apply r_l; apply ld_mn'; assumption; rfl)
    | (apply r_l; apply ld_mx'; assumption; rfl)
    | (apply r_l; apply ld_subs'; assumption; rfl)
    | (apply r_l; apply ld_node'; assumption; rfl)
    | (apply r_ldL; rfl; rfl; rfl)
    | (apply r_eql; rfl; rfl; (first | (apply decide_eq_true; omega) | (apply decide_eq_false; omega) | rfl))
    | (apply r_lss; rfl; rfl; (first | (apply decide_eq_true; omega) | (apply decide_eq_false; omega) | rfl))
    | (apply r_leq; rfl; rfl; (first | (apply decide_eq_true; omega) | (apply decide_eq_false; omega) | rfl))
    | (apply r_geq; rfl; rfl; (first | (apply decide_eq_true; omega) | (apply decide_eq_false; omega) | rfl))
    | (apply r_add; rfl; rfl; rfl; omega)
    | (apply r_not; rfl; rfl)
    | (apply r_pickT; rfl)
    | (apply r_pickF; rfl)
    | (apply r_lenD; rfl)
    | (apply r_lenL; rfl)
    | (apply r_len0; rfl)
    | (apply r_lenT; rfl)
    | (apply r_gT; rfl)
    | (apply r_gF'; rfl; rfl)
    | (apply r_gN'; rfl)
    | ((apply r_gS (o := default); rfl) <;> (intro h; try simp only [decide_eq_true_eq, decide_eq_false_iff_not, Bool.not_eq_true, Bool.not_eq_false] at h))
    | (apply r_box; ((conv => lhs; simp only [Nat.reduceAdd]) <;> rfl); rfl; rfl; rfl)
    | (apply r_stL; rfl; rfl; rfl; rfl; (first | rfl | (simp only [z_nil, z_add] <;> rfl)); rfl; rfl)
    | (apply r_p; rfl)
    | (apply r_nilK)
    | (apply r_nil)
    | (apply k_V; rfl)
    | (apply k_P; rfl)
    | (apply k_PL; rfl)
    | (apply k_S; rfl)
    | (apply k_SL; rfl)
    | (apply k_A; rfl)
    | (apply k_T; rfl)
    | (apply k_F; rfl)
    | (apply k_D; rfl; rotate_left; rfl)
    | (apply k_nil)
    | (apply e_ret (vs := [.d (.val _)]); rfl)
    | (apply e_ret; rfl)
    | (apply e_ret' (vs := [.d (.val _)]); rfl)
    | (apply e_ret'; rfl)
    | (apply w_seq)
    | (apply w_ops; ((conv => lhs; simp only [Nat.reduceAdd]) <;> rfl))
    | (apply w_condT; rfl)
    | (apply w_condF; rfl)
    | ((apply w_condS; rfl) <;> (intro h; try simp only [decide_eq_true_eq, decide_eq_false_iff_not, Bool.not_eq_true, Bool.not_eq_false] at h))
    | (apply e_thenN)
    | (apply w_block)
    | (apply e_thenR)
    | (apply e_thenX)
    | (apply e_blkN)
    | (apply e_blkR)
    | (apply e_blkE)
    | (apply w_exit)
    | (apply w_ret)
    | (apply w_skip)
    | (apply e_blkE'; rfl))
      rw [show refG s (.node k a b c d mn mx subs) p = classTo a b c d s p i by simp [refG, h2, show i = s.size by omega]]
      exact retSB rfl (classTo_len _ _ _ _ _ _ _)
  by_cases h3 : k = 3
  · repeat' (first
    | (apply r_mvV; rfl)
    | (apply r_mvP; rfl)
    | (apply r_mvPL; rfl)
    | (apply r_mvS; rfl)
    | (apply r_mvSL; rfl)
    | (apply r_mvA; rfl)
    | (apply r_mvT; rfl)
    | (apply r_mvF; rfl)
    | (apply r_mvD; rfl)
    | (apply r_faddD; rfl)
    | (apply r_faddL; rfl)
    | (apply r_l; apply ld_kind; assumption; rfl)
    | (apply r_l; apply ld_mn; assumption; rfl)
    | (apply r_l; apply ld_mx; assumption; rfl)
    | (apply r_l; apply ld_subs; assumption; rfl)
    | (apply r_l; apply ld_set; assumption; rfl)
    | (apply r_l; apply ld_node; assumption; rfl)
    | (apply r_l; apply ld_kind'; assumption; rfl)
    | (apply r_l; apply ld_mn'; assumption; rfl)
    | (apply r_l; apply ld_mx'; assumption; rfl)
    | (apply r_l; apply ld_subs'; assumption; rfl)
    | (apply r_l; apply ld_node'; assumption; rfl)
    | (apply r_mksB (m := s.size + 1); rfl; rfl; ((conv => lhs; simp only [Nat.reduceAdd]) <;> rfl); omega; omega)
    | (apply r_cpyB; rfl; rfl; rfl; rfl; simp; exact hp)
    | (apply r_ldL; rfl; rfl; rfl)
    | (apply r_eql; rfl; rfl; (first | (apply decide_eq_true; omega) | (apply decide_eq_false; omega) | rfl))
    | (apply r_lss; rfl; rfl; (first | (apply decide_eq_true; omega) | (apply decide_eq_false; omega) | rfl))
    | (apply r_leq; rfl; rfl; (first | (apply decide_eq_true; omega) | (apply decide_eq_false; omega) | rfl))
    | (apply r_geq; rfl; rfl; (first | (apply decide_eq_true; omega) | (apply decide_eq_false; omega) | rfl))
    | (apply r_add; rfl; rfl; rfl; omega)
    | (apply r_not; rfl; rfl)
    | (apply r_pickT; rfl)
    | (apply r_pickF; rfl)
    | (apply r_lenD; rfl)
    | (apply r_lenL; rfl)
    | (apply r_len0; rfl)
    | (apply r_lenT; rfl)
    | (apply r_gT; rfl)
    | (apply r_gF'; rfl; rfl)
    | (apply r_gN'; rfl)
    | ((apply r_gS (o := default); rfl) <;> (intro h; try simp only [decide_eq_true_eq, decide_eq_false_iff_not, Bool.not_eq_true, Bool.not_eq_false] at h))
    | (apply r_box; ((conv => lhs; simp only [Nat.reduceAdd]) <;> rfl); rfl; rfl; rfl)
    | (apply r_stL; rfl; rfl; rfl; rfl; (first | rfl | (simp only [z_nil, z_add] <;> rfl)); rfl; rfl)
    | (apply r_p; rfl)
    | (apply r_nilK)
    | (apply r_nil)
    | (apply k_V; rfl)
    | (apply k_P; rfl)
    | (apply k_PL; rfl)
    | (apply k_S; rfl)
    | (apply k_SL; rfl)
    | (apply k_A; rfl)
    | (apply k_T; rfl)
    | (apply k_F; rfl)
    | (apply k_D; rfl; rotate_left; rfl)
    | (apply k_nil)
    | (apply e_ret (vs := [.d (.val _)]); rfl)
    | (apply e_ret; rfl)
    | (apply e_ret' (vs := [.d (.val _)]); rfl)
    | (apply e_ret'; rfl)
    | (apply w_seq)
    | (apply w_ops; ((conv => lhs; simp only [Nat.reduceAdd]) <;> rfl))
    | (apply w_condT; rfl)
    | (apply w_condF; rfl)
    | ((apply w_condS; rfl) <;> (intro h; try simp only [decide_eq_true_eq, decide_eq_false_iff_not, Bool.not_eq_true, Bool.not_eq_false] at h))
    | (apply e_thenN)
    | (apply w_block)
    | (apply e_thenR)
    | (apply e_thenX)
    | (apply e_blkN)
    | (apply e_blkR)
    | (apply e_blkE)
    | (apply w_exit)
    | (apply w_ret)
    | (apply w_skip)
    | (apply e_blkE'; rfl))
    apply w_loopF (ι := Nat × List Bool) (S := fun q => ⟨(((Fr.nil.put 1 (.d (.val (.string s)))).put 3 (.ptrL 1 0)).put 7 (.d (.sl (encB q.2) (s.size + 1)))).put 9 (.i q.1), Heap.nil.put 1 [.i k, .d (.val (.int .u64 a)), .d (.val (.int .u64 b)), .d (.val (.int .u64 c)), .d (.val (.int .u64 d)), .i mn, .i mx, .d (.sl (encL subs) subs.length)], Frz.lo 100, 100⟩) (m := fun q => subs.length - q.1)
      (I := fun q => q.1 ≤ subs.length ∧ q.2.length = s.size + 1 ∧ rcatG s subs p = rcatG s (subs.drop q.1) q.2) (i0 := (0, p))
    · exact ⟨Nat.zero_le _, hp, by simp⟩
    · refine fzB (k := 7) (p := p) rfl rfl hp (by omega) (wkR (by omega) rfl rfl ?_)
      repeat' (first
    | exact FWk.nil
    | (apply FWk.i; rfl; (first | rfl | omega | (simp; done)))
    | (apply FWk.sl; rfl; rfl; rfl; rfl; omega; rfl)
    | (apply FWk.ptr; rfl; rfl; rfl; omega; rfl)
    | (apply FWk.d; rfl; rfl)
    | (apply FWk.a; rfl; rfl; rfl)
    | (apply FWk.slN; rfl; omega; rfl))
    rintro ⟨i, q⟩ K ⟨hi, hq, hm⟩ hK
    dsimp only at hi hq hm hK ⊢
    rcases Nat.lt_or_ge i subs.length with hlt | hge
    · have hs := NodeAt.sub hlt
      have hdr := rcatG_drop s subs q i hlt
      have hna : [nodeA subs[i], .d (.val (.string s)), .d (.sl (encB q) (s.size + 1))].all AV.nrm = true := by
        rw [List.all_cons, nodeA_nrm]; rfl
      repeat' (first
    | (apply r_mvV; rfl)
    | (apply r_mvP; rfl)
    | (apply r_mvPL; rfl)
    | (apply r_mvS; rfl)
    | (apply r_mvSL; rfl)
    | (apply r_mvA; rfl)
    | (apply r_mvT; rfl)
    | (apply r_mvF; rfl)
    | (apply r_mvD; rfl)
    | (apply r_faddD; rfl)
    | (apply r_faddL; rfl)
    | (apply r_l; apply ld_kind; assumption; rfl)
    | (apply r_l; apply ld_mn; assumption; rfl)
    | (apply r_l; apply ld_mx; assumption; rfl)
    | (apply r_l; apply ld_subs; assumption; rfl)
    | (apply r_l; apply ld_set; assumption; rfl)
    | (apply r_l; apply ld_node; assumption; rfl)
    | (apply r_l; apply ld_kind'; assumption; rfl)
    | (apply r_l; apply ld_mn'; assumption; rfl)
    | (apply r_l; apply ld_mx'; assumption; rfl)
    | (apply r_l; apply ld_subs'; assumption; rfl)
    | (apply r_l; apply ld_node'; assumption; rfl)
    | (apply r_p; apply ix_sub; rfl; rfl; omega)
    | (apply r_callA (ags := [nodeA subs[i], .d (.val (.string s)), .d (.sl (encB q) (s.size + 1))]); rfl; exact hna; exact ih' i hlt q hq)
    | (apply r_ldL; rfl; rfl; rfl)
    | (apply r_eql; rfl; rfl; (first | (apply decide_eq_true; omega) | (apply decide_eq_false; omega) | rfl))
    | (apply r_lss; rfl; rfl; (first | (apply decide_eq_true; omega) | (apply decide_eq_false; omega) | rfl))
    | (apply r_leq; rfl; rfl; (first | (apply decide_eq_true; omega) | (apply decide_eq_false; omega) | rfl))
    | (apply r_geq; rfl; rfl; (first | (apply decide_eq_true; omega) | (apply decide_eq_false; omega) | rfl))
    | (apply r_add; rfl; rfl; rfl; omega)
    | (apply r_not; rfl; rfl)
    | (apply r_pickT; rfl)
    | (apply r_pickF; rfl)
    | (apply r_lenD; rfl)
    | (apply r_lenL; rfl)
    | (apply r_len0; rfl)
    | (apply r_lenT; rfl)
    | (apply r_gT; rfl)
    | (apply r_gF'; rfl; rfl)
    | (apply r_gN'; rfl)
    | ((apply r_gS (o := default); rfl) <;> (intro h; try simp only [decide_eq_true_eq, decide_eq_false_iff_not, Bool.not_eq_true, Bool.not_eq_false] at h))
    | (apply r_box; ((conv => lhs; simp only [Nat.reduceAdd]) <;> rfl); rfl; rfl; rfl)
    | (apply r_stL; rfl; rfl; rfl; rfl; (first | rfl | (simp only [z_nil, z_add] <;> rfl)); rfl; rfl)
    | (apply r_p; rfl)
    | (apply r_nilK)
    | (apply r_nil)
    | (apply k_V; rfl)
    | (apply k_P; rfl)
    | (apply k_PL; rfl)
    | (apply k_S; rfl)
    | (apply k_SL; rfl)
    | (apply k_A; rfl)
    | (apply k_T; rfl)
    | (apply k_F; rfl)
    | (apply k_D; rfl; rotate_left; rfl)
    | (apply k_nil)
    | (apply e_ret (vs := [.d (.val _)]); rfl)
    | (apply e_ret; rfl)
    | (apply e_ret' (vs := [.d (.val _)]); rfl)
    | (apply e_ret'; rfl)
    | (apply w_seq)
    | (apply w_ops; ((conv => lhs; simp only [Nat.reduceAdd]) <;> rfl))
    | (apply w_condT; rfl)
    | (apply w_condF; rfl)
    | ((apply w_condS; rfl) <;> (intro h; try simp only [decide_eq_true_eq, decide_eq_false_iff_not, Bool.not_eq_true, Bool.not_eq_false] at h))
    | (apply e_thenN)
    | (apply w_block)
    | (apply e_thenR)
    | (apply e_thenX)
    | (apply e_blkN)
    | (apply e_blkR)
    | (apply e_blkE)
    | (apply w_exit)
    | (apply w_ret)
    | (apply w_skip)
    | (apply e_blkE'; rfl))
      apply e_thenK
      apply hK (i + 1, refG s subs[i] q)
      · exact ⟨by dsimp only; omega, refG_len s _ _ hq, by rw [hm, hdr]⟩
      · dsimp only; omega
      · refine (wkR (by omega) rfl rfl ?_).f
        repeat' (first
    | exact FWk.nil
    | (apply FWk.i; rfl; (first | rfl | omega | (simp; done)))
    | (apply FWk.sl; rfl; rfl; rfl; rfl; omega; rfl)
    | (apply FWk.ptr; rfl; rfl; rfl; omega; rfl)
    | (apply FWk.d; rfl; rfl)
    | (apply FWk.a; rfl; rfl; rfl)
    | (apply FWk.slN; rfl; omega; rfl))
    · repeat' (first
    | (apply r_mvV; rfl)
    | (apply r_mvP; rfl)
    | (apply r_mvPL; rfl)
    | (apply r_mvS; rfl)
    | (apply r_mvSL; rfl)
    | (apply r_mvA; rfl)
    | (apply r_mvT; rfl)
    | (apply r_mvF; rfl)
    | (apply r_mvD; rfl)
    | (apply r_faddD; rfl)
    | (apply r_faddL; rfl)
    | (apply r_l; apply ld_kind; assumption; rfl)
    | (apply r_l; apply ld_mn; assumption; rfl)
    | (apply r_l; apply ld_mx; assumption; rfl)
    | (apply r_l; apply ld_subs; assumption; rfl)
    | (apply r_l; apply ld_set; assumption; rfl)
    | (apply r_l; apply ld_node; assumption; rfl)
    | (apply r_l; apply ld_kind'; assumption; rfl)
    | (apply r_l; apply ld_mn'; assumption; rfl)
    | (apply r_l; apply ld_mx'; assumption; rfl)
    | (apply r_l; apply ld_subs'; assumption; rfl)
    | (apply r_l; apply ld_node'; assumption; rfl)
    | (apply r_ldL; rfl; rfl; rfl)
    | (apply r_eql; rfl; rfl; (first | (apply decide_eq_true; omega) | (apply decide_eq_false; omega) | rfl))
    | (apply r_lss; rfl; rfl; (first | (apply decide_eq_true; omega) | (apply decide_eq_false; omega) | rfl))
    | (apply r_leq; rfl; rfl; (first | (apply decide_eq_true; omega) | (apply decide_eq_false; omega) | rfl))
    | (apply r_geq; rfl; rfl; (first | (apply decide_eq_true; omega) | (apply decide_eq_false; omega) | rfl))
    | (apply r_add; rfl; rfl; rfl; omega)
    | (apply r_not; rfl; rfl)
    | (apply r_pickT; rfl)
    | (apply r_pickF; rfl)
    | (apply r_lenD; rfl)
    | (apply r_lenL; rfl)
    | (apply r_len0; rfl)
    | (apply r_lenT; rfl)
    | (apply r_gT; rfl)
    | (apply r_gF'; rfl; rfl)
    | (apply r_gN'; rfl)
    | ((apply r_gS (o := default); rfl) <;> (intro h; try simp only [decide_eq_true_eq, decide_eq_false_iff_not, Bool.not_eq_true, Bool.not_eq_false] at h))
    | (apply r_box; ((conv => lhs; simp only [Nat.reduceAdd]) <;> rfl); rfl; rfl; rfl)
    | (apply r_stL; rfl; rfl; rfl; rfl; (first | rfl | (simp only [z_nil, z_add] <;> rfl)); rfl; rfl)
    | (apply r_p; rfl)
    | (apply r_nilK)
    | (apply r_nil)
    | (apply k_V; rfl)
    | (apply k_P; rfl)
    | (apply k_PL; rfl)
    | (apply k_S; rfl)
    | (apply k_SL; rfl)
    | (apply k_A; rfl)
    | (apply k_T; rfl)
    | (apply k_F; rfl)
    | (apply k_D; rfl; rotate_left; rfl)
    | (apply k_nil)
    | (apply e_ret (vs := [.d (.val _)]); rfl)
    | (apply e_ret; rfl)
    | (apply e_ret' (vs := [.d (.val _)]); rfl)
    | (apply e_ret'; rfl)
    | (apply w_seq)
    | (apply w_ops; ((conv => lhs; simp only [Nat.reduceAdd]) <;> rfl))
    | (apply w_condT; rfl)
    | (apply w_condF; rfl)
    | ((apply w_condS; rfl) <;> (intro h; try simp only [decide_eq_true_eq, decide_eq_false_iff_not, Bool.not_eq_true, Bool.not_eq_false] at h))
    | (apply e_thenN)
    | (apply w_block)
    | (apply e_thenR)
    | (apply e_thenX)
    | (apply e_blkN)
    | (apply e_blkR)
    | (apply e_blkE)
    | (apply w_exit)
    | (apply w_ret)
    | (apply w_skip)
    | (apply e_blkE'; rfl))
      rw [show i = subs.length by omega, List.drop_length, rcatG] at hm
      rw [show refG s (.node k a b c d mn mx subs) p = q by simp [refG, h3, hm]]
      exact retSD rfl
  by_cases h4 : k = 4
  · repeat' (first
    | (apply r_mvV; rfl)
    | (apply r_mvP; rfl)
    | (apply r_mvPL; rfl)
    | (apply r_mvS; rfl)
    | (apply r_mvSL; rfl)
    | (apply r_mvA; rfl)
    | (apply r_mvT; rfl)
    | (apply r_mvF; rfl)
    | (apply r_mvD; rfl)
    | (apply r_faddD; rfl)
    | (apply r_faddL; rfl)
    | (apply r_l; apply ld_kind; assumption; rfl)
    | (apply r_l; apply ld_mn; assumption; rfl)
    | (apply r_l; apply ld_mx; assumption; rfl)
    | (apply r_l; apply ld_subs; assumption; rfl)
    | (apply r_l; apply ld_set; assumption; rfl)
    | (apply r_l; apply ld_node; assumption; rfl)
    | (apply r_l; apply ld_kind'; assumption; rfl)
    | (apply r_l; apply ld_mn'; assumption; rfl)
    | (apply r_l; apply ld_mx'; assumption; rfl)
    | (apply r_l; apply ld_subs'; assumption; rfl)
    | (apply r_l; apply ld_node'; assumption; rfl)
    | (apply r_mksB (m := s.size + 1); rfl; rfl; ((conv => lhs; simp only [Nat.reduceAdd]) <;> rfl); omega; omega)
    | (apply r_ldL; rfl; rfl; rfl)
    | (apply r_eql; rfl; rfl; (first | (apply decide_eq_true; omega) | (apply decide_eq_false; omega) | rfl))
    | (apply r_lss; rfl; rfl; (first | (apply decide_eq_true; omega) | (apply decide_eq_false; omega) | rfl))
    | (apply r_leq; rfl; rfl; (first | (apply decide_eq_true; omega) | (apply decide_eq_false; omega) | rfl))
    | (apply r_geq; rfl; rfl; (first | (apply decide_eq_true; omega) | (apply decide_eq_false; omega) | rfl))
    | (apply r_add; rfl; rfl; rfl; omega)
    | (apply r_not; rfl; rfl)
    | (apply r_pickT; rfl)
    | (apply r_pickF; rfl)
    | (apply r_lenD; rfl)
    | (apply r_lenL; rfl)
    | (apply r_len0; rfl)
    | (apply r_lenT; rfl)
    | (apply r_gT; rfl)
    | (apply r_gF'; rfl; rfl)
    | (apply r_gN'; rfl)
    | ((apply r_gS (o := default); rfl) <;> (intro h; try simp only [decide_eq_true_eq, decide_eq_false_iff_not, Bool.not_eq_true, Bool.not_eq_false] at h))
    | (apply r_box; ((conv => lhs; simp only [Nat.reduceAdd]) <;> rfl); rfl; rfl; rfl)
    | (apply r_stL; rfl; rfl; rfl; rfl; (first | rfl | (simp only [z_nil, z_add] <;> rfl)); rfl; rfl)
    | (apply r_p; rfl)
    | (apply r_nilK)
    | (apply r_nil)
    | (apply k_V; rfl)
    | (apply k_P; rfl)
    | (apply k_PL; rfl)
    | (apply k_S; rfl)
    | (apply k_SL; rfl)
    | (apply k_A; rfl)
    | (apply k_T; rfl)
    | (apply k_F; rfl)
    | (apply k_D; rfl; rotate_left; rfl)
    | (apply k_nil)
    | (apply e_ret (vs := [.d (.val _)]); rfl)
    | (apply e_ret; rfl)
    | (apply e_ret' (vs := [.d (.val _)]); rfl)
    | (apply e_ret'; rfl)
    | (apply w_seq)
    | (apply w_ops; ((conv => lhs; simp only [Nat.reduceAdd]) <;> rfl))
    | (apply w_condT; rfl)
    | (apply w_condF; rfl)
    | ((apply w_condS; rfl) <;> (intro h; try simp only [decide_eq_true_eq, decide_eq_false_iff_not, Bool.not_eq_true, Bool.not_eq_false] at h))
    | (apply e_thenN)
    | (apply w_block)
    | (apply e_thenR)
    | (apply e_thenX)
    | (apply e_blkN)
    | (apply e_blkR)
    | (apply e_blkE)
    | (apply w_exit)
    | (apply w_ret)
    | (apply w_skip)
    | (apply e_blkE'; rfl))
    apply w_loopI (ι := Nat × List Bool) (S := fun q => ⟨((((Fr.nil.put 1 (.d (.val (.string s)))).put 2 (.d (.sl (encB p) (s.size + 1)))).put 3 (.ptrL 1 0)).put 7 (.slL 6 0 (s.size + 1) 1)).put 10 (.i q.1), (Heap.nil.put 1 [.i k, .d (.val (.int .u64 a)), .d (.val (.int .u64 b)), .d (.val (.int .u64 c)), .d (.val (.int .u64 d)), .i mn, .i mx, .d (.sl (encL subs) subs.length)]).put 6 ((encB q.2).map AV.d), Frz.but 100 6, 100⟩) (m := fun q => subs.length - q.1)
      (I := fun q => q.1 ≤ subs.length ∧ q.2.length = s.size + 1 ∧ raltG s subs p (List.replicate (s.size + 1) false) = raltG s (subs.drop q.1) p q.2) (i0 := (0, List.replicate (s.size + 1) false))
    · exact ⟨Nat.zero_le _, by simp, by simp⟩
    · exact wk2C (c := 6) (by omega) (by omega) (by omega) (by omega) (by omega) (by omega) rfl rfl rfl rfl encB_isD (FWk.i rfl rfl (FWk.sl rfl rfl rfl rfl (by omega) rfl (FWk.ptr rfl rfl rfl (by omega) rfl (FWk.d rfl rfl (FWk.d rfl rfl FWk.nil)))))
    rintro ⟨i, q⟩ K ⟨hi, hq, hm⟩ hK
    dsimp only at hi hq hm hK ⊢
    rcases Nat.lt_or_ge i subs.length with hlt | hge
    · have hs := NodeAt.sub hlt
      have hdr := raltG_drop s subs p q i hlt
      have hs2 := refG_len s subs[i] p hp
      have hna : [nodeA subs[i], .d (.val (.string s)), .d (.sl (encB p) (s.size + 1))].all AV.nrm = true := by
        rw [List.all_cons, nodeA_nrm]; rfl
      repeat' (first
    | (apply r_mvV; rfl)
    | (apply r_mvP; rfl)
    | (apply r_mvPL; rfl)
    | (apply r_mvS; rfl)
    | (apply r_mvSL; rfl)
    | (apply r_mvA; rfl)
    | (apply r_mvT; rfl)
    | (apply r_mvF; rfl)
    | (apply r_mvD; rfl)
    | (apply r_faddD; rfl)
    | (apply r_faddL; rfl)
    | (apply r_l; apply ld_kind; assumption; rfl)
    | (apply r_l; apply ld_mn; assumption; rfl)
    | (apply r_l; apply ld_mx; assumption; rfl)
    | (apply r_l; apply ld_subs; assumption; rfl)
    | (apply r_l; apply ld_set; assumption; rfl)
    | (apply r_l; apply ld_node; assumption; rfl)
    | (apply r_l; apply ld_kind'; assumption; rfl)
    | (apply r_l; apply ld_mn'; assumption; rfl)
    | (apply r_l; apply ld_mx'; assumption; rfl)
    | (apply r_l; apply ld_subs'; assumption; rfl)
    | (apply r_l; apply ld_node'; assumption; rfl)
    | (apply r_p; apply ix_sub; rfl; rfl; omega)
    | (apply r_callA (ags := [nodeA subs[i], .d (.val (.string s)), .d (.sl (encB p) (s.size + 1))]); rfl; exact hna; exact ih' i hlt p hp)
    | (apply r_callW; rfl; rfl; rfl; rfl; exact or_good q _ hq hs2 (by omega))
    | (apply r_ldL; rfl; rfl; rfl)
    | (apply r_eql; rfl; rfl; (first | (apply decide_eq_true; omega) | (apply decide_eq_false; omega) | rfl))
    | (apply r_lss; rfl; rfl; (first | (apply decide_eq_true; omega) | (apply decide_eq_false; omega) | rfl))
    | (apply r_leq; rfl; rfl; (first | (apply decide_eq_true; omega) | (apply decide_eq_false; omega) | rfl))
    | (apply r_geq; rfl; rfl; (first | (apply decide_eq_true; omega) | (apply decide_eq_false; omega) | rfl))
    | (apply r_add; rfl; rfl; rfl; omega)
    | (apply r_not; rfl; rfl)
    | (apply r_pickT; rfl)
    | (apply r_pickF; rfl)
    | (apply r_lenD; rfl)
    | (apply r_lenL; rfl)
    | (apply r_len0; rfl)
    | (apply r_lenT; rfl)
    | (apply r_gT; rfl)
    | (apply r_gF'; rfl; rfl)
    | (apply r_gN'; rfl)
    | ((apply r_gS (o := default); rfl) <;> (intro h; try simp only [decide_eq_true_eq, decide_eq_false_iff_not, Bool.not_eq_true, Bool.not_eq_false] at h))
    | (apply r_box; ((conv => lhs; simp only [Nat.reduceAdd]) <;> rfl); rfl; rfl; rfl)
    | (apply r_stL; rfl; rfl; rfl; rfl; (first | rfl | (simp only [z_nil, z_add] <;> rfl)); rfl; rfl)
    | (apply r_p; rfl)
    | (apply r_nilK)
    | (apply r_nil)
    | (apply k_V; rfl)
    | (apply k_P; rfl)
    | (apply k_PL; rfl)
    | (apply k_S; rfl)
    | (apply k_SL; rfl)
    | (apply k_A; rfl)
    | (apply k_T; rfl)
    | (apply k_F; rfl)
    | (apply k_D; rfl; rotate_left; rfl)
    | (apply k_nil)
    | (apply e_ret (vs := [.d (.val _)]); rfl)
    | (apply e_ret; rfl)
    | (apply e_ret' (vs := [.d (.val _)]); rfl)
    | (apply e_ret'; rfl)
    | (apply w_seq)
    | (apply w_ops; ((conv => lhs; simp only [Nat.reduceAdd]) <;> rfl))
    | (apply w_condT; rfl)
    | (apply w_condF; rfl)
    | ((apply w_condS; rfl) <;> (intro h; try simp only [decide_eq_true_eq, decide_eq_false_iff_not, Bool.not_eq_true, Bool.not_eq_false] at h))
    | (apply e_thenN)
    | (apply w_block)
    | (apply e_thenR)
    | (apply e_thenX)
    | (apply e_blkN)
    | (apply e_blkR)
    | (apply e_blkE)
    | (apply w_exit)
    | (apply w_ret)
    | (apply w_skip)
    | (apply e_blkE'; rfl))
      apply e_thenK
      apply hK (i + 1, (addTo q (refG s subs[i] p) (s.size + 1)).1)
      · exact ⟨by dsimp only; omega, by dsimp only; rw [addTo_len]; exact hq, by rw [hm, hdr]⟩
      · dsimp only; omega
      · exact wk2C (c := 6) (by omega) (by omega) (by omega) (by omega) (by omega) (by omega) rfl rfl rfl rfl encB_isD (FWk.i rfl (by simp) (FWk.sl rfl rfl rfl rfl (by omega) rfl (FWk.ptr rfl rfl rfl (by omega) rfl (FWk.d rfl rfl (FWk.d rfl rfl FWk.nil)))))
    · repeat' (first
    | (apply r_mvV; rfl)
    | (apply r_mvP; rfl)
    | (apply r_mvPL; rfl)
    | (apply r_mvS; rfl)
    | (apply r_mvSL; rfl)
    | (apply r_mvA; rfl)
    | (apply r_mvT; rfl)
    | (apply r_mvF; rfl)
    | (apply r_mvD; rfl)
    | (apply r_faddD; rfl)
    | (apply r_faddL; rfl)
    | (apply r_l; apply ld_kind; assumption; rfl)
    | (apply r_l; apply ld_mn; assumption; rfl)
    | (apply r_l; apply ld_mx; assumption; rfl)
    | (apply r_l; apply ld_subs; assumption; rfl)
    | (apply r_l; apply ld_set; assumption; rfl)
    | (apply r_l; apply ld_node; assumption; rfl)
    | (apply r_l; apply ld_kind'; assumption; rfl)
    | (apply r_l; apply ld_mn'; assumption; rfl)
    | (apply r_l; apply ld_mx'; assumption; rfl)
    | (apply r_l; apply ld_subs'; assumption; rfl)
    | (apply r_l; apply ld_node'; assumption; rfl)
    | (apply r_ldL; rfl; rfl; rfl)
    | (apply r_eql; rfl; rfl; (first | (apply decide_eq_true; omega) | (apply decide_eq_false; omega) | rfl))
    | (apply r_lss; rfl; rfl; (first | (apply decide_eq_true; omega) | (apply decide_eq_false; omega) | rfl))
    | (apply r_leq; rfl; rfl; (first | (apply decide_eq_true; omega) | (apply decide_eq_false; omega) | rfl))
    | (apply r_geq; rfl; rfl; (first | (apply decide_eq_true; omega) | (apply decide_eq_false; omega) | rfl))
    | (apply r_add; rfl; rfl; rfl; omega)
    | (apply r_not; rfl; rfl)
    | (apply r_pickT; rfl)
    | (apply r_pickF; rfl)
    | (apply r_lenD; rfl)
    | (apply r_lenL; rfl)
    | (apply r_len0; rfl)
    | (apply r_lenT; rfl)
    | (apply r_gT; rfl)
    | (apply r_gF'; rfl; rfl)
    | (apply r_gN'; rfl)
    | ((apply r_gS (o := default); rfl) <;> (intro h; try simp only [decide_eq_true_eq, decide_eq_false_iff_not, Bool.not_eq_true, Bool.not_eq_false] at h))
    | (apply r_box; ((conv => lhs; simp only [Nat.reduceAdd]) <;> rfl); rfl; rfl; rfl)
    | (apply r_stL; rfl; rfl; rfl; rfl; (first | rfl | (simp only [z_nil, z_add] <;> rfl)); rfl; rfl)
    | (apply r_p; rfl)
    | (apply r_nilK)
    | (apply r_nil)
    | (apply k_V; rfl)
    | (apply k_P; rfl)
    | (apply k_PL; rfl)
    | (apply k_S; rfl)
    | (apply k_SL; rfl)
    | (apply k_A; rfl)
    | (apply k_T; rfl)
    | (apply k_F; rfl)
    | (apply k_D; rfl; rotate_left; rfl)
    | (apply k_nil)
    | (apply e_ret (vs := [.d (.val _)]); rfl)
    | (apply e_ret; rfl)
    | (apply e_ret' (vs := [.d (.val _)]); rfl)
    | (apply e_ret'; rfl)
    | (apply w_seq)
    | (apply w_ops; ((conv => lhs; simp only [Nat.reduceAdd]) <;> rfl))
    | (apply w_condT; rfl)
    | (apply w_condF; rfl)
    | ((apply w_condS; rfl) <;> (intro h; try simp only [decide_eq_true_eq, decide_eq_false_iff_not, Bool.not_eq_true, Bool.not_eq_false] at h))
    | (apply e_thenN)
    | (apply w_block)
    | (apply e_thenR)
    | (apply e_thenX)
    | (apply e_blkN)
    | (apply e_blkR)
    | (apply e_blkE)
    | (apply w_exit)
    | (apply w_ret)
    | (apply w_skip)
    | (apply e_blkE'; rfl))
      rw [show i = subs.length by omega, List.drop_length, raltG] at hm
      rw [show refG s (.node k a b c d mn mx subs) p = q by simp [refG, h4, hm]]
      exact retSB rfl hq
  by_cases h5 : k = 5
  · have hR5 := hR h5
    have hl0 : 0 < subs.length := by
      simp [plainT, h5] at hpl
      omega
    have hfst : ∀ q, rfstG s subs q = refG s (subs[0]'hl0) q := by
      intro q
      match subs, hl0 with
      | t :: l, _ => rfl
    have hs0 : NodeAt (encL subs) 0 (subs[0]'hl0) := by simpa using NodeAt.sub hl0
    obtain ⟨last, hlast⟩ : ∃ last : Int, last = (if mx < 0 then mn + s.size + 1 else mx) := ⟨_, rfl⟩
    have hspec : refG s (.node k a b c d mn mx subs) p = refR (rfstG s subs) (s.size + 1) mn last (last + 1).toNat 0 p (List.replicate (s.size + 1) false) := by simp [refG, h5, hlast]
    by_cases hneg : mx < 0
    all_goals simp only [hneg, if_true, if_false] at hlast
    · repeat' (first
    | (apply r_mvV; rfl)
    | (apply r_mvP; rfl)
    | (apply r_mvPL; rfl)
    | (apply r_mvS; rfl)
    | (apply r_mvSL; rfl)
    | (apply r_mvA; rfl)
    | (apply r_mvT; rfl)
    | (apply r_mvF; rfl)
    | (apply r_mvD; rfl)
    | (apply r_faddD; rfl)
    | (apply r_faddL; rfl)
    | (apply r_l; apply ld_kind; assumption; rfl)
    | (apply r_l; apply ld_mn; assumption; rfl)
    | (apply r_l; apply ld_mx; assumption; rfl)
    | (apply r_l; apply ld_subs; assumption; rfl)
    | (apply r_l; apply ld_set; assumption; rfl)
    | (apply r_l; apply ld_node; assumption; rfl)
    | (apply r_l; apply ld_kind'; assumption; rfl)
    | (apply r_l; apply ld_mn'; assumption; rfl)
    | (apply r_l; apply ld_mx'; assumption; rfl)
    | (apply r_l; apply ld_subs'; assumption; rfl)
    | (apply r_l; apply ld_node'; assumption; rfl)
    | (apply r_mksB (m := s.size + 1); rfl; rfl; ((conv => lhs; simp only [Nat.reduceAdd]) <;> rfl); omega; omega)
    | (apply r_mkrow0; ((conv => lhs; simp only [Nat.reduceAdd]) <;> rfl))
    | (apply r_appB0; rfl; rfl; rfl; rfl; ((conv => lhs; simp only [Nat.reduceAdd]) <;> rfl); exact hp; omega)
    | (apply r_ldL; rfl; rfl; rfl)
    | (apply r_eql; rfl; rfl; (first | (apply decide_eq_true; omega) | (apply decide_eq_false; omega) | rfl))
    | (apply r_lss; rfl; rfl; (first | (apply decide_eq_true; omega) | (apply decide_eq_false; omega) | rfl))
    | (apply r_leq; rfl; rfl; (first | (apply decide_eq_true; omega) | (apply decide_eq_false; omega) | rfl))
    | (apply r_geq; rfl; rfl; (first | (apply decide_eq_true; omega) | (apply decide_eq_false; omega) | rfl))
    | (apply r_add; rfl; rfl; rfl; omega)
    | (apply r_not; rfl; rfl)
    | (apply r_pickT; rfl)
    | (apply r_pickF; rfl)
    | (apply r_lenD; rfl)
    | (apply r_lenL; rfl)
    | (apply r_len0; rfl)
    | (apply r_lenT; rfl)
    | (apply r_gT; rfl)
    | (apply r_gF'; rfl; rfl)
    | (apply r_gN'; rfl)
    | ((apply r_gS (o := default); rfl) <;> (intro h; try simp only [decide_eq_true_eq, decide_eq_false_iff_not, Bool.not_eq_true, Bool.not_eq_false] at h))
    | (apply r_box; ((conv => lhs; simp only [Nat.reduceAdd]) <;> rfl); rfl; rfl; rfl)
    | (apply r_stL; rfl; rfl; rfl; rfl; (first | rfl | (simp only [z_nil, z_add] <;> rfl)); rfl; rfl)
    | (apply r_p; rfl)
    | (apply r_nilK)
    | (apply r_nil)
    | (apply k_V; rfl)
    | (apply k_P; rfl)
    | (apply k_PL; rfl)
    | (apply k_S; rfl)
    | (apply k_SL; rfl)
    | (apply k_A; rfl)
    | (apply k_T; rfl)
    | (apply k_F; rfl)
    | (apply k_D; rfl; rotate_left; rfl)
    | (apply k_nil)
    | (apply e_ret (vs := [.d (.val _)]); rfl)
    | (apply e_ret; rfl)
    | (apply e_ret' (vs := [.d (.val _)]); rfl)
    | (apply e_ret'; rfl)
    | (apply w_seq)
    | (apply w_ops; ((conv => lhs; simp only [Nat.reduceAdd]) <;> rfl))
    | (apply w_condT; rfl)
    | (apply w_condF; rfl)
    | ((apply w_condS; rfl) <;> (intro h; try simp only [decide_eq_true_eq, decide_eq_false_iff_not, Bool.not_eq_true, Bool.not_eq_false] at h))
    | (apply e_thenN)
    | (apply w_block)
    | (apply e_thenR)
    | (apply e_thenX)
    | (apply e_blkN)
    | (apply e_blkR)
    | (apply e_blkE)
    | (apply w_exit)
    | (apply w_ret)
    | (apply w_skip)
    | (apply e_blkE'; rfl))
      apply w_loopF (ι := Nat × List Bool × List Bool) (S := fun q => ⟨(((((Fr.nil.put 1 (.d (.val (.string s)))).put 3 (.ptrL 1 0)).put 7 (.slL 6 0 (s.size + 1) 1)).put 11 (.d (.sl (encB q.2.1) (s.size + 1)))).put 12 (.i last)).put 13 (.i q.1), (Heap.nil.put 1 [.i k, .d (.val (.int .u64 a)), .d (.val (.int .u64 b)), .d (.val (.int .u64 c)), .d (.val (.int .u64 d)), .i mn, .i mx, .d (.sl (encL subs) subs.length)]).put 6 ((encB q.2.2).map AV.d), Frz.but 100 6, 100⟩) (m := fun q => (last + 1 - q.1).toNat)
        (I := fun q => q.2.1.length = s.size + 1 ∧ q.2.2.length = s.size + 1 ∧ refG s (.node k a b c d mn mx subs) p = refR (rfstG s subs) (s.size + 1) mn last (last + 1 - q.1).toNat q.1 q.2.1 q.2.2) (i0 := (0, p, List.replicate (s.size + 1) false))
      · exact ⟨hp, by simp, by rw [hspec]; simp⟩
      · refine fzB (k := 11) (p := p) rfl rfl hp (by omega) (wk2C (c := 6) (by omega) (by omega) (by omega) (by omega) (by omega) (by omega) rfl rfl rfl rfl encB_isD ?_)
        repeat' (first
    | exact FWk.nil
    | (apply FWk.i; rfl; (first | rfl | omega | (simp; done)))
    | (apply FWk.sl; rfl; rfl; rfl; rfl; omega; rfl)
    | (apply FWk.ptr; rfl; rfl; rfl; omega; rfl)
    | (apply FWk.d; rfl; rfl)
    | (apply FWk.a; rfl; rfl; rfl)
    | (apply FWk.slN; rfl; omega; rfl))
      rintro ⟨i, q, out⟩ K ⟨hq, ho, hm⟩ hK
      dsimp only at hq ho hm hK ⊢
      have hor := or_good out q ho hq (by omega)
      have hl2 : (addTo out q (s.size + 1)).1.length = s.size + 1 := by rw [addTo_len]; exact ho
      have hnx : (rfstG s subs q).length = s.size + 1 := by rw [hfst]; exact refG_len s _ _ hq
      have hcall : Good Try.prog 88 [nodeA (subs[0]'hl0), .d (.val (.string s)), .d (.sl (encB q) (s.size + 1))] none (.d (.sl (encB (rfstG s subs q)) (s.size + 1))) none none := by
        rw [hfst]; exact ih' 0 hl0 q hq
      have hna : [nodeA (subs[0]'hl0), .d (.val (.string s)), .d (.sl (encB q) (s.size + 1))].all AV.nrm = true := by
        rw [List.all_cons, nodeA_nrm]; rfl
      by_cases hgt : last < (i : Int)
      · repeat' (first
    | (apply r_mvV; rfl)
    | (apply r_mvP; rfl)
    | (apply r_mvPL; rfl)
    | (apply r_mvS; rfl)
    | (apply r_mvSL; rfl)
    | (apply r_mvA; rfl)
    | (apply r_mvT; rfl)
    | (apply r_mvF; rfl)
    | (apply r_mvD; rfl)
    | (apply r_faddD; rfl)
    | (apply r_faddL; rfl)
    | (apply r_l; apply ld_kind; assumption; rfl)
    | (apply r_l; apply ld_mn; assumption; rfl)
    | (apply r_l; apply ld_mx; assumption; rfl)
    | (apply r_l; apply ld_subs; assumption; rfl)
    | (apply r_l; apply ld_set; assumption; rfl)
    | (apply r_l; apply ld_node; assumption; rfl)
    | (apply r_l; apply ld_kind'; assumption; rfl)
    | (apply r_l; apply ld_mn'; assumption; rfl)
    | (apply r_l; apply ld_mx'; assumption; rfl)
    | (apply r_l; apply ld_subs'; assumption; rfl)
    | (apply r_l; apply ld_node'; assumption; rfl)
    | (apply r_ldL; rfl; rfl; rfl)
    | (apply r_eql; rfl; rfl; (first | (apply decide_eq_true; omega) | (apply decide_eq_false; omega) | rfl))
    | (apply r_lss; rfl; rfl; (first | (apply decide_eq_true; omega) | (apply decide_eq_false; omega) | rfl))
    | (apply r_leq; rfl; rfl; (first | (apply decide_eq_true; omega) | (apply decide_eq_false; omega) | rfl))
    | (apply r_geq; rfl; rfl; (first | (apply decide_eq_true; omega) | (apply decide_eq_false; omega) | rfl))
    | (apply r_add; rfl; rfl; rfl; omega)
    | (apply r_not; rfl; rfl)
    | (apply r_pickT; rfl)
    | (apply r_pickF; rfl)
    | (apply r_lenD; rfl)
    | (apply r_lenL; rfl)
    | (apply r_len0; rfl)
    | (apply r_lenT; rfl)
    | (apply r_gT; rfl)
    | (apply r_gF'; rfl; rfl)
    | (apply r_gN'; rfl)
    | ((apply r_gS (o := default); rfl) <;> (intro h; try simp only [decide_eq_true_eq, decide_eq_false_iff_not, Bool.not_eq_true, Bool.not_eq_false] at h))
    | (apply r_box; ((conv => lhs; simp only [Nat.reduceAdd]) <;> rfl); rfl; rfl; rfl)
    | (apply r_stL; rfl; rfl; rfl; rfl; (first | rfl | (simp only [z_nil, z_add] <;> rfl)); rfl; rfl)
    | (apply r_p; rfl)
    | (apply r_nilK)
    | (apply r_nil)
    | (apply k_V; rfl)
    | (apply k_P; rfl)
    | (apply k_PL; rfl)
    | (apply k_S; rfl)
    | (apply k_SL; rfl)
    | (apply k_A; rfl)
    | (apply k_T; rfl)
    | (apply k_F; rfl)
    | (apply k_D; rfl; rotate_left; rfl)
    | (apply k_nil)
    | (apply e_ret (vs := [.d (.val _)]); rfl)
    | (apply e_ret; rfl)
    | (apply e_ret' (vs := [.d (.val _)]); rfl)
    | (apply e_ret'; rfl)
    | (apply w_seq)
    | (apply w_ops; ((conv => lhs; simp only [Nat.reduceAdd]) <;> rfl))
    | (apply w_condT; rfl)
    | (apply w_condF; rfl)
    | ((apply w_condS; rfl) <;> (intro h; try simp only [decide_eq_true_eq, decide_eq_false_iff_not, Bool.not_eq_true, Bool.not_eq_false] at h))
    | (apply e_thenN)
    | (apply w_block)
    | (apply e_thenR)
    | (apply e_thenX)
    | (apply e_blkN)
    | (apply e_blkR)
    | (apply e_blkE)
    | (apply w_exit)
    | (apply w_ret)
    | (apply w_skip)
    | (apply e_blkE'; rfl))
        rw [show (last + 1 - (i : Int)).toNat = 0 by omega, refR] at hm
        rw [hm]
        exact retSB rfl ho
      have hle : (i : Int) ≤ last := by omega
      obtain ⟨f, hf⟩ : ∃ f, (last + 1 - (i : Int)).toNat = f + 1 := ⟨(last - i).toNat, by omega⟩
      have hf2 : (last + 1 - ((i + 1 : Nat) : Int)).toNat = f := by omega
      rw [hf] at hm
      rw [refR, if_pos hle] at hm
      by_cases hmk : mn ≤ i
      · rw [if_pos hmk] at hm
        repeat' (first
    | (apply r_mvV; rfl)
    | (apply r_mvP; rfl)
    | (apply r_mvPL; rfl)
    | (apply r_mvS; rfl)
    | (apply r_mvSL; rfl)
    | (apply r_mvA; rfl)
    | (apply r_mvT; rfl)
    | (apply r_mvF; rfl)
    | (apply r_mvD; rfl)
    | (apply r_faddD; rfl)
    | (apply r_faddL; rfl)
    | (apply r_l; apply ld_kind; assumption; rfl)
    | (apply r_l; apply ld_mn; assumption; rfl)
    | (apply r_l; apply ld_mx; assumption; rfl)
    | (apply r_l; apply ld_subs; assumption; rfl)
    | (apply r_l; apply ld_set; assumption; rfl)
    | (apply r_l; apply ld_node; assumption; rfl)
    | (apply r_l; apply ld_kind'; assumption; rfl)
    | (apply r_l; apply ld_mn'; assumption; rfl)
    | (apply r_l; apply ld_mx'; assumption; rfl)
    | (apply r_l; apply ld_subs'; assumption; rfl)
    | (apply r_l; apply ld_node'; assumption; rfl)
    | (apply r_callW; rfl; rfl; rfl; rfl; exact hor)
    | (apply r_p; apply ix_sub0; rfl; rfl; exact hl0)
    | (apply r_callA (ags := [nodeA (subs[0]'hl0), .d (.val (.string s)), .d (.sl (encB q) (s.size + 1))]); rfl; exact hna; exact hcall)
    | (apply r_ldL; rfl; rfl; rfl)
    | (apply r_eql; rfl; rfl; (first | (apply decide_eq_true; omega) | (apply decide_eq_false; omega) | rfl))
    | (apply r_lss; rfl; rfl; (first | (apply decide_eq_true; omega) | (apply decide_eq_false; omega) | rfl))
    | (apply r_leq; rfl; rfl; (first | (apply decide_eq_true; omega) | (apply decide_eq_false; omega) | rfl))
    | (apply r_geq; rfl; rfl; (first | (apply decide_eq_true; omega) | (apply decide_eq_false; omega) | rfl))
    | (apply r_add; rfl; rfl; rfl; omega)
    | (apply r_not; rfl; rfl)
    | (apply r_pickT; rfl)
    | (apply r_pickF; rfl)
    | (apply r_lenD; rfl)
    | (apply r_lenL; rfl)
    | (apply r_len0; rfl)
    | (apply r_lenT; rfl)
    | (apply r_gT; rfl)
    | (apply r_gF'; rfl; rfl)
    | (apply r_gN'; rfl)
    | ((apply r_gS (o := default); rfl) <;> (intro h; try simp only [decide_eq_true_eq, decide_eq_false_iff_not, Bool.not_eq_true, Bool.not_eq_false] at h))
    | (apply r_box; ((conv => lhs; simp only [Nat.reduceAdd]) <;> rfl); rfl; rfl; rfl)
    | (apply r_stL; rfl; rfl; rfl; rfl; (first | rfl | (simp only [z_nil, z_add] <;> rfl)); rfl; rfl)
    | (apply r_p; rfl)
    | (apply r_nilK)
    | (apply r_nil)
    | (apply k_V; rfl)
    | (apply k_P; rfl)
    | (apply k_PL; rfl)
    | (apply k_S; rfl)
    | (apply k_SL; rfl)
    | (apply k_A; rfl)
    | (apply k_T; rfl)
    | (apply k_F; rfl)
    | (apply k_D; rfl; rotate_left; rfl)
    | (apply k_nil)
    | (apply e_ret (vs := [.d (.val _)]); rfl)
    | (apply e_ret; rfl)
    | (apply e_ret' (vs := [.d (.val _)]); rfl)
    | (apply e_ret'; rfl)
    | (apply w_seq)
    | (apply w_ops; ((conv => lhs; simp only [Nat.reduceAdd]) <;> rfl))
    | (apply w_condT; rfl)
    | (apply w_condF; rfl)
    | ((apply w_condS; rfl) <;> (intro h; try simp only [decide_eq_true_eq, decide_eq_false_iff_not, Bool.not_eq_true, Bool.not_eq_false] at h))
    | (apply e_thenN)
    | (apply w_block)
    | (apply e_thenR)
    | (apply e_thenX)
    | (apply e_blkN)
    | (apply e_blkR)
    | (apply e_blkE)
    | (apply w_exit)
    | (apply w_ret)
    | (apply w_skip)
    | (apply e_blkE'; rfl))
        · simp only [Bool.not_eq_true'] at h
          rw [if_neg (by simp [h])] at hm
          rw [hm]
          exact retSB rfl hl2
        · apply e_thenK
          simp only [Bool.not_eq_false'] at h
          rw [if_pos h] at hm
          apply hK (i + 1, rfstG s subs q, (addTo out q (s.size + 1)).1)
          · exact ⟨hnx, hl2, by dsimp only; rw [hf2, hm]; rfl⟩
          · dsimp only; omega
          · refine (wk2C (c := 6) (by omega) (by omega) (by omega) (by omega) (by omega) (by omega) rfl rfl rfl rfl encB_isD ?_).f
            repeat' (first
    | exact FWk.nil
    | (apply FWk.i; rfl; (first | rfl | omega | (simp; done)))
    | (apply FWk.sl; rfl; rfl; rfl; rfl; omega; rfl)
    | (apply FWk.ptr; rfl; rfl; rfl; omega; rfl)
    | (apply FWk.d; rfl; rfl)
    | (apply FWk.a; rfl; rfl; rfl)
    | (apply FWk.slN; rfl; omega; rfl))
      · rw [if_neg hmk] at hm
        repeat' (first
    | (apply r_mvV; rfl)
    | (apply r_mvP; rfl)
    | (apply r_mvPL; rfl)
    | (apply r_mvS; rfl)
    | (apply r_mvSL; rfl)
    | (apply r_mvA; rfl)
    | (apply r_mvT; rfl)
    | (apply r_mvF; rfl)
    | (apply r_mvD; rfl)
    | (apply r_faddD; rfl)
    | (apply r_faddL; rfl)
    | (apply r_l; apply ld_kind; assumption; rfl)
    | (apply r_l; apply ld_mn; assumption; rfl)
    | (apply r_l; apply ld_mx; assumption; rfl)
    | (apply r_l; apply ld_subs; assumption; rfl)
    | (apply r_l; apply ld_set; assumption; rfl)
    | (apply r_l; apply ld_node; assumption; rfl)
    | (apply r_l; apply ld_kind'; assumption; rfl)
    | (apply r_l; apply ld_mn'; assumption; rfl)
    | (apply r_l; apply ld_mx'; assumption; rfl)
    | (apply r_l; apply ld_subs'; assumption; rfl)
    | (apply r_l; apply ld_node'; assumption; rfl)
    | (apply r_p; apply ix_sub0; rfl; rfl; exact hl0)
    | (apply r_callA (ags := [nodeA (subs[0]'hl0), .d (.val (.string s)), .d (.sl (encB q) (s.size + 1))]); rfl; exact hna; exact hcall)
    | (apply r_ldL; rfl; rfl; rfl)
    | (apply r_eql; rfl; rfl; (first | (apply decide_eq_true; omega) | (apply decide_eq_false; omega) | rfl))
    | (apply r_lss; rfl; rfl; (first | (apply decide_eq_true; omega) | (apply decide_eq_false; omega) | rfl))
    | (apply r_leq; rfl; rfl; (first | (apply decide_eq_true; omega) | (apply decide_eq_false; omega) | rfl))
    | (apply r_geq; rfl; rfl; (first | (apply decide_eq_true; omega) | (apply decide_eq_false; omega) | rfl))
    | (apply r_add; rfl; rfl; rfl; omega)
    | (apply r_not; rfl; rfl)
    | (apply r_pickT; rfl)
    | (apply r_pickF; rfl)
    | (apply r_lenD; rfl)
    | (apply r_lenL; rfl)
    | (apply r_len0; rfl)
    | (apply r_lenT; rfl)
    | (apply r_gT; rfl)
    | (apply r_gF'; rfl; rfl)
    | (apply r_gN'; rfl)
    | ((apply r_gS (o := default); rfl) <;> (intro h; try simp only [decide_eq_true_eq, decide_eq_false_iff_not, Bool.not_eq_true, Bool.not_eq_false] at h))
    | (apply r_box; ((conv => lhs; simp only [Nat.reduceAdd]) <;> rfl); rfl; rfl; rfl)
    | (apply r_stL; rfl; rfl; rfl; rfl; (first | rfl | (simp only [z_nil, z_add] <;> rfl)); rfl; rfl)
    | (apply r_p; rfl)
    | (apply r_nilK)
    | (apply r_nil)
    | (apply k_V; rfl)
    | (apply k_P; rfl)
    | (apply k_PL; rfl)
    | (apply k_S; rfl)
    | (apply k_SL; rfl)
    | (apply k_A; rfl)
    | (apply k_T; rfl)
    | (apply k_F; rfl)
    | (apply k_D; rfl; rotate_left; rfl)
    | (apply k_nil)
    | (apply e_ret (vs := [.d (.val _)]); rfl)
    | (apply e_ret; rfl)
    | (apply e_ret' (vs := [.d (.val _)]); rfl)
    | (apply e_ret'; rfl)
    | (apply w_seq)
    | (apply w_ops; ((conv => lhs; simp only [Nat.reduceAdd]) <;> rfl))
    | (apply w_condT; rfl)
    | (apply w_condF; rfl)
    | ((apply w_condS; rfl) <;> (intro h; try simp only [decide_eq_true_eq, decide_eq_false_iff_not, Bool.not_eq_true, Bool.not_eq_false] at h))
    | (apply e_thenN)
    | (apply w_block)
    | (apply e_thenR)
    | (apply e_thenX)
    | (apply e_blkN)
    | (apply e_blkR)
    | (apply e_blkE)
    | (apply w_exit)
    | (apply w_ret)
    | (apply w_skip)
    | (apply e_blkE'; rfl))
        apply e_thenK
        apply hK (i + 1, rfstG s subs q, out)
        · exact ⟨hnx, ho, by dsimp only; rw [hf2, hm]; rfl⟩
        · dsimp only; omega
        · refine (wk2C (c := 6) (by omega) (by omega) (by omega) (by omega) (by omega) (by omega) rfl rfl rfl rfl encB_isD ?_).f
          repeat' (first
    | exact FWk.nil
    | (apply FWk.i; rfl; (first | rfl | omega | (simp; done)))
    | (apply FWk.sl; rfl; rfl; rfl; rfl; omega; rfl)
    | (apply FWk.ptr; rfl; rfl; rfl; omega; rfl)
    | (apply FWk.d; rfl; rfl)
    | (apply FWk.a; rfl; rfl; rfl)
    | (apply FWk.slN; rfl; omega; rfl))
    · repeat' (first
    | (apply r_mvV; rfl)
    | (apply r_mvP; rfl)
    | (apply r_mvPL; rfl)
    | (apply r_mvS; rfl)
    | (apply r_mvSL; rfl)
    | (apply r_mvA; rfl)
    | (apply r_mvT; rfl)
    | (apply r_mvF; rfl)
    | (apply r_mvD; rfl)
    | (apply r_faddD; rfl)
    | (apply r_faddL; rfl)
    | (apply r_l; apply ld_kind; assumption; rfl)
    | (apply r_l; apply ld_mn; assumption; rfl)
    | (apply r_l; apply ld_mx; assumption; rfl)
    | (apply r_l; apply ld_subs; assumption; rfl)
    | (apply r_l; apply ld_set; assumption; rfl)
    | (apply r_l; apply ld_node; assumption; rfl)
    | (apply r_l; apply ld_kind'; assumption; rfl)
    | (apply r_l; apply ld_mn'; assumption; rfl)
    | (apply r_l; apply ld_mx'; assumption; rfl)
    | (apply r_l; apply ld_subs'; assumption; rfl)
    | (apply r_l; apply ld_node'; assumption; rfl)
    | (apply r_mksB (m := s.size + 1); rfl; rfl; ((conv => lhs; simp only [Nat.reduceAdd]) <;> rfl); omega; omega)
    | (apply r_mkrow0; ((conv => lhs; simp only [Nat.reduceAdd]) <;> rfl))
    | (apply r_appB0; rfl; rfl; rfl; rfl; ((conv => lhs; simp only [Nat.reduceAdd]) <;> rfl); exact hp; omega)
    | (apply r_ldL; rfl; rfl; rfl)
    | (apply r_eql; rfl; rfl; (first | (apply decide_eq_true; omega) | (apply decide_eq_false; omega) | rfl))
    | (apply r_lss; rfl; rfl; (first | (apply decide_eq_true; omega) | (apply decide_eq_false; omega) | rfl))
    | (apply r_leq; rfl; rfl; (first | (apply decide_eq_true; omega) | (apply decide_eq_false; omega) | rfl))
    | (apply r_geq; rfl; rfl; (first | (apply decide_eq_true; omega) | (apply decide_eq_false; omega) | rfl))
    | (apply r_add; rfl; rfl; rfl; omega)
    | (apply r_not; rfl; rfl)
    | (apply r_pickT; rfl)
    | (apply r_pickF; rfl)
    | (apply r_lenD; rfl)
    | (apply r_lenL; rfl)
    | (apply r_len0; rfl)
    | (apply r_lenT; rfl)
    | (apply r_gT; rfl)
    | (apply r_gF'; rfl; rfl)
    | (apply r_gN'; rfl)
    | ((apply r_gS (o := default); rfl) <;> (intro h; try simp only [decide_eq_true_eq, decide_eq_false_iff_not, Bool.not_eq_true, Bool.not_eq_false] at h))
    | (apply r_box; ((conv => lhs; simp only [Nat.reduceAdd]) <;> rfl); rfl; rfl; rfl)
    | (apply r_stL; rfl; rfl; rfl; rfl; (first | rfl | (simp only [z_nil, z_add] <;> rfl)); rfl; rfl)
    | (apply r_p; rfl)
    | (apply r_nilK)
    | (apply r_nil)
    | (apply k_V; rfl)
    | (apply k_P; rfl)
    | (apply k_PL; rfl)
    | (apply k_S; rfl)
    | (apply k_SL; rfl)
    | (apply k_A; rfl)
    | (apply k_T; rfl)
    | (apply k_F; rfl)
    | (apply k_D; rfl; rotate_left; rfl)
    | (apply k_nil)
    | (apply e_ret (vs := [.d (.val _)]); rfl)
    | (apply e_ret; rfl)
    | (apply e_ret' (vs := [.d (.val _)]); rfl)
    | (apply e_ret'; rfl)
    | (apply w_seq)
    | (apply w_ops; ((conv => lhs; simp only [Nat.reduceAdd]) <;> rfl))
    | (apply w_condT; rfl)
    | (apply w_condF; rfl)
    | ((apply w_condS; rfl) <;> (intro h; try simp only [decide_eq_true_eq, decide_eq_false_iff_not, Bool.not_eq_true, Bool.not_eq_false] at h))
    | (apply e_thenN)
    | (apply w_block)
    | (apply e_thenR)
    | (apply e_thenX)
    | (apply e_blkN)
    | (apply e_blkR)
    | (apply e_blkE)
    | (apply w_exit)
    | (apply w_ret)
    | (apply w_skip)
    | (apply e_blkE'; rfl))
      apply w_loopF (ι := Nat × List Bool × List Bool) (S := fun q => ⟨(((((Fr.nil.put 1 (.d (.val (.string s)))).put 3 (.ptrL 1 0)).put 7 (.slL 6 0 (s.size + 1) 1)).put 11 (.d (.sl (encB q.2.1) (s.size + 1)))).put 12 (.i last)).put 13 (.i q.1), (Heap.nil.put 1 [.i k, .d (.val (.int .u64 a)), .d (.val (.int .u64 b)), .d (.val (.int .u64 c)), .d (.val (.int .u64 d)), .i mn, .i mx, .d (.sl (encL subs) subs.length)]).put 6 ((encB q.2.2).map AV.d), Frz.but 100 6, 100⟩) (m := fun q => (last + 1 - q.1).toNat)
        (I := fun q => q.2.1.length = s.size + 1 ∧ q.2.2.length = s.size + 1 ∧ refG s (.node k a b c d mn mx subs) p = refR (rfstG s subs) (s.size + 1) mn last (last + 1 - q.1).toNat q.1 q.2.1 q.2.2) (i0 := (0, p, List.replicate (s.size + 1) false))
      · exact ⟨hp, by simp, by rw [hspec]; simp⟩
      · refine fzB (k := 11) (p := p) rfl rfl hp (by omega) (wk2C (c := 6) (by omega) (by omega) (by omega) (by omega) (by omega) (by omega) rfl rfl rfl rfl encB_isD ?_)
        repeat' (first
    | exact FWk.nil
    | (apply FWk.i; rfl; (first | rfl | omega | (simp; done)))
    | (apply FWk.sl; rfl; rfl; rfl; rfl; omega; rfl)
    | (apply FWk.ptr; rfl; rfl; rfl; omega; rfl)
    | (apply FWk.d; rfl; rfl)
    | (apply FWk.a; rfl; rfl; rfl)
    | (apply FWk.slN; rfl; omega; rfl))
      rintro ⟨i, q, out⟩ K ⟨hq, ho, hm⟩ hK
      dsimp only at hq ho hm hK ⊢
      have hor := or_good out q ho hq (by omega)
      have hl2 : (addTo out q (s.size + 1)).1.length = s.size + 1 := by rw [addTo_len]; exact ho
      have hnx : (rfstG s subs q).length = s.size + 1 := by rw [hfst]; exact refG_len s _ _ hq
      have hcall : Good Try.prog 88 [nodeA (subs[0]'hl0), .d (.val (.string s)), .d (.sl (encB q) (s.size + 1))] none (.d (.sl (encB (rfstG s subs q)) (s.size + 1))) none none := by
        rw [hfst]; exact ih' 0 hl0 q hq
      have hna : [nodeA (subs[0]'hl0), .d (.val (.string s)), .d (.sl (encB q) (s.size + 1))].all AV.nrm = true := by
        rw [List.all_cons, nodeA_nrm]; rfl
      by_cases hgt : last < (i : Int)
      · repeat' (first
    | (apply r_mvV; rfl)
    | (apply r_mvP; rfl)
    | (apply r_mvPL; rfl)
    | (apply r_mvS; rfl)
    | (apply r_mvSL; rfl)
    | (apply r_mvA; rfl)
    | (apply r_mvT; rfl)
    | (apply r_mvF; rfl)
    | (apply r_mvD; rfl)
    | (apply r_faddD; rfl)
    | (apply r_faddL; rfl)
    | (apply r_l; apply ld_kind; assumption; rfl)
    | (apply r_l; apply ld_mn; assumption; rfl)
    | (apply r_l; apply ld_mx; assumption; rfl)
    | (apply r_l; apply ld_subs; assumption; rfl)
    | (apply r_l; apply ld_set; assumption; rfl)
    | (apply r_l; apply ld_node; assumption; rfl)
    | (apply r_l; apply ld_kind'; assumption; rfl)
    | (apply r_l; apply ld_mn'; assumption; rfl)
    | (apply r_l; apply ld_mx'; assumption; rfl)
    | (apply r_l; apply ld_subs'; assumption; rfl)
    | (apply r_l; apply ld_node'; assumption; rfl)
    | (apply r_ldL; rfl; rfl; rfl)
    | (apply r_eql; rfl; rfl; (first | (apply decide_eq_true; omega) | (apply decide_eq_false; omega) | rfl))
    | (apply r_lss; rfl; rfl; (first | (apply decide_eq_true; omega) | (apply decide_eq_false; omega) | rfl))
    | (apply r_leq; rfl; rfl; (first | (apply decide_eq_true; omega) | (apply decide_eq_false; omega) | rfl))
    | (apply r_geq; rfl; rfl; (first | (apply decide_eq_true; omega) | (apply decide_eq_false; omega) | rfl))
    | (apply r_add; rfl; rfl; rfl; omega)
    | (apply r_not; rfl; rfl)
    | (apply r_pickT; rfl)
    | (apply r_pickF; rfl)
    | (apply r_lenD; rfl)
    | (apply r_lenL; rfl)
    | (apply r_len0; rfl)
    | (apply r_lenT; rfl)
    | (apply r_gT; rfl)
    | (apply r_gF'; rfl; rfl)
    | (apply r_gN'; rfl)
    | ((apply r_gS (o := default); rfl) <;> (intro h; try simp only [decide_eq_true_eq, decide_eq_false_iff_not, Bool.not_eq_true, Bool.not_eq_false] at h))
    | (apply r_box; ((conv => lhs; simp only [Nat.reduceAdd]) <;> rfl); rfl; rfl; rfl)
    | (apply r_stL; rfl; rfl; rfl; rfl; (first | rfl | (simp only [z_nil, z_add] <;> rfl)); rfl; rfl)
    | (apply r_p; rfl)
    | (apply r_nilK)
    | (apply r_nil)
    | (apply k_V; rfl)
    | (apply k_P; rfl)
    | (apply k_PL; rfl)
    | (apply k_S; rfl)
    | (apply k_SL; rfl)
    | (apply k_A; rfl)
    | (apply k_T; rfl)
    | (apply k_F; rfl)
    | (apply k_D; rfl; rotate_left; rfl)
    | (apply k_nil)
    | (apply e_ret (vs := [.d (.val _)]); rfl)
    | (apply e_ret; rfl)
    | (apply e_ret' (vs := [.d (.val _)]); rfl)
    | (apply e_ret'; rfl)
    | (apply w_seq)
    | (apply w_ops; ((conv => lhs; simp only [Nat.reduceAdd]) <;> rfl))
    | (apply w_condT; rfl)
    | (apply w_condF; rfl)
    | ((apply w_condS; rfl) <;> (intro h; try simp only [decide_eq_true_eq, decide_eq_false_iff_not, Bool.not_eq_true, Bool.not_eq_false] at h))
    | (apply e_thenN)
    | (apply w_block)
    | (apply e_thenR)
    | (apply e_thenX)
    | (apply e_blkN)
    | (apply e_blkR)
    | (apply e_blkE)
    | (apply w_exit)
    | (apply w_ret)
    | (apply w_skip)
    | (apply e_blkE'; rfl))
        rw [show (last + 1 - (i : Int)).toNat = 0 by omega, refR] at hm
        rw [hm]
        exact retSB rfl ho
      have hle : (i : Int) ≤ last := by omega
      obtain ⟨f, hf⟩ : ∃ f, (last + 1 - (i : Int)).toNat = f + 1 := ⟨(last - i).toNat, by omega⟩
      have hf2 : (last + 1 - ((i + 1 : Nat) : Int)).toNat = f := by omega
      rw [hf] at hm
      rw [refR, if_pos hle] at hm
      by_cases hmk : mn ≤ i
      · rw [if_pos hmk] at hm
        repeat' (first
    | (apply r_mvV; rfl)
    | (apply r_mvP; rfl)
    | (apply r_mvPL; rfl)
    | (apply r_mvS; rfl)
    | (apply r_mvSL; rfl)
    | (apply r_mvA; rfl)
    | (apply r_mvT; rfl)
    | (apply r_mvF; rfl)
    | (apply r_mvD; rfl)
    | (apply r_faddD; rfl)
    | (apply r_faddL; rfl)
    | (apply r_l; apply ld_kind; assumption; rfl)
    | (apply r_l; apply ld_mn; assumption; rfl)
    | (apply r_l; apply ld_mx; assumption; rfl)
    | (apply r_l; apply ld_subs; assumption; rfl)
    | (apply r_l; apply ld_set; assumption; rfl)
    | (apply r_l; apply ld_node; assumption; rfl)
    | (apply r_l; apply ld_kind'; assumption; rfl)
    | (apply r_l; apply ld_mn'; assumption; rfl)
    | (apply r_l; apply ld_mx'; assumption; rfl)
    | (apply r_l; apply ld_subs'; assumption; rfl)
    | (apply r_l; apply ld_node'; assumption; rfl)
    | (apply r_callW; rfl; rfl; rfl; rfl; exact hor)
    | (apply r_p; apply ix_sub0; rfl; rfl; exact hl0)
    | (apply r_callA (ags := [nodeA (subs[0]'hl0), .d (.val (.string s)), .d (.sl (encB q) (s.size + 1))]); rfl; exact hna; exact hcall)
    | (apply r_ldL; rfl; rfl; rfl)
    | (apply r_eql; rfl; rfl; (first | (apply decide_eq_true; omega) | (apply decide_eq_false; omega) | rfl))
    | (apply r_lss; rfl; rfl; (first | (apply decide_eq_true; omega) | (apply decide_eq_false; omega) | rfl))
    | (apply r_leq; rfl; rfl; (first | (apply decide_eq_true; omega) | (apply decide_eq_false; omega) | rfl))
    | (apply r_geq; rfl; rfl; (first | (apply decide_eq_true; omega) | (apply decide_eq_false; omega) | rfl))
    | (apply r_add; rfl; rfl; rfl; omega)
    | (apply r_not; rfl; rfl)
    | (apply r_pickT; rfl)
    | (apply r_pickF; rfl)
    | (apply r_lenD; rfl)
    | (apply r_lenL; rfl)
    | (apply r_len0; rfl)
    | (apply r_lenT; rfl)
    | (apply r_gT; rfl)
    | (apply r_gF'; rfl; rfl)
    | (apply r_gN'; rfl)
    | ((apply r_gS (o := default); rfl) <;> (intro h; try simp only [decide_eq_true_eq, decide_eq_false_iff_not, Bool.not_eq_true, Bool.not_eq_false] at h))
    | (apply r_box; ((conv => lhs; simp only [Nat.reduceAdd]) <;> rfl); rfl; rfl; rfl)
    | (apply r_stL; rfl; rfl; rfl; rfl; (first | rfl | (simp only [z_nil, z_add] <;> rfl)); rfl; rfl)
    | (apply r_p; rfl)
    | (apply r_nilK)
    | (apply r_nil)
    | (apply k_V; rfl)
    | (apply k_P; rfl)
    | (apply k_PL; rfl)
    | (apply k_S; rfl)
    | (apply k_SL; rfl)
    | (apply k_A; rfl)
    | (apply k_T; rfl)
    | (apply k_F; rfl)
    | (apply k_D; rfl; rotate_left; rfl)
    | (apply k_nil)
    | (apply e_ret (vs := [.d (.val _)]); rfl)
    | (apply e_ret; rfl)
    | (apply e_ret' (vs := [.d (.val _)]); rfl)
    | (apply e_ret'; rfl)
    | (apply w_seq)
    | (apply w_ops; ((conv => lhs; simp only [Nat.reduceAdd]) <;> rfl))
    | (apply w_condT; rfl)
    | (apply w_condF; rfl)
    | ((apply w_condS; rfl) <;> (intro h; try simp only [decide_eq_true_eq, decide_eq_false_iff_not, Bool.not_eq_true, Bool.not_eq_false] at h))
    | (apply e_thenN)
    | (apply w_block)
    | (apply e_thenR)
    | (apply e_thenX)
    | (apply e_blkN)
    | (apply e_blkR)
    | (apply e_blkE)
    | (apply w_exit)
    | (apply w_ret)
    | (apply w_skip)
    | (apply e_blkE'; rfl))
        · simp only [Bool.not_eq_true'] at h
          rw [if_neg (by simp [h])] at hm
          rw [hm]
          exact retSB rfl hl2
        · apply e_thenK
          simp only [Bool.not_eq_false'] at h
          rw [if_pos h] at hm
          apply hK (i + 1, rfstG s subs q, (addTo out q (s.size + 1)).1)
          · exact ⟨hnx, hl2, by dsimp only; rw [hf2, hm]; rfl⟩
          · dsimp only; omega
          · refine (wk2C (c := 6) (by omega) (by omega) (by omega) (by omega) (by omega) (by omega) rfl rfl rfl rfl encB_isD ?_).f
            repeat' (first
    | exact FWk.nil
    | (apply FWk.i; rfl; (first | rfl | omega | (simp; done)))
    | (apply FWk.sl; rfl; rfl; rfl; rfl; omega; rfl)
    | (apply FWk.ptr; rfl; rfl; rfl; omega; rfl)
    | (apply FWk.d; rfl; rfl)
    | (apply FWk.a; rfl; rfl; rfl)
    | (apply FWk.slN; rfl; omega; rfl))
      · rw [if_neg hmk] at hm
        repeat' (first
    | (apply r_mvV; rfl)
    | (apply r_mvP; rfl)
    | (apply r_mvPL; rfl)
    | (apply r_mvS; rfl)
    | (apply r_mvSL; rfl)
    | (apply r_mvA; rfl)
    | (apply r_mvT; rfl)
    | (apply r_mvF; rfl)
    | (apply r_mvD; rfl)
    | (apply r_faddD; rfl)
    | (apply r_faddL; rfl)
    | (apply r_l; apply ld_kind; assumption; rfl)
    | (apply r_l; apply ld_mn; assumption; rfl)
    | (apply r_l; apply ld_mx; assumption; rfl)
    | (apply r_l; apply ld_subs; assumption; rfl)
    | (apply r_l; apply ld_set; assumption; rfl)
    | (apply r_l; apply ld_node; assumption; rfl)
    | (apply r_l; apply ld_kind'; assumption; rfl)
    | (apply r_l; apply ld_mn'; assumption; rfl)
    | (apply r_l; apply ld_mx'; assumption; rfl)
    | (apply r_l; apply ld_subs'; assumption; rfl)
    | (apply r_l; apply ld_node'; assumption; rfl)
    | (apply r_p; apply ix_sub0; rfl; rfl; exact hl0)
    | (apply r_callA (ags := [nodeA (subs[0]'hl0), .d (.val (.string s)), .d (.sl (encB q) (s.size + 1))]); rfl; exact hna; exact hcall)
    | (apply r_ldL; rfl; rfl; rfl)
    | (apply r_eql; rfl; rfl; (first | (apply decide_eq_true; omega) | (apply decide_eq_false; omega) | rfl))
    | (apply r_lss; rfl; rfl; (first | (apply decide_eq_true; omega) | (apply decide_eq_false; omega) | rfl))
    | (apply r_leq; rfl; rfl; (first | (apply decide_eq_true; omega) | (apply decide_eq_false; omega) | rfl))
    | (apply r_geq; rfl; rfl; (first | (apply decide_eq_true; omega) | (apply decide_eq_false; omega) | rfl))
    | (apply r_add; rfl; rfl; rfl; omega)
    | (apply r_not; rfl; rfl)
    | (apply r_pickT; rfl)
    | (apply r_pickF; rfl)
    | (apply r_lenD; rfl)
    | (apply r_lenL; rfl)
    | (apply r_len0; rfl)
    | (apply r_lenT; rfl)
    | (apply r_gT; rfl)
    | (apply r_gF'; rfl; rfl)
    | (apply r_gN'; rfl)
    | ((apply r_gS (o := default); rfl) <;> (intro h; try simp only [decide_eq_true_eq, decide_eq_false_iff_not, Bool.not_eq_true, Bool.not_eq_false] at h))
    | (apply r_box; ((conv => lhs; simp only [Nat.reduceAdd]) <;> rfl); rfl; rfl; rfl)
    | (apply r_stL; rfl; rfl; rfl; rfl; (first | rfl | (simp only [z_nil, z_add] <;> rfl)); rfl; rfl)
    | (apply r_p; rfl)
    | (apply r_nilK)
    | (apply r_nil)
    | (apply k_V; rfl)
    | (apply k_P; rfl)
    | (apply k_PL; rfl)
    | (apply k_S; rfl)
    | (apply k_SL; rfl)
    | (apply k_A; rfl)
    | (apply k_T; rfl)
    | (apply k_F; rfl)
    | (apply k_D; rfl; rotate_left; rfl)
    | (apply k_nil)
    | (apply e_ret (vs := [.d (.val _)]); rfl)
    | (apply e_ret; rfl)
    | (apply e_ret' (vs := [.d (.val _)]); rfl)
    | (apply e_ret'; rfl)
    | (apply w_seq)
    | (apply w_ops; ((conv => lhs; simp only [Nat.reduceAdd]) <;> rfl))
    | (apply w_condT; rfl)
    | (apply w_condF; rfl)
    | ((apply w_condS; rfl) <;> (intro h; try simp only [decide_eq_true_eq, decide_eq_false_iff_not, Bool.not_eq_true, Bool.not_eq_false] at h))
    | (apply e_thenN)
    | (apply w_block)
    | (apply e_thenR)
    | (apply e_thenX)
    | (apply e_blkN)
    | (apply e_blkR)
    | (apply e_blkE)
    | (apply w_exit)
    | (apply w_ret)
    | (apply w_skip)
    | (apply e_blkE'; rfl))
        apply e_thenK
        apply hK (i + 1, rfstG s subs q, out)
        · exact ⟨hnx, ho, by dsimp only; rw [hf2, hm]; rfl⟩
        · dsimp only; omega
        · refine (wk2C (c := 6) (by omega) (by omega) (by omega) (by omega) (by omega) (by omega) rfl rfl rfl rfl encB_isD ?_).f
          repeat' (first
    | exact FWk.nil
    | (apply FWk.i; rfl; (first | rfl | omega | (simp; done)))
    | (apply FWk.sl; rfl; rfl; rfl; rfl; omega; rfl)
    | (apply FWk.ptr; rfl; rfl; rfl; omega; rfl)
    | (apply FWk.d; rfl; rfl)
    | (apply FWk.a; rfl; rfl; rfl)
    | (apply FWk.slN; rfl; omega; rfl))
  · exfalso
    have := (plainT_kind hpl).1
    omega
end Go.Sv
namespace Go.Sv
open Go Go.Proofs
def x36 : XC := (.seq (.ops 2 [
    (0, ⟨(some 3), none, .box (.t 0)⟩),
    (1, ⟨(some 6), none, .mv (.k (.d (.val (.slice none 0 0))))⟩)] (some [1, 2, 3])) (.seq (.ops 5 [
    (0, ⟨(some 10), none, .mv (.t 1)⟩),
    (1, ⟨(some 11), none, .lenT (.t 10)⟩),
    (2, ⟨(some 12), none, .arith .add (.t 11) (.k (.d (.val (.int .i64 1))))⟩),
    (3, ⟨(some 13), none, .mks [(.bool false)] 1 (.t 12) (.t 12)⟩),
    (4, ⟨(some 7), none, .mv (.t 13)⟩)] (some [1, 2, 3, 7])) (.seq (.ops 4 [
    (0, ⟨(some 14), none, .mv (.t 7)⟩),
    (1, ⟨(some 15), none, .mv (.t 2)⟩),
    (2, ⟨(some 16), none, .idxS 1 (.t 14) (.t 15)⟩),
    (3, ⟨none, none, .store 1 (.t 16) (.k (.d (.val (.bool true))))⟩)] (some [1, 3, 7])) (.seq (.ops 5 [
    (0, ⟨(some 17), none, .load (some 8) (.t 3)⟩),
    (1, ⟨(some 18), none, .mv (.t 1)⟩),
    (2, ⟨(some 19), none, .mv (.t 7)⟩),
    (3, ⟨(some 20), none, .call 88 [(.t 17), (.t 18), (.t 19)] none false⟩),
    (4, ⟨(some 7), none, .mv (.t 20)⟩)] (some [7])) (.seq (.ops 1 [
    (0, ⟨(some 8), none, .mv (.k (.d (.val (.slice none 0 0))))⟩)] (some [7, 8])) (.seq (.seq (.ops 1 [
    (0, ⟨(some 9), none, .mv (.k (.d (.val (.int .i64 0))))⟩)] (some [7, 8, 9])) (.block 0 (.loop (.seq (.seq (.ops 4 [
    (0, ⟨(some 21), none, .mv (.t 9)⟩),
    (1, ⟨(some 22), none, .mv (.t 7)⟩),
    (2, ⟨(some 23), none, .lenS (.t 22)⟩),
    (3, ⟨(some 24), none, .arith .lss (.t 21) (.t 23)⟩)] (some [7, 8, 9, 24])) (.cond (.t 24) .skip (.exit 0))) (.seq (.block 1 (.seq (.ops 4 [
    (0, ⟨(some 27), none, .mv (.t 7)⟩),
    (1, ⟨(some 28), none, .mv (.t 9)⟩),
    (2, ⟨(some 29), none, .idxS 1 (.t 27) (.t 28)⟩),
    (3, ⟨(some 30), none, .load none (.t 29)⟩)] (some [7, 8, 9, 30])) (.cond (.t 30) (.ops 5 [
    (0, ⟨(some 31), none, .mv (.t 8)⟩),
    (1, ⟨(some 32), none, .mv (.t 9)⟩),
    (2, ⟨(some 33), none, .mkrow [(.int .i64 0)] 1 1 [(0, 1, (.t 32))]⟩),
    (3, ⟨(some 34), none, .app [(.int .i64 0)] 8 (.t 31) (.t 33)⟩),
    (4, ⟨(some 8), none, .mv (.t 34)⟩)] (some [7, 8, 9])) .skip))) (.ops 3 [
    (0, ⟨(some 25), none, .mv (.t 9)⟩),
    (1, ⟨(some 26), none, .arith .add (.t 25) (.k (.d (.val (.int .i64 1))))⟩),
    (2, ⟨(some 9), none, .mv (.t 26)⟩)] (some [7, 8, 9]))))))) (.seq (.ops 2 [
    (0, ⟨(some 35), none, .mv (.t 8)⟩),
    (1, ⟨(some 6), none, .mv (.t 35)⟩)] (some [6])) .ret)))))))
def md36 : FuncId → Option Nat × Bool
  | _ => (none, false)
def od36 : Nat → List (List Nat) × List Nat × Option (List Nat)
  | 0 => ([], [], some [1, 2, 3])
  | 1 => ([], [], some [1, 2, 3, 7])
  | 2 => ([], [], some [1, 3, 7])
  | 3 => ([], [], some [7])
  | 4 => ([], [], some [7, 8])
  | 5 => ([], [], some [7, 8, 9])
  | 6 => ([], [], some [7, 8, 9, 24])
  | 7 => ([], [], some [7, 8, 9])
  | 8 => ([], [], some [7, 8, 9, 30])
  | 9 => ([], [], some [7, 8, 9])
  | 10 => ([], [], some [6])
  | _ => ([], [], none)
theorem b36 {ags : List AV} {row : Option (List DV)} {r : AV} {row' nw : Option (List DV)} (hal : ags.length ≤ 36) (hrow : row'.isSome = true → row.isSome = true) (h : xwp Try.prog x36 (retK [.tmp 6] row.isSome r row' nw) (St.init ags row)) : Good Try.prog 36 ags row r row' nw :=
  good_of_body' (md := md36) (od := od36) Try.f36 (by kernel_rfl) (by kernel_rfl) (by kernel_rfl) (by kernel_rfl) (by kernel_rfl) hal hrow h

section
variable {P : Program} {Q : Cont} {fr : Fr} {C : Heap} {Z Z' : Frz} {nx : Nat} {base n d : Nat} {l : List (Nat × XO)} {kp : Option (List Nat)} {x i y s : X}
theorem convAs_snoc {C : Heap} {ex : Nat → Bool} {v y : AV} {u : List Nat} (hx : convA C ex v = some (y, u)) : ∀ (l : List AV), l.all AV.nrm = true → convAs C ex (l ++ [v]) = some (l ++ [y], u)
  | [], _ => by simp [convAs, hx]
  | a :: l, h => by
    have h1 : [a].all AV.nrm = true := by simp only [List.all_cons, Bool.and_eq_true] at h ⊢; exact ⟨h.1, rfl⟩
    have h2 : l.all AV.nrm = true := by simp only [List.all_cons, Bool.and_eq_true] at h; exact h.2
    have ih := convAs_snoc hx l h2
    have e := convAs_nrm (C := C) (ex := ex) [a] h1
    simp only [convAs, Option.bind_eq_bind] at e
    obtain ⟨⟨y', u'⟩, g1, g2⟩ := Option.bind_eq_some_iff.1 e
    simp at g2
    obtain ⟨rfl, rfl⟩ := g2
    simp only [List.cons_append, convAs, g1, ih, Option.bind_some, Option.map_some, List.nil_append]
theorem r_callLB {f : FuncId} {xs : List X} {ags : List AV} {b m : Nat} {p : List Bool} {r : AV} (ha : xs.map (X.ev fr) = ags ++ [.slL b 0 m 1]) (hn : ags.all AV.nrm = true) (hC : C b = some ((encB p).map AV.d)) (hm : p.length = m) (h0 : 0 < m)
    (hg : Good P f (ags ++ [.d (.sl (encB p) m)]) none r none none) (hz : Z.add (if r.scalar = true then [] else [b]) = Z') (k : R P l base kp Q nx (fr.put d r) C Z') : R P ((n, ⟨some d, none, .call f xs none false⟩) :: l) base kp Q nx fr C Z := by
  refine r_call ha (convAs_snoc ?_ ags hn) hg hz k
  simp only [convA, conv_slB (ex := fun _ => false) rfl hC hm h0, Option.map_some]
theorem retL1 {live : Bool} {b m : Nat} {p : List Int} (hC : C b = some ((encI p).map AV.d)) (hm : p.length = m) : RetOK C Z (tupOf [.slL b 0 m 1]) live (.d (.sl (encI p) m)) none none := by
  refine .data _ ?_
  simp only [tupOf, convT, convA, conv_slI (ex := fun _ => false) rfl hC hm, Option.map_some]
end
set_option maxRecDepth 100000
set_option maxHeartbeats 4000000
attribute [local irreducible] W E R KP thenK blockK retK Good xwp aRun
def rallG (s : ByteArray) (t : T) (j : Nat) : List Int := idxTo (refG s t ((List.replicate (s.size + 1) false).set j true)) (s.size + 1)
theorem all36_good (s : ByteArray) (hsz : s.size ≤ 1000000) (t : T) (hc : t.cnt ≤ 1000000) (hok : okT t) (j : Nat) (hj : j ≤ s.size) : Good Try.prog 36 [nodeA t, .d (.val (.string s)), .i j] none (.d (.sl (encI (rallG s t j)) (rallG s t j).length)) none none := by
  have hl0 : ((List.replicate (s.size + 1) false).set j true).length = s.size + 1 := by simp
  have hst := ref_good s hsz 1000000 t hc (by omega) hok _ hl0
  have hql := refG_len s t _ hl0
  unfold rallG
  generalize refG s t ((List.replicate (s.size + 1) false).set j true) = q at hst hql ⊢
  have hna : [nodeA t, .d (.val (.string s))].all AV.nrm = true := by
    rw [List.all_cons, nodeA_nrm]; rfl
  obtain ⟨k, a, b, c, d, mn, mx, subs⟩ := t
  have e0 : nodeA (.node k a b c d mn mx subs) = .agg [.i k, .d (.val (.int .u64 a)), .d (.val (.int .u64 b)), .d (.val (.int .u64 c)), .d (.val (.int .u64 d)), .i mn, .i mx, .d (.sl (encL subs) subs.length)] := rfl
  rw [e0] at hst hna ⊢
  refine b36 (by simp) (by simp) (w_init ?_)
  unfold x36
  repeat' (first
    | (apply r_mvV; rfl)
    | (apply r_mvP; rfl)
    | (apply r_mvPL; rfl)
    | (apply r_mvS; rfl)
    | (apply r_mvSL; rfl)
    | (apply r_mvA; rfl)
    | (apply r_mvT; rfl)
    | (apply r_mvF; rfl)
    | (apply r_mvD; rfl)
    | (apply r_l; apply ld_kind; assumption; rfl)
    | (apply r_l; apply ld_mn; assumption; rfl)
    | (apply r_l; apply ld_mx; assumption; rfl)
    | (apply r_l; apply ld_subs; assumption; rfl)
    | (apply r_l; apply ld_set; assumption; rfl)
    | (apply r_l; apply ld_node; assumption; rfl)
    | (apply r_l; apply ld_kind'; assumption; rfl)
    | (apply r_l; apply ld_mn'; assumption; rfl)
    | (apply r_l; apply ld_mx'; assumption; rfl)
    | (apply r_l; apply ld_subs'; assumption; rfl)
    | (apply r_l; apply ld_node'; assumption; rfl)
    | (apply r_mksB (m := s.size + 1); rfl; rfl; ((conv => lhs; simp only [Nat.reduceAdd]) <;> rfl); omega; omega)
    | (apply r_ixL (j := j); rfl; rfl; omega)
    | (apply r_stB; rfl; rfl; rfl; rfl; (simp; omega))
    | (apply r_callLB (ags := [.agg [.i k, .d (.val (.int .u64 a)), .d (.val (.int .u64 b)), .d (.val (.int .u64 c)), .d (.val (.int .u64 d)), .i mn, .i mx, .d (.sl (encL subs) subs.length)], .d (.val (.string s))]); rfl; exact hna; rfl; exact hl0; omega; exact hst; rfl)
    | (apply r_ldL; rfl; rfl; rfl)
    | (apply r_lss; rfl; rfl; (first | (apply decide_eq_true; omega) | (apply decide_eq_false; omega) | rfl))
    | (apply r_add; rfl; rfl; rfl; omega)
    | (apply r_lenD; rfl)
    | (apply r_lenL; rfl)
    | (apply r_len0; rfl)
    | (apply r_lenT; rfl)
    | (apply r_box; ((conv => lhs; simp only [Nat.reduceAdd]) <;> rfl); rfl; rfl; rfl)
    | (apply r_stL; rfl; rfl; rfl; rfl; (first | rfl | (simp only [z_nil, z_add] <;> rfl)); rfl; rfl)
    | (apply r_p; rfl)
    | (apply r_nilK)
    | (apply r_nil)
    | (apply k_V; rfl)
    | (apply k_P; rfl)
    | (apply k_PL; rfl)
    | (apply k_S; rfl)
    | (apply k_SL; rfl)
    | (apply k_A; rfl)
    | (apply k_T; rfl)
    | (apply k_F; rfl)
    | (apply k_D; rfl; rotate_left; rfl)
    | (apply k_nil)
    | (apply e_ret (vs := [.d (.val _)]); rfl)
    | (apply e_ret; rfl)
    | (apply e_ret' (vs := [.d (.val _)]); rfl)
    | (apply e_ret'; rfl)
    | (apply w_seq)
    | (apply w_ops; ((conv => lhs; simp only [Nat.reduceAdd]) <;> rfl))
    | (apply w_condT; rfl)
    | (apply w_condF; rfl)
    | ((apply w_condS; rfl) <;> (intro h; try simp only [decide_eq_true_eq, decide_eq_false_iff_not, Bool.not_eq_true, Bool.not_eq_false] at h))
    | (apply e_thenN)
    | (apply w_block)
    | (apply e_thenR)
    | (apply e_thenX)
    | (apply e_blkN)
    | (apply e_blkR)
    | (apply e_blkE)
    | (apply w_exit)
    | (apply w_ret)
    | (apply w_skip)
    | (apply e_blkE'; rfl))
  apply w_loopI (S := fun i : Nat => ⟨((Fr.nil.put 8 (.slL 5 0 (idxTo q i).length 1)).put 7 (.d (.sl (encB q) (s.size + 1)))).put 9 (.i i), Heap.nil.put 5 ((encI (idxTo q i)).map AV.d), Frz.but 200 5, 200⟩) (m := fun i => s.size + 1 - i) (I := fun i => i ≤ s.size + 1) (i0 := 0)
  · exact Nat.zero_le _
  · refine wkN (by omega) (by omega) ?_
    repeat' (first
    | exact FWk.nil
    | (apply FWk.i; rfl; (first | rfl | omega | (simp; done)))
    | (apply FWk.sl; rfl; rfl; rfl; rfl; omega; rfl)
    | (apply FWk.ptr; rfl; rfl; rfl; omega; rfl)
    | (apply FWk.d; rfl; rfl)
    | (apply FWk.a; rfl; rfl; rfl)
    | (apply FWk.slN; rfl; omega; rfl))
  intro i K hi hK
  dsimp only
  rcases Nat.lt_or_ge i (s.size + 1) with hlt | hge
  · have hg : q[i]? = some (q.getD i false) := by
      rw [List.getD_eq_getElem?_getD, List.getElem?_eq_getElem (by omega)]; rfl
    have hidx := idxTo_len q i
    repeat' (first
    | (apply r_mvV; rfl)
    | (apply r_mvP; rfl)
    | (apply r_mvPL; rfl)
    | (apply r_mvS; rfl)
    | (apply r_mvSL; rfl)
    | (apply r_mvA; rfl)
    | (apply r_mvT; rfl)
    | (apply r_mvF; rfl)
    | (apply r_mvD; rfl)
    | (apply r_ixB'; rfl; rfl; exact hlt; exact hql)
    | (apply r_ldB; rfl; exact hg)
    | (apply r_mkrow1; rfl; ((conv => lhs; simp only [Nat.reduceAdd]) <;> rfl))
    | (apply r_app1; rfl; rfl; rfl; rfl; rfl; ((conv => lhs; simp only [Nat.reduceAdd]) <;> rfl); rfl; omega)
    | (apply r_ldL; rfl; rfl; rfl)
    | (apply r_lss; rfl; rfl; (first | (apply decide_eq_true; omega) | (apply decide_eq_false; omega) | rfl))
    | (apply r_add; rfl; rfl; rfl; omega)
    | (apply r_lenD; rfl)
    | (apply r_lenL; rfl)
    | (apply r_len0; rfl)
    | (apply r_lenT; rfl)
    | (apply r_box; ((conv => lhs; simp only [Nat.reduceAdd]) <;> rfl); rfl; rfl; rfl)
    | (apply r_stL; rfl; rfl; rfl; rfl; (first | rfl | (simp only [z_nil, z_add] <;> rfl)); rfl; rfl)
    | (apply r_p; rfl)
    | (apply r_nilK)
    | (apply r_nil)
    | (apply k_V; rfl)
    | (apply k_P; rfl)
    | (apply k_PL; rfl)
    | (apply k_S; rfl)
    | (apply k_SL; rfl)
    | (apply k_A; rfl)
    | (apply k_T; rfl)
    | (apply k_F; rfl)
    | (apply k_D; rfl; rotate_left; rfl)
    | (apply k_nil)
    | (apply e_ret (vs := [.d (.val _)]); rfl)
    | (apply e_ret; rfl)
    | (apply e_ret' (vs := [.d (.val _)]); rfl)
    | (apply e_ret'; rfl)
    | (apply w_seq)
    | (apply w_ops; ((conv => lhs; simp only [Nat.reduceAdd]) <;> rfl))
    | (apply w_condT; rfl)
    | (apply w_condF; rfl)
    | ((apply w_condS; rfl) <;> (intro h; try simp only [decide_eq_true_eq, decide_eq_false_iff_not, Bool.not_eq_true, Bool.not_eq_false] at h))
    | (apply e_thenN)
    | (apply w_block)
    | (apply e_thenR)
    | (apply e_thenX)
    | (apply e_blkN)
    | (apply e_blkR)
    | (apply e_blkE)
    | (apply w_exit)
    | (apply w_ret)
    | (apply w_skip)
    | (apply e_blkE'; rfl))
    · have e : idxTo q (i + 1) = idxTo q i ++ [(i : Int)] := by rw [idxTo, if_pos h]
      apply e_thenK
      apply hK (i + 1)
      · omega
      · omega
      · refine wkC (c := 211) (by omega) (by omega) (by rw [e]; rfl) rfl encI_isD (FWk.i rfl (by simp) (FWk.d rfl rfl (FWk.sl rfl rfl (by rw [e, List.length_append]; rfl) rfl (by omega) rfl FWk.nil)))
    · have e : idxTo q (i + 1) = idxTo q i := by rw [idxTo, if_neg (by simp only [h]; simp)]
      apply e_thenK
      apply hK (i + 1)
      · omega
      · omega
      · refine wkC (c := 5) (by omega) (by omega) (by rw [e]; rfl) rfl encI_isD (FWk.i rfl (by simp) (FWk.d rfl rfl (FWk.sl rfl rfl (by rw [e]) rfl (by omega) rfl FWk.nil)))
  · repeat' (first
    | (apply r_mvV; rfl)
    | (apply r_mvP; rfl)
    | (apply r_mvPL; rfl)
    | (apply r_mvS; rfl)
    | (apply r_mvSL; rfl)
    | (apply r_mvA; rfl)
    | (apply r_mvT; rfl)
    | (apply r_mvF; rfl)
    | (apply r_mvD; rfl)
    | (apply r_ldL; rfl; rfl; rfl)
    | (apply r_lss; rfl; rfl; (first | (apply decide_eq_true; omega) | (apply decide_eq_false; omega) | rfl))
    | (apply r_add; rfl; rfl; rfl; omega)
    | (apply r_lenD; rfl)
    | (apply r_lenL; rfl)
    | (apply r_len0; rfl)
    | (apply r_lenT; rfl)
    | (apply r_box; ((conv => lhs; simp only [Nat.reduceAdd]) <;> rfl); rfl; rfl; rfl)
    | (apply r_stL; rfl; rfl; rfl; rfl; (first | rfl | (simp only [z_nil, z_add] <;> rfl)); rfl; rfl)
    | (apply r_p; rfl)
    | (apply r_nilK)
    | (apply r_nil)
    | (apply k_V; rfl)
    | (apply k_P; rfl)
    | (apply k_PL; rfl)
    | (apply k_S; rfl)
    | (apply k_SL; rfl)
    | (apply k_A; rfl)
    | (apply k_T; rfl)
    | (apply k_F; rfl)
    | (apply k_D; rfl; rotate_left; rfl)
    | (apply k_nil)
    | (apply e_ret (vs := [.d (.val _)]); rfl)
    | (apply e_ret; rfl)
    | (apply e_ret' (vs := [.d (.val _)]); rfl)
    | (apply e_ret'; rfl)
    | (apply w_seq)
    | (apply w_ops; ((conv => lhs; simp only [Nat.reduceAdd]) <;> rfl))
    | (apply w_condT; rfl)
    | (apply w_condF; rfl)
    | ((apply w_condS; rfl) <;> (intro h; try simp only [decide_eq_true_eq, decide_eq_false_iff_not, Bool.not_eq_true, Bool.not_eq_false] at h))
    | (apply e_thenN)
    | (apply w_block)
    | (apply e_thenR)
    | (apply e_thenX)
    | (apply e_blkN)
    | (apply e_blkR)
    | (apply e_blkE)
    | (apply w_exit)
    | (apply w_ret)
    | (apply w_skip)
    | (apply e_blkE'; rfl))
    have ei : i = s.size + 1 := by omega
    subst ei
    exact retL1 rfl rfl
end Go.Sv
namespace Go.Sv
open Go Go.Proofs
set_option linter.unusedVariables false
set_option maxRecDepth 100000

theorem cells_27 : Try.prog.cellsOf 27 = 8 := by kernel_rfl
theorem cells_3 : Try.prog.cellsOf 3 = 1 := by kernel_rfl
theorem cells_24 : Try.prog.cellsOf 24 = 4 := by kernel_rfl
theorem cells_22 : Try.prog.cellsOf 22 = 1 := by kernel_rfl
theorem cells_25 : Try.prog.cellsOf 25 = 1 := by kernel_rfl
def inW (k : Int) : Prop := -9223372036854775808 ≤ k ∧ k < 9223372036854775808
mutual
def inT : T → Prop
  | .node k a b c d mn mx subs => inW k ∧ okW a ∧ okW b ∧ okW c ∧ okW d ∧ inW mn ∧ inW mx ∧ inL subs
def inL : List T → Prop
  | [] => True
  | t :: l => inT t ∧ inL l
end
theorem inL_of : ∀ {l : List T}, (∀ t ∈ l, inT t) → inL l
  | [], _ => trivial
  | t :: l, h => ⟨h t (by simp), inL_of fun u hu => h u (by simp [hu])⟩

section
variable {H : Type} {enc : TypeId × Value → H} {W : World} {sp : Nat → Bool}
theorem wf_i64 {n : Int} (h : (Lit.int .i64 n).wf = true) : inW n := by
  simp [Lit.wf, IntKind.min, IntKind.max, IntKind.signed, IntKind.bits] at h
  unfold inW; omega
theorem wf_u64 {n : Int} (h : (Lit.int .u64 n).wf = true) : okW n := by
  simp [Lit.wf, IntKind.min, IntKind.max, IntKind.signed, IntKind.bits] at h
  unfold okW; omega
def NoA : Nat → Prop := fun _ => False
def RDs (W : World) (vs : List Value) (ds : List DV) : Prop := vs.length = ds.length ∧ ∀ (j : Nat) (v : Value) (d : DV), vs[j]? = some v → ds[j]? = some d → RD W NoA v d
theorem RDs.nil : RDs W [] [] := ⟨rfl, fun j v d h => by simp at h⟩
theorem RDs.cons {v : Value} {d : DV} {vs : List Value} {ds : List DV} (h : RD W NoA v d) (hs : RDs W vs ds) : RDs W (v :: vs) (d :: ds) := by
  refine ⟨by simp [hs.1], fun j v' d' h1 h2 => ?_⟩
  cases j with
  | zero => simp at h1 h2; subst h1; subst h2; exact h
  | succ j => exact hs.2 j v' d' (by simpa using h1) (by simpa using h2)

theorem cells_at {a : Addr} {n : Nat} {cs : List Value} (h : W.cells? 0 a n = some cs) : cs.length = n ∧ ∀ j, j < n → cs[j]? = W.cell? (a.add j) := by
  unfold World.cells? at h
  rw [if_pos (Nat.zero_le _)] at h
  refine ⟨by simpa using mapM_some_length h, fun j hj => ?_⟩
  exact (mapM_some_get h j j (by simp [hj])).symm
theorem cell_spot {a : Addr} {v : Value} (h : W.cell? a = some v) : a = ⟨a.block, a.off, none⟩ := by
  obtain ⟨b, o, s⟩ := a
  unfold World.cell? at h
  split at h
  · split at h
    · cases h
    · rename_i hs
      cases s with
      | none => rfl
      | some _ => simp at hs
  · cases h

theorem addr_add2 (b o m k : Nat) : (((⟨b, o, none⟩ : Addr).add m).add k) = ⟨b, o + (m + k), none⟩ := by
  unfold Addr.add
  split <;> split <;> simp_all <;> omega
theorem elems_open {sz : Nat} (hsz : 0 < sz) {a : Addr} {α : Type} {P : α → Prop} {en : α → List DV} (hen : ∀ x, (en x).length = sz) : ∀ (len : Nat), (∀ i, i < len → ∃ cs x, W.cells? 0 (a.add (i * sz)) sz = some cs ∧ P x ∧ RDs W cs (en x)) →
    ∃ l : List α, l.length = len ∧ (∀ x ∈ l, P x) ∧ ∀ j, j < len * sz → ∃ v d, W.cell? ⟨a.block, a.off + j, none⟩ = some v ∧ (l.flatMap en)[j]? = some d ∧ RD W NoA v d
  | 0, _ => ⟨[], rfl, by simp, fun j hj => by omega⟩
  | len + 1, h => by
    obtain ⟨l, h1, h2, h3⟩ := elems_open hsz hen len fun i hi => h i (by omega)
    obtain ⟨cs, x, h4, h5, h6⟩ := h len (by omega)
    obtain ⟨h7, h8⟩ := cells_at h4
    have hspot : a = ⟨a.block, a.off, none⟩ := by
      obtain ⟨cs0, x0, g4, _, _⟩ := h 0 (by omega)
      obtain ⟨g7, g8⟩ := cells_at g4
      have g9 := g8 0 hsz
      rw [List.getElem?_eq_getElem (by omega)] at g9
      have := cell_spot g9.symm
      simpa [Addr.add] using this
    have hfl : ∀ m : List α, (m.flatMap en).length = m.length * sz := by
      intro m
      induction m with
      | nil => simp
      | cons y m ih => simp [ih, hen, Nat.succ_mul]; omega
    refine ⟨l ++ [x], by simp [h1], fun y hy => ?_, fun j hj => ?_⟩
    · rcases List.mem_append.1 hy with hy | hy
      · exact h2 y hy
      · simp at hy; subst hy; exact h5
    · rcases Nat.lt_or_ge j (len * sz) with hlt | hge
      · obtain ⟨v, d, g1, g2, g3⟩ := h3 j hlt
        refine ⟨v, d, g1, ?_, g3⟩
        rw [List.flatMap_append, List.getElem?_append_left (by rw [hfl, h1]; exact hlt)]
        exact g2
      · have hj2 : j - len * sz < sz := by rw [Nat.succ_mul] at hj; omega
        have g1 := h8 (j - len * sz) hj2
        rw [List.getElem?_eq_getElem (by omega)] at g1
        have hl6 := h6.1
        have hx : (en x)[j - len * sz]? = some (en x)[j - len * sz] := List.getElem?_eq_getElem (by rw [hen]; exact hj2)
        refine ⟨cs[j - len * sz], (en x)[j - len * sz], ?_, ?_, h6.2 _ _ _ (List.getElem?_eq_getElem (by omega)) hx⟩
        · rw [g1]
          congr 1
          have e : len * sz + (j - len * sz) = j := by omega
          have h9 := addr_add2 a.block a.off (len * sz) (j - len * sz)
          rw [← hspot, e] at h9
          exact h9.symm
        · rw [List.flatMap_append, List.getElem?_append_right (by rw [hfl, h1]; exact hge), hfl, h1]
          simpa using hx
theorem encL_flat : ∀ l : List T, encL l = l.flatMap encN
  | [] => rfl
  | t :: l => by simp [encL, encL_flat l]

theorem len8 {cs : List Value} (h : cs.length = 8) : ∃ a b c d e f g i, cs = [a, b, c, d, e, f, g, i] := by
  match cs, h with
  | [a, b, c, d, e, f, g, i], _ => exact ⟨a, b, c, d, e, f, g, i, rfl⟩

theorem node_open : ∀ (fuel : Nat) (cs : List Value) (x : DataW H × List MemPlace), DataW.trod enc Try.prog W 0 sp true fuel 27 cs = some x → ∃ t : T, inT t ∧ RDs W cs (encN t) := by
  intro fuel
  induction fuel using Nat.strongRecOn with
  | ind fuel ih =>
  intro cs x h
  obtain ⟨xs, n, rfl, _, hl, hxl, hf⟩ := DataW.trod_struct Try.underlying27 h
  rw [cells_27] at hl
  obtain ⟨c0, c1, c2, c3, c4, c5, c6, c7, rfl⟩ := len8 hl
  have hx : ∀ i, i < 5 → ∃ y, xs[i]? = some y := fun i hi => ⟨_, List.getElem?_eq_getElem (by rw [hxl]; exact hi)⟩
  obtain ⟨y0, e0⟩ := hx 0 (by omega)
  obtain ⟨y1, e1⟩ := hx 1 (by omega)
  obtain ⟨y2, e2⟩ := hx 2 (by omega)
  obtain ⟨y3, e3⟩ := hx 3 (by omega)
  obtain ⟨y4, e4⟩ := hx 4 (by omega)
  have f0 := hf 0 _ rfl
  have f1 := hf 1 _ rfl
  have f2 := hf 2 _ rfl
  have f3 := hf 3 _ rfl
  have f4 := hf 4 _ rfl
  simp only [cells_3, cells_24, cells_25, List.drop_succ_cons, List.drop_zero, List.take_succ_cons, List.take_zero, e0, e1, e2, e3, e4] at f0 f1 f2 f3 f4
  obtain ⟨k, g0, _, w0⟩ := DataW.trod_int Try.underlying3 f0
  obtain ⟨mn, g2, _, w2⟩ := DataW.trod_int Try.underlying3 f2
  obtain ⟨mx, g3, _, w3⟩ := DataW.trod_int Try.underlying3 f3
  obtain ⟨ws, m, rfl, _, hl1, hwl, hw⟩ := DataW.trod_array Try.underlying24 f1
  have hy : ∀ i, i < 4 → ∃ y, ws[i]? = some y := fun i hi => ⟨_, List.getElem?_eq_getElem (by rw [hwl]; exact hi)⟩
  obtain ⟨z0, k0⟩ := hy 0 (by omega)
  obtain ⟨z1, k1⟩ := hy 1 (by omega)
  obtain ⟨z2, k2⟩ := hy 2 (by omega)
  obtain ⟨z3, k3⟩ := hy 3 (by omega)
  have q0 := hw 0 (by omega)
  have q1 := hw 1 (by omega)
  have q2 := hw 2 (by omega)
  have q3 := hw 3 (by omega)
  simp only [cells_22, Nat.zero_mul, Nat.one_mul, Nat.mul_one, List.drop_succ_cons, List.drop_zero, List.take_succ_cons, List.take_zero, k0, k1, k2, k3] at q0 q1 q2 q3
  obtain ⟨a, a0, _, v0⟩ := DataW.trod_int Try.underlying22 q0
  obtain ⟨b, a1, _, v1⟩ := DataW.trod_int Try.underlying22 q1
  obtain ⟨c, a2, _, v2⟩ := DataW.trod_int Try.underlying22 q2
  obtain ⟨d, a3, _, v3⟩ := DataW.trod_int Try.underlying22 q3
  have one : ∀ {u v : Value}, [u] = [v] → u = v := fun h => by cases h; rfl
  have s0 := one g0; have s2 := one g2; have s3 := one g3
  have t0 := one a0; have t1 := one a1; have t2 := one a2; have t3 := one a3
  subst s0 s2 s3 t0 t1 t2 t3
  have fin : ∀ subs : List T, inL subs → RD W NoA c7 (.sl (encL subs) subs.length) → ∃ t : T, inT t ∧ RDs W [.int .i64 k, .int .u64 a, .int .u64 b, .int .u64 c, .int .u64 d, .int .i64 mn, .int .i64 mx, c7] (encN t) := by
    intro subs hs hr
    refine ⟨.node k a b c d mn mx subs, ⟨wf_i64 w0, wf_u64 v0, wf_u64 v1, wf_u64 v2, wf_u64 v3, wf_i64 w2, wf_i64 w3, hs⟩, ?_⟩
    exact .cons (.val _ rfl) (.cons (.val _ rfl) (.cons (.val _ rfl) (.cons (.val _ rfl) (.cons (.val _ rfl) (.cons (.val _ rfl) (.cons (.val _ rfl) (.cons hr .nil)))))))
  rcases DataW.trod_slice Try.underlying25 f4 with ⟨g4, _⟩ | ⟨ad, len, cap, elems, rest, n', hn', g4, _, _, hlc, _, hel, hr, _⟩
  · have := one g4; subst this
    exact fin [] trivial (.sl0 none 0)
  · have := one g4; subst this
    have hall : ∀ i, i < len → ∃ cs t, W.cells? 0 (ad.add (i * 8)) 8 = some cs ∧ inT t ∧ RDs W cs (encN t) := by
      intro i hi
      have h1 := hr i hi
      rw [cells_27, List.getElem?_eq_getElem (by omega)] at h1
      obtain ⟨cs, h2, h3⟩ := Option.bind_eq_some_iff.1 h1
      obtain ⟨t, h4, h5⟩ := ih n' (by omega) cs _ h3
      exact ⟨cs, t, h2, h4, h5⟩
    obtain ⟨l, h1, h2, h3⟩ := elems_open (sz := 8) (by omega) encN_len len hall
    refine fin l (inL_of h2) ?_
    rw [h1]
    by_cases h0 : len = 0
    · subst h0
      rw [List.length_eq_zero_iff.1 h1]
      exact .sl0 _ _
    · have hsp : ad = ⟨ad.block, ad.off, none⟩ := by
        obtain ⟨cs, t, g1, _, g2⟩ := hall 0 (by omega)
        obtain ⟨g7, g8⟩ := cells_at g1
        have g9 := g8 0 (by omega)
        rw [List.getElem?_eq_getElem (by omega)] at g9
        have := cell_spot g9.symm
        simpa [Addr.add] using this
      rw [hsp]
      have hlen : (encL l).length = len * 8 := by rw [encL_len, h1]
      refine .sl ad.block ad.off len cap (encL l) (fun j => (W.cell? ⟨ad.block, ad.off + j, none⟩).getD undef) (fun h => h) (by omega) hlc (fun j hj => ?_) (fun j hj => ?_)
      · obtain ⟨v, _, g1, _⟩ := h3 j (by omega)
        rw [g1]; rfl
      · obtain ⟨v, dd, g1, g2, g3⟩ := h3 j (by omega)
        rw [g1]
        rw [← encL_flat, List.getElem?_eq_getElem hj] at g2
        cases g2
        exact g3
end
end Go.Sv
namespace Go.Sv
open Go
set_option linter.unusedVariables false

mutual
theorem fits_open : ∀ (t : T) (left : Int), fitsT t left = true ↔ (0 ≤ openT t ∧ openT t ≤ left)
  | .node k a b c d mn mx subs, left => by
    have ih := fitsL_open k subs left 0 (Int.le_refl _)
    simp only [fitsT, openT]
    by_cases hp : plainT (.node k a b c d mn mx subs) = true
    · rw [if_pos hp]
      simp only [Bool.and_eq_true, decide_eq_true_eq, hp, and_true]
      exact ih
    · rw [if_neg hp]
      simp only [Bool.and_eq_true, decide_eq_true_eq]
      constructor
      · rintro ⟨⟨_, h⟩, _⟩; exact absurd h hp
      · rintro ⟨h, _⟩; omega
theorem fitsL_open (k : Int) : ∀ (l : List T) (left m : Int), 0 ≤ m → ((m ≤ left ∧ fitsL k l left = true) ↔ (0 ≤ openL k l m ∧ openL k l m ≤ left))
  | [], left, m, hm => by
    have e : (fitsL k [] left = true) = True := by simp [fitsL]
    simp only [openL, e, and_true]; omega
  | t :: l, left, m, hm => by
    have h1 := fits_open t (if roundG k t.kind = true then left - 1 else left)
    simp only [fitsL, openL, Bool.and_eq_true]
    rw [h1]
    by_cases hn : openT t < 0
    · rw [if_pos hn]; omega
    · rw [if_neg hn]
      have h2 := fitsL_open k l left (max m (if roundG k t.kind = true then openT t + 1 else openT t)) (by split <;> omega)
      rw [← h2]
      by_cases hf : fitsL k l left = true
      · simp only [hf, and_true]; split <;> omega
      · simp only [hf, and_false]; simp
end
theorem right_fits (t : T) : rightT t = fitsT t 12 := by
  rw [Bool.eq_iff_iff, fits_open]
  simp [rightT]
mutual
theorem ok_of_open : ∀ (t : T), inT t → 0 ≤ openT t → okT t
  | .node k a b c d mn mx subs, h, ho => by
    simp only [inT] at h
    obtain ⟨_, ha, hb, hc, hd, _, _, hs⟩ := h
    simp only [openT] at ho
    split at ho
    · rename_i hp
      refine ⟨⟨ha, hb, hc, hd, hp⟩, okL_of_open k subs hs 0 ho⟩
    · omega
theorem okL_of_open (k : Int) : ∀ (l : List T), inL l → ∀ m : Int, 0 ≤ openL k l m → okL l
  | [], _, _, _ => trivial
  | t :: l, h, m, ho => by
    simp only [inL] at h
    simp only [openL] at ho
    split at ho
    · omega
    · exact ⟨ok_of_open t h.1 (by omega), okL_of_open k l h.2 _ ho⟩
end
theorem ok_of_right {t : T} (h : inT t) (hr : rightT t = true) : okT t := ok_of_open t h (by simp [rightT] at hr; omega)
end Go.Sv
namespace Go.Sv
open Go Go.Proofs
set_option maxRecDepth 100000
end Go.Sv
namespace Go.Sv
open Go Go.Proofs
def x3 : XC := (.seq (.ops 2 [
    (0, ⟨(some 3), none, .box (.t 0)⟩),
    (1, ⟨(some 6), none, .mv (.k (.d (.val (.bool false))))⟩)] (some [1, 2, 3])) (.seq (.seq (.ops 8 [
    (0, ⟨(some 9), none, .call 29 [] none false⟩),
    (1, ⟨(some 10), none, .un .not (.t 9)⟩),
    (2, ⟨(some 11), none, .mv (.t 10)⟩),
    (3, ⟨(some 12), (some (11, false)), .load (some 8) (.t 3)⟩),
    (4, ⟨(some 13), (some (11, false)), .mv (.t 1)⟩),
    (5, ⟨(some 14), (some (11, false)), .call 30 [(.t 12), (.t 13)] none false⟩),
    (6, ⟨(some 15), (some (11, false)), .un .not (.t 14)⟩),
    (7, ⟨(some 16), none, .pick (.t 11) (.k (.d (.val (.bool true)))) (.t 15)⟩)] (some [1, 2, 3, 16])) (.cond (.t 16) (.seq (.ops 2 [
    (0, ⟨(some 17), none, .call 29 [] none false⟩),
    (1, ⟨(some 6), none, .mv (.t 17)⟩)] (some [6])) .ret) .skip)) (.seq (.ops 9 [
    (0, ⟨(some 19), none, .load (some 8) (.t 3)⟩),
    (1, ⟨(some 20), none, .mv (.t 1)⟩),
    (2, ⟨(some 21), none, .mv (.t 2)⟩),
    (3, ⟨(some 22), none, .call 31 [(.t 19), (.t 20), (.t 21)] none false⟩),
    (4, ⟨(some 18), none, .mv (.t 22)⟩),
    (5, ⟨(some 23), none, .ext (.t 18) 0⟩),
    (6, ⟨(some 24), none, .ext (.t 18) 1⟩),
    (7, ⟨(some 7), none, .mv (.t 23)⟩),
    (8, ⟨(some 8), none, .mv (.t 24)⟩)] (some [1, 2, 3, 7, 8])) (.seq (.block 0 (.seq (.ops 4 [
    (0, ⟨(some 26), none, .load (some 8) (.t 3)⟩),
    (1, ⟨(some 27), none, .call 32 [(.t 26)] none false⟩),
    (2, ⟨(some 28), none, .un .not (.t 27)⟩),
    (3, ⟨(some 25), none, .mv (.t 28)⟩)] (some [1, 2, 3, 7, 8, 25])) (.cond (.t 25) (.seq (.ops 14 [
    (0, ⟨(some 29), none, .mv (.t 7)⟩),
    (1, ⟨(some 30), none, .lenS (.t 29)⟩),
    (2, ⟨(some 31), none, .arith .eql (.t 30) (.k (.d (.val (.int .i64 0))))⟩),
    (3, ⟨(some 32), none, .mv (.t 31)⟩),
    (4, ⟨(some 33), (some (32, true)), .mv (.t 8)⟩),
    (5, ⟨(some 34), (some (32, true)), .arith .eql (.t 33) (.k (.d (.val (.int .i64 1))))⟩),
    (6, ⟨(some 35), none, .pick (.t 32) (.t 34) (.k (.d (.val (.bool false))))⟩),
    (7, ⟨(some 36), none, .mv (.t 35)⟩),
    (8, ⟨(some 37), (some (36, true)), .load (some 8) (.t 3)⟩),
    (9, ⟨(some 38), (some (36, true)), .mv (.t 1)⟩),
    (10, ⟨(some 39), (some (36, true)), .call 33 [(.t 37), (.t 38)] none false⟩),
    (11, ⟨(some 40), (some (36, true)), .un .not (.t 39)⟩),
    (12, ⟨(some 41), none, .pick (.t 36) (.t 40) (.k (.d (.val (.bool false))))⟩),
    (13, ⟨(some 6), none, .mv (.t 41)⟩)] (some [6])) .ret) (.seq (.ops 9 [
    (0, ⟨(some 43), none, .mv (.t 2)⟩),
    (1, ⟨(some 44), none, .arith .lss (.t 43) (.k (.d (.val (.int .i64 0))))⟩),
    (2, ⟨(some 45), none, .mv (.t 44)⟩),
    (3, ⟨(some 46), (some (45, false)), .mv (.t 2)⟩),
    (4, ⟨(some 47), (some (45, false)), .mv (.t 1)⟩),
    (5, ⟨(some 48), (some (45, false)), .lenT (.t 47)⟩),
    (6, ⟨(some 49), (some (45, false)), .arith .gtr (.t 46) (.t 48)⟩),
    (7, ⟨(some 50), none, .pick (.t 45) (.k (.d (.val (.bool true)))) (.t 49)⟩),
    (8, ⟨(some 42), none, .mv (.t 50)⟩)] (some [1, 2, 3, 7, 8, 42])) (.cond (.t 42) (.seq (.ops 15 [
    (0, ⟨(some 51), none, .mv (.t 7)⟩),
    (1, ⟨(some 52), none, .lenS (.t 51)⟩),
    (2, ⟨(some 53), none, .arith .eql (.t 52) (.k (.d (.val (.int .i64 0))))⟩),
    (3, ⟨(some 54), none, .mv (.t 53)⟩),
    (4, ⟨(some 55), (some (54, true)), .mv (.t 8)⟩),
    (5, ⟨(some 56), (some (54, true)), .arith .eql (.t 55) (.k (.d (.val (.int .i64 2))))⟩),
    (6, ⟨(some 57), none, .pick (.t 54) (.t 56) (.k (.d (.val (.bool false))))⟩),
    (7, ⟨(some 58), none, .mv (.t 57)⟩),
    (8, ⟨(some 59), (some (58, true)), .load (some 8) (.t 3)⟩),
    (9, ⟨(some 60), (some (58, true)), .mv (.t 1)⟩),
    (10, ⟨(some 61), (some (58, true)), .mv (.t 2)⟩),
    (11, ⟨(some 62), (some (58, true)), .call 34 [(.t 59), (.t 60), (.t 61)] none false⟩),
    (12, ⟨(some 63), (some (58, true)), .arith .eql (.t 62) (.k (.d (.val (.int .i64 (-1)))))⟩),
    (13, ⟨(some 64), none, .pick (.t 58) (.t 63) (.k (.d (.val (.bool false))))⟩),
    (14, ⟨(some 6), none, .mv (.t 64)⟩)] (some [6])) .ret) .skip))))) (.seq (.ops 22 [
    (0, ⟨(some 65), none, .mv (.t 8)⟩),
    (1, ⟨(some 66), none, .arith .eql (.t 65) (.k (.d (.val (.int .i64 0))))⟩),
    (2, ⟨(some 67), none, .mv (.t 66)⟩),
    (3, ⟨(some 68), (some (67, true)), .mv (.t 7)⟩),
    (4, ⟨(some 69), (some (67, true)), .load (some 8) (.t 3)⟩),
    (5, ⟨(some 70), (some (67, true)), .mv (.t 1)⟩),
    (6, ⟨(some 71), (some (67, true)), .mv (.t 2)⟩),
    (7, ⟨(some 72), (some (67, true)), .call 36 [(.t 69), (.t 70), (.t 71)] none false⟩),
    (8, ⟨(some 73), (some (67, true)), .call 35 [(.t 68), (.t 72)] none false⟩),
    (9, ⟨(some 74), none, .pick (.t 67) (.t 73) (.k (.d (.val (.bool false))))⟩),
    (10, ⟨(some 75), none, .mv (.t 74)⟩),
    (11, ⟨(some 76), (some (75, true)), .load (some 8) (.t 3)⟩),
    (12, ⟨(some 77), (some (75, true)), .mv (.t 1)⟩),
    (13, ⟨(some 78), (some (75, true)), .mv (.t 2)⟩),
    (14, ⟨(some 79), (some (75, true)), .call 34 [(.t 76), (.t 77), (.t 78)] none false⟩),
    (15, ⟨(some 80), (some (75, true)), .load (some 8) (.t 3)⟩),
    (16, ⟨(some 81), (some (75, true)), .mv (.t 1)⟩),
    (17, ⟨(some 82), (some (75, true)), .mv (.t 2)⟩),
    (18, ⟨(some 83), (some (75, true)), .call 37 [(.t 80), (.t 81), (.t 82)] none false⟩),
    (19, ⟨(some 84), (some (75, true)), .arith .eql (.t 79) (.t 83)⟩),
    (20, ⟨(some 85), none, .pick (.t 75) (.t 84) (.k (.d (.val (.bool false))))⟩),
    (21, ⟨(some 6), none, .mv (.t 85)⟩)] (some [6])) .ret)))))
def md3 : FuncId → Option Nat × Bool
  | _ => (none, false)
def od3 : Nat → List (List Nat) × List Nat × Option (List Nat)
  | 0 => ([], [], some [1, 2, 3])
  | 1 => ([], [], some [1, 2, 3, 16])
  | 2 => ([], [], some [6])
  | 3 => ([], [], some [1, 2, 3, 7, 8])
  | 4 => ([], [], some [1, 2, 3, 7, 8, 25])
  | 5 => ([], [], some [6])
  | 6 => ([], [], some [1, 2, 3, 7, 8, 42])
  | 7 => ([], [], some [6])
  | 8 => ([[], [0], [0, 1], [0, 1, 2], [0, 1, 2], [0, 1, 2], [0, 1, 2], [0, 1, 2, 4, 5, 6], [0, 1, 2, 3, 4, 5, 6, 7], [0, 1, 2, 3, 4, 5, 6, 7, 8], [0, 1, 2, 3, 4, 5, 6, 7, 8, 9], [0, 1, 2, 3, 4, 5, 6, 7, 8, 9, 10], [0, 1, 2, 3, 4, 5, 6, 7, 8, 9, 10], [0, 1, 2, 3, 4, 5, 6, 7, 8, 9, 10], [0, 1, 2, 3, 4, 5, 6, 7, 8, 9, 10, 11, 12, 13], [0, 1, 2, 3, 4, 5, 6, 7, 8, 9, 10], [0, 1, 2, 3, 4, 5, 6, 7, 8, 9, 10], [0, 1, 2, 3, 4, 5, 6, 7, 8, 9, 10], [0, 1, 2, 3, 4, 5, 6, 7, 8, 9, 10, 11, 12, 13, 14, 15, 16, 17], [0, 1, 2, 3, 4, 5, 6, 7, 8, 9, 10, 11, 12, 13, 14, 15, 16, 17, 18], [0, 1, 2, 3, 4, 5, 6, 7, 8, 9, 10, 11, 12, 13, 14, 15, 16, 17, 18, 19], [0, 1, 2, 3, 4, 5, 6, 7, 8, 9, 10, 11, 12, 13, 14, 15, 16, 17, 18, 19, 20]], [0, 1, 2, 3, 4, 5, 6, 7, 8, 9, 10, 11, 12, 13, 14, 15, 16, 17, 18, 19, 20, 21], some [6])
  | _ => ([], [], none)
theorem b3 {ags : List AV} {row : Option (List DV)} {r : AV} {row' nw : Option (List DV)} (hal : ags.length ≤ 86) (hrow : row'.isSome = true → row.isSome = true) (h : xwp Try.prog x3 (retK [.tmp 6] row.isSome r row' nw) (St.init ags row)) : Good Try.prog 3 ags row r row' nw :=
  good_of_body' (md := md3) (od := od3) Try.f3 (by kernel_rfl) (by kernel_rfl) (by kernel_rfl) (by kernel_rfl) (by kernel_rfl) hal hrow h

set_option maxRecDepth 100000
set_option maxHeartbeats 4000000
attribute [local irreducible] W E R KP thenK blockK retK Good xwp aRun
theorem few_cnt {t : T} (h : sizeT t 601 ≤ 200) : t.cnt ≤ 200 := by
  have := sizeT_cnt t 601 (by omega)
  omega
end Go.Sv
namespace Go.Sv
open Go Go.Proofs
set_option maxRecDepth 100000
set_option maxHeartbeats 4000000
attribute [local irreducible] W E R KP thenK blockK retK Good xwp aRun
def zT : T := .node 0 0 0 0 0 0 0 []
def eE (t : T) (n : Int) : Int := if fitsT t 12 = true then (if min n 400 < wideT t then 11 else 0) else 1
def eN (t : T) (n : Int) : T := if eE t n = 0 then xT t else zT
theorem xPlain_good (t : T) (hc : t.cnt ≤ 1000000) (hok : fitsT t 12 = true → okT t) (n : Int) : Good Try.prog 57 [nodeA t, .i n] none (.tup [nodeA (eN t n), .i (eE t n)]) none none := by
  have hright := right_good t hc
  have hw := mWide_good t hc hok
  rcases Bool.eq_false_or_eq_true (fitsT t 12) with hR | hR
  case inr =>
    have e1 : eE t n = 1 := by simp [eE, hR]
    have e2 : eN t n = zT := by simp [eN, e1]
    rw [e1, e2]
    rw [hR] at hright
    clear e1 e2 hw hok hc hR
    obtain ⟨k, a, b, c, d, mn, mx, subs⟩ := t
    have e0 : nodeA (.node k a b c d mn mx subs) = .agg [.i k, .d (.val (.int .u64 a)), .d (.val (.int .u64 b)), .d (.val (.int .u64 c)), .d (.val (.int .u64 d)), .i mn, .i mx, .d (.sl (encL subs) subs.length)] := rfl
    rw [e0] at hright ⊢
    refine b57 (by simp) (by simp) (w_init ?_)
    unfold x57
    repeat' (first
    | (apply r_mvV; rfl)
    | (apply r_mvP; rfl)
    | (apply r_mvPL; rfl)
    | (apply r_mvS; rfl)
    | (apply r_mvSL; rfl)
    | (apply r_mvA; rfl)
    | (apply r_mvT; rfl)
    | (apply r_mvF; rfl)
    | (apply r_mvD; rfl)
    | (apply r_l; apply ld_kind; assumption; rfl)
    | (apply r_l; apply ld_mn; assumption; rfl)
    | (apply r_l; apply ld_mx; assumption; rfl)
    | (apply r_l; apply ld_subs; assumption; rfl)
    | (apply r_l; apply ld_set; assumption; rfl)
    | (apply r_l; apply ld_node; assumption; rfl)
    | (apply r_l; apply ld_kind'; assumption; rfl)
    | (apply r_l; apply ld_mn'; assumption; rfl)
    | (apply r_l; apply ld_mx'; assumption; rfl)
    | (apply r_l; apply ld_subs'; assumption; rfl)
    | (apply r_l; apply ld_node'; assumption; rfl)
    | (apply r_callA; rfl; rfl; exact hright)
    | (apply r_ldL; rfl; rfl; rfl)
    | (apply r_gtr; rfl; rfl; (first | (apply decide_eq_true; omega) | (apply decide_eq_false; omega) | rfl))
    | (apply r_min2; rfl; rfl; rfl)
    | (apply r_not; rfl; rfl)
    | (apply r_alloc; ((conv => lhs; simp only [Nat.reduceAdd]) <;> rfl); rfl)
    | (apply r_box; ((conv => lhs; simp only [Nat.reduceAdd]) <;> rfl); rfl; rfl; rfl)
    | (apply r_stL; rfl; rfl; rfl; rfl; (first | rfl | (simp only [z_nil, z_add] <;> rfl)); rfl; rfl)
    | (apply r_p; rfl)
    | (apply r_nilK)
    | (apply r_nil)
    | (apply k_V; rfl)
    | (apply k_P; rfl)
    | (apply k_PL; rfl)
    | (apply k_S; rfl)
    | (apply k_SL; rfl)
    | (apply k_A; rfl)
    | (apply k_T; rfl)
    | (apply k_F; rfl)
    | (apply k_D; rfl; rotate_left; rfl)
    | (apply k_nil)
    | (apply e_ret (vs := [.d (.val _)]); rfl)
    | (apply e_ret; rfl)
    | (apply e_ret' (vs := [.d (.val _)]); rfl)
    | (apply e_ret'; rfl)
    | (apply w_seq)
    | (apply w_ops; ((conv => lhs; simp only [Nat.reduceAdd]) <;> rfl))
    | (apply w_condT; rfl)
    | (apply w_condF; rfl)
    | ((apply w_condS; rfl) <;> (intro h; try simp only [decide_eq_true_eq, decide_eq_false_iff_not, Bool.not_eq_true, Bool.not_eq_false] at h))
    | (apply e_thenN)
    | (apply w_block)
    | (apply e_thenR)
    | (apply e_thenX)
    | (apply e_blkN)
    | (apply e_blkR)
    | (apply e_blkE)
    | (apply w_exit)
    | (apply w_ret)
    | (apply w_skip)
    | (apply e_blkE'; rfl))
    exact .data _ rfl
  rw [hR] at hright
  rw [if_pos hR] at hw
  by_cases hb : min n 400 < wideT t
  · have e1 : eE t n = 11 := by simp only [eE, hR, hb, if_true]
    have e2 : eN t n = zT := by simp [eN, e1]
    rw [e1, e2]
    clear e1 e2 hok hc hR
    generalize wideT t = w at hw hb
    obtain ⟨k, a, b, c, d, mn, mx, subs⟩ := t
    have e0 : nodeA (.node k a b c d mn mx subs) = .agg [.i k, .d (.val (.int .u64 a)), .d (.val (.int .u64 b)), .d (.val (.int .u64 c)), .d (.val (.int .u64 d)), .i mn, .i mx, .d (.sl (encL subs) subs.length)] := rfl
    rw [e0] at hright hw ⊢
    refine b57 (by simp) (by simp) (w_init ?_)
    unfold x57
    repeat' (first
    | (apply r_mvV; rfl)
    | (apply r_mvP; rfl)
    | (apply r_mvPL; rfl)
    | (apply r_mvS; rfl)
    | (apply r_mvSL; rfl)
    | (apply r_mvA; rfl)
    | (apply r_mvT; rfl)
    | (apply r_mvF; rfl)
    | (apply r_mvD; rfl)
    | (apply r_l; apply ld_kind; assumption; rfl)
    | (apply r_l; apply ld_mn; assumption; rfl)
    | (apply r_l; apply ld_mx; assumption; rfl)
    | (apply r_l; apply ld_subs; assumption; rfl)
    | (apply r_l; apply ld_set; assumption; rfl)
    | (apply r_l; apply ld_node; assumption; rfl)
    | (apply r_l; apply ld_kind'; assumption; rfl)
    | (apply r_l; apply ld_mn'; assumption; rfl)
    | (apply r_l; apply ld_mx'; assumption; rfl)
    | (apply r_l; apply ld_subs'; assumption; rfl)
    | (apply r_l; apply ld_node'; assumption; rfl)
    | (apply r_callA; rfl; rfl; exact hright)
    | (apply r_callA; rfl; rfl; exact hw)
    | (apply r_ldL; rfl; rfl; rfl)
    | (apply r_gtr; rfl; rfl; (first | (apply decide_eq_true; omega) | (apply decide_eq_false; omega) | rfl))
    | (apply r_min2; rfl; rfl; rfl)
    | (apply r_not; rfl; rfl)
    | (apply r_alloc; ((conv => lhs; simp only [Nat.reduceAdd]) <;> rfl); rfl)
    | (apply r_box; ((conv => lhs; simp only [Nat.reduceAdd]) <;> rfl); rfl; rfl; rfl)
    | (apply r_stL; rfl; rfl; rfl; rfl; (first | rfl | (simp only [z_nil, z_add] <;> rfl)); rfl; rfl)
    | (apply r_p; rfl)
    | (apply r_nilK)
    | (apply r_nil)
    | (apply k_V; rfl)
    | (apply k_P; rfl)
    | (apply k_PL; rfl)
    | (apply k_S; rfl)
    | (apply k_SL; rfl)
    | (apply k_A; rfl)
    | (apply k_T; rfl)
    | (apply k_F; rfl)
    | (apply k_D; rfl; rotate_left; rfl)
    | (apply k_nil)
    | (apply e_ret (vs := [.d (.val _)]); rfl)
    | (apply e_ret; rfl)
    | (apply e_ret' (vs := [.d (.val _)]); rfl)
    | (apply e_ret'; rfl)
    | (apply w_seq)
    | (apply w_ops; ((conv => lhs; simp only [Nat.reduceAdd]) <;> rfl))
    | (apply w_condT; rfl)
    | (apply w_condF; rfl)
    | ((apply w_condS; rfl) <;> (intro h; try simp only [decide_eq_true_eq, decide_eq_false_iff_not, Bool.not_eq_true, Bool.not_eq_false] at h))
    | (apply e_thenN)
    | (apply w_block)
    | (apply e_thenR)
    | (apply e_thenX)
    | (apply e_blkN)
    | (apply e_blkR)
    | (apply e_blkE)
    | (apply w_exit)
    | (apply w_ret)
    | (apply w_skip)
    | (apply e_blkE'; rfl))
    exact .data _ rfl
  · have e1 : eE t n = 0 := by simp only [eE, hR, hb, if_true, if_false]
    have e2 : eN t n = xT t := by simp only [eN, e1, if_true]
    rw [e1, e2]
    have hx := xplain_good 1000000 t hc (Nat.le_refl _) (hok hR)
    clear e1 e2 hok hc hR
    generalize wideT t = w at hw hb
    generalize xT t = u at hx
    obtain ⟨k2, a2, b2, c2, d2, mn2, mx2, subs2⟩ := u
    obtain ⟨k, a, b, c, d, mn, mx, subs⟩ := t
    have e0 : nodeA (.node k a b c d mn mx subs) = .agg [.i k, .d (.val (.int .u64 a)), .d (.val (.int .u64 b)), .d (.val (.int .u64 c)), .d (.val (.int .u64 d)), .i mn, .i mx, .d (.sl (encL subs) subs.length)] := rfl
    rw [e0] at hright hw hx ⊢
    refine b57 (by simp) (by simp) (w_init ?_)
    unfold x57
    repeat' (first
    | (apply r_mvV; rfl)
    | (apply r_mvP; rfl)
    | (apply r_mvPL; rfl)
    | (apply r_mvS; rfl)
    | (apply r_mvSL; rfl)
    | (apply r_mvA; rfl)
    | (apply r_mvT; rfl)
    | (apply r_mvF; rfl)
    | (apply r_mvD; rfl)
    | (apply r_l; apply ld_kind; assumption; rfl)
    | (apply r_l; apply ld_mn; assumption; rfl)
    | (apply r_l; apply ld_mx; assumption; rfl)
    | (apply r_l; apply ld_subs; assumption; rfl)
    | (apply r_l; apply ld_set; assumption; rfl)
    | (apply r_l; apply ld_node; assumption; rfl)
    | (apply r_l; apply ld_kind'; assumption; rfl)
    | (apply r_l; apply ld_mn'; assumption; rfl)
    | (apply r_l; apply ld_mx'; assumption; rfl)
    | (apply r_l; apply ld_subs'; assumption; rfl)
    | (apply r_l; apply ld_node'; assumption; rfl)
    | (apply r_callA; rfl; rfl; exact hright)
    | (apply r_callA; rfl; rfl; exact hw)
    | (apply r_callA; rfl; rfl; exact hx)
    | (apply r_ldL; rfl; rfl; rfl)
    | (apply r_gtr; rfl; rfl; (first | (apply decide_eq_true; omega) | (apply decide_eq_false; omega) | rfl))
    | (apply r_min2; rfl; rfl; rfl)
    | (apply r_not; rfl; rfl)
    | (apply r_alloc; ((conv => lhs; simp only [Nat.reduceAdd]) <;> rfl); rfl)
    | (apply r_box; ((conv => lhs; simp only [Nat.reduceAdd]) <;> rfl); rfl; rfl; rfl)
    | (apply r_stL; rfl; rfl; rfl; rfl; (first | rfl | (simp only [z_nil, z_add] <;> rfl)); rfl; rfl)
    | (apply r_p; rfl)
    | (apply r_nilK)
    | (apply r_nil)
    | (apply k_V; rfl)
    | (apply k_P; rfl)
    | (apply k_PL; rfl)
    | (apply k_S; rfl)
    | (apply k_SL; rfl)
    | (apply k_A; rfl)
    | (apply k_T; rfl)
    | (apply k_F; rfl)
    | (apply k_D; rfl; rotate_left; rfl)
    | (apply k_nil)
    | (apply e_ret (vs := [.d (.val _)]); rfl)
    | (apply e_ret; rfl)
    | (apply e_ret' (vs := [.d (.val _)]); rfl)
    | (apply e_ret'; rfl)
    | (apply w_seq)
    | (apply w_ops; ((conv => lhs; simp only [Nat.reduceAdd]) <;> rfl))
    | (apply w_condT; rfl)
    | (apply w_condF; rfl)
    | ((apply w_condS; rfl) <;> (intro h; try simp only [decide_eq_true_eq, decide_eq_false_iff_not, Bool.not_eq_true, Bool.not_eq_false] at h))
    | (apply e_thenN)
    | (apply w_block)
    | (apply e_thenR)
    | (apply e_thenX)
    | (apply e_blkN)
    | (apply e_blkR)
    | (apply e_blkE)
    | (apply w_exit)
    | (apply w_ret)
    | (apply w_skip)
    | (apply e_blkE'; rfl))
    exact .data _ rfl
end Go.Sv
namespace Go.Sv
open Go Go.Proofs
section
variable {P : Program} {Q : Cont} {fr : Fr} {C : Heap} {Z : Frz} {nx : Nat} {base n d0 : Nat} {l : List (Nat × XO)} {kp : Option (List Nat)} {x y : X}
theorem r_callv {f : FuncId} {g : X} {xs : List X} {ags : List AV} {r : AV} (hf : g.ev fr = .d (.fn f [])) (ha : xs.map (X.ev fr) = ags) (hn : ags.all AV.nrm = true) (hg : Good P f ags none r none none)
    (k : R P l base kp Q nx (fr.put d0 r) C Z) : R P ((n, ⟨some d0, none, .callv g xs⟩) :: l) base kp Q nx fr C Z := by
  refine ⟨r, C, Z, .inl ⟨rfl, f, [], .inr ⟨[], hf, rfl⟩, ?_⟩, k⟩
  subst ha
  refine ⟨_, [], r, none, by rw [List.append_nil]; exact convAs_nrm _ hn, hg, rfl, fun h => (by cases h), rfl, rfl, ?_⟩
  simp [Frz.add_nil]
end
def firstN : List T → Nat → Int
  | [], _ => -1
  | t :: l, i => if isP t = true then firstN l (i + 1) else i
theorem firstN_drop (l : List T) (i : Nat) (h : i < l.length) : firstN (l.drop i) i = if isP l[i] = true then firstN (l.drop (i + 1)) (i + 1) else (i : Int) := by
  rw [List.drop_eq_getElem_cons h, firstN]
theorem firstN_isPL : ∀ (l : List T) (i : Nat), decide (0 ≤ firstN l i) = !isPL l
  | [], _ => by simp [firstN, isPL]
  | t :: l, i => by
    rw [firstN, isPL]
    rcases Bool.eq_false_or_eq_true (isP t) with h | h
    · rw [if_pos h, firstN_isPL l (i + 1), h, Bool.true_and]
    · rw [if_neg (by simp [h]), h]; simp
set_option maxRecDepth 100000
set_option maxHeartbeats 4000000
attribute [local irreducible] W E R KP thenK blockK retK Good xwp aRun
theorem p117_of (t : T) (h : Good Try.prog 60 [nodeA t] none (.b (isP t)) none none) : Good Try.prog 117 [nodeA t] none (.b (!isP t)) none none := by
  generalize isP t = q at h
  obtain ⟨k, a, b, c, d, mn, mx, subs⟩ := t
  have e0 : nodeA (.node k a b c d mn mx subs) = .agg [.i k, .d (.val (.int .u64 a)), .d (.val (.int .u64 b)), .d (.val (.int .u64 c)), .d (.val (.int .u64 d)), .i mn, .i mx, .d (.sl (encL subs) subs.length)] := rfl
  rw [e0] at h ⊢
  refine b117 (by simp) (by simp) (w_init ?_)
  unfold x117
  repeat' (first
    | (apply r_mvV; rfl)
    | (apply r_mvP; rfl)
    | (apply r_mvPL; rfl)
    | (apply r_mvS; rfl)
    | (apply r_mvSL; rfl)
    | (apply r_mvA; rfl)
    | (apply r_mvT; rfl)
    | (apply r_mvF; rfl)
    | (apply r_mvD; rfl)
    | (apply r_l; apply ld_kind; assumption; rfl)
    | (apply r_l; apply ld_mn; assumption; rfl)
    | (apply r_l; apply ld_mx; assumption; rfl)
    | (apply r_l; apply ld_subs; assumption; rfl)
    | (apply r_l; apply ld_set; assumption; rfl)
    | (apply r_l; apply ld_node; assumption; rfl)
    | (apply r_l; apply ld_kind'; assumption; rfl)
    | (apply r_l; apply ld_mn'; assumption; rfl)
    | (apply r_l; apply ld_mx'; assumption; rfl)
    | (apply r_l; apply ld_subs'; assumption; rfl)
    | (apply r_l; apply ld_node'; assumption; rfl)
    | (apply r_callA; rfl; rfl; exact h)
    | (apply r_ldL; rfl; rfl; rfl)
    | (apply r_not; rfl; rfl)
    | (apply r_box; ((conv => lhs; simp only [Nat.reduceAdd]) <;> rfl); rfl; rfl; rfl)
    | (apply r_nilK)
    | (apply r_nil)
    | (apply k_V; rfl)
    | (apply k_P; rfl)
    | (apply k_PL; rfl)
    | (apply k_S; rfl)
    | (apply k_SL; rfl)
    | (apply k_A; rfl)
    | (apply k_T; rfl)
    | (apply k_F; rfl)
    | (apply k_D; rfl; rotate_left; rfl)
    | (apply k_nil)
    | (apply e_ret (vs := [.d (.val _)]); rfl)
    | (apply e_ret; rfl)
    | (apply e_ret' (vs := [.d (.val _)]); rfl)
    | (apply e_ret'; rfl)
    | (apply w_seq)
    | (apply w_ops; ((conv => lhs; simp only [Nat.reduceAdd]) <;> rfl))
    | (apply e_thenN)
    | (apply w_block)
    | (apply e_thenR)
    | (apply e_thenX)
    | (apply e_blkN)
    | (apply e_blkR)
    | (apply e_blkE)
    | (apply w_exit)
    | (apply w_ret)
    | (apply w_skip)
    | (apply e_blkE'; rfl))
  exact retB rfl
theorem p145_of (l : List T) (hl : l.length ≤ 1000000) (h : ∀ i (hi : i < l.length), Good Try.prog 117 [nodeA l[i]] none (.b (!isP l[i])) none none) : Good Try.prog 145 [.d (.sl (encL l) l.length), .d (.fn 117 [])] none (.i (firstN l 0)) none none := by
  refine b145 (by simp) (by simp) (w_init ?_)
  unfold x145
  repeat' (first
    | (apply r_mvV; rfl)
    | (apply r_mvP; rfl)
    | (apply r_mvPL; rfl)
    | (apply r_mvS; rfl)
    | (apply r_mvSL; rfl)
    | (apply r_mvA; rfl)
    | (apply r_mvT; rfl)
    | (apply r_mvF; rfl)
    | (apply r_mvD; rfl)
    | (apply k_E (v := .d (.fn 117 [])); rfl)
    | (apply r_ldL; rfl; rfl; rfl)
    | (apply r_lss; rfl; rfl; (first | (apply decide_eq_true; omega) | (apply decide_eq_false; omega) | rfl))
    | (apply r_add; rfl; rfl; rfl; omega)
    | (apply r_lenD; rfl)
    | (apply r_lenL; rfl)
    | (apply r_len0; rfl)
    | (apply r_p; rfl)
    | (apply r_nilK)
    | (apply r_nil)
    | (apply k_V; rfl)
    | (apply k_P; rfl)
    | (apply k_PL; rfl)
    | (apply k_S; rfl)
    | (apply k_SL; rfl)
    | (apply k_A; rfl)
    | (apply k_T; rfl)
    | (apply k_F; rfl)
    | (apply k_D; rfl; rotate_left; rfl)
    | (apply k_nil)
    | (apply e_ret (vs := [.d (.val _)]); rfl)
    | (apply e_ret; rfl)
    | (apply e_ret' (vs := [.d (.val _)]); rfl)
    | (apply e_ret'; rfl)
    | (apply w_seq)
    | (apply w_ops; ((conv => lhs; simp only [Nat.reduceAdd]) <;> rfl))
    | (apply w_condT; rfl)
    | (apply w_condF; rfl)
    | ((apply w_condS; rfl) <;> (intro h; try simp only [decide_eq_true_eq, decide_eq_false_iff_not, Bool.not_eq_true, Bool.not_eq_false] at h))
    | (apply e_thenN)
    | (apply w_block)
    | (apply e_thenR)
    | (apply e_thenX)
    | (apply e_blkN)
    | (apply e_blkR)
    | (apply e_blkE)
    | (apply w_exit)
    | (apply w_ret)
    | (apply w_skip)
    | (apply e_blkE'; rfl))
  apply w_loopI (S := fun i : Nat => ⟨(((Fr.nil.put 0 (.d (.sl (encL l) l.length))).put 1 (.d (.fn 117 []))).put 7 (.i l.length)).put 8 (.i i), Heap.nil, Frz.lo 100, 100⟩) (m := fun i => l.length - i) (I := fun i => i ≤ l.length ∧ firstN l 0 = firstN (l.drop i) i) (i0 := 0)
  · exact ⟨Nat.zero_le _, rfl⟩
  · refine wk0 (by omega) ?_
    repeat' (first
    | exact FWk.nil
    | (apply FWk.i; rfl; (first | rfl | omega | (simp; done)))
    | (apply FWk.sl; rfl; rfl; rfl; rfl; omega; rfl)
    | (apply FWk.ptr; rfl; rfl; rfl; omega; rfl)
    | (apply FWk.d; rfl; rfl)
    | (apply FWk.a; rfl; rfl; rfl)
    | (apply FWk.slN; rfl; omega; rfl))
  rintro i K ⟨hi, hp⟩ hK
  dsimp only
  rcases Nat.lt_or_ge i l.length with hlt | hge
  · have hs := NodeAt.sub hlt
    have hg := h i hlt
    have hd := firstN_drop l i hlt
    have hna : [nodeA l[i]].all AV.nrm = true := by rw [List.all_cons, nodeA_nrm]; rfl
    rcases Bool.eq_false_or_eq_true (isP l[i]) with hq | hq
    · rw [hq] at hg
      rw [if_pos hq] at hd
      repeat' (first
    | (apply r_mvV; rfl)
    | (apply r_mvP; rfl)
    | (apply r_mvPL; rfl)
    | (apply r_mvS; rfl)
    | (apply r_mvSL; rfl)
    | (apply r_mvA; rfl)
    | (apply r_mvT; rfl)
    | (apply r_mvF; rfl)
    | (apply r_mvD; rfl)
    | (apply k_E (v := .d (.fn 117 [])); rfl)
    | (apply r_p; apply ix_sub; rfl; rfl; omega)
    | (apply r_l; apply ld_node'; exact hs; rfl)
    | (apply r_callv (ags := [nodeA l[i]]); rfl; rfl; exact hna; exact hg)
    | (apply r_ldL; rfl; rfl; rfl)
    | (apply r_lss; rfl; rfl; (first | (apply decide_eq_true; omega) | (apply decide_eq_false; omega) | rfl))
    | (apply r_add; rfl; rfl; rfl; omega)
    | (apply r_lenD; rfl)
    | (apply r_lenL; rfl)
    | (apply r_len0; rfl)
    | (apply r_p; rfl)
    | (apply r_nilK)
    | (apply r_nil)
    | (apply k_V; rfl)
    | (apply k_P; rfl)
    | (apply k_PL; rfl)
    | (apply k_S; rfl)
    | (apply k_SL; rfl)
    | (apply k_A; rfl)
    | (apply k_T; rfl)
    | (apply k_F; rfl)
    | (apply k_D; rfl; rotate_left; rfl)
    | (apply k_nil)
    | (apply e_ret (vs := [.d (.val _)]); rfl)
    | (apply e_ret; rfl)
    | (apply e_ret' (vs := [.d (.val _)]); rfl)
    | (apply e_ret'; rfl)
    | (apply w_seq)
    | (apply w_ops; ((conv => lhs; simp only [Nat.reduceAdd]) <;> rfl))
    | (apply w_condT; rfl)
    | (apply w_condF; rfl)
    | ((apply w_condS; rfl) <;> (intro h; try simp only [decide_eq_true_eq, decide_eq_false_iff_not, Bool.not_eq_true, Bool.not_eq_false] at h))
    | (apply e_thenN)
    | (apply w_block)
    | (apply e_thenR)
    | (apply e_thenX)
    | (apply e_blkN)
    | (apply e_blkR)
    | (apply e_blkE)
    | (apply w_exit)
    | (apply w_ret)
    | (apply w_skip)
    | (apply e_blkE'; rfl))
      apply e_thenK
      apply hK (i + 1)
      · exact ⟨by omega, by rw [hp, hd]⟩
      · omega
      · refine wk0 (by omega) ?_
        repeat' (first
    | exact FWk.nil
    | (apply FWk.i; rfl; (first | rfl | omega | (simp; done)))
    | (apply FWk.sl; rfl; rfl; rfl; rfl; omega; rfl)
    | (apply FWk.ptr; rfl; rfl; rfl; omega; rfl)
    | (apply FWk.d; rfl; rfl)
    | (apply FWk.a; rfl; rfl; rfl)
    | (apply FWk.slN; rfl; omega; rfl))
    · rw [hq] at hg
      rw [if_neg (by simp [hq])] at hd
      repeat' (first
    | (apply r_mvV; rfl)
    | (apply r_mvP; rfl)
    | (apply r_mvPL; rfl)
    | (apply r_mvS; rfl)
    | (apply r_mvSL; rfl)
    | (apply r_mvA; rfl)
    | (apply r_mvT; rfl)
    | (apply r_mvF; rfl)
    | (apply r_mvD; rfl)
    | (apply k_E (v := .d (.fn 117 [])); rfl)
    | (apply r_p; apply ix_sub; rfl; rfl; omega)
    | (apply r_l; apply ld_node'; exact hs; rfl)
    | (apply r_callv (ags := [nodeA l[i]]); rfl; rfl; exact hna; exact hg)
    | (apply r_ldL; rfl; rfl; rfl)
    | (apply r_lss; rfl; rfl; (first | (apply decide_eq_true; omega) | (apply decide_eq_false; omega) | rfl))
    | (apply r_add; rfl; rfl; rfl; omega)
    | (apply r_lenD; rfl)
    | (apply r_lenL; rfl)
    | (apply r_len0; rfl)
    | (apply r_p; rfl)
    | (apply r_nilK)
    | (apply r_nil)
    | (apply k_V; rfl)
    | (apply k_P; rfl)
    | (apply k_PL; rfl)
    | (apply k_S; rfl)
    | (apply k_SL; rfl)
    | (apply k_A; rfl)
    | (apply k_T; rfl)
    | (apply k_F; rfl)
    | (apply k_D; rfl; rotate_left; rfl)
    | (apply k_nil)
    | (apply e_ret (vs := [.d (.val _)]); rfl)
    | (apply e_ret; rfl)
    | (apply e_ret' (vs := [.d (.val _)]); rfl)
    | (apply e_ret'; rfl)
    | (apply w_seq)
    | (apply w_ops; ((conv => lhs; simp only [Nat.reduceAdd]) <;> rfl))
    | (apply w_condT; rfl)
    | (apply w_condF; rfl)
    | ((apply w_condS; rfl) <;> (intro h; try simp only [decide_eq_true_eq, decide_eq_false_iff_not, Bool.not_eq_true, Bool.not_eq_false] at h))
    | (apply e_thenN)
    | (apply w_block)
    | (apply e_thenR)
    | (apply e_thenX)
    | (apply e_blkN)
    | (apply e_blkR)
    | (apply e_blkE)
    | (apply w_exit)
    | (apply w_ret)
    | (apply w_skip)
    | (apply e_blkE'; rfl))
      exact retI (by rw [hp, hd])
  · have e : firstN l 0 = -1 := by rw [hp, List.drop_of_length_le hge, firstN]
    repeat' (first
    | (apply r_mvV; rfl)
    | (apply r_mvP; rfl)
    | (apply r_mvPL; rfl)
    | (apply r_mvS; rfl)
    | (apply r_mvSL; rfl)
    | (apply r_mvA; rfl)
    | (apply r_mvT; rfl)
    | (apply r_mvF; rfl)
    | (apply r_mvD; rfl)
    | (apply k_E (v := .d (.fn 117 [])); rfl)
    | (apply r_ldL; rfl; rfl; rfl)
    | (apply r_lss; rfl; rfl; (first | (apply decide_eq_true; omega) | (apply decide_eq_false; omega) | rfl))
    | (apply r_add; rfl; rfl; rfl; omega)
    | (apply r_lenD; rfl)
    | (apply r_lenL; rfl)
    | (apply r_len0; rfl)
    | (apply r_p; rfl)
    | (apply r_nilK)
    | (apply r_nil)
    | (apply k_V; rfl)
    | (apply k_P; rfl)
    | (apply k_PL; rfl)
    | (apply k_S; rfl)
    | (apply k_SL; rfl)
    | (apply k_A; rfl)
    | (apply k_T; rfl)
    | (apply k_F; rfl)
    | (apply k_D; rfl; rotate_left; rfl)
    | (apply k_nil)
    | (apply e_ret (vs := [.d (.val _)]); rfl)
    | (apply e_ret; rfl)
    | (apply e_ret' (vs := [.d (.val _)]); rfl)
    | (apply e_ret'; rfl)
    | (apply w_seq)
    | (apply w_ops; ((conv => lhs; simp only [Nat.reduceAdd]) <;> rfl))
    | (apply w_condT; rfl)
    | (apply w_condF; rfl)
    | ((apply w_condS; rfl) <;> (intro h; try simp only [decide_eq_true_eq, decide_eq_false_iff_not, Bool.not_eq_true, Bool.not_eq_false] at h))
    | (apply e_thenN)
    | (apply w_block)
    | (apply e_thenR)
    | (apply e_thenX)
    | (apply e_blkN)
    | (apply e_blkR)
    | (apply e_blkE)
    | (apply w_exit)
    | (apply w_ret)
    | (apply w_skip)
    | (apply e_blkE'; rfl))
    exact retI e.symm
theorem p104_of (l : List T) (h : Good Try.prog 145 [.d (.sl (encL l) l.length), .d (.fn 117 [])] none (.i (firstN l 0)) none none) : Good Try.prog 104 [.d (.sl (encL l) l.length), .d (.fn 117 [])] none (.b (!isPL l)) none none := by
  have hq := firstN_isPL l 0
  generalize firstN l 0 = q at h hq
  refine b104 (by simp) (by simp) (w_init ?_)
  unfold x104
  repeat' (first
    | (apply r_mvV; rfl)
    | (apply r_mvP; rfl)
    | (apply r_mvPL; rfl)
    | (apply r_mvS; rfl)
    | (apply r_mvSL; rfl)
    | (apply r_mvA; rfl)
    | (apply r_mvT; rfl)
    | (apply r_mvF; rfl)
    | (apply r_mvD; rfl)
    | (apply k_E (v := .d (.fn 117 [])); rfl)
    | (apply r_mv (v := .d (.fn 117 [])); rfl)
    | (apply r_call (bs := [.d (.sl (encL l) l.length), .d (.fn 117 [])]) (us := []); rfl; rfl; exact h; rfl)
    | (apply r_geq; rfl; rfl; (first | (apply decide_eq_true; omega) | (apply decide_eq_false; omega) | rfl))
    | (apply r_nilK)
    | (apply r_nil)
    | (apply k_V; rfl)
    | (apply k_P; rfl)
    | (apply k_PL; rfl)
    | (apply k_S; rfl)
    | (apply k_SL; rfl)
    | (apply k_A; rfl)
    | (apply k_T; rfl)
    | (apply k_F; rfl)
    | (apply k_D; rfl; rotate_left; rfl)
    | (apply k_nil)
    | (apply e_ret (vs := [.d (.val _)]); rfl)
    | (apply e_ret; rfl)
    | (apply e_ret' (vs := [.d (.val _)]); rfl)
    | (apply e_ret'; rfl)
    | (apply w_seq)
    | (apply w_ops; ((conv => lhs; simp only [Nat.reduceAdd]) <;> rfl))
    | (apply e_thenN)
    | (apply w_block)
    | (apply e_thenR)
    | (apply e_thenX)
    | (apply e_blkN)
    | (apply e_blkR)
    | (apply e_blkE)
    | (apply w_exit)
    | (apply w_ret)
    | (apply w_skip)
    | (apply e_blkE'; rfl))
  all_goals exact retB hq
theorem p60_good : ∀ (n : Nat) (t : T), t.cnt ≤ n → n ≤ 1000000 → Good Try.prog 60 [nodeA t] none (.b (isP t)) none none := by
  intro n
  induction n with
  | zero => intro t ht; have := cnt_pos t; omega
  | succ n ih =>
  intro t ht hc
  obtain ⟨k, a, b, c, d, mn, mx, subs⟩ := t
  have hlen : subs.length ≤ 1000000 := by
    have := cntL_len subs
    simp only [T.cnt] at ht
    omega
  have h104 := p104_of subs (p145_of subs hlen fun i hi => p117_of _ (ih _ (by
    have := cntL_get subs i hi
    simp only [T.cnt] at ht
    omega) (by omega)))
  have hb := bare116_good (NodeAt.self (.node k a b c d mn mx subs))
  have e0 : nodeA (.node k a b c d mn mx subs) = .agg [.i k, .d (.val (.int .u64 a)), .d (.val (.int .u64 b)), .d (.val (.int .u64 c)), .d (.val (.int .u64 d)), .i mn, .i mx, .d (.sl (encL subs) subs.length)] := rfl
  rw [isP, e0]
  generalize isPL subs = p at h104
  generalize bareT (.node k a b c d mn mx subs) = q at hb
  clear ih ht
  refine b60 (by simp) (by simp) (w_init ?_)
  unfold x60
  cases q <;> cases p
  all_goals
    repeat' (first
    | (apply r_mvV; rfl)
    | (apply r_mvP; rfl)
    | (apply r_mvPL; rfl)
    | (apply r_mvS; rfl)
    | (apply r_mvSL; rfl)
    | (apply r_mvA; rfl)
    | (apply r_mvT; rfl)
    | (apply r_mvF; rfl)
    | (apply r_mvD; rfl)
    | (apply r_faddD; rfl)
    | (apply r_faddL; rfl)
    | (apply r_l; apply ld_kind; assumption; rfl)
    | (apply r_l; apply ld_mn; assumption; rfl)
    | (apply r_l; apply ld_mx; assumption; rfl)
    | (apply r_l; apply ld_subs; assumption; rfl)
    | (apply r_l; apply ld_set; assumption; rfl)
    | (apply r_l; apply ld_node; assumption; rfl)
    | (apply r_l; apply ld_kind'; assumption; rfl)
    | (apply r_l; apply ld_mn'; assumption; rfl)
    | (apply r_l; apply ld_mx'; assumption; rfl)
    | (apply r_l; apply ld_subs'; assumption; rfl)
    | (apply r_l; apply ld_node'; assumption; rfl)
    | (apply r_call (bs := [.d (.ptr (encN (.node k a b c d mn mx subs)) 0)]) (us := [1]); rfl; rfl; exact hb; rfl)
    | (apply r_call (bs := [.d (.sl (encL subs) subs.length), .d (.fn 117 [])]) (us := []); rfl; rfl; exact h104; rfl)
    | (apply r_ldL; rfl; rfl; rfl)
    | (apply r_not; rfl; rfl)
    | (apply r_pickT; rfl)
    | (apply r_pickF; rfl)
    | (apply r_gT; rfl)
    | (apply r_gF'; rfl; rfl)
    | (apply r_gN'; rfl)
    | ((apply r_gS (o := default); rfl) <;> (intro h; try simp only [decide_eq_true_eq, decide_eq_false_iff_not, Bool.not_eq_true, Bool.not_eq_false] at h))
    | (apply r_box; ((conv => lhs; simp only [Nat.reduceAdd]) <;> rfl); rfl; rfl; rfl)
    | (apply r_nilK)
    | (apply r_nil)
    | (apply k_V; rfl)
    | (apply k_P; rfl)
    | (apply k_PL; rfl)
    | (apply k_S; rfl)
    | (apply k_SL; rfl)
    | (apply k_A; rfl)
    | (apply k_T; rfl)
    | (apply k_F; rfl)
    | (apply k_D; rfl; rotate_left; rfl)
    | (apply k_nil)
    | (apply e_ret (vs := [.d (.val _)]); rfl)
    | (apply e_ret; rfl)
    | (apply e_ret' (vs := [.d (.val _)]); rfl)
    | (apply e_ret'; rfl)
    | (apply w_seq)
    | (apply w_ops; ((conv => lhs; simp only [Nat.reduceAdd]) <;> rfl))
    | (apply e_thenN)
    | (apply w_block)
    | (apply e_thenR)
    | (apply e_thenX)
    | (apply e_blkN)
    | (apply e_blkR)
    | (apply e_blkE)
    | (apply w_exit)
    | (apply w_ret)
    | (apply w_skip)
    | (apply e_blkE'; rfl))
    exact retB rfl
end Go.Sv
namespace Go.Sv
open Go Go.Proofs
set_option maxRecDepth 100000
set_option maxHeartbeats 4000000
attribute [local irreducible] W E R KP thenK blockK retK Good xwp aRun
end Go.Sv
namespace Go.Sv
open Go
theorem L_k1 {a b c d mn mx : Int} {subs : List T} {w : List Nat} : L (.node 1 a b c d mn mx subs) w ↔ w = [] := by simp [L]
theorem L_k3 {a b c d mn mx : Int} {subs : List T} {w : List Nat} : L (.node 3 a b c d mn mx subs) w ↔ catL subs w := by simp [L]
theorem L_k4 {a b c d mn mx : Int} {subs : List T} {w : List Nat} : L (.node 4 a b c d mn mx subs) w ↔ altL subs w := by simp [L]
theorem L_k5 {a b c d mn mx : Int} {subs : List T} {w : List Nat} : L (.node 5 a b c d mn mx subs) w ↔ ∃ r : Nat, mn ≤ r ∧ (mx < 0 ∨ (r : Int) ≤ mx) ∧ powL (fstL subs) r w := by simp [L]
theorem catL_app : ∀ (l r : List T) (w : List Nat), catL (l ++ r) w ↔ ∃ u v, w = u ++ v ∧ catL l u ∧ catL r v
  | [], r, w => by
    simp only [List.nil_append, catL]
    constructor
    · intro h; exact ⟨[], w, rfl, rfl, h⟩
    · rintro ⟨u, v, rfl, rfl, h⟩; exact h
  | t :: l, r, w => by
    simp only [List.cons_append, catL]
    constructor
    · rintro ⟨u, v, rfl, h1, h2⟩
      obtain ⟨a, b, rfl, h3, h4⟩ := (catL_app l r v).1 h2
      exact ⟨u ++ a, b, by simp, ⟨u, a, rfl, h1, h3⟩, h4⟩
    · rintro ⟨_, v, rfl, ⟨u, a, rfl, h1, h3⟩, h4⟩
      exact ⟨u, a ++ v, by simp, h1, (catL_app l r _).2 ⟨a, v, rfl, h3, h4⟩⟩
theorem catL_one (t : T) (w : List Nat) : catL [t] w ↔ L t w := by
  simp only [catL]
  constructor
  · rintro ⟨u, v, rfl, h, rfl⟩; simpa using h
  · intro h; exact ⟨w, [], by simp, h, rfl⟩
theorem catL_rep (t : T) : ∀ (n : Nat) (w : List Nat), catL (List.replicate n t) w ↔ powL (L t) n w
  | 0, w => by simp [catL, powL]
  | n + 1, w => by
    rw [List.replicate_succ]; simp only [catL, powL, catL_rep t n]
theorem powL_congr {P Q : List Nat → Prop} (h : ∀ w, P w ↔ Q w) : ∀ (n : Nat) (w : List Nat), powL P n w ↔ powL Q n w
  | 0, w => Iff.rfl
  | n + 1, w => by simp only [powL, h, powL_congr h n]
theorem powL_add (P : List Nat → Prop) : ∀ (a b : Nat) (w : List Nat), powL P (a + b) w ↔ ∃ u v, w = u ++ v ∧ powL P a u ∧ powL P b v
  | 0, b, w => by
    rw [Nat.zero_add]; simp only [powL]
    constructor
    · intro h; exact ⟨[], w, rfl, rfl, h⟩
    · rintro ⟨u, v, rfl, rfl, h⟩; exact h
  | a + 1, b, w => by
    rw [Nat.succ_add]; simp only [powL]
    constructor
    · rintro ⟨u, v, rfl, h1, h2⟩
      obtain ⟨p, q, rfl, h3, h4⟩ := (powL_add P a b v).1 h2
      exact ⟨u ++ p, q, by simp, ⟨u, p, rfl, h1, h3⟩, h4⟩
    · rintro ⟨_, v, rfl, ⟨u, p, rfl, h1, h3⟩, h4⟩
      exact ⟨u, p ++ v, by simp, h1, (powL_add P a b _).2 ⟨p, v, rfl, h3, h4⟩⟩
theorem L_star (t : T) (w : List Nat) : L (starN t) w ↔ ∃ r : Nat, powL (L t) r w := by
  rw [starN, L_k5]
  constructor
  · rintro ⟨r, _, _, h⟩; exact ⟨r, h⟩
  · rintro ⟨r, h⟩; exact ⟨r, by omega, .inl (by omega), h⟩
theorem L_maybe (t : T) (w : List Nat) : L (maybeN t) w ↔ L t w ∨ w = [] := by
  rw [maybeN, L_k4]; simp only [altL, L_k1, or_false]
theorem catL_maybe (t : T) : ∀ (n : Nat) (w : List Nat), catL (List.replicate n (maybeN t)) w ↔ ∃ r : Nat, r ≤ n ∧ powL (L t) r w
  | 0, w => by
    simp only [List.replicate_zero, catL]
    constructor
    · rintro rfl; exact ⟨0, Nat.le_refl _, rfl⟩
    · rintro ⟨r, h, h2⟩
      have : r = 0 := by omega
      subst this; exact h2
  | n + 1, w => by
    rw [List.replicate_succ]; simp only [catL, L_maybe]
    constructor
    · rintro ⟨u, v, rfl, h | rfl, h2⟩
      · obtain ⟨r, h3, h4⟩ := (catL_maybe t n v).1 h2
        exact ⟨r + 1, by omega, u, v, rfl, h, h4⟩
      · obtain ⟨r, h3, h4⟩ := (catL_maybe t n v).1 h2
        exact ⟨r, by omega, h4⟩
    · rintro ⟨r, h, h2⟩
      cases r with
      | zero =>
        refine ⟨[], w, rfl, .inr rfl, (catL_maybe t n w).2 ⟨0, by omega, h2⟩⟩
      | succ r =>
        obtain ⟨u, v, rfl, h3, h4⟩ := h2
        exact ⟨u, v, rfl, .inl h3, (catL_maybe t n v).2 ⟨r, by omega, h4⟩⟩
theorem L_repT (t : T) (lo : Nat) (hi : Int) (w : List Nat) : L (repT t lo hi) w ↔ catL (repRow t lo hi) w := by
  unfold repT
  split
  · rename_i e; rw [e, L_k1, catL]
  · rename_i u e; rw [e, catL_one]
  · rw [L_k3]
theorem L_rep (t : T) (lo : Nat) (hi : Int) (h : hi < 0 ∨ (lo : Int) ≤ hi) (w : List Nat) : L (repT t lo hi) w ↔ ∃ r : Nat, (lo : Int) ≤ r ∧ (hi < 0 ∨ (r : Int) ≤ hi) ∧ powL (L t) r w := by
  rw [L_repT, repRow, catL_app]
  by_cases hh : hi < 0
  · simp only [if_pos hh, catL_one, L_star, catL_rep]
    constructor
    · rintro ⟨u, v, rfl, h1, r, h2⟩
      exact ⟨lo + r, by omega, .inl hh, (powL_add _ _ _ _).2 ⟨u, v, rfl, h1, h2⟩⟩
    · rintro ⟨r, h1, _, h2⟩
      rw [show r = lo + (r - lo) by omega] at h2
      obtain ⟨u, v, rfl, h3, h4⟩ := (powL_add _ _ _ _).1 h2
      exact ⟨u, v, rfl, h3, _, h4⟩
  · simp only [if_neg hh, catL_maybe]
    simp only [catL_rep]
    constructor
    · rintro ⟨u, v, rfl, h1, r, h2, h3⟩
      exact ⟨lo + r, by omega, .inr (by omega), (powL_add _ _ _ _).2 ⟨u, v, rfl, h1, h3⟩⟩
    · rintro ⟨r, h1, h1', h2⟩
      rw [show r = lo + (r - lo) by omega] at h2
      obtain ⟨u, v, rfl, h3, h4⟩ := (powL_add _ _ _ _).1 h2
      exact ⟨u, v, rfl, h3, _, by omega, h4⟩
theorem plainT_5 {a b c d mn mx : Int} {subs : List T} (h : plainT (.node 5 a b c d mn mx subs) = true) : ∃ u, subs = [u] := by
  simp [plainT] at h
  obtain ⟨_, h⟩ := h
  match subs, h with
  | [u], _ => exact ⟨u, rfl⟩
theorem okT_plain {k a b c d mn mx : Int} {subs : List T} (h : okT (.node k a b c d mn mx subs)) : plainT (.node k a b c d mn mx subs) = true := by
  simp only [okT, okN] at h; exact h.1.2.2.2.2
theorem okT_subs {k a b c d mn mx : Int} {subs : List T} (h : okT (.node k a b c d mn mx subs)) : okL subs := by
  simp only [okT] at h; exact h.2
theorem plainT_leaf {k a b c d mn mx : Int} {subs : List T} (hk : k = 1 ∨ k = 2) (h : plainT (.node k a b c d mn mx subs) = true) : subs = [] := by
  cases subs with
  | nil => rfl
  | cons x l => exfalso; rcases hk with rfl | rfl <;> simp [plainT] at h
mutual
theorem xT_L : ∀ (t : T), okT t → ∀ w, L (xT t) w ↔ L t w
  | .node k a b c d mn mx subs, h, w => by
    have hs := okT_subs h
    have hp := okT_plain h
    have hR := okT_R h
    have hx := xL_L subs hs
    by_cases h5 : k = 5
    · subst h5
      obtain ⟨u, rfl⟩ := plainT_5 hp
      obtain ⟨hm, hm2⟩ := hR rfl
      rw [xT, if_pos rfl]
      simp only [xL, List.headD_cons]
      rw [L_rep _ _ _ (by omega), L_k5]
      have hu : ∀ w, L (xT u) w ↔ fstL [u] w := fun w => by rw [fstL]; exact (hx.2.2 w)
      simp only [powL_congr hu, Int.toNat_of_nonneg hm.1]
    · rw [xT, if_neg h5]
      by_cases h34 : k = 3 ∨ k = 4
      · rw [if_pos h34]
        rcases h34 with rfl | rfl
        · rw [L_k3, L_k3]; exact hx.1 w
        · rw [L_k4, L_k4]; exact hx.2.1 w
      · rw [if_neg h34]
theorem xL_L : ∀ (l : List T), okL l → (∀ w, catL (xL l) w ↔ catL l w) ∧ (∀ w, altL (xL l) w ↔ altL l w) ∧ (∀ w, fstL (xL l) w ↔ fstL l w)
  | [], _ => ⟨fun _ => Iff.rfl, fun _ => Iff.rfl, fun _ => Iff.rfl⟩
  | t :: l, h => by
    simp only [okL] at h
    have h1 := xT_L t h.1
    have h2 := xL_L l h.2
    refine ⟨fun w => ?_, fun w => ?_, fun w => ?_⟩
    · simp only [xL, catL, h1, h2.1]
    · simp only [xL, altL, h1, h2.2.1]
    · simp only [xL, fstL, h1]
end
theorem okW_0 : okW 0 := by unfold okW; omega
theorem okT_mk {k mn mx : Int} {subs : List T} (h : plainT (.node k 0 0 0 0 mn mx subs) = true) (hs : okL subs) : okT (.node k 0 0 0 0 mn mx subs) := by
  simp only [okT, okN]; exact ⟨⟨okW_0, okW_0, okW_0, okW_0, h⟩, hs⟩
theorem okL_iff : ∀ (l : List T), okL l ↔ ∀ t ∈ l, okT t
  | [] => by simp [okL]
  | t :: l => by simp [okL, okL_iff l]
theorem okT_empty : okT (.node 1 0 0 0 0 0 0 []) := okT_mk (by simp [plainT, isZero]) trivial
theorem okT_star {t : T} (h : okT t) : okT (starN t) := okT_mk (by simp [plainT, isZero]) ⟨h, trivial⟩
theorem okT_maybe {t : T} (h : okT t) : okT (maybeN t) := okT_mk (by simp [plainT, isZero]) ⟨h, okT_empty, trivial⟩
theorem okL_repRow {t : T} (h : okT t) (lo : Nat) (hi : Int) : okL (repRow t lo hi) := by
  rw [okL_iff]
  intro u hu
  rw [repRow, List.mem_append] at hu
  rcases hu with hu | hu
  · rw [List.mem_replicate] at hu; rw [hu.2]; exact h
  · split at hu
    · rw [List.mem_singleton] at hu; rw [hu]; exact okT_star h
    · rw [List.mem_replicate] at hu; rw [hu.2]; exact okT_maybe h
theorem okT_repT {t : T} (h : okT t) (lo : Nat) (hi : Int) : okT (repT t lo hi) := by
  have hr := okL_repRow h lo hi
  unfold repT
  split
  · exact okT_empty
  · rename_i u e; rw [e] at hr; exact hr.1
  · rename_i l h1 h2
    refine okT_mk ?_ hr
    match hq : repRow t lo hi with
    | [] => exact absurd hq h1
    | [u] => exact absurd hq (h2 u)
    | _ :: _ :: _ => simp [plainT, isZero]
mutual
theorem xT_ok : ∀ (t : T), okT t → okT (xT t)
  | .node k a b c d mn mx subs, h => by
    have hs := okT_subs h
    have hp := okT_plain h
    have hx := xL_ok subs hs
    by_cases h5 : k = 5
    · subst h5
      obtain ⟨u, rfl⟩ := plainT_5 hp
      rw [xT, if_pos rfl]
      simp only [xL, List.headD_cons] at hx ⊢
      exact okT_repT hx.1 _ _
    · rw [xT, if_neg h5]
      by_cases h34 : k = 3 ∨ k = 4
      · rw [if_pos h34]
        refine okT_mk ?_ hx
        have hl := xL_len subs
        rcases h34 with rfl | rfl <;> (simp [plainT, isZero] at hp ⊢; omega)
      · rw [if_neg h34]; exact h
theorem xL_ok : ∀ (l : List T), okL l → okL (xL l)
  | [], _ => trivial
  | t :: l, h => by
    simp only [okL] at h
    exact ⟨xT_ok t h.1, xL_ok l h.2⟩
end
theorem isPL_iff : ∀ (l : List T), isPL l = true ↔ ∀ t ∈ l, isP t = true
  | [] => by simp [isPL]
  | t :: l => by simp [isPL, isPL_iff l]
theorem isP_mk {k mn mx : Int} {subs : List T} (h : bareT (.node k 0 0 0 0 mn mx subs) = true) (hs : isPL subs = true) : isP (.node k 0 0 0 0 mn mx subs) = true := by rw [isP, hs, h]; rfl
theorem isP_empty : isP (.node 1 0 0 0 0 0 0 []) = true := isP_mk (by simp [bareT, isZero]) rfl
theorem isP_star {t : T} (h : isP t = true) : isP (starN t) = true := isP_mk (by simp [bareT, isZero]) (by simp [isPL, h])
theorem isP_maybe {t : T} (h : isP t = true) : isP (maybeN t) = true := isP_mk (by simp [bareT, isZero]) (by simp [isPL, h, isP_empty])
theorem isPL_repRow {t : T} (h : isP t = true) (lo : Nat) (hi : Int) : isPL (repRow t lo hi) = true := by
  rw [isPL_iff]
  intro u hu
  rw [repRow, List.mem_append] at hu
  rcases hu with hu | hu
  · rw [List.mem_replicate] at hu; rw [hu.2]; exact h
  · split at hu
    · rw [List.mem_singleton] at hu; rw [hu]; exact isP_star h
    · rw [List.mem_replicate] at hu; rw [hu.2]; exact isP_maybe h
theorem isP_repT {t : T} (h : isP t = true) (lo : Nat) (hi : Int) : isP (repT t lo hi) = true := by
  have hr := isPL_repRow h lo hi
  unfold repT
  split
  · exact isP_empty
  · rename_i u e; rw [e] at hr; simpa [isPL] using hr
  · rename_i l h1 h2
    refine isP_mk ?_ hr
    match hq : repRow t lo hi with
    | [] => exact absurd hq h1
    | [u] => exact absurd hq (h2 u)
    | _ :: _ :: _ => simp [bareT, isZero]
mutual
theorem xT_isP : ∀ (t : T), okT t → isP (xT t) = true
  | .node k a b c d mn mx subs, h => by
    have hs := okT_subs h
    have hp := okT_plain h
    have hx := xL_isP subs hs
    by_cases h5 : k = 5
    · subst h5
      obtain ⟨u, rfl⟩ := plainT_5 hp
      rw [xT, if_pos rfl]
      simp only [xL, isPL, List.headD_cons, Bool.and_true] at hx ⊢
      exact isP_repT hx _ _
    · rw [xT, if_neg h5]
      by_cases h34 : k = 3 ∨ k = 4
      · rw [if_pos h34]
        refine isP_mk ?_ hx
        have hl := xL_len subs
        rcases h34 with rfl | rfl <;> (simp [plainT, bareT, isZero] at hp ⊢; omega)
      · rw [if_neg h34]
        have hk : k = 1 ∨ k = 2 := by
          have := (plainT_kind hp).1; omega
        have hz : subs = [] := plainT_leaf hk hp
        subst hz
        rw [isP, isPL, Bool.true_and]
        rcases hk with rfl | rfl <;> (simp [plainT, bareT, isZero] at hp ⊢; omega)
theorem xL_isP : ∀ (l : List T), okL l → isPL (xL l) = true
  | [], _ => rfl
  | t :: l, h => by
    simp only [okL] at h
    rw [xL, isPL, xT_isP t h.1, xL_isP l h.2]; rfl
end
theorem cntL_app : ∀ (l r : List T), cntL (l ++ r) = cntL l + cntL r
  | [], r => by simp [cntL]
  | t :: l, r => by rw [List.cons_append, cntL, cntL_app l r, cntL]; omega
theorem cntL_rep (t : T) : ∀ n, cntL (List.replicate n t) = n * t.cnt
  | 0 => by simp [cntL]
  | n + 1 => by rw [List.replicate_succ, cntL, cntL_rep t n, Nat.succ_mul]; omega
theorem cnt_repT (t : T) (lo : Nat) (hi : Int) : (repT t lo hi).cnt ≤ 1 + cntL (repRow t lo hi) := by
  unfold repT
  split
  · simp [T.cnt, cntL]
  · rename_i u e; rw [e]; simp [cntL]
  · rw [T.cnt]; exact Nat.le_refl _
theorem cnt_repRow (t : T) (lo : Nat) (hi : Int) : cntL (repRow t lo hi) = lo * t.cnt + (if hi < 0 then 1 + t.cnt else (hi.toNat - lo) * (t.cnt + 2)) := by
  rw [repRow, cntL_app, cntL_rep]
  split
  · simp [cntL, starN, T.cnt]
  · rw [cntL_rep]
    simp [maybeN, T.cnt, cntL]
    congr 1; omega
theorem rep_wide1 (q m : Nat) (v : Int) (h : (q : Int) ≤ v) : ((1 + (m * q + (1 + q)) : Nat) : Int) ≤ 1 + (v * ((m : Int) + 1) + 1) := by
  have h3 := Int.mul_le_mul_of_nonneg_right (a := (q : Int)) (b := v) (c := (m : Int) + 1) h (by omega)
  have h4 : (q : Int) * ((m : Int) + 1) = ((m * q : Nat) : Int) + q := by
    rw [Int.mul_add, Int.mul_one, Int.natCast_mul, Int.mul_comm]
  omega
theorem rep_wide2 (q m x : Nat) (v : Int) (h : (q : Int) ≤ v) (hm : m ≤ x) : ((1 + (m * q + (x - m) * (q + 2)) : Nat) : Int) ≤ 1 + (v + 2) * (x : Int) := by
  have h1 : m * q ≤ m * (q + 2) := Nat.mul_le_mul_left m (by omega)
  have h2 : m * (q + 2) + (x - m) * (q + 2) = x * (q + 2) := by rw [← Nat.add_mul]; congr 1; omega
  have h3 := Int.mul_le_mul_of_nonneg_right (a := (q : Int) + 2) (b := v + 2) (c := (x : Int)) (by omega) (by omega)
  have h4 : ((q : Int) + 2) * (x : Int) = ((x * (q + 2) : Nat) : Int) := by
    rw [Int.natCast_mul, Int.mul_comm]; rfl
  omega
theorem sat_le (v x : Int) (hv : 0 ≤ v) (hx : 1 ≤ x) : v ≤ v * x := by
  have := Int.mul_le_mul_of_nonneg_left (a := 1) (b := x) (c := v) hx hv
  omega
theorem xL_wide {k mn mx : Int} (hk : k ≠ 5) : ∀ (l : List T), okL l → (∀ t ∈ l, ((xT t).cnt : Int) ≤ wideT t ∨ wideT t = 1073741824) → ∀ w : Int, 0 ≤ w → w ≤ 1073741824 → min (w + cntL (xL l)) 1073741824 ≤ wideL k mn mx l w
  | [], _, _, w, h0, h1 => by simp only [xL, cntL, wideL]; omega
  | t :: l, hok, h, w, h0, h1 => by
    simp only [okL] at hok
    have ht := h t (by simp)
    have hb := wideT_in t hok.1
    have ih := xL_wide (mn := mn) (mx := mx) hk l hok.2 (fun u hu => h u (by simp [hu])) (min (w + wideQ k mn mx (wideT t)) 1073741824)
    have hq : wideQ k mn mx (wideT t) = wideT t := by rw [wideQ, if_neg hk]
    rw [hq] at ih
    have ih := ih (by omega) (by omega)
    simp only [xL, cntL, wideL, hq]
    omega
mutual
theorem xT_wide : ∀ (t : T), okT t → ((xT t).cnt : Int) ≤ wideT t ∨ wideT t = 1073741824
  | .node k a b c d mn mx subs, h => by
    have hs := okT_subs h
    have hp := okT_plain h
    have hR := okT_R h
    have hx := xL_wideA subs hs
    have hin := wideT_in _ h
    by_cases h5 : k = 5
    · subst h5
      obtain ⟨u, rfl⟩ := plainT_5 hp
      obtain ⟨hm, hm2⟩ := hR rfl
      have hu := hx u (by simp)
      have hbu := wideT_in u hs.1
      have h1 := cnt_repT (xT u) mn.toNat mx
      rw [cnt_repRow] at h1
      rw [xT, if_pos rfl]
      simp only [xL, List.headD_cons]
      simp only [wideT, wideL, wideQ, if_true] at hin ⊢
      obtain ⟨m, rfl⟩ := Int.eq_ofNat_of_zero_le hm.1
      rw [Int.toNat_natCast] at h1 ⊢
      generalize (xT u).cnt = q at *
      generalize wideT u = v at *
      by_cases hx1 : mx = -1
      · subst hx1
        simp only [if_true] at hin ⊢
        rw [if_pos (by omega)] at h1
        have hmm := sat_le v ((m : Int) + 1) (by omega) (by omega)
        rcases hu with hu | hu
        · have := rep_wide1 q m v hu
          omega
        · right; omega
      · rw [if_neg hx1] at hin ⊢
        obtain ⟨x, rfl⟩ := Int.eq_ofNat_of_zero_le (show 0 ≤ mx by omega)
        rw [if_neg (by omega), Int.toNat_natCast] at h1
        rcases hu with hu | hu
        · have := rep_wide2 q m x v hu (by omega)
          omega
        · rcases Nat.eq_zero_or_pos x with h0 | h0
          · subst h0
            have : m = 0 := by omega
            subst this
            left; omega
          · have hmm := sat_le (v + 2) (x : Int) (by omega) (by omega)
            right; omega
    · rw [xT, if_neg h5]
      by_cases h34 : k = 3 ∨ k = 4
      · rw [if_pos h34]
        have := xL_wide (mn := mn) (mx := mx) h5 subs hs hx 1 (by omega) (by omega)
        simp only [wideT, T.cnt] at hin ⊢
        omega
      · rw [if_neg h34]
        have hk : k = 1 ∨ k = 2 := by
          have := (plainT_kind hp).1; omega
        have hz : subs = [] := plainT_leaf hk hp
        subst hz
        left; simp [wideT, wideL, T.cnt, cntL]
theorem xL_wideA : ∀ (l : List T), okL l → ∀ t ∈ l, ((xT t).cnt : Int) ≤ wideT t ∨ wideT t = 1073741824
  | [], _ => fun t h => absurd h (by simp)
  | u :: l, h => by
    simp only [okL] at h
    have h1 := xT_wide u h.1
    have h2 := xL_wideA l h.2
    intro t ht
    rcases List.mem_cons.1 ht with rfl | ht
    · exact h1
    · exact h2 t ht
end
theorem cntL_take (l : List T) (i : Nat) (h : i < l.length) : cntL (l.take (i + 1)) = cntL (l.take i) + l[i].cnt := by
  rw [List.take_succ_eq_append_getElem h, cntL_app, cntL, cntL]; omega
theorem cntL_take_le (l : List T) (i : Nat) : cntL (l.take i) ≤ cntL l := by
  have := cntL_app (l.take i) (l.drop i)
  rw [List.take_append_drop] at this; omega
end Go.Sv
namespace Go.Sv
open Go Go.Proofs
set_option maxRecDepth 100000
set_option maxHeartbeats 4000000
attribute [local irreducible] W E R KP thenK blockK retK Good xwp aRun
end Go.Sv
namespace Go.Sv
open Go Go.Proofs
set_option maxRecDepth 100000
set_option maxHeartbeats 4000000
attribute [local irreducible] W E R KP thenK blockK retK Good xwp aRun
end Go.Sv
namespace Go.Sv
open Go Go.Proofs
def x48 : XC := (.seq (.ops 2 [
    (0, ⟨(some 1), none, .box (.t 0)⟩),
    (1, ⟨(some 2), none, .mv (.k (.d (.val (.int .i64 0))))⟩)] (some [1])) (.seq (.ops 1 [
    (0, ⟨(some 3), none, .mv (.k (.d (.val (.int .i64 1))))⟩)] (some [1, 3])) (.seq (.seq (.ops 1 [
    (0, ⟨(some 4), none, .mv (.k (.d (.val (.int .i64 0))))⟩)] (some [1, 3, 4])) (.block 0 (.loop (.seq (.seq (.ops 5 [
    (0, ⟨(some 5), none, .mv (.t 4)⟩),
    (1, ⟨(some 6), none, .fadd 7 (.t 1)⟩),
    (2, ⟨(some 7), none, .load none (.t 6)⟩),
    (3, ⟨(some 8), none, .lenS (.t 7)⟩),
    (4, ⟨(some 9), none, .arith .lss (.t 5) (.t 8)⟩)] (some [1, 3, 4, 9])) (.cond (.t 9) .skip (.exit 0))) (.seq (.block 1 (.ops 9 [
    (0, ⟨(some 12), none, .mv (.t 3)⟩),
    (1, ⟨(some 13), none, .fadd 7 (.t 1)⟩),
    (2, ⟨(some 14), none, .load none (.t 13)⟩),
    (3, ⟨(some 15), none, .mv (.t 4)⟩),
    (4, ⟨(some 16), none, .idxS 8 (.t 14) (.t 15)⟩),
    (5, ⟨(some 17), none, .load (some 8) (.t 16)⟩),
    (6, ⟨(some 18), none, .call 48 [(.t 17)] none false⟩),
    (7, ⟨(some 19), none, .arith .add (.t 12) (.t 18)⟩),
    (8, ⟨(some 3), none, .mv (.t 19)⟩)] (some [1, 3, 4]))) (.ops 3 [
    (0, ⟨(some 10), none, .mv (.t 4)⟩),
    (1, ⟨(some 11), none, .arith .add (.t 10) (.k (.d (.val (.int .i64 1))))⟩),
    (2, ⟨(some 4), none, .mv (.t 11)⟩)] (some [1, 3, 4]))))))) (.seq (.ops 2 [
    (0, ⟨(some 20), none, .mv (.t 3)⟩),
    (1, ⟨(some 2), none, .mv (.t 20)⟩)] (some [2])) .ret))))
def md48 : FuncId → Option Nat × Bool
  | _ => (none, false)
def od48 : Nat → List (List Nat) × List Nat × Option (List Nat)
  | 0 => ([], [], some [1])
  | 1 => ([], [], some [1, 3])
  | 2 => ([], [], some [1, 3, 4])
  | 3 => ([], [], some [1, 3, 4, 9])
  | 4 => ([], [], some [1, 3, 4])
  | 5 => ([], [], some [1, 3, 4])
  | 6 => ([], [], some [2])
  | _ => ([], [], none)
theorem b48 {ags : List AV} {row : Option (List DV)} {r : AV} {row' nw : Option (List DV)} (hal : ags.length ≤ 21) (hrow : row'.isSome = true → row.isSome = true) (h : xwp Try.prog x48 (retK [.tmp 2] row.isSome r row' nw) (St.init ags row)) : Good Try.prog 48 ags row r row' nw :=
  good_of_body' (md := md48) (od := od48) Try.f48 (by kernel_rfl) (by kernel_rfl) (by kernel_rfl) (by kernel_rfl) (by kernel_rfl) hal hrow h

theorem rall_congr {s : ByteArray} {t u : T} (ht : okT t) (hu : okT u) (h : ∀ w, L t w ↔ L u w) (j : Nat) : rallG s t j = rallG s u j := by
  unfold rallG
  rw [goes_eq ((refG_goes s t ht).congr h) (refG_goes s u hu) (by simp)]
set_option maxRecDepth 100000
set_option maxHeartbeats 4000000
attribute [local irreducible] W E R KP thenK blockK retK Good xwp aRun
theorem size48_good : ∀ (n : Nat) (t : T), t.cnt ≤ n → n ≤ 1000000 → Good Try.prog 48 [nodeA t] none (.i (t.cnt : Nat)) none none := by
  intro n
  induction n with
  | zero => intro t ht; have := cnt_pos t; omega
  | succ n ih =>
  intro t ht hc
  obtain ⟨k, a, b, c, d, mn, mx, subs⟩ := t
  have ih' : ∀ i (h : i < subs.length), Good Try.prog 48 [nodeA subs[i]] none (.i (subs[i].cnt : Nat)) none none := by
    intro i h
    refine ih _ ?_ (by omega)
    have := cntL_get subs i h
    simp only [T.cnt] at ht
    omega
  have hlen : subs.length ≤ 1000000 := by
    have := cntL_len subs
    simp only [T.cnt] at ht
    omega
  have e0 : nodeA (.node k a b c d mn mx subs) = .agg [.i k, .d (.val (.int .u64 a)), .d (.val (.int .u64 b)), .d (.val (.int .u64 c)), .d (.val (.int .u64 d)), .i mn, .i mx, .d (.sl (encL subs) subs.length)] := rfl
  rw [e0]
  rw [T.cnt] at ht ⊢
  refine b48 (by simp) (by simp) (w_init ?_)
  unfold x48
  repeat' (first
    | (apply r_mvV; rfl)
    | (apply r_mvP; rfl)
    | (apply r_mvPL; rfl)
    | (apply r_mvS; rfl)
    | (apply r_mvSL; rfl)
    | (apply r_mvA; rfl)
    | (apply r_mvT; rfl)
    | (apply r_mvF; rfl)
    | (apply r_mvD; rfl)
    | (apply r_faddD; rfl)
    | (apply r_faddL; rfl)
    | (apply r_l; apply ld_kind; assumption; rfl)
    | (apply r_l; apply ld_mn; assumption; rfl)
    | (apply r_l; apply ld_mx; assumption; rfl)
    | (apply r_l; apply ld_subs; assumption; rfl)
    | (apply r_l; apply ld_set; assumption; rfl)
    | (apply r_l; apply ld_node; assumption; rfl)
    | (apply r_l; apply ld_kind'; assumption; rfl)
    | (apply r_l; apply ld_mn'; assumption; rfl)
    | (apply r_l; apply ld_mx'; assumption; rfl)
    | (apply r_l; apply ld_subs'; assumption; rfl)
    | (apply r_l; apply ld_node'; assumption; rfl)
    | (apply r_ldL; rfl; rfl; rfl)
    | (apply r_lss; rfl; rfl; (first | (apply decide_eq_true; omega) | (apply decide_eq_false; omega) | rfl))
    | (apply r_add; rfl; rfl; rfl; omega)
    | (apply r_lenD; rfl)
    | (apply r_lenL; rfl)
    | (apply r_len0; rfl)
    | (apply r_box; ((conv => lhs; simp only [Nat.reduceAdd]) <;> rfl); rfl; rfl; rfl)
    | (apply r_p; rfl)
    | (apply r_nilK)
    | (apply r_nil)
    | (apply k_V; rfl)
    | (apply k_P; rfl)
    | (apply k_PL; rfl)
    | (apply k_S; rfl)
    | (apply k_SL; rfl)
    | (apply k_A; rfl)
    | (apply k_T; rfl)
    | (apply k_F; rfl)
    | (apply k_D; rfl; rotate_left; rfl)
    | (apply k_nil)
    | (apply e_ret (vs := [.d (.val _)]); rfl)
    | (apply e_ret; rfl)
    | (apply e_ret' (vs := [.d (.val _)]); rfl)
    | (apply e_ret'; rfl)
    | (apply w_seq)
    | (apply w_ops; ((conv => lhs; simp only [Nat.reduceAdd]) <;> rfl))
    | (apply w_condT; rfl)
    | (apply w_condF; rfl)
    | ((apply w_condS; rfl) <;> (intro h; try simp only [decide_eq_true_eq, decide_eq_false_iff_not, Bool.not_eq_true, Bool.not_eq_false] at h))
    | (apply e_thenN)
    | (apply w_block)
    | (apply e_thenR)
    | (apply e_thenX)
    | (apply e_blkN)
    | (apply e_blkR)
    | (apply e_blkE)
    | (apply w_exit)
    | (apply w_ret)
    | (apply w_skip)
    | (apply e_blkE'; rfl))
  apply w_loopI (S := fun i : Nat => ⟨((Fr.nil.put 1 (.ptrL 1 0)).put 3 (.i ((1 + cntL (subs.take i) : Nat) : Int))).put 4 (.i i), Heap.nil.put 1 [.i k, .d (.val (.int .u64 a)), .d (.val (.int .u64 b)), .d (.val (.int .u64 c)), .d (.val (.int .u64 d)), .i mn, .i mx, .d (.sl (encL subs) subs.length)], Frz.lo 100, 100⟩) (m := fun i => subs.length - i) (I := fun i => i ≤ subs.length) (i0 := 0)
  · exact Nat.zero_le _
  · refine wkR (by omega) rfl rfl ?_
    simp only [List.take_zero, cntL]
    repeat' (first
    | exact FWk.nil
    | (apply FWk.i; rfl; (first | rfl | omega | (simp; done)))
    | (apply FWk.sl; rfl; rfl; rfl; rfl; omega; rfl)
    | (apply FWk.ptr; rfl; rfl; rfl; omega; rfl)
    | (apply FWk.d; rfl; rfl)
    | (apply FWk.a; rfl; rfl; rfl)
    | (apply FWk.slN; rfl; omega; rfl))
  intro i K hi hK
  dsimp only
  rcases Nat.lt_or_ge i subs.length with hlt | hge
  · have hs := NodeAt.sub hlt
    have hg := ih' i hlt
    have hd := cntL_take subs i hlt
    have h2 := cntL_take_le subs (i + 1)
    have hna : [nodeA subs[i]].all AV.nrm = true := by rw [List.all_cons, nodeA_nrm]; rfl
    repeat' (first
    | (apply r_mvV; rfl)
    | (apply r_mvP; rfl)
    | (apply r_mvPL; rfl)
    | (apply r_mvS; rfl)
    | (apply r_mvSL; rfl)
    | (apply r_mvA; rfl)
    | (apply r_mvT; rfl)
    | (apply r_mvF; rfl)
    | (apply r_mvD; rfl)
    | (apply r_faddD; rfl)
    | (apply r_faddL; rfl)
    | (apply r_l; apply ld_kind; assumption; rfl)
    | (apply r_l; apply ld_mn; assumption; rfl)
    | (apply r_l; apply ld_mx; assumption; rfl)
    | (apply r_l; apply ld_subs; assumption; rfl)
    | (apply r_l; apply ld_set; assumption; rfl)
    | (apply r_l; apply ld_node; assumption; rfl)
    | (apply r_l; apply ld_kind'; assumption; rfl)
    | (apply r_l; apply ld_mn'; assumption; rfl)
    | (apply r_l; apply ld_mx'; assumption; rfl)
    | (apply r_l; apply ld_subs'; assumption; rfl)
    | (apply r_l; apply ld_node'; assumption; rfl)
    | (apply r_p; apply ix_sub; rfl; rfl; omega)
    | (apply r_callA (ags := [nodeA subs[i]]); rfl; exact hna; exact hg)
    | (apply r_ldL; rfl; rfl; rfl)
    | (apply r_lss; rfl; rfl; (first | (apply decide_eq_true; omega) | (apply decide_eq_false; omega) | rfl))
    | (apply r_add; rfl; rfl; rfl; omega)
    | (apply r_lenD; rfl)
    | (apply r_lenL; rfl)
    | (apply r_len0; rfl)
    | (apply r_box; ((conv => lhs; simp only [Nat.reduceAdd]) <;> rfl); rfl; rfl; rfl)
    | (apply r_p; rfl)
    | (apply r_nilK)
    | (apply r_nil)
    | (apply k_V; rfl)
    | (apply k_P; rfl)
    | (apply k_PL; rfl)
    | (apply k_S; rfl)
    | (apply k_SL; rfl)
    | (apply k_A; rfl)
    | (apply k_T; rfl)
    | (apply k_F; rfl)
    | (apply k_D; rfl; rotate_left; rfl)
    | (apply k_nil)
    | (apply e_ret (vs := [.d (.val _)]); rfl)
    | (apply e_ret; rfl)
    | (apply e_ret' (vs := [.d (.val _)]); rfl)
    | (apply e_ret'; rfl)
    | (apply w_seq)
    | (apply w_ops; ((conv => lhs; simp only [Nat.reduceAdd]) <;> rfl))
    | (apply w_condT; rfl)
    | (apply w_condF; rfl)
    | ((apply w_condS; rfl) <;> (intro h; try simp only [decide_eq_true_eq, decide_eq_false_iff_not, Bool.not_eq_true, Bool.not_eq_false] at h))
    | (apply e_thenN)
    | (apply w_block)
    | (apply e_thenR)
    | (apply e_thenX)
    | (apply e_blkN)
    | (apply e_blkR)
    | (apply e_blkE)
    | (apply w_exit)
    | (apply w_ret)
    | (apply w_skip)
    | (apply e_blkE'; rfl))
    apply e_thenK
    apply hK (i + 1)
    · omega
    · omega
    · rw [hd]
      refine wkR (by omega) rfl rfl ?_
      repeat' (first
    | exact FWk.nil
    | (apply FWk.i; rfl; (first | rfl | omega | (simp; done)))
    | (apply FWk.sl; rfl; rfl; rfl; rfl; omega; rfl)
    | (apply FWk.ptr; rfl; rfl; rfl; omega; rfl)
    | (apply FWk.d; rfl; rfl)
    | (apply FWk.a; rfl; rfl; rfl)
    | (apply FWk.slN; rfl; omega; rfl))
  · have ei : i = subs.length := by omega
    subst ei
    repeat' (first
    | (apply r_mvV; rfl)
    | (apply r_mvP; rfl)
    | (apply r_mvPL; rfl)
    | (apply r_mvS; rfl)
    | (apply r_mvSL; rfl)
    | (apply r_mvA; rfl)
    | (apply r_mvT; rfl)
    | (apply r_mvF; rfl)
    | (apply r_mvD; rfl)
    | (apply r_faddD; rfl)
    | (apply r_faddL; rfl)
    | (apply r_l; apply ld_kind; assumption; rfl)
    | (apply r_l; apply ld_mn; assumption; rfl)
    | (apply r_l; apply ld_mx; assumption; rfl)
    | (apply r_l; apply ld_subs; assumption; rfl)
    | (apply r_l; apply ld_set; assumption; rfl)
    | (apply r_l; apply ld_node; assumption; rfl)
    | (apply r_l; apply ld_kind'; assumption; rfl)
    | (apply r_l; apply ld_mn'; assumption; rfl)
    | (apply r_l; apply ld_mx'; assumption; rfl)
    | (apply r_l; apply ld_subs'; assumption; rfl)
    | (apply r_l; apply ld_node'; assumption; rfl)
    | (apply r_ldL; rfl; rfl; rfl)
    | (apply r_lss; rfl; rfl; (first | (apply decide_eq_true; omega) | (apply decide_eq_false; omega) | rfl))
    | (apply r_add; rfl; rfl; rfl; omega)
    | (apply r_lenD; rfl)
    | (apply r_lenL; rfl)
    | (apply r_len0; rfl)
    | (apply r_box; ((conv => lhs; simp only [Nat.reduceAdd]) <;> rfl); rfl; rfl; rfl)
    | (apply r_p; rfl)
    | (apply r_nilK)
    | (apply r_nil)
    | (apply k_V; rfl)
    | (apply k_P; rfl)
    | (apply k_PL; rfl)
    | (apply k_S; rfl)
    | (apply k_SL; rfl)
    | (apply k_A; rfl)
    | (apply k_T; rfl)
    | (apply k_F; rfl)
    | (apply k_D; rfl; rotate_left; rfl)
    | (apply k_nil)
    | (apply e_ret (vs := [.d (.val _)]); rfl)
    | (apply e_ret; rfl)
    | (apply e_ret' (vs := [.d (.val _)]); rfl)
    | (apply e_ret'; rfl)
    | (apply w_seq)
    | (apply w_ops; ((conv => lhs; simp only [Nat.reduceAdd]) <;> rfl))
    | (apply w_condT; rfl)
    | (apply w_condF; rfl)
    | ((apply w_condS; rfl) <;> (intro h; try simp only [decide_eq_true_eq, decide_eq_false_iff_not, Bool.not_eq_true, Bool.not_eq_false] at h))
    | (apply e_thenN)
    | (apply w_block)
    | (apply e_thenR)
    | (apply e_thenX)
    | (apply e_blkN)
    | (apply e_blkR)
    | (apply e_blkE)
    | (apply w_exit)
    | (apply w_ret)
    | (apply w_skip)
    | (apply e_blkE'; rfl))
    exact retI (by rw [List.take_length])
end Go.Sv
