/- A part of the proof of the law ExpandSame: that it answers true for every input, and that the input reads behind the call as before (no condition). -/
import Derived.Test.YtcnlgmajkclgjaaExpandSameG5
set_option linter.all false
set_option linter.unusedSectionVars false
set_option linter.unusedVariables false
set_option linter.unusedSimpArgs false
namespace Go.Sv
open Go Go.Proofs
set_option maxRecDepth 100000
set_option maxHeartbeats 4000000
attribute [local irreducible] W E R KP thenK blockK retK Good xwp aRun
theorem mwide_good : ∀ (n : Nat) (t : T) (cs : List DV) (off : Nat), NodeAt cs off t → t.cnt ≤ n → n ≤ 1000000 → okT t → Good Try.prog 123 [.d (.ptr cs off)] none (.i (wideT t)) none none := by
  intro n
  induction n with
  | zero => intro t cs off _ ht; have := cnt_pos t; omega
  | succ n ih =>
  intro t cs off hs ht hc hok
  obtain ⟨k, a, b, c, d, mn, mx, subs⟩ := t
  have hR := okT_R hok
  have hoks : okL subs := by simp only [okT] at hok; exact hok.2
  have ih' : ∀ i (h : i < subs.length), Good Try.prog 123 [.d (.ptr (encL subs) (i * 8))] none (.i (wideT subs[i])) none none := by
    intro i h
    refine ih _ _ _ (NodeAt.sub h) ?_ (by omega) (okL_get subs i h hoks)
    have := cntL_get subs i h
    simp only [T.cnt] at ht
    omega
  have hlen : subs.length ≤ 1000000 := by
    have := cntL_len subs
    simp only [T.cnt] at ht
    omega
  refine b123 (by simp) (by simp) (w_init ?_)
  unfold x123
  repeat' (first
    | (apply r_mvV; rfl)
    | (apply r_mvP; rfl)
    | (apply r_mvPL; rfl)
    | (apply r_mvS; rfl)
    | (apply r_mvSL; rfl)
    | (apply r_mvA; rfl)
    | (apply r_mvT; rfl)
    | (apply r_mvF; rfl)
    | (apply r_mvD; rfl)
    | (apply r_nckD; rfl)
    | (apply r_faddD; rfl)
    | (apply r_nckL; rfl)
    | (apply r_faddL; rfl)
    | (apply r_l; apply ld_kind; assumption; rfl)
    | (apply r_l; apply ld_mn; assumption; rfl)
    | (apply r_l; apply ld_mx; assumption; rfl)
    | (apply r_l; apply ld_subs; assumption; rfl)
    | (apply r_l; apply ld_set; assumption; rfl)
    | (apply r_l; apply ld_node; assumption; rfl)
    | (apply r_l; apply ld_kind'; assumption; rfl)
    | (apply r_l; apply ld_mn'; assumption; rfl)
    | (apply r_l; apply ld_mx'; assumption; rfl)
    | (apply r_l; apply ld_subs'; assumption; rfl)
    | (apply r_l; apply ld_node'; assumption; rfl)
    | (apply r_ldL; rfl; rfl; rfl)
    | (apply r_eql; rfl; rfl; (first | (apply decide_eq_true; omega) | (apply decide_eq_false; omega) | rfl))
    | (apply r_neq; rfl; rfl; (first | (apply decide_eq_true; omega) | (apply decide_eq_false; omega) | rfl))
    | (apply r_lss; rfl; rfl; (first | (apply decide_eq_true; omega) | (apply decide_eq_false; omega) | rfl))
    | (apply r_add; rfl; rfl; rfl; omega)
    | (apply r_min2; rfl; rfl; rfl)
    | (apply r_lenD; rfl)
    | (apply r_lenL; rfl)
    | (apply r_len0; rfl)
    | (apply r_p; rfl)
    | (apply r_nilK)
    | (apply r_nil)
    | (apply k_V; rfl)
    | (apply k_P; rfl)
    | (apply k_PL; rfl)
    | (apply k_S; rfl)
    | (apply k_SL; rfl)
    | (apply k_A; rfl)
    | (apply k_T; rfl)
    | (apply k_F; rfl)
    | (apply k_D; rfl; rotate_left; rfl)
    | (apply k_nil)
    | (apply e_ret (vs := [.d (.val _)]); rfl)
    | (apply e_ret; rfl)
    | (apply e_ret' (vs := [.d (.val _)]); rfl)
    | (apply e_ret'; rfl)
    | (apply w_seq)
    | (apply w_ops; ((conv => lhs; simp only [Nat.reduceAdd]) <;> rfl))
    | (apply w_condT; rfl)
    | (apply w_condF; rfl)
    | ((apply w_condS; rfl) <;> (intro h; try simp only [decide_eq_true_eq, decide_eq_false_iff_not, Bool.not_eq_true, Bool.not_eq_false] at h))
    | (apply e_thenN)
    | (apply w_block)
    | (apply e_thenR)
    | (apply e_thenX)
    | (apply e_blkN)
    | (apply e_blkR)
    | (apply e_blkE)
    | (apply w_exit)
    | (apply w_ret)
    | (apply w_skip)
    | (apply e_blkE'; rfl))
  apply w_loopI (ι := Nat × Int) (S := fun p => ⟨(((Fr.nil.put 0 (.d (.ptr cs off))).put 3 (.i p.2)).put 10 (.i subs.length)).put 11 (.i p.1), Heap.nil, Frz.lo 100, 100⟩) (m := fun p => subs.length - p.1)
    (I := fun p => p.1 ≤ subs.length ∧ (1 ≤ p.2 ∧ p.2 ≤ 1073741824) ∧ wideT (.node k a b c d mn mx subs) = wideL k mn mx (subs.drop p.1) p.2) (i0 := (0, 1))
  · refine ⟨Nat.zero_le _, by simp, ?_⟩
    simp [wideT]
  · refine wk0 (by omega) ?_
    repeat' (first
    | exact FWk.nil
    | (apply FWk.i; rfl; (first | rfl | omega | (simp; done)))
    | (apply FWk.sl; rfl; rfl; rfl; rfl; omega; rfl)
    | (apply FWk.ptr; rfl; rfl; rfl; omega; rfl)
    | (apply FWk.d; rfl; rfl)
    | (apply FWk.a; rfl; rfl; rfl)
    | (apply FWk.slN; rfl; omega; rfl))
  rintro ⟨i, w⟩ K hi hK
  dsimp only at hi hK ⊢
  rcases Nat.lt_or_ge i subs.length with hlt | hge
  · have hd := wideL_drop k mn mx subs w i hlt
    have hb := wideT_in subs[i] (okL_get subs i hlt hoks)
    have hq := wideQ_in hR (q := wideT subs[i]) (by omega)
    have fin : ∀ fr C Z nx, Wk ⟨fr, C, Z, nx⟩ ⟨(((Fr.nil.put 0 (.d (.ptr cs off))).put 3 (.i (min (w + wideQ k mn mx (wideT subs[i])) 1073741824))).put 10 (.i subs.length)).put 11 (.i ((i + 1 : Nat) : Int)), Heap.nil, Frz.lo 100, 100⟩ → K ⟨fr, C, Z, nx⟩ := by
      intro fr C Z nx hw
      refine hK (i + 1, _) fr C Z nx ⟨by omega, by dsimp only; omega, ?_⟩ (by dsimp only; omega) hw
      rw [hi.2.2, hd]
    by_cases h5 : k = 5
    · have hr5 := hR h5
      by_cases hm : mx = -1
      · have hmul := mul_in (show 0 ≤ wideT subs[i] ∧ wideT subs[i] ≤ 1073741824 by omega) (show 0 ≤ mn + 1 ∧ mn + 1 ≤ 21 by omega)
        have eq : wideQ k mn mx (wideT subs[i]) = wideT subs[i] * (mn + 1) + 1 := by rw [wideQ, if_pos h5, if_pos hm]
        rw [eq] at fin hq
        repeat' (first
    | (apply r_mvV; rfl)
    | (apply r_mvP; rfl)
    | (apply r_mvPL; rfl)
    | (apply r_mvS; rfl)
    | (apply r_mvSL; rfl)
    | (apply r_mvA; rfl)
    | (apply r_mvT; rfl)
    | (apply r_mvF; rfl)
    | (apply r_mvD; rfl)
    | (apply r_nckD; rfl)
    | (apply r_faddD; rfl)
    | (apply r_nckL; rfl)
    | (apply r_faddL; rfl)
    | (apply r_l; apply ld_kind; assumption; rfl)
    | (apply r_l; apply ld_mn; assumption; rfl)
    | (apply r_l; apply ld_mx; assumption; rfl)
    | (apply r_l; apply ld_subs; assumption; rfl)
    | (apply r_l; apply ld_set; assumption; rfl)
    | (apply r_l; apply ld_node; assumption; rfl)
    | (apply r_l; apply ld_kind'; assumption; rfl)
    | (apply r_l; apply ld_mn'; assumption; rfl)
    | (apply r_l; apply ld_mx'; assumption; rfl)
    | (apply r_l; apply ld_subs'; assumption; rfl)
    | (apply r_l; apply ld_node'; assumption; rfl)
    | (apply r_p; apply ix_sub; rfl; rfl; omega)
    | (apply r_callA; rfl; rfl; apply ih' i hlt)
    | (apply r_mul; rfl; rfl; rfl; omega)
    | (apply r_ldL; rfl; rfl; rfl)
    | (apply r_eql; rfl; rfl; (first | (apply decide_eq_true; omega) | (apply decide_eq_false; omega) | rfl))
    | (apply r_neq; rfl; rfl; (first | (apply decide_eq_true; omega) | (apply decide_eq_false; omega) | rfl))
    | (apply r_lss; rfl; rfl; (first | (apply decide_eq_true; omega) | (apply decide_eq_false; omega) | rfl))
    | (apply r_add; rfl; rfl; rfl; omega)
    | (apply r_min2; rfl; rfl; rfl)
    | (apply r_lenD; rfl)
    | (apply r_lenL; rfl)
    | (apply r_len0; rfl)
    | (apply r_p; rfl)
    | (apply r_nilK)
    | (apply r_nil)
    | (apply k_V; rfl)
    | (apply k_P; rfl)
    | (apply k_PL; rfl)
    | (apply k_S; rfl)
    | (apply k_SL; rfl)
    | (apply k_A; rfl)
    | (apply k_T; rfl)
    | (apply k_F; rfl)
    | (apply k_D; rfl; rotate_left; rfl)
    | (apply k_nil)
    | (apply e_ret (vs := [.d (.val _)]); rfl)
    | (apply e_ret; rfl)
    | (apply e_ret' (vs := [.d (.val _)]); rfl)
    | (apply e_ret'; rfl)
    | (apply w_seq)
    | (apply w_ops; ((conv => lhs; simp only [Nat.reduceAdd]) <;> rfl))
    | (apply w_condT; rfl)
    | (apply w_condF; rfl)
    | ((apply w_condS; rfl) <;> (intro h; try simp only [decide_eq_true_eq, decide_eq_false_iff_not, Bool.not_eq_true, Bool.not_eq_false] at h))
    | (apply e_thenN)
    | (apply w_block)
    | (apply e_thenR)
    | (apply e_thenX)
    | (apply e_blkN)
    | (apply e_blkR)
    | (apply e_blkE)
    | (apply w_exit)
    | (apply w_ret)
    | (apply w_skip)
    | (apply e_blkE'; rfl))
        all_goals
          apply e_thenK; apply fin
          refine wk0 (by omega) ?_
          repeat' (first
    | exact FWk.nil
    | (apply FWk.i; rfl; (first | rfl | omega | (simp; done)))
    | (apply FWk.sl; rfl; rfl; rfl; rfl; omega; rfl)
    | (apply FWk.ptr; rfl; rfl; rfl; omega; rfl)
    | (apply FWk.d; rfl; rfl)
    | (apply FWk.a; rfl; rfl; rfl)
    | (apply FWk.slN; rfl; omega; rfl))
      · have hmul := mul_in (show 0 ≤ wideT subs[i] + 2 ∧ wideT subs[i] + 2 ≤ 1073741826 by omega) (show 0 ≤ mx ∧ mx ≤ 20 by omega)
        have eq : wideQ k mn mx (wideT subs[i]) = (wideT subs[i] + 2) * mx := by rw [wideQ, if_pos h5, if_neg hm]
        rw [eq] at fin hq
        repeat' (first
    | (apply r_mvV; rfl)
    | (apply r_mvP; rfl)
    | (apply r_mvPL; rfl)
    | (apply r_mvS; rfl)
    | (apply r_mvSL; rfl)
    | (apply r_mvA; rfl)
    | (apply r_mvT; rfl)
    | (apply r_mvF; rfl)
    | (apply r_mvD; rfl)
    | (apply r_nckD; rfl)
    | (apply r_faddD; rfl)
    | (apply r_nckL; rfl)
    | (apply r_faddL; rfl)
    | (apply r_l; apply ld_kind; assumption; rfl)
    | (apply r_l; apply ld_mn; assumption; rfl)
    | (apply r_l; apply ld_mx; assumption; rfl)
    | (apply r_l; apply ld_subs; assumption; rfl)
    | (apply r_l; apply ld_set; assumption; rfl)
    | (apply r_l; apply ld_node; assumption; rfl)
    | (apply r_l; apply ld_kind'; assumption; rfl)
    | (apply r_l; apply ld_mn'; assumption; rfl)
    | (apply r_l; apply ld_mx'; assumption; rfl)
    | (apply r_l; apply ld_subs'; assumption; rfl)
    | (apply r_l; apply ld_node'; assumption; rfl)
    | (apply r_p; apply ix_sub; rfl; rfl; omega)
    | (apply r_callA; rfl; rfl; apply ih' i hlt)
    | (apply r_mul; rfl; rfl; rfl; omega)
    | (apply r_ldL; rfl; rfl; rfl)
    | (apply r_eql; rfl; rfl; (first | (apply decide_eq_true; omega) | (apply decide_eq_false; omega) | rfl))
    | (apply r_neq; rfl; rfl; (first | (apply decide_eq_true; omega) | (apply decide_eq_false; omega) | rfl))
    | (apply r_lss; rfl; rfl; (first | (apply decide_eq_true; omega) | (apply decide_eq_false; omega) | rfl))
    | (apply r_add; rfl; rfl; rfl; omega)
    | (apply r_min2; rfl; rfl; rfl)
    | (apply r_lenD; rfl)
    | (apply r_lenL; rfl)
    | (apply r_len0; rfl)
    | (apply r_p; rfl)
    | (apply r_nilK)
    | (apply r_nil)
    | (apply k_V; rfl)
    | (apply k_P; rfl)
    | (apply k_PL; rfl)
    | (apply k_S; rfl)
    | (apply k_SL; rfl)
    | (apply k_A; rfl)
    | (apply k_T; rfl)
    | (apply k_F; rfl)
    | (apply k_D; rfl; rotate_left; rfl)
    | (apply k_nil)
    | (apply e_ret (vs := [.d (.val _)]); rfl)
    | (apply e_ret; rfl)
    | (apply e_ret' (vs := [.d (.val _)]); rfl)
    | (apply e_ret'; rfl)
    | (apply w_seq)
    | (apply w_ops; ((conv => lhs; simp only [Nat.reduceAdd]) <;> rfl))
    | (apply w_condT; rfl)
    | (apply w_condF; rfl)
    | ((apply w_condS; rfl) <;> (intro h; try simp only [decide_eq_true_eq, decide_eq_false_iff_not, Bool.not_eq_true, Bool.not_eq_false] at h))
    | (apply e_thenN)
    | (apply w_block)
    | (apply e_thenR)
    | (apply e_thenX)
    | (apply e_blkN)
    | (apply e_blkR)
    | (apply e_blkE)
    | (apply w_exit)
    | (apply w_ret)
    | (apply w_skip)
    | (apply e_blkE'; rfl))
        all_goals
          apply e_thenK; apply fin
          refine wk0 (by omega) ?_
          repeat' (first
    | exact FWk.nil
    | (apply FWk.i; rfl; (first | rfl | omega | (simp; done)))
    | (apply FWk.sl; rfl; rfl; rfl; rfl; omega; rfl)
    | (apply FWk.ptr; rfl; rfl; rfl; omega; rfl)
    | (apply FWk.d; rfl; rfl)
    | (apply FWk.a; rfl; rfl; rfl)
    | (apply FWk.slN; rfl; omega; rfl))
    · have eq : wideQ k mn mx (wideT subs[i]) = wideT subs[i] := by rw [wideQ, if_neg h5]
      rw [eq] at fin hq
      repeat' (first
    | (apply r_mvV; rfl)
    | (apply r_mvP; rfl)
    | (apply r_mvPL; rfl)
    | (apply r_mvS; rfl)
    | (apply r_mvSL; rfl)
    | (apply r_mvA; rfl)
    | (apply r_mvT; rfl)
    | (apply r_mvF; rfl)
    | (apply r_mvD; rfl)
    | (apply r_nckD; rfl)
    | (apply r_faddD; rfl)
    | (apply r_nckL; rfl)
    | (apply r_faddL; rfl)
    | (apply r_l; apply ld_kind; assumption; rfl)
    | (apply r_l; apply ld_mn; assumption; rfl)
    | (apply r_l; apply ld_mx; assumption; rfl)
    | (apply r_l; apply ld_subs; assumption; rfl)
    | (apply r_l; apply ld_set; assumption; rfl)
    | (apply r_l; apply ld_node; assumption; rfl)
    | (apply r_l; apply ld_kind'; assumption; rfl)
    | (apply r_l; apply ld_mn'; assumption; rfl)
    | (apply r_l; apply ld_mx'; assumption; rfl)
    | (apply r_l; apply ld_subs'; assumption; rfl)
    | (apply r_l; apply ld_node'; assumption; rfl)
    | (apply r_p; apply ix_sub; rfl; rfl; omega)
    | (apply r_callA; rfl; rfl; apply ih' i hlt)
    | (apply r_mul; rfl; rfl; rfl; omega)
    | (apply r_ldL; rfl; rfl; rfl)
    | (apply r_eql; rfl; rfl; (first | (apply decide_eq_true; omega) | (apply decide_eq_false; omega) | rfl))
    | (apply r_neq; rfl; rfl; (first | (apply decide_eq_true; omega) | (apply decide_eq_false; omega) | rfl))
    | (apply r_lss; rfl; rfl; (first | (apply decide_eq_true; omega) | (apply decide_eq_false; omega) | rfl))
    | (apply r_add; rfl; rfl; rfl; omega)
    | (apply r_min2; rfl; rfl; rfl)
    | (apply r_lenD; rfl)
    | (apply r_lenL; rfl)
    | (apply r_len0; rfl)
    | (apply r_p; rfl)
    | (apply r_nilK)
    | (apply r_nil)
    | (apply k_V; rfl)
    | (apply k_P; rfl)
    | (apply k_PL; rfl)
    | (apply k_S; rfl)
    | (apply k_SL; rfl)
    | (apply k_A; rfl)
    | (apply k_T; rfl)
    | (apply k_F; rfl)
    | (apply k_D; rfl; rotate_left; rfl)
    | (apply k_nil)
    | (apply e_ret (vs := [.d (.val _)]); rfl)
    | (apply e_ret; rfl)
    | (apply e_ret' (vs := [.d (.val _)]); rfl)
    | (apply e_ret'; rfl)
    | (apply w_seq)
    | (apply w_ops; ((conv => lhs; simp only [Nat.reduceAdd]) <;> rfl))
    | (apply w_condT; rfl)
    | (apply w_condF; rfl)
    | ((apply w_condS; rfl) <;> (intro h; try simp only [decide_eq_true_eq, decide_eq_false_iff_not, Bool.not_eq_true, Bool.not_eq_false] at h))
    | (apply e_thenN)
    | (apply w_block)
    | (apply e_thenR)
    | (apply e_thenX)
    | (apply e_blkN)
    | (apply e_blkR)
    | (apply e_blkE)
    | (apply w_exit)
    | (apply w_ret)
    | (apply w_skip)
    | (apply e_blkE'; rfl))
      all_goals
        apply e_thenK; apply fin
        refine wk0 (by omega) ?_
        repeat' (first
    | exact FWk.nil
    | (apply FWk.i; rfl; (first | rfl | omega | (simp; done)))
    | (apply FWk.sl; rfl; rfl; rfl; rfl; omega; rfl)
    | (apply FWk.ptr; rfl; rfl; rfl; omega; rfl)
    | (apply FWk.d; rfl; rfl)
    | (apply FWk.a; rfl; rfl; rfl)
    | (apply FWk.slN; rfl; omega; rfl))
  · have e : wideT (.node k a b c d mn mx subs) = w := by
      rw [hi.2.2, List.drop_of_length_le (by omega), wideL]
    repeat' (first
    | (apply r_mvV; rfl)
    | (apply r_mvP; rfl)
    | (apply r_mvPL; rfl)
    | (apply r_mvS; rfl)
    | (apply r_mvSL; rfl)
    | (apply r_mvA; rfl)
    | (apply r_mvT; rfl)
    | (apply r_mvF; rfl)
    | (apply r_mvD; rfl)
    | (apply r_nckD; rfl)
    | (apply r_faddD; rfl)
    | (apply r_nckL; rfl)
    | (apply r_faddL; rfl)
    | (apply r_l; apply ld_kind; assumption; rfl)
    | (apply r_l; apply ld_mn; assumption; rfl)
    | (apply r_l; apply ld_mx; assumption; rfl)
    | (apply r_l; apply ld_subs; assumption; rfl)
    | (apply r_l; apply ld_set; assumption; rfl)
    | (apply r_l; apply ld_node; assumption; rfl)
    | (apply r_l; apply ld_kind'; assumption; rfl)
    | (apply r_l; apply ld_mn'; assumption; rfl)
    | (apply r_l; apply ld_mx'; assumption; rfl)
    | (apply r_l; apply ld_subs'; assumption; rfl)
    | (apply r_l; apply ld_node'; assumption; rfl)
    | (apply r_ldL; rfl; rfl; rfl)
    | (apply r_eql; rfl; rfl; (first | (apply decide_eq_true; omega) | (apply decide_eq_false; omega) | rfl))
    | (apply r_neq; rfl; rfl; (first | (apply decide_eq_true; omega) | (apply decide_eq_false; omega) | rfl))
    | (apply r_lss; rfl; rfl; (first | (apply decide_eq_true; omega) | (apply decide_eq_false; omega) | rfl))
    | (apply r_add; rfl; rfl; rfl; omega)
    | (apply r_min2; rfl; rfl; rfl)
    | (apply r_lenD; rfl)
    | (apply r_lenL; rfl)
    | (apply r_len0; rfl)
    | (apply r_p; rfl)
    | (apply r_nilK)
    | (apply r_nil)
    | (apply k_V; rfl)
    | (apply k_P; rfl)
    | (apply k_PL; rfl)
    | (apply k_S; rfl)
    | (apply k_SL; rfl)
    | (apply k_A; rfl)
    | (apply k_T; rfl)
    | (apply k_F; rfl)
    | (apply k_D; rfl; rotate_left; rfl)
    | (apply k_nil)
    | (apply e_ret (vs := [.d (.val _)]); rfl)
    | (apply e_ret; rfl)
    | (apply e_ret' (vs := [.d (.val _)]); rfl)
    | (apply e_ret'; rfl)
    | (apply w_seq)
    | (apply w_ops; ((conv => lhs; simp only [Nat.reduceAdd]) <;> rfl))
    | (apply w_condT; rfl)
    | (apply w_condF; rfl)
    | ((apply w_condS; rfl) <;> (intro h; try simp only [decide_eq_true_eq, decide_eq_false_iff_not, Bool.not_eq_true, Bool.not_eq_false] at h))
    | (apply e_thenN)
    | (apply w_block)
    | (apply e_thenR)
    | (apply e_thenX)
    | (apply e_blkN)
    | (apply e_blkR)
    | (apply e_blkE)
    | (apply w_exit)
    | (apply w_ret)
    | (apply w_skip)
    | (apply e_blkE'; rfl))
    exact retI e.symm
theorem mWide_good (t : T) (hc : t.cnt ≤ 1000000) (hok : fitsT t 12 = true → okT t) : Good Try.prog 68 [nodeA t] none (.i (if fitsT t 12 = true then wideT t else 0)) none none := by
  have hright := right_good t hc
  have hw := fun (h : fitsT t 12 = true) => mwide_good 1000000 t (encN t) 0 (NodeAt.self _) hc (Nat.le_refl _) (hok h)
  obtain ⟨k, a, b, c, d, mn, mx, subs⟩ := t
  have e0 : nodeA (.node k a b c d mn mx subs) = .agg [.i k, .d (.val (.int .u64 a)), .d (.val (.int .u64 b)), .d (.val (.int .u64 c)), .d (.val (.int .u64 d)), .i mn, .i mx, .d (.sl (encL subs) subs.length)] := rfl
  rw [e0] at hright ⊢
  refine b68 (by simp) (by simp) (w_init ?_)
  unfold x68
  rcases Bool.eq_false_or_eq_true (fitsT (.node k a b c d mn mx subs) 12) with hR | hR
  case inr =>
    rw [hR] at hright
    repeat' (first
    | (apply r_mvV; rfl)
    | (apply r_mvP; rfl)
    | (apply r_mvPL; rfl)
    | (apply r_mvS; rfl)
    | (apply r_mvSL; rfl)
    | (apply r_mvA; rfl)
    | (apply r_mvT; rfl)
    | (apply r_mvF; rfl)
    | (apply r_mvD; rfl)
    | (apply r_l; apply ld_kind; assumption; rfl)
    | (apply r_l; apply ld_mn; assumption; rfl)
    | (apply r_l; apply ld_mx; assumption; rfl)
    | (apply r_l; apply ld_subs; assumption; rfl)
    | (apply r_l; apply ld_set; assumption; rfl)
    | (apply r_l; apply ld_node; assumption; rfl)
    | (apply r_l; apply ld_kind'; assumption; rfl)
    | (apply r_l; apply ld_mn'; assumption; rfl)
    | (apply r_l; apply ld_mx'; assumption; rfl)
    | (apply r_l; apply ld_subs'; assumption; rfl)
    | (apply r_l; apply ld_node'; assumption; rfl)
    | (apply r_callA; rfl; rfl; exact hright)
    | (apply r_ldL; rfl; rfl; rfl)
    | (apply r_not; rfl; rfl)
    | (apply r_box; ((conv => lhs; simp only [Nat.reduceAdd]) <;> rfl); rfl; rfl; rfl)
    | (apply r_nilK)
    | (apply r_nil)
    | (apply k_V; rfl)
    | (apply k_P; rfl)
    | (apply k_PL; rfl)
    | (apply k_S; rfl)
    | (apply k_SL; rfl)
    | (apply k_A; rfl)
    | (apply k_T; rfl)
    | (apply k_F; rfl)
    | (apply k_D; rfl; rotate_left; rfl)
    | (apply k_nil)
    | (apply e_ret (vs := [.d (.val _)]); rfl)
    | (apply e_ret; rfl)
    | (apply e_ret' (vs := [.d (.val _)]); rfl)
    | (apply e_ret'; rfl)
    | (apply w_seq)
    | (apply w_ops; ((conv => lhs; simp only [Nat.reduceAdd]) <;> rfl))
    | (apply w_condT; rfl)
    | (apply w_condF; rfl)
    | ((apply w_condS; rfl) <;> (intro h; try simp only [decide_eq_true_eq, decide_eq_false_iff_not, Bool.not_eq_true, Bool.not_eq_false] at h))
    | (apply e_thenN)
    | (apply w_block)
    | (apply e_thenR)
    | (apply e_thenX)
    | (apply e_blkN)
    | (apply e_blkR)
    | (apply e_blkE)
    | (apply w_exit)
    | (apply w_ret)
    | (apply w_skip)
    | (apply e_blkE'; rfl))
    exact retI (by simp [hR])
  rw [hR] at hright
  have hw := hw hR
  repeat' (first
    | (apply r_mvV; rfl)
    | (apply r_mvP; rfl)
    | (apply r_mvPL; rfl)
    | (apply r_mvS; rfl)
    | (apply r_mvSL; rfl)
    | (apply r_mvA; rfl)
    | (apply r_mvT; rfl)
    | (apply r_mvF; rfl)
    | (apply r_mvD; rfl)
    | (apply r_l; apply ld_kind; assumption; rfl)
    | (apply r_l; apply ld_mn; assumption; rfl)
    | (apply r_l; apply ld_mx; assumption; rfl)
    | (apply r_l; apply ld_subs; assumption; rfl)
    | (apply r_l; apply ld_set; assumption; rfl)
    | (apply r_l; apply ld_node; assumption; rfl)
    | (apply r_l; apply ld_kind'; assumption; rfl)
    | (apply r_l; apply ld_mn'; assumption; rfl)
    | (apply r_l; apply ld_mx'; assumption; rfl)
    | (apply r_l; apply ld_subs'; assumption; rfl)
    | (apply r_l; apply ld_node'; assumption; rfl)
    | (apply r_callA; rfl; rfl; exact hright)
    | (apply r_call (bs := [.d (.ptr (encN (.node k a b c d mn mx subs)) 0)]) (us := [1]); rfl; rfl; exact hw; rfl)
    | (apply r_ldL; rfl; rfl; rfl)
    | (apply r_not; rfl; rfl)
    | (apply r_box; ((conv => lhs; simp only [Nat.reduceAdd]) <;> rfl); rfl; rfl; rfl)
    | (apply r_nilK)
    | (apply r_nil)
    | (apply k_V; rfl)
    | (apply k_P; rfl)
    | (apply k_PL; rfl)
    | (apply k_S; rfl)
    | (apply k_SL; rfl)
    | (apply k_A; rfl)
    | (apply k_T; rfl)
    | (apply k_F; rfl)
    | (apply k_D; rfl; rotate_left; rfl)
    | (apply k_nil)
    | (apply e_ret (vs := [.d (.val _)]); rfl)
    | (apply e_ret; rfl)
    | (apply e_ret' (vs := [.d (.val _)]); rfl)
    | (apply e_ret'; rfl)
    | (apply w_seq)
    | (apply w_ops; ((conv => lhs; simp only [Nat.reduceAdd]) <;> rfl))
    | (apply w_condT; rfl)
    | (apply w_condF; rfl)
    | ((apply w_condS; rfl) <;> (intro h; try simp only [decide_eq_true_eq, decide_eq_false_iff_not, Bool.not_eq_true, Bool.not_eq_false] at h))
    | (apply e_thenN)
    | (apply w_block)
    | (apply e_thenR)
    | (apply e_thenX)
    | (apply e_blkN)
    | (apply e_blkR)
    | (apply e_blkE)
    | (apply w_exit)
    | (apply w_ret)
    | (apply w_skip)
    | (apply e_blkE'; rfl))
  exact retI (by simp [hR])
end Go.Sv
namespace Go.Sv
open Go Go.Proofs
mutual
def xT : T → T
  | .node k a b c d mn mx subs => if k = 5 then repT ((xL subs).headD (.node 1 0 0 0 0 0 0 [])) mn.toNat mx else if k = 3 ∨ k = 4 then .node k 0 0 0 0 0 0 (xL subs) else .node k a b c d mn mx subs
def xL : List T → List T
  | [] => []
  | t :: l => xT t :: xL l
end
theorem xL_len : ∀ l : List T, (xL l).length = l.length
  | [] => rfl
  | t :: l => by rw [xL, List.length_cons, xL_len l, List.length_cons]
theorem xL_get : ∀ (l : List T) (i : Nat) (h : i < l.length) (h2 : i < (xL l).length), (xL l)[i] = xT l[i]
  | t :: l, 0, _, _ => by simp [xL]
  | t :: l, i + 1, h, h2 => by
    simp only [xL, List.getElem_cons_succ]
    exact xL_get l i (by simpa using h) _
theorem xL_take (l : List T) (i : Nat) (h : i < l.length) : encL ((xL l).take (i + 1)) = encL ((xL l).take i) ++ encN (xT l[i]) := by
  have h2 : i < (xL l).length := by rw [xL_len]; exact h
  rw [List.take_succ_eq_append_getElem h2, encL_app, xL_get l i h h2, encL, encL, List.append_nil]
theorem ret_catK {C : Heap} {Z : Frz} {live : Bool} {k : Int} {id m : Nat} {row : List AV} {L : List T} {us : List Nat} (hC : C id = some row) (hm : L.length = m) (hl : row.length = m * 8) (h0 : 0 < m) (hr : mapO (convC C (fun _ => false) 8) row = some (encL L, us)) : RetOK C Z (tupOf [.agg [.i k, .d (.val (.int .u64 0)), .d (.val (.int .u64 0)), .d (.val (.int .u64 0)), .d (.val (.int .u64 0)), .i 0, .i 0, .slL id 0 m 8]]) live (nodeA (.node k 0 0 0 0 0 0 L)) none none := by
  refine .data _ ?_
  have h := conv_row (ex := fun _ => false) hC hl h0 rfl hr
  have hd : ∀ z : Value, (z = .int .i64 k ∨ z = .int .u64 0 ∨ z = .int .i64 0) → convC C (fun _ => false) 9 (.d (.val z)) = some (.val z, []) := by
    rintro z (rfl | rfl | rfl) <;> rfl
  simp only [tupOf, convT, convA, mapO, h, hd _ (.inl rfl), hd _ (.inr (.inl rfl)), hd _ (.inr (.inr rfl)), Option.bind_some, Option.map_some]
  subst hm
  rfl
set_option maxRecDepth 100000
set_option maxHeartbeats 4000000
attribute [local irreducible] W E R KP thenK blockK retK Good xwp aRun
theorem xrep_good (t : T) (mn mx : Int) (h : 0 ≤ mn ∧ mn ≤ 20) (h2 : mx = -1 ∨ (mn ≤ mx ∧ mx ≤ 20)) : Good Try.prog 147 [nodeA t, .i mn, .i mx] none (nodeA (repT t mn.toNat mx)) none none := by
  obtain ⟨lo, rfl⟩ := Int.eq_ofNat_of_zero_le h.1
  rcases h2 with rfl | h2
  · exact rep_neg t lo (by omega)
  · obtain ⟨hi, rfl⟩ := Int.eq_ofNat_of_zero_le (show 0 ≤ mx by omega)
    exact rep_pos t lo hi (by omega) (by omega)
theorem xplain_good : ∀ (n : Nat) (t : T), t.cnt ≤ n → n ≤ 1000000 → okT t → Good Try.prog 115 [nodeA t] none (nodeA (xT t)) none none := by
  intro n
  induction n with
  | zero => intro t ht; have := cnt_pos t; omega
  | succ n ih =>
  intro t ht hc hok
  obtain ⟨k, a, b, c, d, mn, mx, subs⟩ := t
  have hR := okT_R hok
  have hoks : okL subs := by simp only [okT] at hok; exact hok.2
  have hpl : plainT (.node k a b c d mn mx subs) = true := by simp only [okT, okN] at hok; exact hok.1.2.2.2.2
  have ih' : ∀ i (h : i < subs.length), Good Try.prog 115 [nodeA subs[i]] none (nodeA (xT subs[i])) none none := by
    intro i h
    refine ih _ ?_ (by omega) (okL_get subs i h hoks)
    have := cntL_get subs i h
    simp only [T.cnt] at ht
    omega
  have hlen : subs.length ≤ 1000000 := by
    have := cntL_len subs
    simp only [T.cnt] at ht
    omega
  have e0 : nodeA (.node k a b c d mn mx subs) = .agg [.i k, .d (.val (.int .u64 a)), .d (.val (.int .u64 b)), .d (.val (.int .u64 c)), .d (.val (.int .u64 d)), .i mn, .i mx, .d (.sl (encL subs) subs.length)] := rfl
  clear hok
  by_cases h5 : k = 5
  · have hl0 : 0 < subs.length := by
      simp [plainT, h5] at hpl
      omega
    have hs := NodeAt.sub hl0
    have hi0 := ih' 0 hl0
    have ex : xT (.node k a b c d mn mx subs) = repT (xT (subs[0]'hl0)) mn.toNat mx := by
      rw [xT, if_pos h5]
      match subs, hl0 with
      | u :: l, _ => rfl
    have hr := xrep_good (xT (subs[0]'hl0)) mn mx (hR h5).1 (hR h5).2
    rw [ex, e0]
    clear ex
    generalize xT (subs[0]'hl0) = u at hi0 hr
    generalize repT u mn.toNat mx = v at hr
    have hna : [nodeA (subs[0]'hl0)].all AV.nrm = true := by rw [List.all_cons, nodeA_nrm]; rfl
    have hnb : [nodeA u, .i mn, .i mx].all AV.nrm = true := by rw [List.all_cons, nodeA_nrm]; rfl
    obtain ⟨k2, a2, b2, c2, d2, mn2, mx2, subs2⟩ := v
    refine b115 (by simp) (by simp) (w_init ?_)
    unfold x115
    repeat' (first
    | (apply r_mvV; rfl)
    | (apply r_mvP; rfl)
    | (apply r_mvPL; rfl)
    | (apply r_mvS; rfl)
    | (apply r_mvSL; rfl)
    | (apply r_mvA; rfl)
    | (apply r_mvT; rfl)
    | (apply r_mvF; rfl)
    | (apply r_mvD; rfl)
    | (apply r_faddD; rfl)
    | (apply r_faddL; rfl)
    | (apply r_l; apply ld_kind; assumption; rfl)
    | (apply r_l; apply ld_mn; assumption; rfl)
    | (apply r_l; apply ld_mx; assumption; rfl)
    | (apply r_l; apply ld_subs; assumption; rfl)
    | (apply r_l; apply ld_set; assumption; rfl)
    | (apply r_l; apply ld_node; assumption; rfl)
    | (apply r_l; apply ld_kind'; assumption; rfl)
    | (apply r_l; apply ld_mn'; assumption; rfl)
    | (apply r_l; apply ld_mx'; assumption; rfl)
    | (apply r_l; apply ld_subs'; assumption; rfl)
    | (apply r_l; apply ld_node'; assumption; rfl)
    | (apply r_p; apply ix_sub0; rfl; rfl; exact hl0)
    | (apply r_l; apply ld_node'; exact hs; rfl)
    | (apply r_callA (ags := [nodeA (subs[0]'hl0)]); rfl; exact hna; exact hi0)
    | (apply r_callA (ags := [nodeA u, .i mn, .i mx]); rfl; exact hnb; exact hr)
    | (apply r_ldL; rfl; rfl; rfl)
    | (apply r_eql; rfl; rfl; (first | (apply decide_eq_true; omega) | (apply decide_eq_false; omega) | rfl))
    | (apply r_lss; rfl; rfl; (first | (apply decide_eq_true; omega) | (apply decide_eq_false; omega) | rfl))
    | (apply r_add; rfl; rfl; rfl; omega)
    | (apply r_lenD; rfl)
    | (apply r_lenL; rfl)
    | (apply r_len0; rfl)
    | (apply r_alloc; ((conv => lhs; simp only [Nat.reduceAdd]) <;> rfl); rfl)
    | (apply r_box; ((conv => lhs; simp only [Nat.reduceAdd]) <;> rfl); rfl; rfl; rfl)
    | (apply r_stL; rfl; rfl; rfl; rfl; (first | rfl | (simp only [z_nil, z_add] <;> rfl)); rfl; rfl)
    | (apply r_p; rfl)
    | (apply r_nilK)
    | (apply r_nil)
    | (apply k_V; rfl)
    | (apply k_P; rfl)
    | (apply k_PL; rfl)
    | (apply k_S; rfl)
    | (apply k_SL; rfl)
    | (apply k_A; rfl)
    | (apply k_T; rfl)
    | (apply k_F; rfl)
    | (apply k_D; rfl; rotate_left; rfl)
    | (apply k_nil)
    | (apply e_ret (vs := [.d (.val _)]); rfl)
    | (apply e_ret; rfl)
    | (apply e_ret' (vs := [.d (.val _)]); rfl)
    | (apply e_ret'; rfl)
    | (apply w_seq)
    | (apply w_ops; ((conv => lhs; simp only [Nat.reduceAdd]) <;> rfl))
    | (apply w_condT; rfl)
    | (apply w_condF; rfl)
    | ((apply w_condS; rfl) <;> (intro h; try simp only [decide_eq_true_eq, decide_eq_false_iff_not, Bool.not_eq_true, Bool.not_eq_false] at h))
    | (apply e_thenN)
    | (apply w_block)
    | (apply e_thenR)
    | (apply e_thenX)
    | (apply e_blkN)
    | (apply e_blkR)
    | (apply e_blkE)
    | (apply w_exit)
    | (apply w_ret)
    | (apply w_skip)
    | (apply e_blkE'; rfl))
    trace_state
    exact .data _ rfl
  by_cases h34 : k = 3 ∨ k = 4
  case neg =>
    have ex : xT (.node k a b c d mn mx subs) = .node k a b c d mn mx subs := by rw [xT, if_neg h5, if_neg h34]
    rw [ex, e0]
    have h3 : k ≠ 3 := fun h => h34 (.inl h)
    have h4 : k ≠ 4 := fun h => h34 (.inr h)
    refine b115 (by simp) (by simp) (w_init ?_)
    unfold x115
    repeat' (first
    | (apply r_mvV; rfl)
    | (apply r_mvP; rfl)
    | (apply r_mvPL; rfl)
    | (apply r_mvS; rfl)
    | (apply r_mvSL; rfl)
    | (apply r_mvA; rfl)
    | (apply r_mvT; rfl)
    | (apply r_mvF; rfl)
    | (apply r_mvD; rfl)
    | (apply r_faddD; rfl)
    | (apply r_faddL; rfl)
    | (apply r_l; apply ld_kind; assumption; rfl)
    | (apply r_l; apply ld_mn; assumption; rfl)
    | (apply r_l; apply ld_mx; assumption; rfl)
    | (apply r_l; apply ld_subs; assumption; rfl)
    | (apply r_l; apply ld_set; assumption; rfl)
    | (apply r_l; apply ld_node; assumption; rfl)
    | (apply r_l; apply ld_kind'; assumption; rfl)
    | (apply r_l; apply ld_mn'; assumption; rfl)
    | (apply r_l; apply ld_mx'; assumption; rfl)
    | (apply r_l; apply ld_subs'; assumption; rfl)
    | (apply r_l; apply ld_node'; assumption; rfl)
    | (apply r_ldL; rfl; rfl; rfl)
    | (apply r_eql; rfl; rfl; (first | (apply decide_eq_true; omega) | (apply decide_eq_false; omega) | rfl))
    | (apply r_lss; rfl; rfl; (first | (apply decide_eq_true; omega) | (apply decide_eq_false; omega) | rfl))
    | (apply r_add; rfl; rfl; rfl; omega)
    | (apply r_lenD; rfl)
    | (apply r_lenL; rfl)
    | (apply r_len0; rfl)
    | (apply r_alloc; ((conv => lhs; simp only [Nat.reduceAdd]) <;> rfl); rfl)
    | (apply r_box; ((conv => lhs; simp only [Nat.reduceAdd]) <;> rfl); rfl; rfl; rfl)
    | (apply r_stL; rfl; rfl; rfl; rfl; (first | rfl | (simp only [z_nil, z_add] <;> rfl)); rfl; rfl)
    | (apply r_p; rfl)
    | (apply r_nilK)
    | (apply r_nil)
    | (apply k_V; rfl)
    | (apply k_P; rfl)
    | (apply k_PL; rfl)
    | (apply k_S; rfl)
    | (apply k_SL; rfl)
    | (apply k_A; rfl)
    | (apply k_T; rfl)
    | (apply k_F; rfl)
    | (apply k_D; rfl; rotate_left; rfl)
    | (apply k_nil)
    | (apply e_ret (vs := [.d (.val _)]); rfl)
    | (apply e_ret; rfl)
    | (apply e_ret' (vs := [.d (.val _)]); rfl)
    | (apply e_ret'; rfl)
    | (apply w_seq)
    | (apply w_ops; ((conv => lhs; simp only [Nat.reduceAdd]) <;> rfl))
    | (apply w_condT; rfl)
    | (apply w_condF; rfl)
    | ((apply w_condS; rfl) <;> (intro h; try simp only [decide_eq_true_eq, decide_eq_false_iff_not, Bool.not_eq_true, Bool.not_eq_false] at h))
    | (apply e_thenN)
    | (apply w_block)
    | (apply e_thenR)
    | (apply e_thenX)
    | (apply e_blkN)
    | (apply e_blkR)
    | (apply e_blkE)
    | (apply w_exit)
    | (apply w_ret)
    | (apply w_skip)
    | (apply e_blkE'; rfl))
    exact .data _ rfl
  have ex : xT (.node k a b c d mn mx subs) = .node k 0 0 0 0 0 0 (xL subs) := by rw [xT, if_neg h5, if_pos h34]
  rw [ex, e0]
  have hl0 : 0 < subs.length := by
    rcases h34 with h | h <;> (simp [plainT, h] at hpl; omega)
  rcases h34 with h3 | h4
  · subst h3
    refine b115 (by simp) (by simp) (w_init ?_)
    unfold x115
    repeat' (first
    | (apply r_mvV; rfl)
    | (apply r_mvP; rfl)
    | (apply r_mvPL; rfl)
    | (apply r_mvS; rfl)
    | (apply r_mvSL; rfl)
    | (apply r_mvA; rfl)
    | (apply r_mvT; rfl)
    | (apply r_mvF; rfl)
    | (apply r_mvD; rfl)
    | (apply r_faddD; rfl)
    | (apply r_faddL; rfl)
    | (apply r_l; apply ld_kind; assumption; rfl)
    | (apply r_l; apply ld_mn; assumption; rfl)
    | (apply r_l; apply ld_mx; assumption; rfl)
    | (apply r_l; apply ld_subs; assumption; rfl)
    | (apply r_l; apply ld_set; assumption; rfl)
    | (apply r_l; apply ld_node; assumption; rfl)
    | (apply r_l; apply ld_kind'; assumption; rfl)
    | (apply r_l; apply ld_mn'; assumption; rfl)
    | (apply r_l; apply ld_mx'; assumption; rfl)
    | (apply r_l; apply ld_subs'; assumption; rfl)
    | (apply r_l; apply ld_node'; assumption; rfl)
    | (apply r_ldL; rfl; rfl; rfl)
    | (apply r_eql; rfl; rfl; (first | (apply decide_eq_true; omega) | (apply decide_eq_false; omega) | rfl))
    | (apply r_lss; rfl; rfl; (first | (apply decide_eq_true; omega) | (apply decide_eq_false; omega) | rfl))
    | (apply r_add; rfl; rfl; rfl; omega)
    | (apply r_lenD; rfl)
    | (apply r_lenL; rfl)
    | (apply r_len0; rfl)
    | (apply r_alloc; ((conv => lhs; simp only [Nat.reduceAdd]) <;> rfl); rfl)
    | (apply r_box; ((conv => lhs; simp only [Nat.reduceAdd]) <;> rfl); rfl; rfl; rfl)
    | (apply r_stL; rfl; rfl; rfl; rfl; (first | rfl | (simp only [z_nil, z_add] <;> rfl)); rfl; rfl)
    | (apply r_p; rfl)
    | (apply r_nilK)
    | (apply r_nil)
    | (apply k_V; rfl)
    | (apply k_P; rfl)
    | (apply k_PL; rfl)
    | (apply k_S; rfl)
    | (apply k_SL; rfl)
    | (apply k_A; rfl)
    | (apply k_T; rfl)
    | (apply k_F; rfl)
    | (apply k_D; rfl; rotate_left; rfl)
    | (apply k_nil)
    | (apply e_ret (vs := [.d (.val _)]); rfl)
    | (apply e_ret; rfl)
    | (apply e_ret' (vs := [.d (.val _)]); rfl)
    | (apply e_ret'; rfl)
    | (apply w_seq)
    | (apply w_ops; ((conv => lhs; simp only [Nat.reduceAdd]) <;> rfl))
    | (apply w_condT; rfl)
    | (apply w_condF; rfl)
    | ((apply w_condS; rfl) <;> (intro h; try simp only [decide_eq_true_eq, decide_eq_false_iff_not, Bool.not_eq_true, Bool.not_eq_false] at h))
    | (apply e_thenN)
    | (apply w_block)
    | (apply e_thenR)
    | (apply e_thenX)
    | (apply e_blkN)
    | (apply e_blkR)
    | (apply e_blkE)
    | (apply w_exit)
    | (apply w_ret)
    | (apply w_skip)
    | (apply e_blkE'; rfl))
    apply w_loopI (S := fun i : Nat => ⟨((((Fr.nil.put 2 (.ptrL 2 0)).put 3 (.ptrL 12 0)).put 27 (.d (.sl (encL subs) subs.length))).put 28 (.i subs.length)).put 29 (.i i), rowsOf [(2, zeroA zsN), (12, [.i 3, .d (.val (.int .u64 0)), .d (.val (.int .u64 0)), .d (.val (.int .u64 0)), .d (.val (.int .u64 0)), .i 0, .i 0, .slL 50 0 i 8]), (50, (encL ((xL subs).take i)).map AV.d)], Frz.buts 100 [2, 12, 50], 100⟩) (m := fun i => subs.length - i) (I := fun i => i ≤ subs.length) (i0 := 0)
    · exact Nat.zero_le _
    · refine wkG 50 1000000 true (by omega) (by omega) ?_ ?_ ?_ ?_
      · intro p hp
        simp only [List.mem_cons, List.not_mem_nil, or_false] at hp
        rcases hp with rfl | rfl | rfl
        · exact ⟨by omega, .inr ⟨rfl, _, rfl, .data rfl⟩⟩
        · exact ⟨by omega, .inr ⟨rfl, _, rfl, .cons (.d _) (.cons (.d _) (.cons (.d _) (.cons (.d _) (.cons (.d _) (.cons (.d _) (.cons (.d _) (.cons (.slN _ _ (by omega) rfl) .nil)))))))⟩⟩
        · exact ⟨by omega, .inl ⟨rfl, rfl, rfl⟩⟩
      · intro q hq; simp only [List.mem_cons, List.not_mem_nil, or_false] at hq; rcases hq with rfl | rfl | rfl <;> rfl
      · intro p hp
        simp only [List.mem_cons, List.not_mem_nil, or_false] at hp
        rcases hp with rfl | rfl | rfl <;> (intro _; simp)
      · repeat' (first
    | exact FWk.nil
    | (apply FWk.i; rfl; (first | rfl | omega | (simp; done)))
    | (apply FWk.sl; rfl; rfl; rfl; rfl; omega; rfl)
    | (apply FWk.ptr; rfl; rfl; rfl; omega; rfl)
    | (apply FWk.d; rfl; rfl)
    | (apply FWk.a; rfl; rfl; rfl)
    | (apply FWk.slN; rfl; omega; rfl))
    intro i K hi hK
    dsimp only
    rcases Nat.lt_or_ge i subs.length with hlt | hge
    · have hs := NodeAt.sub hlt
      have hg := ih' i hlt
      have htk := xL_take subs i hlt
      have hrl : ((encL ((xL subs).take i)).map AV.d).length = i * 8 := by
        rw [List.length_map, encL_length, List.length_take, xL_len]; omega
      have hna : [nodeA subs[i]].all AV.nrm = true := by rw [List.all_cons, nodeA_nrm]; rfl
      generalize xT subs[i] = u at hg htk
      generalize subs[i] = v at hs hg hna
      obtain ⟨k2, a2, b2, c2, d2, mn2, mx2, subs2⟩ := u
      obtain ⟨k3, a3, b3, c3, d3, mn3, mx3, subs3⟩ := v
      repeat' (first
    | (apply r_mvV; rfl)
    | (apply r_mvP; rfl)
    | (apply r_mvPL; rfl)
    | (apply r_mvS; rfl)
    | (apply r_mvSL; rfl)
    | (apply r_mvA; rfl)
    | (apply r_mvT; rfl)
    | (apply r_mvF; rfl)
    | (apply r_mvD; rfl)
    | (apply r_faddD; rfl)
    | (apply r_faddL; rfl)
    | (apply r_p; apply ix_sub; rfl; rfl; omega)
    | (apply r_l; apply ld_node'; exact hs; rfl)
    | (apply r_callA (ags := [nodeA (.node k3 a3 b3 c3 d3 mn3 mx3 subs3)]); rfl; exact hna; exact hg)
    | (apply r_ldL (v := nodeA (.node k3 a3 b3 c3 d3 mn3 mx3 subs3)); rfl; rfl; rfl)
    | (apply r_n (v := .slL 109 0 1 8) (r := [.i k2, .d (.val (.int .u64 a2)), .d (.val (.int .u64 b2)), .d (.val (.int .u64 c2)), .d (.val (.int .u64 d2)), .i mn2, .i mx2, .d (.sl (encL subs2) subs2.length)]); rfl)
    | (apply r_appN (b := 50) (c := 109) (id := 110) (m := i) (j := 1) (r := (encL ((xL subs).take i)).map AV.d) (src := [.i k2, .d (.val (.int .u64 a2)), .d (.val (.int .u64 b2)), .d (.val (.int .u64 c2)), .d (.val (.int .u64 d2)), .i mn2, .i mx2, .d (.sl (encL subs2) subs2.length)]); rfl; rfl; rfl; rfl; exact hrl; rfl; rfl; rfl; rfl; omega)
    | (apply r_ldL; rfl; rfl; rfl)
    | (apply r_eql; rfl; rfl; (first | (apply decide_eq_true; omega) | (apply decide_eq_false; omega) | rfl))
    | (apply r_lss; rfl; rfl; (first | (apply decide_eq_true; omega) | (apply decide_eq_false; omega) | rfl))
    | (apply r_add; rfl; rfl; rfl; omega)
    | (apply r_lenD; rfl)
    | (apply r_lenL; rfl)
    | (apply r_len0; rfl)
    | (apply r_alloc; ((conv => lhs; simp only [Nat.reduceAdd]) <;> rfl); rfl)
    | (apply r_box; ((conv => lhs; simp only [Nat.reduceAdd]) <;> rfl); rfl; rfl; rfl)
    | (apply r_stL; rfl; rfl; rfl; rfl; (first | rfl | (simp only [z_nil, z_add] <;> rfl)); rfl; rfl)
    | (apply r_p; rfl)
    | (apply r_nilK)
    | (apply r_nil)
    | (apply k_V; rfl)
    | (apply k_P; rfl)
    | (apply k_PL; rfl)
    | (apply k_S; rfl)
    | (apply k_SL; rfl)
    | (apply k_A; rfl)
    | (apply k_T; rfl)
    | (apply k_F; rfl)
    | (apply k_D; rfl; rotate_left; rfl)
    | (apply k_nil)
    | (apply e_ret (vs := [.d (.val _)]); rfl)
    | (apply e_ret; rfl)
    | (apply e_ret' (vs := [.d (.val _)]); rfl)
    | (apply e_ret'; rfl)
    | (apply w_seq)
    | (apply w_ops; ((conv => lhs; simp only [Nat.reduceAdd]) <;> rfl))
    | (apply w_condT; rfl)
    | (apply w_condF; rfl)
    | ((apply w_condS; rfl) <;> (intro h; try simp only [decide_eq_true_eq, decide_eq_false_iff_not, Bool.not_eq_true, Bool.not_eq_false] at h))
    | (apply e_thenN)
    | (apply w_block)
    | (apply e_thenR)
    | (apply e_thenX)
    | (apply e_blkN)
    | (apply e_blkR)
    | (apply e_blkE)
    | (apply w_exit)
    | (apply w_ret)
    | (apply w_skip)
    | (apply e_blkE'; rfl))
      trace_state
      apply e_thenK
      apply hK (i + 1)
      · omega
      · omega
      · refine wkG 50 110 false (by omega) (by omega) ?_ ?_ ?_ ?_
        · intro p hp
          simp only [List.mem_cons, List.not_mem_nil, or_false] at hp
          rcases hp with rfl | rfl | rfl
          · exact ⟨by omega, .inr ⟨rfl, _, rfl, .data rfl⟩⟩
          · exact ⟨by omega, .inr ⟨rfl, _, rfl, .cons (.d _) (.cons (.d _) (.cons (.d _) (.cons (.d _) (.cons (.d _) (.cons (.d _) (.cons (.d _) (.cons (.slL _ _ _ _ _ rfl (by omega) rfl) .nil)))))))⟩⟩
          · refine ⟨by omega, .inr ⟨rfl, (encL ((xL subs).take (i + 1))).map AV.d, ?_, .data (by rw [List.all_map]; simp [AV.isD])⟩⟩
            rw [htk, List.map_append]; rfl
        · intro q hq; simp only [List.mem_cons, List.not_mem_nil, or_false] at hq; rcases hq with rfl | rfl | rfl <;> rfl
        · intro p hp
          simp only [List.mem_cons, List.not_mem_nil, or_false] at hp
          rcases hp with rfl | rfl | rfl <;> (intro _; simp)
        · repeat' (first
    | exact FWk.nil
    | (apply FWk.i; rfl; (first | rfl | omega | (simp; done)))
    | (apply FWk.sl; rfl; rfl; rfl; rfl; omega; rfl)
    | (apply FWk.ptr; rfl; rfl; rfl; omega; rfl)
    | (apply FWk.d; rfl; rfl)
    | (apply FWk.a; rfl; rfl; rfl)
    | (apply FWk.slN; rfl; omega; rfl))
    · have ei : i = subs.length := by omega
      subst ei
      repeat' (first
    | (apply r_mvV; rfl)
    | (apply r_mvP; rfl)
    | (apply r_mvPL; rfl)
    | (apply r_mvS; rfl)
    | (apply r_mvSL; rfl)
    | (apply r_mvA; rfl)
    | (apply r_mvT; rfl)
    | (apply r_mvF; rfl)
    | (apply r_mvD; rfl)
    | (apply r_faddD; rfl)
    | (apply r_faddL; rfl)
    | (apply r_ldL (v := .agg [.i 3, .d (.val (.int .u64 0)), .d (.val (.int .u64 0)), .d (.val (.int .u64 0)), .d (.val (.int .u64 0)), .i 0, .i 0, .slL 50 0 subs.length 8]); rfl; rfl; rfl)
    | (apply r_ldL; rfl; rfl; rfl)
    | (apply r_eql; rfl; rfl; (first | (apply decide_eq_true; omega) | (apply decide_eq_false; omega) | rfl))
    | (apply r_lss; rfl; rfl; (first | (apply decide_eq_true; omega) | (apply decide_eq_false; omega) | rfl))
    | (apply r_add; rfl; rfl; rfl; omega)
    | (apply r_lenD; rfl)
    | (apply r_lenL; rfl)
    | (apply r_len0; rfl)
    | (apply r_alloc; ((conv => lhs; simp only [Nat.reduceAdd]) <;> rfl); rfl)
    | (apply r_box; ((conv => lhs; simp only [Nat.reduceAdd]) <;> rfl); rfl; rfl; rfl)
    | (apply r_stL; rfl; rfl; rfl; rfl; (first | rfl | (simp only [z_nil, z_add] <;> rfl)); rfl; rfl)
    | (apply r_p; rfl)
    | (apply r_nilK)
    | (apply r_nil)
    | (apply k_V; rfl)
    | (apply k_P; rfl)
    | (apply k_PL; rfl)
    | (apply k_S; rfl)
    | (apply k_SL; rfl)
    | (apply k_A; rfl)
    | (apply k_T; rfl)
    | (apply k_F; rfl)
    | (apply k_D; rfl; rotate_left; rfl)
    | (apply k_nil)
    | (apply e_ret (vs := [.d (.val _)]); rfl)
    | (apply e_ret; rfl)
    | (apply e_ret' (vs := [.d (.val _)]); rfl)
    | (apply e_ret'; rfl)
    | (apply w_seq)
    | (apply w_ops; ((conv => lhs; simp only [Nat.reduceAdd]) <;> rfl))
    | (apply w_condT; rfl)
    | (apply w_condF; rfl)
    | ((apply w_condS; rfl) <;> (intro h; try simp only [decide_eq_true_eq, decide_eq_false_iff_not, Bool.not_eq_true, Bool.not_eq_false] at h))
    | (apply e_thenN)
    | (apply w_block)
    | (apply e_thenR)
    | (apply e_thenX)
    | (apply e_blkN)
    | (apply e_blkR)
    | (apply e_blkE)
    | (apply w_exit)
    | (apply w_ret)
    | (apply w_skip)
    | (apply e_blkE'; rfl))
      refine ret_catK (id := 50) (row := (encL ((xL subs).take subs.length)).map AV.d) (us := []) rfl (xL_len _) (by rw [List.length_map, encL_length, List.length_take, xL_len]; omega) hl0 ?_
      rw [List.take_of_length_le (by rw [xL_len]; omega)]
      exact mapO_encL _
  · subst h4
    refine b115 (by simp) (by simp) (w_init ?_)
    unfold x115
    repeat' (first
    | (apply r_mvV; rfl)
    | (apply r_mvP; rfl)
    | (apply r_mvPL; rfl)
    | (apply r_mvS; rfl)
    | (apply r_mvSL; rfl)
    | (apply r_mvA; rfl)
    | (apply r_mvT; rfl)
    | (apply r_mvF; rfl)
    | (apply r_mvD; rfl)
    | (apply r_faddD; rfl)
    | (apply r_faddL; rfl)
    | (apply r_l; apply ld_kind; assumption; rfl)
    | (apply r_l; apply ld_mn; assumption; rfl)
    | (apply r_l; apply ld_mx; assumption; rfl)
    | (apply r_l; apply ld_subs; assumption; rfl)
    | (apply r_l; apply ld_set; assumption; rfl)
    | (apply r_l; apply ld_node; assumption; rfl)
    | (apply r_l; apply ld_kind'; assumption; rfl)
    | (apply r_l; apply ld_mn'; assumption; rfl)
    | (apply r_l; apply ld_mx'; assumption; rfl)
    | (apply r_l; apply ld_subs'; assumption; rfl)
    | (apply r_l; apply ld_node'; assumption; rfl)
    | (apply r_ldL; rfl; rfl; rfl)
    | (apply r_eql; rfl; rfl; (first | (apply decide_eq_true; omega) | (apply decide_eq_false; omega) | rfl))
    | (apply r_lss; rfl; rfl; (first | (apply decide_eq_true; omega) | (apply decide_eq_false; omega) | rfl))
    | (apply r_add; rfl; rfl; rfl; omega)
    | (apply r_lenD; rfl)
    | (apply r_lenL; rfl)
    | (apply r_len0; rfl)
    | (apply r_alloc; ((conv => lhs; simp only [Nat.reduceAdd]) <;> rfl); rfl)
    | (apply r_box; ((conv => lhs; simp only [Nat.reduceAdd]) <;> rfl); rfl; rfl; rfl)
    | (apply r_stL; rfl; rfl; rfl; rfl; (first | rfl | (simp only [z_nil, z_add] <;> rfl)); rfl; rfl)
    | (apply r_p; rfl)
    | (apply r_nilK)
    | (apply r_nil)
    | (apply k_V; rfl)
    | (apply k_P; rfl)
    | (apply k_PL; rfl)
    | (apply k_S; rfl)
    | (apply k_SL; rfl)
    | (apply k_A; rfl)
    | (apply k_T; rfl)
    | (apply k_F; rfl)
    | (apply k_D; rfl; rotate_left; rfl)
    | (apply k_nil)
    | (apply e_ret (vs := [.d (.val _)]); rfl)
    | (apply e_ret; rfl)
    | (apply e_ret' (vs := [.d (.val _)]); rfl)
    | (apply e_ret'; rfl)
    | (apply w_seq)
    | (apply w_ops; ((conv => lhs; simp only [Nat.reduceAdd]) <;> rfl))
    | (apply w_condT; rfl)
    | (apply w_condF; rfl)
    | ((apply w_condS; rfl) <;> (intro h; try simp only [decide_eq_true_eq, decide_eq_false_iff_not, Bool.not_eq_true, Bool.not_eq_false] at h))
    | (apply e_thenN)
    | (apply w_block)
    | (apply e_thenR)
    | (apply e_thenX)
    | (apply e_blkN)
    | (apply e_blkR)
    | (apply e_blkE)
    | (apply w_exit)
    | (apply w_ret)
    | (apply w_skip)
    | (apply e_blkE'; rfl))
    apply w_loopI (S := fun i : Nat => ⟨((((Fr.nil.put 2 (.ptrL 2 0)).put 3 (.ptrL 14 0)).put 27 (.d (.sl (encL subs) subs.length))).put 28 (.i subs.length)).put 29 (.i i), rowsOf [(2, zeroA zsN), (14, [.i 4, .d (.val (.int .u64 0)), .d (.val (.int .u64 0)), .d (.val (.int .u64 0)), .d (.val (.int .u64 0)), .i 0, .i 0, .slL 50 0 i 8]), (50, (encL ((xL subs).take i)).map AV.d)], Frz.buts 100 [2, 14, 50], 100⟩) (m := fun i => subs.length - i) (I := fun i => i ≤ subs.length) (i0 := 0)
    · exact Nat.zero_le _
    · refine wkG 50 1000000 true (by omega) (by omega) ?_ ?_ ?_ ?_
      · intro p hp
        simp only [List.mem_cons, List.not_mem_nil, or_false] at hp
        rcases hp with rfl | rfl | rfl
        · exact ⟨by omega, .inr ⟨rfl, _, rfl, .data rfl⟩⟩
        · exact ⟨by omega, .inr ⟨rfl, _, rfl, .cons (.d _) (.cons (.d _) (.cons (.d _) (.cons (.d _) (.cons (.d _) (.cons (.d _) (.cons (.d _) (.cons (.slN _ _ (by omega) rfl) .nil)))))))⟩⟩
        · exact ⟨by omega, .inl ⟨rfl, rfl, rfl⟩⟩
      · intro q hq; simp only [List.mem_cons, List.not_mem_nil, or_false] at hq; rcases hq with rfl | rfl | rfl <;> rfl
      · intro p hp
        simp only [List.mem_cons, List.not_mem_nil, or_false] at hp
        rcases hp with rfl | rfl | rfl <;> (intro _; simp)
      · repeat' (first
    | exact FWk.nil
    | (apply FWk.i; rfl; (first | rfl | omega | (simp; done)))
    | (apply FWk.sl; rfl; rfl; rfl; rfl; omega; rfl)
    | (apply FWk.ptr; rfl; rfl; rfl; omega; rfl)
    | (apply FWk.d; rfl; rfl)
    | (apply FWk.a; rfl; rfl; rfl)
    | (apply FWk.slN; rfl; omega; rfl))
    intro i K hi hK
    dsimp only
    rcases Nat.lt_or_ge i subs.length with hlt | hge
    · have hs := NodeAt.sub hlt
      have hg := ih' i hlt
      have htk := xL_take subs i hlt
      have hrl : ((encL ((xL subs).take i)).map AV.d).length = i * 8 := by
        rw [List.length_map, encL_length, List.length_take, xL_len]; omega
      have hna : [nodeA subs[i]].all AV.nrm = true := by rw [List.all_cons, nodeA_nrm]; rfl
      generalize xT subs[i] = u at hg htk
      generalize subs[i] = v at hs hg hna
      obtain ⟨k2, a2, b2, c2, d2, mn2, mx2, subs2⟩ := u
      obtain ⟨k3, a3, b3, c3, d3, mn3, mx3, subs3⟩ := v
      repeat' (first
    | (apply r_mvV; rfl)
    | (apply r_mvP; rfl)
    | (apply r_mvPL; rfl)
    | (apply r_mvS; rfl)
    | (apply r_mvSL; rfl)
    | (apply r_mvA; rfl)
    | (apply r_mvT; rfl)
    | (apply r_mvF; rfl)
    | (apply r_mvD; rfl)
    | (apply r_faddD; rfl)
    | (apply r_faddL; rfl)
    | (apply r_p; apply ix_sub; rfl; rfl; omega)
    | (apply r_l; apply ld_node'; exact hs; rfl)
    | (apply r_callA (ags := [nodeA (.node k3 a3 b3 c3 d3 mn3 mx3 subs3)]); rfl; exact hna; exact hg)
    | (apply r_ldL (v := nodeA (.node k3 a3 b3 c3 d3 mn3 mx3 subs3)); rfl; rfl; rfl)
    | (apply r_n (v := .slL 109 0 1 8) (r := [.i k2, .d (.val (.int .u64 a2)), .d (.val (.int .u64 b2)), .d (.val (.int .u64 c2)), .d (.val (.int .u64 d2)), .i mn2, .i mx2, .d (.sl (encL subs2) subs2.length)]); rfl)
    | (apply r_appN (b := 50) (c := 109) (id := 110) (m := i) (j := 1) (r := (encL ((xL subs).take i)).map AV.d) (src := [.i k2, .d (.val (.int .u64 a2)), .d (.val (.int .u64 b2)), .d (.val (.int .u64 c2)), .d (.val (.int .u64 d2)), .i mn2, .i mx2, .d (.sl (encL subs2) subs2.length)]); rfl; rfl; rfl; rfl; exact hrl; rfl; rfl; rfl; rfl; omega)
    | (apply r_ldL; rfl; rfl; rfl)
    | (apply r_eql; rfl; rfl; (first | (apply decide_eq_true; omega) | (apply decide_eq_false; omega) | rfl))
    | (apply r_lss; rfl; rfl; (first | (apply decide_eq_true; omega) | (apply decide_eq_false; omega) | rfl))
    | (apply r_add; rfl; rfl; rfl; omega)
    | (apply r_lenD; rfl)
    | (apply r_lenL; rfl)
    | (apply r_len0; rfl)
    | (apply r_alloc; ((conv => lhs; simp only [Nat.reduceAdd]) <;> rfl); rfl)
    | (apply r_box; ((conv => lhs; simp only [Nat.reduceAdd]) <;> rfl); rfl; rfl; rfl)
    | (apply r_stL; rfl; rfl; rfl; rfl; (first | rfl | (simp only [z_nil, z_add] <;> rfl)); rfl; rfl)
    | (apply r_p; rfl)
    | (apply r_nilK)
    | (apply r_nil)
    | (apply k_V; rfl)
    | (apply k_P; rfl)
    | (apply k_PL; rfl)
    | (apply k_S; rfl)
    | (apply k_SL; rfl)
    | (apply k_A; rfl)
    | (apply k_T; rfl)
    | (apply k_F; rfl)
    | (apply k_D; rfl; rotate_left; rfl)
    | (apply k_nil)
    | (apply e_ret (vs := [.d (.val _)]); rfl)
    | (apply e_ret; rfl)
    | (apply e_ret' (vs := [.d (.val _)]); rfl)
    | (apply e_ret'; rfl)
    | (apply w_seq)
    | (apply w_ops; ((conv => lhs; simp only [Nat.reduceAdd]) <;> rfl))
    | (apply w_condT; rfl)
    | (apply w_condF; rfl)
    | ((apply w_condS; rfl) <;> (intro h; try simp only [decide_eq_true_eq, decide_eq_false_iff_not, Bool.not_eq_true, Bool.not_eq_false] at h))
    | (apply e_thenN)
    | (apply w_block)
    | (apply e_thenR)
    | (apply e_thenX)
    | (apply e_blkN)
    | (apply e_blkR)
    | (apply e_blkE)
    | (apply w_exit)
    | (apply w_ret)
    | (apply w_skip)
    | (apply e_blkE'; rfl))
      trace_state
      apply e_thenK
      apply hK (i + 1)
      · omega
      · omega
      · refine wkG 50 110 false (by omega) (by omega) ?_ ?_ ?_ ?_
        · intro p hp
          simp only [List.mem_cons, List.not_mem_nil, or_false] at hp
          rcases hp with rfl | rfl | rfl
          · exact ⟨by omega, .inr ⟨rfl, _, rfl, .data rfl⟩⟩
          · exact ⟨by omega, .inr ⟨rfl, _, rfl, .cons (.d _) (.cons (.d _) (.cons (.d _) (.cons (.d _) (.cons (.d _) (.cons (.d _) (.cons (.d _) (.cons (.slL _ _ _ _ _ rfl (by omega) rfl) .nil)))))))⟩⟩
          · refine ⟨by omega, .inr ⟨rfl, (encL ((xL subs).take (i + 1))).map AV.d, ?_, .data (by rw [List.all_map]; simp [AV.isD])⟩⟩
            rw [htk, List.map_append]; rfl
        · intro q hq; simp only [List.mem_cons, List.not_mem_nil, or_false] at hq; rcases hq with rfl | rfl | rfl <;> rfl
        · intro p hp
          simp only [List.mem_cons, List.not_mem_nil, or_false] at hp
          rcases hp with rfl | rfl | rfl <;> (intro _; simp)
        · repeat' (first
    | exact FWk.nil
    | (apply FWk.i; rfl; (first | rfl | omega | (simp; done)))
    | (apply FWk.sl; rfl; rfl; rfl; rfl; omega; rfl)
    | (apply FWk.ptr; rfl; rfl; rfl; omega; rfl)
    | (apply FWk.d; rfl; rfl)
    | (apply FWk.a; rfl; rfl; rfl)
    | (apply FWk.slN; rfl; omega; rfl))
    · have ei : i = subs.length := by omega
      subst ei
      repeat' (first
    | (apply r_mvV; rfl)
    | (apply r_mvP; rfl)
    | (apply r_mvPL; rfl)
    | (apply r_mvS; rfl)
    | (apply r_mvSL; rfl)
    | (apply r_mvA; rfl)
    | (apply r_mvT; rfl)
    | (apply r_mvF; rfl)
    | (apply r_mvD; rfl)
    | (apply r_faddD; rfl)
    | (apply r_faddL; rfl)
    | (apply r_ldL (v := .agg [.i 4, .d (.val (.int .u64 0)), .d (.val (.int .u64 0)), .d (.val (.int .u64 0)), .d (.val (.int .u64 0)), .i 0, .i 0, .slL 50 0 subs.length 8]); rfl; rfl; rfl)
    | (apply r_ldL; rfl; rfl; rfl)
    | (apply r_eql; rfl; rfl; (first | (apply decide_eq_true; omega) | (apply decide_eq_false; omega) | rfl))
    | (apply r_lss; rfl; rfl; (first | (apply decide_eq_true; omega) | (apply decide_eq_false; omega) | rfl))
    | (apply r_add; rfl; rfl; rfl; omega)
    | (apply r_lenD; rfl)
    | (apply r_lenL; rfl)
    | (apply r_len0; rfl)
    | (apply r_alloc; ((conv => lhs; simp only [Nat.reduceAdd]) <;> rfl); rfl)
    | (apply r_box; ((conv => lhs; simp only [Nat.reduceAdd]) <;> rfl); rfl; rfl; rfl)
    | (apply r_stL; rfl; rfl; rfl; rfl; (first | rfl | (simp only [z_nil, z_add] <;> rfl)); rfl; rfl)
    | (apply r_p; rfl)
    | (apply r_nilK)
    | (apply r_nil)
    | (apply k_V; rfl)
    | (apply k_P; rfl)
    | (apply k_PL; rfl)
    | (apply k_S; rfl)
    | (apply k_SL; rfl)
    | (apply k_A; rfl)
    | (apply k_T; rfl)
    | (apply k_F; rfl)
    | (apply k_D; rfl; rotate_left; rfl)
    | (apply k_nil)
    | (apply e_ret (vs := [.d (.val _)]); rfl)
    | (apply e_ret; rfl)
    | (apply e_ret' (vs := [.d (.val _)]); rfl)
    | (apply e_ret'; rfl)
    | (apply w_seq)
    | (apply w_ops; ((conv => lhs; simp only [Nat.reduceAdd]) <;> rfl))
    | (apply w_condT; rfl)
    | (apply w_condF; rfl)
    | ((apply w_condS; rfl) <;> (intro h; try simp only [decide_eq_true_eq, decide_eq_false_iff_not, Bool.not_eq_true, Bool.not_eq_false] at h))
    | (apply e_thenN)
    | (apply w_block)
    | (apply e_thenR)
    | (apply e_thenX)
    | (apply e_blkN)
    | (apply e_blkR)
    | (apply e_blkE)
    | (apply w_exit)
    | (apply w_ret)
    | (apply w_skip)
    | (apply e_blkE'; rfl))
      refine ret_catK (id := 50) (row := (encL ((xL subs).take subs.length)).map AV.d) (us := []) rfl (xL_len _) (by rw [List.length_map, encL_length, List.length_take, xL_len]; omega) hl0 ?_
      rw [List.take_of_length_le (by rw [xL_len]; omega)]
      exact mapO_encL _
end Go.Sv
namespace Go.Sv
open Go Go.Proofs
section
variable {P : Program} {Q : Cont} {fr : Fr} {C : Heap} {Z : Frz} {nx : Nat} {base n d0 : Nat} {l : List (Nat × XO)} {kp : Option (List Nat)} {x y : X}
end
set_option maxRecDepth 100000
set_option maxHeartbeats 4000000
attribute [local irreducible] W E R KP thenK blockK retK Good xwp aRun
end Go.Sv
namespace Go.Sv
open Go Go.Proofs
def x59 : XC := (.seq (.ops 2 [
    (0, ⟨(some 1), none, .box (.t 0)⟩),
    (1, ⟨(some 2), none, .mv (.k (.d (.val (.bool false))))⟩)] (some [1])) (.seq (.seq (.ops 1 [
    (0, ⟨(some 3), none, .mv (.k (.d (.val (.int .i64 0))))⟩)] (some [1, 3])) (.block 0 (.loop (.seq (.seq (.ops 5 [
    (0, ⟨(some 5), none, .mv (.t 3)⟩),
    (1, ⟨(some 6), none, .fadd 7 (.t 1)⟩),
    (2, ⟨(some 7), none, .load none (.t 6)⟩),
    (3, ⟨(some 8), none, .lenS (.t 7)⟩),
    (4, ⟨(some 9), none, .arith .lss (.t 5) (.t 8)⟩)] (some [1, 3, 9])) (.cond (.t 9) .skip (.exit 0))) (.seq (.block 1 (.seq (.ops 7 [
    (0, ⟨(some 12), none, .fadd 7 (.t 1)⟩),
    (1, ⟨(some 13), none, .load none (.t 12)⟩),
    (2, ⟨(some 14), none, .mv (.t 3)⟩),
    (3, ⟨(some 15), none, .idxS 8 (.t 13) (.t 14)⟩),
    (4, ⟨(some 16), none, .load (some 8) (.t 15)⟩),
    (5, ⟨(some 17), none, .call 59 [(.t 16)] none false⟩),
    (6, ⟨(some 18), none, .un .not (.t 17)⟩)] (some [1, 3, 18])) (.cond (.t 18) (.seq (.ops 1 [
    (0, ⟨(some 2), none, .mv (.k (.d (.val (.bool false))))⟩)] (some [2])) .ret) .skip))) (.ops 3 [
    (0, ⟨(some 10), none, .mv (.t 3)⟩),
    (1, ⟨(some 11), none, .arith .add (.t 10) (.k (.d (.val (.int .i64 1))))⟩),
    (2, ⟨(some 3), none, .mv (.t 11)⟩)] (some [1, 3]))))))) (.seq (.ops 5 [
    (0, ⟨(some 19), none, .fadd 1 (.t 1)⟩),
    (1, ⟨(some 20), none, .load (some 4) (.t 19)⟩),
    (2, ⟨(some 21), none, .build [(.int .u64 0), (.int .u64 0), (.int .u64 0), (.int .u64 0)] []⟩),
    (3, ⟨(some 22), none, .eqAgg 4 false (.t 20) (.t 21)⟩),
    (4, ⟨(some 4), none, .mv (.t 22)⟩)] (some [1, 4])) (.seq (.seq (.ops 2 [
    (0, ⟨(some 23), none, .fadd 0 (.t 1)⟩),
    (1, ⟨(some 24), none, .load none (.t 23)⟩)] (some [1, 4, 24])) (.block 2 (.seq (.ops 2 [
    (0, ⟨(some 26), none, .arith .eql (.t 24) (.k (.d (.val (.int .i64 1))))⟩),
    (1, ⟨(some 25), none, .mv (.t 26)⟩)] (some [1, 4, 24, 25])) (.cond (.t 25) (.seq (.ops 18 [
    (0, ⟨(some 27), none, .mv (.t 4)⟩),
    (1, ⟨(some 28), none, .mv (.t 27)⟩),
    (2, ⟨(some 29), (some (28, true)), .fadd 5 (.t 1)⟩),
    (3, ⟨(some 30), (some (28, true)), .load none (.t 29)⟩),
    (4, ⟨(some 31), (some (28, true)), .arith .eql (.t 30) (.k (.d (.val (.int .i64 0))))⟩),
    (5, ⟨(some 32), none, .pick (.t 28) (.t 31) (.k (.d (.val (.bool false))))⟩),
    (6, ⟨(some 33), none, .mv (.t 32)⟩),
    (7, ⟨(some 34), (some (33, true)), .fadd 6 (.t 1)⟩),
    (8, ⟨(some 35), (some (33, true)), .load none (.t 34)⟩),
    (9, ⟨(some 36), (some (33, true)), .arith .eql (.t 35) (.k (.d (.val (.int .i64 0))))⟩),
    (10, ⟨(some 37), none, .pick (.t 33) (.t 36) (.k (.d (.val (.bool false))))⟩),
    (11, ⟨(some 38), none, .mv (.t 37)⟩),
    (12, ⟨(some 39), (some (38, true)), .fadd 7 (.t 1)⟩),
    (13, ⟨(some 40), (some (38, true)), .load none (.t 39)⟩),
    (14, ⟨(some 41), (some (38, true)), .lenS (.t 40)⟩),
    (15, ⟨(some 42), (some (38, true)), .arith .eql (.t 41) (.k (.d (.val (.int .i64 0))))⟩),
    (16, ⟨(some 43), none, .pick (.t 38) (.t 42) (.k (.d (.val (.bool false))))⟩),
    (17, ⟨(some 2), none, .mv (.t 43)⟩)] (some [2])) .ret) (.seq (.ops 2 [
    (0, ⟨(some 45), none, .arith .eql (.t 24) (.k (.d (.val (.int .i64 2))))⟩),
    (1, ⟨(some 44), none, .mv (.t 45)⟩)] (some [1, 4, 24, 44])) (.cond (.t 44) (.seq (.ops 15 [
    (0, ⟨(some 46), none, .fadd 5 (.t 1)⟩),
    (1, ⟨(some 47), none, .load none (.t 46)⟩),
    (2, ⟨(some 48), none, .arith .eql (.t 47) (.k (.d (.val (.int .i64 0))))⟩),
    (3, ⟨(some 49), none, .mv (.t 48)⟩),
    (4, ⟨(some 50), (some (49, true)), .fadd 6 (.t 1)⟩),
    (5, ⟨(some 51), (some (49, true)), .load none (.t 50)⟩),
    (6, ⟨(some 52), (some (49, true)), .arith .eql (.t 51) (.k (.d (.val (.int .i64 0))))⟩),
    (7, ⟨(some 53), none, .pick (.t 49) (.t 52) (.k (.d (.val (.bool false))))⟩),
    (8, ⟨(some 54), none, .mv (.t 53)⟩),
    (9, ⟨(some 55), (some (54, true)), .fadd 7 (.t 1)⟩),
    (10, ⟨(some 56), (some (54, true)), .load none (.t 55)⟩),
    (11, ⟨(some 57), (some (54, true)), .lenS (.t 56)⟩),
    (12, ⟨(some 58), (some (54, true)), .arith .eql (.t 57) (.k (.d (.val (.int .i64 0))))⟩),
    (13, ⟨(some 59), none, .pick (.t 54) (.t 58) (.k (.d (.val (.bool false))))⟩),
    (14, ⟨(some 2), none, .mv (.t 59)⟩)] (some [2])) .ret) (.seq (.seq (.ops 2 [
    (0, ⟨(some 61), none, .arith .eql (.t 24) (.k (.d (.val (.int .i64 3))))⟩),
    (1, ⟨(some 60), none, .mv (.t 61)⟩)] (some [1, 4, 24, 60])) (.cond (.t 60) .skip (.ops 2 [
    (0, ⟨(some 62), none, .arith .eql (.t 24) (.k (.d (.val (.int .i64 4))))⟩),
    (1, ⟨(some 60), none, .mv (.t 62)⟩)] (some [1, 4, 24, 60])))) (.cond (.t 60) (.seq (.ops 18 [
    (0, ⟨(some 63), none, .mv (.t 4)⟩),
    (1, ⟨(some 64), none, .mv (.t 63)⟩),
    (2, ⟨(some 65), (some (64, true)), .fadd 5 (.t 1)⟩),
    (3, ⟨(some 66), (some (64, true)), .load none (.t 65)⟩),
    (4, ⟨(some 67), (some (64, true)), .arith .eql (.t 66) (.k (.d (.val (.int .i64 0))))⟩),
    (5, ⟨(some 68), none, .pick (.t 64) (.t 67) (.k (.d (.val (.bool false))))⟩),
    (6, ⟨(some 69), none, .mv (.t 68)⟩),
    (7, ⟨(some 70), (some (69, true)), .fadd 6 (.t 1)⟩),
    (8, ⟨(some 71), (some (69, true)), .load none (.t 70)⟩),
    (9, ⟨(some 72), (some (69, true)), .arith .eql (.t 71) (.k (.d (.val (.int .i64 0))))⟩),
    (10, ⟨(some 73), none, .pick (.t 69) (.t 72) (.k (.d (.val (.bool false))))⟩),
    (11, ⟨(some 74), none, .mv (.t 73)⟩),
    (12, ⟨(some 75), (some (74, true)), .fadd 7 (.t 1)⟩),
    (13, ⟨(some 76), (some (74, true)), .load none (.t 75)⟩),
    (14, ⟨(some 77), (some (74, true)), .lenS (.t 76)⟩),
    (15, ⟨(some 78), (some (74, true)), .arith .geq (.t 77) (.k (.d (.val (.int .i64 2))))⟩),
    (16, ⟨(some 79), none, .pick (.t 74) (.t 78) (.k (.d (.val (.bool false))))⟩),
    (17, ⟨(some 2), none, .mv (.t 79)⟩)] (some [2])) .ret) (.seq (.ops 2 [
    (0, ⟨(some 81), none, .arith .eql (.t 24) (.k (.d (.val (.int .i64 5))))⟩),
    (1, ⟨(some 80), none, .mv (.t 81)⟩)] (some [1, 4, 80])) (.cond (.t 80) (.seq (.ops 18 [
    (0, ⟨(some 82), none, .mv (.t 4)⟩),
    (1, ⟨(some 83), none, .mv (.t 82)⟩),
    (2, ⟨(some 84), (some (83, true)), .fadd 5 (.t 1)⟩),
    (3, ⟨(some 85), (some (83, true)), .load none (.t 84)⟩),
    (4, ⟨(some 86), (some (83, true)), .arith .eql (.t 85) (.k (.d (.val (.int .i64 0))))⟩),
    (5, ⟨(some 87), none, .pick (.t 83) (.t 86) (.k (.d (.val (.bool false))))⟩),
    (6, ⟨(some 88), none, .mv (.t 87)⟩),
    (7, ⟨(some 89), (some (88, true)), .fadd 6 (.t 1)⟩),
    (8, ⟨(some 90), (some (88, true)), .load none (.t 89)⟩),
    (9, ⟨(some 91), (some (88, true)), .arith .eql (.t 90) (.k (.d (.val (.int .i64 (-1)))))⟩),
    (10, ⟨(some 92), none, .pick (.t 88) (.t 91) (.k (.d (.val (.bool false))))⟩),
    (11, ⟨(some 93), none, .mv (.t 92)⟩),
    (12, ⟨(some 94), (some (93, true)), .fadd 7 (.t 1)⟩),
    (13, ⟨(some 95), (some (93, true)), .load none (.t 94)⟩),
    (14, ⟨(some 96), (some (93, true)), .lenS (.t 95)⟩),
    (15, ⟨(some 97), (some (93, true)), .arith .eql (.t 96) (.k (.d (.val (.int .i64 1))))⟩),
    (16, ⟨(some 98), none, .pick (.t 93) (.t 97) (.k (.d (.val (.bool false))))⟩),
    (17, ⟨(some 2), none, .mv (.t 98)⟩)] (some [2])) .ret) .skip)))))))))) (.seq (.ops 1 [
    (0, ⟨(some 2), none, .mv (.k (.d (.val (.bool false))))⟩)] (some [2])) .ret)))))
def md59 : FuncId → Option Nat × Bool
  | _ => (none, false)
def od59 : Nat → List (List Nat) × List Nat × Option (List Nat)
  | 0 => ([], [], some [1])
  | 1 => ([], [], some [1, 3])
  | 2 => ([], [], some [1, 3, 9])
  | 3 => ([], [], some [1, 3])
  | 4 => ([], [], some [1, 3, 18])
  | 5 => ([], [], some [2])
  | 6 => ([], [], some [1, 4])
  | 7 => ([], [], some [1, 4, 24])
  | 8 => ([], [], some [1, 4, 24, 25])
  | 9 => ([], [], some [2])
  | 10 => ([], [], some [1, 4, 24, 44])
  | 11 => ([], [], some [2])
  | 12 => ([], [], some [1, 4, 24, 60])
  | 13 => ([], [], some [1, 4, 24, 60])
  | 14 => ([], [], some [2])
  | 15 => ([], [], some [1, 4, 80])
  | 16 => ([], [], some [2])
  | 17 => ([], [], some [2])
  | _ => ([], [], none)
theorem b59 {ags : List AV} {row : Option (List DV)} {r : AV} {row' nw : Option (List DV)} (hal : ags.length ≤ 99) (hrow : row'.isSome = true → row.isSome = true) (h : xwp Try.prog x59 (retK [.tmp 2] row.isSome r row' nw) (St.init ags row)) : Good Try.prog 59 ags row r row' nw :=
  good_of_body' (md := md59) (od := od59) Try.f59 (by kernel_rfl) (by kernel_rfl) (by kernel_rfl) (by kernel_rfl) (by kernel_rfl) hal hrow h

set_option maxRecDepth 100000
set_option maxHeartbeats 4000000
attribute [local irreducible] W E R KP thenK blockK retK Good xwp aRun
def bareT : T → Bool
  | .node k a b c d mn mx subs =>
    if k = 1 then isZero a b c d && (mn == 0 && mx == 0) && subs.length == 0
    else if k = 2 then mn == 0 && mx == 0 && subs.length == 0
    else if k = 3 ∨ k = 4 then isZero a b c d && (mn == 0 && mx == 0) && decide (2 ≤ subs.length)
    else if k = 5 then isZero a b c d && (mn == 0 && mx == -1) && subs.length == 1
    else false
mutual
def isP : T → Bool
  | .node k a b c d mn mx subs => isPL subs && bareT (.node k a b c d mn mx subs)
def isPL : List T → Bool
  | [] => true
  | t :: l => isP t && isPL l
end
theorem isPL_drop (l : List T) (i : Nat) (h : i < l.length) : isPL (l.drop i) = (isP l[i] && isPL (l.drop (i + 1))) := by
  rw [List.drop_eq_getElem_cons h, isPL]
theorem bare116_good {cs : List DV} {off : Nat} {t : T} (h : NodeAt cs off t) : Good Try.prog 116 [.d (.ptr cs off)] none (.b (bareT t)) none none := by
  obtain ⟨k, a, b, c, d, mn, mx, subs⟩ := t
  refine b116 (by simp) (by simp) (w_init ?_)
  unfold x116
  repeat' (first
    | (apply r_mvV; rfl)
    | (apply r_mvP; rfl)
    | (apply r_mvPL; rfl)
    | (apply r_mvS; rfl)
    | (apply r_mvSL; rfl)
    | (apply r_mvA; rfl)
    | (apply r_mvT; rfl)
    | (apply r_mvF; rfl)
    | (apply r_mvD; rfl)
    | (apply r_nckD; rfl)
    | (apply r_faddD; rfl)
    | (apply r_nckL; rfl)
    | (apply r_faddL; rfl)
    | (apply r_l; apply ld_kind; assumption; rfl)
    | (apply r_l; apply ld_mn; assumption; rfl)
    | (apply r_l; apply ld_mx; assumption; rfl)
    | (apply r_l; apply ld_subs; assumption; rfl)
    | (apply r_l; apply ld_set; assumption; rfl)
    | (apply r_l; apply ld_node; assumption; rfl)
    | (apply r_l; apply ld_kind'; assumption; rfl)
    | (apply r_l; apply ld_mn'; assumption; rfl)
    | (apply r_l; apply ld_mx'; assumption; rfl)
    | (apply r_l; apply ld_subs'; assumption; rfl)
    | (apply r_l; apply ld_node'; assumption; rfl)
    | (apply r_ldL; rfl; rfl; rfl)
    | (apply r_eql; rfl; rfl; (first | (apply decide_eq_true; omega) | (apply decide_eq_false; omega) | rfl))
    | (apply r_geq; rfl; rfl; (first | (apply decide_eq_true; omega) | (apply decide_eq_false; omega) | rfl))
    | (apply r_pickT; rfl)
    | (apply r_pickF; rfl)
    | (apply r_lenD; rfl)
    | (apply r_lenL; rfl)
    | (apply r_len0; rfl)
    | (apply r_gT; rfl)
    | (apply r_gF'; rfl; rfl)
    | (apply r_gN'; rfl)
    | ((apply r_gS (o := default); rfl) <;> (intro h; try simp only [decide_eq_true_eq, decide_eq_false_iff_not, Bool.not_eq_true, Bool.not_eq_false] at h))
    | (apply r_p; rfl)
    | (apply r_nilK)
    | (apply r_nil)
    | (apply k_V; rfl)
    | (apply k_P; rfl)
    | (apply k_PL; rfl)
    | (apply k_S; rfl)
    | (apply k_SL; rfl)
    | (apply k_A; rfl)
    | (apply k_T; rfl)
    | (apply k_F; rfl)
    | (apply k_D; rfl; rotate_left; rfl)
    | (apply k_nil)
    | (apply e_ret (vs := [.d (.val _)]); rfl)
    | (apply e_ret; rfl)
    | (apply e_ret' (vs := [.d (.val _)]); rfl)
    | (apply e_ret'; rfl)
    | (apply w_seq)
    | (apply w_ops; ((conv => lhs; simp only [Nat.reduceAdd]) <;> rfl))
    | (apply w_condT; rfl)
    | (apply w_condF; rfl)
    | ((apply w_condS; rfl) <;> (intro h; try simp only [decide_eq_true_eq, decide_eq_false_iff_not, Bool.not_eq_true, Bool.not_eq_false] at h))
    | (apply e_thenN)
    | (apply w_block)
    | (apply e_thenR)
    | (apply e_thenX)
    | (apply e_blkN)
    | (apply e_blkR)
    | (apply e_blkE)
    | (apply w_exit)
    | (apply w_ret)
    | (apply w_skip)
    | (apply e_blkE'; rfl))

  all_goals refine retB (Bool.eq_iff_iff.2 ?_)
  all_goals (simp_all [bareT, isZero] <;> omega)
theorem isP59_good : ∀ (n : Nat) (t : T), t.cnt ≤ n → n ≤ 1000000 → Good Try.prog 59 [nodeA t] none (.b (isP t)) none none := by
  intro n
  induction n with
  | zero => intro t ht; have := cnt_pos t; omega
  | succ n ih =>
  intro t ht hc
  obtain ⟨k, a, b, c, d, mn, mx, subs⟩ := t
  have ih' : ∀ i (h : i < subs.length), Good Try.prog 59 [nodeA subs[i]] none (.b (isP subs[i])) none none := by
    intro i h
    refine ih _ ?_ (by omega)
    have := cntL_get subs i h
    simp only [T.cnt] at ht
    omega
  have hlen : subs.length ≤ 1000000 := by
    have := cntL_len subs
    simp only [T.cnt] at ht
    omega
  have e0 : nodeA (.node k a b c d mn mx subs) = .agg [.i k, .d (.val (.int .u64 a)), .d (.val (.int .u64 b)), .d (.val (.int .u64 c)), .d (.val (.int .u64 d)), .i mn, .i mx, .d (.sl (encL subs) subs.length)] := rfl
  rw [e0]
  refine b59 (by simp) (by simp) (w_init ?_)
  unfold x59
  repeat' (first
    | (apply r_mvV; rfl)
    | (apply r_mvP; rfl)
    | (apply r_mvPL; rfl)
    | (apply r_mvS; rfl)
    | (apply r_mvSL; rfl)
    | (apply r_mvA; rfl)
    | (apply r_mvT; rfl)
    | (apply r_mvF; rfl)
    | (apply r_mvD; rfl)
    | (apply r_faddD; rfl)
    | (apply r_faddL; rfl)
    | (apply r_l; apply ld_kind; assumption; rfl)
    | (apply r_l; apply ld_mn; assumption; rfl)
    | (apply r_l; apply ld_mx; assumption; rfl)
    | (apply r_l; apply ld_subs; assumption; rfl)
    | (apply r_l; apply ld_set; assumption; rfl)
    | (apply r_l; apply ld_node; assumption; rfl)
    | (apply r_l; apply ld_kind'; assumption; rfl)
    | (apply r_l; apply ld_mn'; assumption; rfl)
    | (apply r_l; apply ld_mx'; assumption; rfl)
    | (apply r_l; apply ld_subs'; assumption; rfl)
    | (apply r_l; apply ld_node'; assumption; rfl)
    | (apply r_ldL; rfl; rfl; rfl)
    | (apply r_eql; rfl; rfl; (first | (apply decide_eq_true; omega) | (apply decide_eq_false; omega) | rfl))
    | (apply r_lss; rfl; rfl; (first | (apply decide_eq_true; omega) | (apply decide_eq_false; omega) | rfl))
    | (apply r_geq; rfl; rfl; (first | (apply decide_eq_true; omega) | (apply decide_eq_false; omega) | rfl))
    | (apply r_add; rfl; rfl; rfl; omega)
    | (apply r_not; rfl; rfl)
    | (apply r_pickT; rfl)
    | (apply r_pickF; rfl)
    | (apply r_lenD; rfl)
    | (apply r_lenL; rfl)
    | (apply r_len0; rfl)
    | (apply r_gT; rfl)
    | (apply r_gF'; rfl; rfl)
    | (apply r_gN'; rfl)
    | ((apply r_gS (o := default); rfl) <;> (intro h; try simp only [decide_eq_true_eq, decide_eq_false_iff_not, Bool.not_eq_true, Bool.not_eq_false] at h))
    | (apply r_box; ((conv => lhs; simp only [Nat.reduceAdd]) <;> rfl); rfl; rfl; rfl)
    | (apply r_p; rfl)
    | (apply r_nilK)
    | (apply r_nil)
    | (apply k_V; rfl)
    | (apply k_P; rfl)
    | (apply k_PL; rfl)
    | (apply k_S; rfl)
    | (apply k_SL; rfl)
    | (apply k_A; rfl)
    | (apply k_T; rfl)
    | (apply k_F; rfl)
    | (apply k_D; rfl; rotate_left; rfl)
    | (apply k_nil)
    | (apply e_ret (vs := [.d (.val _)]); rfl)
    | (apply e_ret; rfl)
    | (apply e_ret' (vs := [.d (.val _)]); rfl)
    | (apply e_ret'; rfl)
    | (apply w_seq)
    | (apply w_ops; ((conv => lhs; simp only [Nat.reduceAdd]) <;> rfl))
    | (apply w_condT; rfl)
    | (apply w_condF; rfl)
    | ((apply w_condS; rfl) <;> (intro h; try simp only [decide_eq_true_eq, decide_eq_false_iff_not, Bool.not_eq_true, Bool.not_eq_false] at h))
    | (apply e_thenN)
    | (apply w_block)
    | (apply e_thenR)
    | (apply e_thenX)
    | (apply e_blkN)
    | (apply e_blkR)
    | (apply e_blkE)
    | (apply w_exit)
    | (apply w_ret)
    | (apply w_skip)
    | (apply e_blkE'; rfl))
  apply w_loopI (S := fun i : Nat => ⟨(Fr.nil.put 1 (.ptrL 1 0)).put 3 (.i i), Heap.nil.put 1 [.i k, .d (.val (.int .u64 a)), .d (.val (.int .u64 b)), .d (.val (.int .u64 c)), .d (.val (.int .u64 d)), .i mn, .i mx, .d (.sl (encL subs) subs.length)], Frz.lo 100, 100⟩) (m := fun i => subs.length - i) (I := fun i => i ≤ subs.length ∧ isPL subs = isPL (subs.drop i)) (i0 := 0)
  · exact ⟨Nat.zero_le _, rfl⟩
  · refine wkR (by omega) rfl rfl ?_
    repeat' (first
    | exact FWk.nil
    | (apply FWk.i; rfl; (first | rfl | omega | (simp; done)))
    | (apply FWk.sl; rfl; rfl; rfl; rfl; omega; rfl)
    | (apply FWk.ptr; rfl; rfl; rfl; omega; rfl)
    | (apply FWk.d; rfl; rfl)
    | (apply FWk.a; rfl; rfl; rfl)
    | (apply FWk.slN; rfl; omega; rfl))
  rintro i K ⟨hi, hp⟩ hK
  dsimp only
  rcases Nat.lt_or_ge i subs.length with hlt | hge
  · have hs := NodeAt.sub hlt
    have hg := ih' i hlt
    have hd := isPL_drop subs i hlt
    have hna : [nodeA subs[i]].all AV.nrm = true := by rw [List.all_cons, nodeA_nrm]; rfl
    rcases Bool.eq_false_or_eq_true (isP subs[i]) with hq | hq
    · rw [hq] at hg hd
      repeat' (first
    | (apply r_mvV; rfl)
    | (apply r_mvP; rfl)
    | (apply r_mvPL; rfl)
    | (apply r_mvS; rfl)
    | (apply r_mvSL; rfl)
    | (apply r_mvA; rfl)
    | (apply r_mvT; rfl)
    | (apply r_mvF; rfl)
    | (apply r_mvD; rfl)
    | (apply r_faddD; rfl)
    | (apply r_faddL; rfl)
    | (apply r_l; apply ld_kind; assumption; rfl)
    | (apply r_l; apply ld_mn; assumption; rfl)
    | (apply r_l; apply ld_mx; assumption; rfl)
    | (apply r_l; apply ld_subs; assumption; rfl)
    | (apply r_l; apply ld_set; assumption; rfl)
    | (apply r_l; apply ld_node; assumption; rfl)
    | (apply r_l; apply ld_kind'; assumption; rfl)
    | (apply r_l; apply ld_mn'; assumption; rfl)
    | (apply r_l; apply ld_mx'; assumption; rfl)
    | (apply r_l; apply ld_subs'; assumption; rfl)
    | (apply r_l; apply ld_node'; assumption; rfl)
    | (apply r_p; apply ix_sub; rfl; rfl; omega)
    | (apply r_callA (ags := [nodeA subs[i]]); rfl; exact hna; exact hg)
    | (apply r_ldL; rfl; rfl; rfl)
    | (apply r_eql; rfl; rfl; (first | (apply decide_eq_true; omega) | (apply decide_eq_false; omega) | rfl))
    | (apply r_lss; rfl; rfl; (first | (apply decide_eq_true; omega) | (apply decide_eq_false; omega) | rfl))
    | (apply r_geq; rfl; rfl; (first | (apply decide_eq_true; omega) | (apply decide_eq_false; omega) | rfl))
    | (apply r_add; rfl; rfl; rfl; omega)
    | (apply r_not; rfl; rfl)
    | (apply r_pickT; rfl)
    | (apply r_pickF; rfl)
    | (apply r_lenD; rfl)
    | (apply r_lenL; rfl)
    | (apply r_len0; rfl)
    | (apply r_gT; rfl)
    | (apply r_gF'; rfl; rfl)
    | (apply r_gN'; rfl)
    | ((apply r_gS (o := default); rfl) <;> (intro h; try simp only [decide_eq_true_eq, decide_eq_false_iff_not, Bool.not_eq_true, Bool.not_eq_false] at h))
    | (apply r_box; ((conv => lhs; simp only [Nat.reduceAdd]) <;> rfl); rfl; rfl; rfl)
    | (apply r_p; rfl)
    | (apply r_nilK)
    | (apply r_nil)
    | (apply k_V; rfl)
    | (apply k_P; rfl)
    | (apply k_PL; rfl)
    | (apply k_S; rfl)
    | (apply k_SL; rfl)
    | (apply k_A; rfl)
    | (apply k_T; rfl)
    | (apply k_F; rfl)
    | (apply k_D; rfl; rotate_left; rfl)
    | (apply k_nil)
    | (apply e_ret (vs := [.d (.val _)]); rfl)
    | (apply e_ret; rfl)
    | (apply e_ret' (vs := [.d (.val _)]); rfl)
    | (apply e_ret'; rfl)
    | (apply w_seq)
    | (apply w_ops; ((conv => lhs; simp only [Nat.reduceAdd]) <;> rfl))
    | (apply w_condT; rfl)
    | (apply w_condF; rfl)
    | ((apply w_condS; rfl) <;> (intro h; try simp only [decide_eq_true_eq, decide_eq_false_iff_not, Bool.not_eq_true, Bool.not_eq_false] at h))
    | (apply e_thenN)
    | (apply w_block)
    | (apply e_thenR)
    | (apply e_thenX)
    | (apply e_blkN)
    | (apply e_blkR)
    | (apply e_blkE)
    | (apply w_exit)
    | (apply w_ret)
    | (apply w_skip)
    | (apply e_blkE'; rfl))
      apply e_thenK
      apply hK (i + 1)
      · exact ⟨by omega, by rw [hp, hd, Bool.true_and]⟩
      · omega
      · refine wkR (by omega) rfl rfl ?_
        repeat' (first
    | exact FWk.nil
    | (apply FWk.i; rfl; (first | rfl | omega | (simp; done)))
    | (apply FWk.sl; rfl; rfl; rfl; rfl; omega; rfl)
    | (apply FWk.ptr; rfl; rfl; rfl; omega; rfl)
    | (apply FWk.d; rfl; rfl)
    | (apply FWk.a; rfl; rfl; rfl)
    | (apply FWk.slN; rfl; omega; rfl))
    · rw [hq] at hg hd
      repeat' (first
    | (apply r_mvV; rfl)
    | (apply r_mvP; rfl)
    | (apply r_mvPL; rfl)
    | (apply r_mvS; rfl)
    | (apply r_mvSL; rfl)
    | (apply r_mvA; rfl)
    | (apply r_mvT; rfl)
    | (apply r_mvF; rfl)
    | (apply r_mvD; rfl)
    | (apply r_faddD; rfl)
    | (apply r_faddL; rfl)
    | (apply r_l; apply ld_kind; assumption; rfl)
    | (apply r_l; apply ld_mn; assumption; rfl)
    | (apply r_l; apply ld_mx; assumption; rfl)
    | (apply r_l; apply ld_subs; assumption; rfl)
    | (apply r_l; apply ld_set; assumption; rfl)
    | (apply r_l; apply ld_node; assumption; rfl)
    | (apply r_l; apply ld_kind'; assumption; rfl)
    | (apply r_l; apply ld_mn'; assumption; rfl)
    | (apply r_l; apply ld_mx'; assumption; rfl)
    | (apply r_l; apply ld_subs'; assumption; rfl)
    | (apply r_l; apply ld_node'; assumption; rfl)
    | (apply r_p; apply ix_sub; rfl; rfl; omega)
    | (apply r_callA (ags := [nodeA subs[i]]); rfl; exact hna; exact hg)
    | (apply r_ldL; rfl; rfl; rfl)
    | (apply r_eql; rfl; rfl; (first | (apply decide_eq_true; omega) | (apply decide_eq_false; omega) | rfl))
    | (apply r_lss; rfl; rfl; (first | (apply decide_eq_true; omega) | (apply decide_eq_false; omega) | rfl))
    | (apply r_geq; rfl; rfl; (first | (apply decide_eq_true; omega) | (apply decide_eq_false; omega) | rfl))
    | (apply r_add; rfl; rfl; rfl; omega)
    | (apply r_not; rfl; rfl)
    | (apply r_pickT; rfl)
    | (apply r_pickF; rfl)
    | (apply r_lenD; rfl)
    | (apply r_lenL; rfl)
    | (apply r_len0; rfl)
    | (apply r_gT; rfl)
    | (apply r_gF'; rfl; rfl)
    | (apply r_gN'; rfl)
    | ((apply r_gS (o := default); rfl) <;> (intro h; try simp only [decide_eq_true_eq, decide_eq_false_iff_not, Bool.not_eq_true, Bool.not_eq_false] at h))
    | (apply r_box; ((conv => lhs; simp only [Nat.reduceAdd]) <;> rfl); rfl; rfl; rfl)
    | (apply r_p; rfl)
    | (apply r_nilK)
    | (apply r_nil)
    | (apply k_V; rfl)
    | (apply k_P; rfl)
    | (apply k_PL; rfl)
    | (apply k_S; rfl)
    | (apply k_SL; rfl)
    | (apply k_A; rfl)
    | (apply k_T; rfl)
    | (apply k_F; rfl)
    | (apply k_D; rfl; rotate_left; rfl)
    | (apply k_nil)
    | (apply e_ret (vs := [.d (.val _)]); rfl)
    | (apply e_ret; rfl)
    | (apply e_ret' (vs := [.d (.val _)]); rfl)
    | (apply e_ret'; rfl)
    | (apply w_seq)
    | (apply w_ops; ((conv => lhs; simp only [Nat.reduceAdd]) <;> rfl))
    | (apply w_condT; rfl)
    | (apply w_condF; rfl)
    | ((apply w_condS; rfl) <;> (intro h; try simp only [decide_eq_true_eq, decide_eq_false_iff_not, Bool.not_eq_true, Bool.not_eq_false] at h))
    | (apply e_thenN)
    | (apply w_block)
    | (apply e_thenR)
    | (apply e_thenX)
    | (apply e_blkN)
    | (apply e_blkR)
    | (apply e_blkE)
    | (apply w_exit)
    | (apply w_ret)
    | (apply w_skip)
    | (apply e_blkE'; rfl))
      refine retB ?_
      rw [isP, hp, hd]; simp
  · have hpt : isPL subs = true := by rw [hp, List.drop_of_length_le hge, isPL]
    have e : isP (.node k a b c d mn mx subs) = bareT (.node k a b c d mn mx subs) := by rw [isP, hpt, Bool.true_and]
    rw [e]
    clear hp hK ih ih' ht hpt e
    repeat' (first
    | (apply r_mvV; rfl)
    | (apply r_mvP; rfl)
    | (apply r_mvPL; rfl)
    | (apply r_mvS; rfl)
    | (apply r_mvSL; rfl)
    | (apply r_mvA; rfl)
    | (apply r_mvT; rfl)
    | (apply r_mvF; rfl)
    | (apply r_mvD; rfl)
    | (apply r_faddD; rfl)
    | (apply r_faddL; rfl)
    | (apply r_ldL (v := .agg [.d (.val (.int .u64 a)), .d (.val (.int .u64 b)), .d (.val (.int .u64 c)), .d (.val (.int .u64 d))]); rfl; rfl; rfl)
    | (apply r_ldL; rfl; rfl; rfl)
    | (apply r_eql; rfl; rfl; (first | (apply decide_eq_true; omega) | (apply decide_eq_false; omega) | rfl))
    | (apply r_lss; rfl; rfl; (first | (apply decide_eq_true; omega) | (apply decide_eq_false; omega) | rfl))
    | (apply r_geq; rfl; rfl; (first | (apply decide_eq_true; omega) | (apply decide_eq_false; omega) | rfl))
    | (apply r_add; rfl; rfl; rfl; omega)
    | (apply r_not; rfl; rfl)
    | (apply r_pickT; rfl)
    | (apply r_pickF; rfl)
    | (apply r_lenD; rfl)
    | (apply r_lenL; rfl)
    | (apply r_len0; rfl)
    | (apply r_gT; rfl)
    | (apply r_gF'; rfl; rfl)
    | (apply r_gN'; rfl)
    | ((apply r_gS (o := default); rfl) <;> (intro h; try simp only [decide_eq_true_eq, decide_eq_false_iff_not, Bool.not_eq_true, Bool.not_eq_false] at h))
    | (apply r_box; ((conv => lhs; simp only [Nat.reduceAdd]) <;> rfl); rfl; rfl; rfl)
    | (apply r_p; rfl)
    | (apply r_nilK)
    | (apply r_nil)
    | (apply k_V; rfl)
    | (apply k_P; rfl)
    | (apply k_PL; rfl)
    | (apply k_S; rfl)
    | (apply k_SL; rfl)
    | (apply k_A; rfl)
    | (apply k_T; rfl)
    | (apply k_F; rfl)
    | (apply k_D; rfl; rotate_left; rfl)
    | (apply k_nil)
    | (apply e_ret (vs := [.d (.val _)]); rfl)
    | (apply e_ret; rfl)
    | (apply e_ret' (vs := [.d (.val _)]); rfl)
    | (apply e_ret'; rfl)
    | (apply w_seq)
    | (apply w_ops; ((conv => lhs; simp only [Nat.reduceAdd]) <;> rfl))
    | (apply w_condT; rfl)
    | (apply w_condF; rfl)
    | ((apply w_condS; rfl) <;> (intro h; try simp only [decide_eq_true_eq, decide_eq_false_iff_not, Bool.not_eq_true, Bool.not_eq_false] at h))
    | (apply e_thenN)
    | (apply w_block)
    | (apply e_thenR)
    | (apply e_thenX)
    | (apply e_blkN)
    | (apply e_blkR)
    | (apply e_blkE)
    | (apply w_exit)
    | (apply w_ret)
    | (apply w_skip)
    | (apply e_blkE'; rfl))
    all_goals refine retB (Bool.eq_iff_iff.2 ?_)
    all_goals (simp_all [bareT, isZero] <;> omega)
end Go.Sv
namespace Go.Sv
open Go Go.Proofs
set_option maxRecDepth 100000
theorem awake13_ev : evF tabC (spP 100) 100 40 56 [] none = some (.b true, none, none) := by kernel_rfl
theorem awake13_good : Good Try.prog 56 [] none (.b true) none none := evF_sound tabC_ok (spP_ok 100) 40 56 [] none _ _ _ awake13_ev
end Go.Sv
namespace Go.Sv
open Go Go.Proofs
def x137 : XC := (.seq (.ops 1 [
    (0, ⟨(some 4), none, .mv (.k (.d (.val (.bool false))))⟩)] (some [0, 1])) (.seq (.ops 1 [
    (0, ⟨(some 5), none, .mv (.k (.d (.val (.bool false))))⟩)] (some [0, 1, 5])) (.seq (.seq (.ops 1 [
    (0, ⟨(some 6), none, .mv (.k (.d (.val (.int .i64 0))))⟩)] (some [0, 1, 5, 6])) (.block 0 (.loop (.seq (.seq (.ops 4 [
    (0, ⟨(some 7), none, .mv (.t 6)⟩),
    (1, ⟨(some 8), none, .mv (.t 0)⟩),
    (2, ⟨(some 9), none, .lenS (.t 8)⟩),
    (3, ⟨(some 10), none, .arith .lss (.t 7) (.t 9)⟩)] (some [0, 1, 5, 6, 10])) (.cond (.t 10) .skip (.exit 0))) (.seq (.block 1 (.seq (.ops 15 [
    (0, ⟨(some 13), none, .mv (.t 5)⟩),
    (1, ⟨(some 14), none, .mv (.t 13)⟩),
    (2, ⟨(some 15), (some (14, false)), .mv (.t 1)⟩),
    (3, ⟨(some 16), (some (14, false)), .mv (.t 6)⟩),
    (4, ⟨(some 17), (some (14, false)), .idxS 1 (.t 15) (.t 16)⟩),
    (5, ⟨(some 18), (some (14, false)), .load none (.t 17)⟩),
    (6, ⟨(some 19), (some (14, false)), .mv (.t 18)⟩),
    (7, ⟨(some 20), (some (19, true)), .mv (.t 0)⟩),
    (8, ⟨(some 21), (some (19, true)), .mv (.t 6)⟩),
    (9, ⟨(some 22), (some (19, true)), .idxS 1 (.t 20) (.t 21)⟩),
    (10, ⟨(some 23), (some (19, true)), .load none (.t 22)⟩),
    (11, ⟨(some 24), (some (19, true)), .un .not (.t 23)⟩),
    (12, ⟨(some 25), (some (14, false)), .pick (.t 19) (.t 24) (.k (.d (.val (.bool false))))⟩),
    (13, ⟨(some 26), none, .pick (.t 14) (.k (.d (.val (.bool true)))) (.t 25)⟩),
    (14, ⟨(some 5), none, .mv (.t 26)⟩)] (some [0, 1, 5, 6])) (.ops 14 [
    (0, ⟨(some 27), none, .mv (.t 0)⟩),
    (1, ⟨(some 28), none, .mv (.t 6)⟩),
    (2, ⟨(some 29), none, .mv (.t 0)⟩),
    (3, ⟨(some 30), none, .mv (.t 6)⟩),
    (4, ⟨(some 31), none, .idxS 1 (.t 29) (.t 30)⟩),
    (5, ⟨(some 32), none, .load none (.t 31)⟩),
    (6, ⟨(some 33), none, .mv (.t 32)⟩),
    (7, ⟨(some 34), (some (33, false)), .mv (.t 1)⟩),
    (8, ⟨(some 35), (some (33, false)), .mv (.t 6)⟩),
    (9, ⟨(some 36), (some (33, false)), .idxS 1 (.t 34) (.t 35)⟩),
    (10, ⟨(some 37), (some (33, false)), .load none (.t 36)⟩),
    (11, ⟨(some 38), none, .pick (.t 33) (.k (.d (.val (.bool true)))) (.t 37)⟩),
    (12, ⟨(some 39), none, .idxS 1 (.t 27) (.t 28)⟩),
    (13, ⟨none, none, .store 1 (.t 39) (.t 38)⟩)] (some [0, 1, 5, 6])))) (.ops 3 [
    (0, ⟨(some 11), none, .mv (.t 6)⟩),
    (1, ⟨(some 12), none, .arith .add (.t 11) (.k (.d (.val (.int .i64 1))))⟩),
    (2, ⟨(some 6), none, .mv (.t 12)⟩)] (some [0, 1, 5, 6]))))))) (.seq (.ops 2 [
    (0, ⟨(some 40), none, .mv (.t 5)⟩),
    (1, ⟨(some 4), none, .mv (.t 40)⟩)] (some [4])) .ret))))
def md137 : FuncId → Option Nat × Bool
  | _ => (none, false)
def od137 : Nat → List (List Nat) × List Nat × Option (List Nat)
  | 0 => ([], [], some [0, 1])
  | 1 => ([], [], some [0, 1, 5])
  | 2 => ([], [], some [0, 1, 5, 6])
  | 3 => ([], [], some [0, 1, 5, 6, 10])
  | 4 => ([], [], some [0, 1, 5, 6])
  | 5 => ([], [], some [0, 1, 5, 6])
  | 6 => ([], [], some [0, 1, 5, 6])
  | 7 => ([], [], some [4])
  | _ => ([], [], none)
theorem b137 {ags : List AV} {row : Option (List DV)} {r : AV} {row' nw : Option (List DV)} (hal : ags.length ≤ 41) (hrow : row'.isSome = true → row.isSome = true) (h : xwp Try.prog x137 (retK [.tmp 4] row.isSome r row' nw) (St.init ags row)) : Good Try.prog 137 ags row r row' nw :=
  good_of_body' (md := md137) (od := od137) Try.f137 (by kernel_rfl) (by kernel_rfl) (by kernel_rfl) (by kernel_rfl) (by kernel_rfl) hal hrow h

set_option maxRecDepth 100000
set_option maxHeartbeats 4000000
attribute [local irreducible] W E R KP thenK blockK retK Good xwp aRun
theorem set_same (p : List Bool) (i : Nat) (h : i < p.length) (v : Bool) (hv : p[i] = v) : p.set i v = p := by
  subst hv; exact List.set_getElem_self h
theorem or_good (p q : List Bool) {m : Nat} (hp : p.length = m) (hq : q.length = m) (hl : m ≤ 1000001) : Good Try.prog 137 [.slL 0 0 m 1, .d (.sl (encB q) m)] (some (encB p)) (.b (addTo p q m).2) (some (encB (addTo p q m).1)) none := by
  refine b137 (by simp) (by simp) (w_init ?_)
  unfold x137
  repeat' (first
    | (apply r_mvV; rfl)
    | (apply r_mvP; rfl)
    | (apply r_mvPL; rfl)
    | (apply r_mvS; rfl)
    | (apply r_mvSL; rfl)
    | (apply r_mvA; rfl)
    | (apply r_mvT; rfl)
    | (apply r_mvF; rfl)
    | (apply r_mvD; rfl)
    | (apply r_ldL; rfl; rfl; rfl)
    | (apply r_lss; rfl; rfl; (first | (apply decide_eq_true; omega) | (apply decide_eq_false; omega) | rfl))
    | (apply r_add; rfl; rfl; rfl; omega)
    | (apply r_not; rfl; rfl)
    | (apply r_pickT; rfl)
    | (apply r_pickF; rfl)
    | (apply r_lenD; rfl)
    | (apply r_lenL; rfl)
    | (apply r_len0; rfl)
    | (apply r_gT; rfl)
    | (apply r_gF'; rfl; rfl)
    | (apply r_gN'; rfl)
    | ((apply r_gS (o := default); rfl) <;> (intro h; try simp only [decide_eq_true_eq, decide_eq_false_iff_not, Bool.not_eq_true, Bool.not_eq_false] at h))
    | (apply r_stL; rfl; rfl; rfl; rfl; (first | rfl | (simp only [z_nil, z_add] <;> rfl)); rfl; rfl)
    | (apply r_p; rfl)
    | (apply r_nilK)
    | (apply r_nil)
    | (apply k_V; rfl)
    | (apply k_P; rfl)
    | (apply k_PL; rfl)
    | (apply k_S; rfl)
    | (apply k_SL; rfl)
    | (apply k_A; rfl)
    | (apply k_T; rfl)
    | (apply k_F; rfl)
    | (apply k_D; rfl; rotate_left; rfl)
    | (apply k_nil)
    | (apply e_ret (vs := [.d (.val _)]); rfl)
    | (apply e_ret; rfl)
    | (apply e_ret' (vs := [.d (.val _)]); rfl)
    | (apply e_ret'; rfl)
    | (apply w_seq)
    | (apply w_ops; ((conv => lhs; simp only [Nat.reduceAdd]) <;> rfl))
    | (apply w_condT; rfl)
    | (apply w_condF; rfl)
    | ((apply w_condS; rfl) <;> (intro h; try simp only [decide_eq_true_eq, decide_eq_false_iff_not, Bool.not_eq_true, Bool.not_eq_false] at h))
    | (apply e_thenN)
    | (apply w_block)
    | (apply e_thenR)
    | (apply e_thenX)
    | (apply e_blkN)
    | (apply e_blkR)
    | (apply e_blkE)
    | (apply w_exit)
    | (apply w_ret)
    | (apply w_skip)
    | (apply e_blkE'; rfl))
  apply w_loopI (S := fun i : Nat => ⟨(((Fr.nil.put 0 (.slL 0 0 m 1)).put 1 (.d (.sl (encB q) m))).put 5 (.b (addTo p q i).2)).put 6 (.i i), Heap.nil.put 0 ((encB (addTo p q i).1).map AV.d), Frz.but 100 0, 100⟩) (m := fun i => m - i) (I := fun i => i ≤ m) (i0 := 0)
  · exact Nat.zero_le _
  · exact wk1D (by omega) (by omega) rfl rfl encB_isD (FWk.i rfl rfl (FWk.d rfl rfl (FWk.d rfl rfl (FWk.sl rfl rfl rfl rfl (by omega) rfl FWk.nil))))
  intro i K hi hK
  dsimp only
  rcases Nat.lt_or_ge i m with hlt | hge
  · have hlq : i < q.length := by omega
    have hg := List.getElem?_eq_getElem hlq
    have hlp : i < (addTo p q i).1.length := by rw [addTo_len]; omega
    have hgp := List.getElem?_eq_getElem hlp
    have ed : addTo p q (i + 1) = ((addTo p q i).1.set i ((addTo p q i).1[i] || q[i]), (addTo p q i).2 || (q[i] && !(addTo p q i).1[i])) := by
      rw [addTo, List.getD_eq_getElem?_getD, List.getD_eq_getElem?_getD, hg, hgp]
      simp only [Option.getD_some]
      rcases Bool.eq_false_or_eq_true q[i] with h1 | h1 <;> rcases Bool.eq_false_or_eq_true (addTo p q i).1[i] with h2 | h2
      · rw [if_neg (by simp [h2]), h1, h2]; simp [set_same _ _ hlp true h2]
      · rw [if_pos ⟨h1, h2⟩, h1, h2]; simp
      · rw [if_neg (by simp [h1]), h1, h2]; simp [set_same _ _ hlp true h2]
      · rw [if_neg (by simp [h1]), h1, h2]; simp [set_same _ _ hlp false h2]
    have fin : ∀ fr C Z nx, Wk ⟨fr, C, Z, nx⟩ ⟨(((Fr.nil.put 0 (.slL 0 0 m 1)).put 1 (.d (.sl (encB q) m))).put 5 (.b ((addTo p q i).2 || (q[i] && !(addTo p q i).1[i])))).put 6 (.i ((i + 1 : Nat) : Int)), Heap.nil.put 0 ((encB ((addTo p q i).1.set i ((addTo p q i).1[i] || q[i]))).map AV.d), Frz.but 100 0, 100⟩ → K ⟨fr, C, Z, nx⟩ := by
      intro fr C Z nx hw
      refine hK (i + 1) fr C Z nx (by omega) (by omega) ?_
      rw [ed]; exact hw
    clear ed hK
    generalize (addTo p q i).2 = cm at *
    generalize (addTo p q i).1 = pp at *
    repeat' (first
    | (apply r_mvV; rfl)
    | (apply r_mvP; rfl)
    | (apply r_mvPL; rfl)
    | (apply r_mvS; rfl)
    | (apply r_mvSL; rfl)
    | (apply r_mvA; rfl)
    | (apply r_mvT; rfl)
    | (apply r_mvF; rfl)
    | (apply r_mvD; rfl)
    | (apply r_ixB'; rfl; rfl; omega; omega)
    | (apply r_ldB; rfl; exact hg)
    | (apply r_ixL; rfl; rfl; omega)
    | (apply r_ldBL; rfl; rfl; exact hgp)
    | (apply r_stB; rfl; rfl; rfl; rfl; exact hlp)
    | (apply r_ldL; rfl; rfl; rfl)
    | (apply r_lss; rfl; rfl; (first | (apply decide_eq_true; omega) | (apply decide_eq_false; omega) | rfl))
    | (apply r_add; rfl; rfl; rfl; omega)
    | (apply r_not; rfl; rfl)
    | (apply r_pickT; rfl)
    | (apply r_pickF; rfl)
    | (apply r_lenD; rfl)
    | (apply r_lenL; rfl)
    | (apply r_len0; rfl)
    | (apply r_gT; rfl)
    | (apply r_gF'; rfl; rfl)
    | (apply r_gN'; rfl)
    | ((apply r_gS (o := default); rfl) <;> (intro h; try simp only [decide_eq_true_eq, decide_eq_false_iff_not, Bool.not_eq_true, Bool.not_eq_false] at h))
    | (apply r_stL; rfl; rfl; rfl; rfl; (first | rfl | (simp only [z_nil, z_add] <;> rfl)); rfl; rfl)
    | (apply r_p; rfl)
    | (apply r_nilK)
    | (apply r_nil)
    | (apply k_V; rfl)
    | (apply k_P; rfl)
    | (apply k_PL; rfl)
    | (apply k_S; rfl)
    | (apply k_SL; rfl)
    | (apply k_A; rfl)
    | (apply k_T; rfl)
    | (apply k_F; rfl)
    | (apply k_D; rfl; rotate_left; rfl)
    | (apply k_nil)
    | (apply e_ret (vs := [.d (.val _)]); rfl)
    | (apply e_ret; rfl)
    | (apply e_ret' (vs := [.d (.val _)]); rfl)
    | (apply e_ret'; rfl)
    | (apply w_seq)
    | (apply w_ops; ((conv => lhs; simp only [Nat.reduceAdd]) <;> rfl))
    | (apply w_condT; rfl)
    | (apply w_condF; rfl)
    | ((apply w_condS; rfl) <;> (intro h; try simp only [decide_eq_true_eq, decide_eq_false_iff_not, Bool.not_eq_true, Bool.not_eq_false] at h))
    | (apply e_thenN)
    | (apply w_block)
    | (apply e_thenR)
    | (apply e_thenX)
    | (apply e_blkN)
    | (apply e_blkR)
    | (apply e_blkE)
    | (apply w_exit)
    | (apply w_ret)
    | (apply w_skip)
    | (apply e_blkE'; rfl))
    all_goals (apply e_thenK; apply fin; refine wk1D (by omega) (by omega) ?_ rfl encB_isD (FWk.i rfl (by simp) (FWk.d rfl ?_ (FWk.d rfl rfl (FWk.sl rfl rfl rfl rfl (by omega) rfl FWk.nil)))))
    all_goals clear fin
    all_goals first
      | (simp_all [h_put]; done)
      | simp_all
  · repeat' (first
    | (apply r_mvV; rfl)
    | (apply r_mvP; rfl)
    | (apply r_mvPL; rfl)
    | (apply r_mvS; rfl)
    | (apply r_mvSL; rfl)
    | (apply r_mvA; rfl)
    | (apply r_mvT; rfl)
    | (apply r_mvF; rfl)
    | (apply r_mvD; rfl)
    | (apply r_ldL; rfl; rfl; rfl)
    | (apply r_lss; rfl; rfl; (first | (apply decide_eq_true; omega) | (apply decide_eq_false; omega) | rfl))
    | (apply r_add; rfl; rfl; rfl; omega)
    | (apply r_not; rfl; rfl)
    | (apply r_pickT; rfl)
    | (apply r_pickF; rfl)
    | (apply r_lenD; rfl)
    | (apply r_lenL; rfl)
    | (apply r_len0; rfl)
    | (apply r_gT; rfl)
    | (apply r_gF'; rfl; rfl)
    | (apply r_gN'; rfl)
    | ((apply r_gS (o := default); rfl) <;> (intro h; try simp only [decide_eq_true_eq, decide_eq_false_iff_not, Bool.not_eq_true, Bool.not_eq_false] at h))
    | (apply r_stL; rfl; rfl; rfl; rfl; (first | rfl | (simp only [z_nil, z_add] <;> rfl)); rfl; rfl)
    | (apply r_p; rfl)
    | (apply r_nilK)
    | (apply r_nil)
    | (apply k_V; rfl)
    | (apply k_P; rfl)
    | (apply k_PL; rfl)
    | (apply k_S; rfl)
    | (apply k_SL; rfl)
    | (apply k_A; rfl)
    | (apply k_T; rfl)
    | (apply k_F; rfl)
    | (apply k_D; rfl; rotate_left; rfl)
    | (apply k_nil)
    | (apply e_ret (vs := [.d (.val _)]); rfl)
    | (apply e_ret; rfl)
    | (apply e_ret' (vs := [.d (.val _)]); rfl)
    | (apply e_ret'; rfl)
    | (apply w_seq)
    | (apply w_ops; ((conv => lhs; simp only [Nat.reduceAdd]) <;> rfl))
    | (apply w_condT; rfl)
    | (apply w_condF; rfl)
    | ((apply w_condS; rfl) <;> (intro h; try simp only [decide_eq_true_eq, decide_eq_false_iff_not, Bool.not_eq_true, Bool.not_eq_false] at h))
    | (apply e_thenN)
    | (apply w_block)
    | (apply e_thenR)
    | (apply e_thenX)
    | (apply e_blkN)
    | (apply e_blkR)
    | (apply e_blkE)
    | (apply w_exit)
    | (apply w_ret)
    | (apply w_skip)
    | (apply e_blkE'; rfl))
    rw [show i = m by omega]
    exact .dataL _ _ rfl rfl rfl rfl
end Go.Sv
namespace Go.Sv
open Go Go.Proofs
def x89 : XC := (.seq (.ops 2 [
    (0, ⟨(some 2), none, .box (.t 0)⟩),
    (1, ⟨(some 4), none, .mv (.k (.d (.val (.bool false))))⟩)] (some [1, 2])) (.seq (.ops 10 [
    (0, ⟨(some 5), none, .mv (.t 1)⟩),
    (1, ⟨(some 6), none, .arith .quo (.t 5) (.k (.d (.val (.int .u8 64))))⟩),
    (2, ⟨(some 7), none, .idxP 4 1 (.t 2) (.t 6)⟩),
    (3, ⟨(some 8), none, .load none (.t 7)⟩),
    (4, ⟨(some 9), none, .mv (.t 1)⟩),
    (5, ⟨(some 10), none, .arith .rem (.t 9) (.k (.d (.val (.int .u8 64))))⟩),
    (6, ⟨(some 11), none, .arith .shr (.t 8) (.t 10)⟩),
    (7, ⟨(some 12), none, .arith .rem (.t 11) (.k (.d (.val (.int .u64 2))))⟩),
    (8, ⟨(some 13), none, .arith .eql (.t 12) (.k (.d (.val (.int .u64 1))))⟩),
    (9, ⟨(some 4), none, .mv (.t 13)⟩)] (some [4])) .ret))
def md89 : FuncId → Option Nat × Bool
  | _ => (none, false)
def od89 : Nat → List (List Nat) × List Nat × Option (List Nat)
  | 0 => ([], [], some [1, 2])
  | 1 => ([], [], some [4])
  | _ => ([], [], none)
theorem b89 {ags : List AV} {row : Option (List DV)} {r : AV} {row' nw : Option (List DV)} (hal : ags.length ≤ 14) (hrow : row'.isSome = true → row.isSome = true) (h : xwp Try.prog x89 (retK [.tmp 4] row.isSome r row' nw) (St.init ags row)) : Good Try.prog 89 ags row r row' nw :=
  good_of_body' (md := md89) (od := od89) Try.f89 (by kernel_rfl) (by kernel_rfl) (by kernel_rfl) (by kernel_rfl) (by kernel_rfl) hal hrow h

section
variable {P : Program} {Q : Cont} {fr : Fr} {C : Heap} {Z : Frz} {nx : Nat} {base n d : Nat} {l : List (Nat × XO)} {kp : Option (List Nat)} {x i y s : X} {j c : Nat}
theorem r_quo64 (hx : x.ev fr = .d (.val (.int .u8 (c : Nat)))) (hy : y.ev fr = .d (.val (.int .u8 64))) (hc : c < 256) (k : R P l base kp Q nx (fr.put d (.d (.val (.int .u8 ((c / 64 : Nat) : Int))))) C Z) : R P ((n, ⟨some d, none, .arith .quo x y⟩) :: l) base kp Q nx fr C Z := by
  refine r_p ?_ k
  have e : IntKind.wrap .u8 (Int.tdiv (c : Int) 64) = ((c / 64 : Nat) : Int) := by
    rw [Int.tdiv_eq_ediv_of_nonneg (by omega)]
    simp [IntKind.wrap, IntKind.signed, IntKind.bits]; omega
  simp only [xp, hx, hy, arith]
  exact congrArg (fun z => some (AV.d (DV.val (Value.int .u8 z)))) e
theorem r_rem64 (hx : x.ev fr = .d (.val (.int .u8 (c : Nat)))) (hy : y.ev fr = .d (.val (.int .u8 64))) (k : R P l base kp Q nx (fr.put d (.d (.val (.int .u8 ((c % 64 : Nat) : Int))))) C Z) : R P ((n, ⟨some d, none, .arith .rem x y⟩) :: l) base kp Q nx fr C Z := by
  refine r_p ?_ k
  have e : Int.tmod (c : Int) 64 = ((c % 64 : Nat) : Int) := by
    rw [Int.tmod_eq_emod_of_nonneg (by omega)]; omega
  simp only [xp, hx, hy, arith]
  exact congrArg (fun z => some (AV.d (DV.val (Value.int .u8 z)))) e
theorem r_rem2 {w : Int} (hx : x.ev fr = .d (.val (.int .u64 w))) (hy : y.ev fr = .d (.val (.int .u64 2))) (hw : 0 ≤ w) (k : R P l base kp Q nx (fr.put d (.d (.val (.int .u64 (w % 2))))) C Z) : R P ((n, ⟨some d, none, .arith .rem x y⟩) :: l) base kp Q nx fr C Z := by
  refine r_p ?_ k
  have e : Int.tmod w 2 = w % 2 := Int.tmod_eq_emod_of_nonneg hw
  simp only [xp, hx, hy, arith]
  exact congrArg (fun z => some (AV.d (DV.val (Value.int .u64 z)))) e
theorem r_ixPL {m b off : Nat} {kd : IntKind} (hx : x.ev fr = .ptrL b off) (hi : i.ev fr = .d (.val (.int kd (j : Nat)))) (hj : j < m) (k : R P l base kp Q nx (fr.put d (.ptrL b (off + j))) C Z) : R P ((n, ⟨some d, none, .idxP m 1 x i⟩) :: l) base kp Q nx fr C Z := by
  refine r_p ?_ k
  simp [xp, hx, hi, intIn, hj]
theorem r_ldWL {b : Nat} {w0 w1 w2 w3 : Int} (hx : x.ev fr = .ptrL b (0 + j)) (hr : C b = some [.d (.val (.int .u64 w0)), .d (.val (.int .u64 w1)), .d (.val (.int .u64 w2)), .d (.val (.int .u64 w3))]) (hj : j < 4) (k : R P l base kp Q nx (fr.put d (.d (.val (.int .u64 ([w0, w1, w2, w3].getD j 0))))) C Z) : R P ((n, ⟨some d, none, .load none x⟩) :: l) base kp Q nx fr C Z := by
  refine r_l ?_ k
  simp only [xl, hx, rowOf, hr, Option.map_some, Option.bind_some, subA, Nat.zero_add]
  match j, hj with
  | 0, _ => rfl
  | 1, _ => rfl
  | 2, _ => rfl
  | 3, _ => rfl
end
set_option maxRecDepth 100000
set_option maxHeartbeats 4000000
attribute [local irreducible] W E R KP thenK blockK retK Good xwp aRun
def setA (a b c d : Int) : AV := .agg [.d (.val (.int .u64 a)), .d (.val (.int .u64 b)), .d (.val (.int .u64 c)), .d (.val (.int .u64 d))]
theorem in_good {a b c d : Int} (ha : okW a) (hb : okW b) (hc : okW c) (hd : okW d) (x : Nat) (hx : x < 256) : Good Try.prog 89 [setA a b c d, .d (.val (.int .u8 (x : Nat)))] none (.b (inG a b c d x)) none none := by
  unfold setA
  refine b89 (by simp) (by simp) (w_init ?_)
  unfold x89
  have hw : okW ([a, b, c, d].getD (x / 64) 0) := by
    have : x / 64 < 4 := by omega
    match x / 64, this with
    | 0, _ => exact ha
    | 1, _ => exact hb
    | 2, _ => exact hc
    | 3, _ => exact hd
  repeat' (first
    | (apply r_mvV; rfl)
    | (apply r_mvP; rfl)
    | (apply r_mvPL; rfl)
    | (apply r_mvS; rfl)
    | (apply r_mvSL; rfl)
    | (apply r_mvA; rfl)
    | (apply r_mvT; rfl)
    | (apply r_mvF; rfl)
    | (apply r_mvD; rfl)
    | (apply r_quo64; rfl; rfl; exact hx)
    | (apply r_rem64; rfl; rfl)
    | (apply r_ixPL; rfl; rfl; omega)
    | (apply r_ldWL; rfl; rfl; omega)
    | (apply r_shrW; rfl; rfl; exact hw.1; omega)
    | (apply r_rem2; rfl; rfl; exact (okW_div hw _).1)
    | (apply r_eqlU; rfl; rfl; rfl)
    | (apply r_ldL; rfl; rfl; rfl)
    | (apply r_eql; rfl; rfl; (first | (apply decide_eq_true; omega) | (apply decide_eq_false; omega) | rfl))
    | (apply r_box; ((conv => lhs; simp only [Nat.reduceAdd]) <;> rfl); rfl; rfl; rfl)
    | (apply r_p; rfl)
    | (apply r_nilK)
    | (apply r_nil)
    | (apply k_V; rfl)
    | (apply k_P; rfl)
    | (apply k_PL; rfl)
    | (apply k_S; rfl)
    | (apply k_SL; rfl)
    | (apply k_A; rfl)
    | (apply k_T; rfl)
    | (apply k_F; rfl)
    | (apply k_D; rfl; rotate_left; rfl)
    | (apply k_nil)
    | (apply e_ret (vs := [.d (.val _)]); rfl)
    | (apply e_ret; rfl)
    | (apply e_ret' (vs := [.d (.val _)]); rfl)
    | (apply e_ret'; rfl)
    | (apply w_seq)
    | (apply w_ops; ((conv => lhs; simp only [Nat.reduceAdd]) <;> rfl))
    | (apply e_thenN)
    | (apply w_block)
    | (apply e_thenR)
    | (apply e_thenX)
    | (apply e_blkN)
    | (apply e_blkR)
    | (apply e_blkE)
    | (apply w_exit)
    | (apply w_ret)
    | (apply w_skip)
    | (apply e_blkE'; rfl))
  exact retB rfl
end Go.Sv
namespace Go.Sv
open Go Go.Proofs
def x88 : XC := (.seq (.ops 2 [
    (0, ⟨(some 3), none, .box (.t 0)⟩),
    (1, ⟨(some 6), none, .mv (.k (.d (.val (.slice none 0 0))))⟩)] (some [1, 2, 3])) (.seq (.ops 5 [
    (0, ⟨(some 14), none, .mv (.t 1)⟩),
    (1, ⟨(some 15), none, .lenT (.t 14)⟩),
    (2, ⟨(some 16), none, .arith .add (.t 15) (.k (.d (.val (.int .i64 1))))⟩),
    (3, ⟨(some 17), none, .mks [(.bool false)] 1 (.t 16) (.t 16)⟩),
    (4, ⟨(some 7), none, .mv (.t 17)⟩)] (some [1, 2, 3, 7])) (.seq (.seq (.ops 2 [
    (0, ⟨(some 18), none, .fadd 0 (.t 3)⟩),
    (1, ⟨(some 19), none, .load none (.t 18)⟩)] (some [1, 2, 3, 7, 19])) (.block 0 (.seq (.ops 2 [
    (0, ⟨(some 21), none, .arith .eql (.t 19) (.k (.d (.val (.int .i64 1))))⟩),
    (1, ⟨(some 20), none, .mv (.t 21)⟩)] (some [1, 2, 3, 7, 19, 20])) (.cond (.t 20) (.ops 3 [
    (0, ⟨(some 22), none, .mv (.t 7)⟩),
    (1, ⟨(some 23), none, .mv (.t 2)⟩),
    (2, ⟨(some 24), none, .cpy 1 (.t 22) (.t 23)⟩)] (some [7])) (.seq (.ops 2 [
    (0, ⟨(some 26), none, .arith .eql (.t 19) (.k (.d (.val (.int .i64 2))))⟩),
    (1, ⟨(some 25), none, .mv (.t 26)⟩)] (some [1, 2, 3, 7, 19, 25])) (.cond (.t 25) (.seq (.ops 1 [
    (0, ⟨(some 8), none, .mv (.k (.d (.val (.int .i64 0))))⟩)] (some [1, 2, 3, 7, 8])) (.block 1 (.loop (.seq (.seq (.ops 4 [
    (0, ⟨(some 27), none, .mv (.t 8)⟩),
    (1, ⟨(some 28), none, .mv (.t 1)⟩),
    (2, ⟨(some 29), none, .lenT (.t 28)⟩),
    (3, ⟨(some 30), none, .arith .lss (.t 27) (.t 29)⟩)] (some [1, 2, 3, 7, 8, 30])) (.cond (.t 30) .skip (.exit 1))) (.seq (.block 2 (.ops 17 [
    (0, ⟨(some 33), none, .mv (.t 7)⟩),
    (1, ⟨(some 34), none, .mv (.t 8)⟩),
    (2, ⟨(some 35), none, .arith .add (.t 34) (.k (.d (.val (.int .i64 1))))⟩),
    (3, ⟨(some 36), none, .mv (.t 2)⟩),
    (4, ⟨(some 37), none, .mv (.t 8)⟩),
    (5, ⟨(some 38), none, .idxS 1 (.t 36) (.t 37)⟩),
    (6, ⟨(some 39), none, .load none (.t 38)⟩),
    (7, ⟨(some 40), none, .mv (.t 39)⟩),
    (8, ⟨(some 41), (some (40, true)), .fadd 1 (.t 3)⟩),
    (9, ⟨(some 42), (some (40, true)), .load (some 4) (.t 41)⟩),
    (10, ⟨(some 43), (some (40, true)), .mv (.t 1)⟩),
    (11, ⟨(some 44), (some (40, true)), .mv (.t 8)⟩),
    (12, ⟨(some 45), (some (40, true)), .idxT (.t 43) (.t 44)⟩),
    (13, ⟨(some 46), (some (40, true)), .call 89 [(.t 42), (.t 45)] none false⟩),
    (14, ⟨(some 47), none, .pick (.t 40) (.t 46) (.k (.d (.val (.bool false))))⟩),
    (15, ⟨(some 48), none, .idxS 1 (.t 33) (.t 35)⟩),
    (16, ⟨none, none, .store 1 (.t 48) (.t 47)⟩)] (some [1, 2, 3, 7, 8]))) (.ops 3 [
    (0, ⟨(some 31), none, .mv (.t 8)⟩),
    (1, ⟨(some 32), none, .arith .add (.t 31) (.k (.d (.val (.int .i64 1))))⟩),
    (2, ⟨(some 8), none, .mv (.t 32)⟩)] (some [1, 2, 3, 7, 8]))))))) (.seq (.ops 2 [
    (0, ⟨(some 50), none, .arith .eql (.t 19) (.k (.d (.val (.int .i64 3))))⟩),
    (1, ⟨(some 49), none, .mv (.t 50)⟩)] (some [1, 2, 3, 7, 19, 49])) (.cond (.t 49) (.seq (.ops 3 [
    (0, ⟨(some 51), none, .mv (.t 7)⟩),
    (1, ⟨(some 52), none, .mv (.t 2)⟩),
    (2, ⟨(some 53), none, .cpy 1 (.t 51) (.t 52)⟩)] (some [1, 3, 7])) (.seq (.ops 1 [
    (0, ⟨(some 9), none, .mv (.k (.d (.val (.int .i64 0))))⟩)] (some [1, 3, 7, 9])) (.block 3 (.loop (.seq (.seq (.ops 5 [
    (0, ⟨(some 54), none, .mv (.t 9)⟩),
    (1, ⟨(some 55), none, .fadd 7 (.t 3)⟩),
    (2, ⟨(some 56), none, .load none (.t 55)⟩),
    (3, ⟨(some 57), none, .lenS (.t 56)⟩),
    (4, ⟨(some 58), none, .arith .lss (.t 54) (.t 57)⟩)] (some [1, 3, 7, 9, 58])) (.cond (.t 58) .skip (.exit 3))) (.seq (.block 4 (.ops 9 [
    (0, ⟨(some 61), none, .fadd 7 (.t 3)⟩),
    (1, ⟨(some 62), none, .load none (.t 61)⟩),
    (2, ⟨(some 63), none, .mv (.t 9)⟩),
    (3, ⟨(some 64), none, .idxS 8 (.t 62) (.t 63)⟩),
    (4, ⟨(some 65), none, .load (some 8) (.t 64)⟩),
    (5, ⟨(some 66), none, .mv (.t 1)⟩),
    (6, ⟨(some 67), none, .mv (.t 7)⟩),
    (7, ⟨(some 68), none, .call 88 [(.t 65), (.t 66), (.t 67)] none false⟩),
    (8, ⟨(some 7), none, .mv (.t 68)⟩)] (some [1, 3, 7, 9]))) (.ops 3 [
    (0, ⟨(some 59), none, .mv (.t 9)⟩),
    (1, ⟨(some 60), none, .arith .add (.t 59) (.k (.d (.val (.int .i64 1))))⟩),
    (2, ⟨(some 9), none, .mv (.t 60)⟩)] (some [1, 3, 7, 9])))))))) (.seq (.ops 2 [
    (0, ⟨(some 70), none, .arith .eql (.t 19) (.k (.d (.val (.int .i64 4))))⟩),
    (1, ⟨(some 69), none, .mv (.t 70)⟩)] (some [1, 2, 3, 7, 19, 69])) (.cond (.t 69) (.seq (.ops 1 [
    (0, ⟨(some 10), none, .mv (.k (.d (.val (.int .i64 0))))⟩)] (some [1, 2, 3, 7, 10])) (.block 5 (.loop (.seq (.seq (.ops 5 [
    (0, ⟨(some 71), none, .mv (.t 10)⟩),
    (1, ⟨(some 72), none, .fadd 7 (.t 3)⟩),
    (2, ⟨(some 73), none, .load none (.t 72)⟩),
    (3, ⟨(some 74), none, .lenS (.t 73)⟩),
    (4, ⟨(some 75), none, .arith .lss (.t 71) (.t 74)⟩)] (some [1, 2, 3, 7, 10, 75])) (.cond (.t 75) .skip (.exit 5))) (.seq (.block 6 (.ops 10 [
    (0, ⟨(some 78), none, .mv (.t 7)⟩),
    (1, ⟨(some 79), none, .fadd 7 (.t 3)⟩),
    (2, ⟨(some 80), none, .load none (.t 79)⟩),
    (3, ⟨(some 81), none, .mv (.t 10)⟩),
    (4, ⟨(some 82), none, .idxS 8 (.t 80) (.t 81)⟩),
    (5, ⟨(some 83), none, .load (some 8) (.t 82)⟩),
    (6, ⟨(some 84), none, .mv (.t 1)⟩),
    (7, ⟨(some 85), none, .mv (.t 2)⟩),
    (8, ⟨(some 86), none, .call 88 [(.t 83), (.t 84), (.t 85)] none false⟩),
    (9, ⟨(some 87), none, .call 137 [(.t 78), (.t 86)] (some 0) false⟩)] (some [1, 2, 3, 7, 10]))) (.ops 3 [
    (0, ⟨(some 76), none, .mv (.t 10)⟩),
    (1, ⟨(some 77), none, .arith .add (.t 76) (.k (.d (.val (.int .i64 1))))⟩),
    (2, ⟨(some 10), none, .mv (.t 77)⟩)] (some [1, 2, 3, 7, 10]))))))) (.seq (.ops 2 [
    (0, ⟨(some 89), none, .arith .eql (.t 19) (.k (.d (.val (.int .i64 5))))⟩),
    (1, ⟨(some 88), none, .mv (.t 89)⟩)] (some [1, 2, 3, 7, 88])) (.cond (.t 88) (.seq (.ops 4 [
    (0, ⟨(some 90), none, .mkrow [(.bool false)] 0 1 []⟩),
    (1, ⟨(some 91), none, .mv (.t 2)⟩),
    (2, ⟨(some 92), none, .app [(.bool false)] 1 (.t 90) (.t 91)⟩),
    (3, ⟨(some 11), none, .mv (.t 92)⟩)] (some [1, 3, 7, 11])) (.seq (.ops 3 [
    (0, ⟨(some 93), none, .fadd 6 (.t 3)⟩),
    (1, ⟨(some 94), none, .load none (.t 93)⟩),
    (2, ⟨(some 12), none, .mv (.t 94)⟩)] (some [1, 3, 7, 11, 12])) (.seq (.seq (.ops 2 [
    (0, ⟨(some 95), none, .mv (.t 12)⟩),
    (1, ⟨(some 96), none, .arith .lss (.t 95) (.k (.d (.val (.int .i64 0))))⟩)] (some [1, 3, 7, 11, 12, 96])) (.cond (.t 96) (.ops 7 [
    (0, ⟨(some 97), none, .fadd 5 (.t 3)⟩),
    (1, ⟨(some 98), none, .load none (.t 97)⟩),
    (2, ⟨(some 99), none, .mv (.t 1)⟩),
    (3, ⟨(some 100), none, .lenT (.t 99)⟩),
    (4, ⟨(some 101), none, .arith .add (.t 98) (.t 100)⟩),
    (5, ⟨(some 102), none, .arith .add (.t 101) (.k (.d (.val (.int .i64 1))))⟩),
    (6, ⟨(some 12), none, .mv (.t 102)⟩)] (some [1, 3, 7, 11, 12])) .skip)) (.seq (.ops 1 [
    (0, ⟨(some 13), none, .mv (.k (.d (.val (.int .i64 0))))⟩)] (some [1, 3, 7, 11, 12, 13])) (.block 7 (.loop (.seq (.seq (.ops 3 [
    (0, ⟨(some 103), none, .mv (.t 13)⟩),
    (1, ⟨(some 104), none, .mv (.t 12)⟩),
    (2, ⟨(some 105), none, .arith .leq (.t 103) (.t 104)⟩)] (some [1, 3, 7, 11, 12, 13, 105])) (.cond (.t 105) .skip (.exit 7))) (.seq (.block 8 (.seq (.seq (.ops 10 [
    (0, ⟨(some 108), none, .mv (.t 13)⟩),
    (1, ⟨(some 109), none, .fadd 5 (.t 3)⟩),
    (2, ⟨(some 110), none, .load none (.t 109)⟩),
    (3, ⟨(some 111), none, .arith .geq (.t 108) (.t 110)⟩),
    (4, ⟨(some 112), none, .mv (.t 111)⟩),
    (5, ⟨(some 113), (some (112, true)), .mv (.t 7)⟩),
    (6, ⟨(some 114), (some (112, true)), .mv (.t 11)⟩),
    (7, ⟨(some 115), (some (112, true)), .call 137 [(.t 113), (.t 114)] (some 0) false⟩),
    (8, ⟨(some 116), (some (112, true)), .un .not (.t 115)⟩),
    (9, ⟨(some 117), none, .pick (.t 112) (.t 116) (.k (.d (.val (.bool false))))⟩)] (some [1, 3, 7, 11, 12, 13, 117])) (.cond (.t 117) (.exit 7) .skip)) (.ops 8 [
    (0, ⟨(some 118), none, .fadd 7 (.t 3)⟩),
    (1, ⟨(some 119), none, .load none (.t 118)⟩),
    (2, ⟨(some 120), none, .idxS 8 (.t 119) (.k (.d (.val (.int .i64 0))))⟩),
    (3, ⟨(some 121), none, .load (some 8) (.t 120)⟩),
    (4, ⟨(some 122), none, .mv (.t 1)⟩),
    (5, ⟨(some 123), none, .mv (.t 11)⟩),
    (6, ⟨(some 124), none, .call 88 [(.t 121), (.t 122), (.t 123)] none false⟩),
    (7, ⟨(some 11), none, .mv (.t 124)⟩)] (some [1, 3, 7, 11, 12, 13])))) (.ops 3 [
    (0, ⟨(some 106), none, .mv (.t 13)⟩),
    (1, ⟨(some 107), none, .arith .add (.t 106) (.k (.d (.val (.int .i64 1))))⟩),
    (2, ⟨(some 13), none, .mv (.t 107)⟩)] (some [1, 3, 7, 11, 12, 13])))))))))) .skip)))))))))))) (.seq (.ops 2 [
    (0, ⟨(some 125), none, .mv (.t 7)⟩),
    (1, ⟨(some 6), none, .mv (.t 125)⟩)] (some [6])) .ret))))
def md88 : FuncId → Option Nat × Bool
  | 137 => (some 0, false)
  | _ => (none, false)
def od88 : Nat → List (List Nat) × List Nat × Option (List Nat)
  | 0 => ([], [], some [1, 2, 3])
  | 1 => ([], [], some [1, 2, 3, 7])
  | 2 => ([], [], some [1, 2, 3, 7, 19])
  | 3 => ([], [], some [1, 2, 3, 7, 19, 20])
  | 4 => ([], [], some [7])
  | 5 => ([], [], some [1, 2, 3, 7, 19, 25])
  | 6 => ([], [], some [1, 2, 3, 7, 8])
  | 7 => ([], [], some [1, 2, 3, 7, 8, 30])
  | 8 => ([], [], some [1, 2, 3, 7, 8])
  | 9 => ([[], [], [1], [], [], [3, 4], [3, 4, 5], [3, 4, 5, 6], [3, 4, 5, 6, 7], [3, 4, 5, 6, 7, 8], [3, 4, 5, 6, 7], [3, 4, 5, 6, 7], [3, 4, 5, 6, 7, 10, 11], [3, 4, 5, 6, 7, 8, 9, 10, 11, 12], [3, 4, 5, 6, 7, 8, 9, 10, 11, 12, 13], [0, 1, 2, 3, 4, 5, 6, 7, 8, 9, 10, 11, 12, 13, 14], [0, 1, 2, 3, 4, 5, 6, 7, 8, 9, 10, 11, 12, 13, 14, 15]], [0, 1, 2, 3, 4, 5, 6, 7, 8, 9, 10, 11, 12, 13, 14, 15, 16], some [1, 2, 3, 7, 8])
  | 10 => ([], [], some [1, 2, 3, 7, 19, 49])
  | 11 => ([], [], some [1, 3, 7])
  | 12 => ([], [], some [1, 3, 7, 9])
  | 13 => ([], [], some [1, 3, 7, 9, 58])
  | 14 => ([], [], some [1, 3, 7, 9])
  | 15 => ([], [], some [1, 3, 7, 9])
  | 16 => ([], [], some [1, 2, 3, 7, 19, 69])
  | 17 => ([], [], some [1, 2, 3, 7, 10])
  | 18 => ([], [], some [1, 2, 3, 7, 10, 75])
  | 19 => ([], [], some [1, 2, 3, 7, 10])
  | 20 => ([], [], some [1, 2, 3, 7, 10])
  | 21 => ([], [], some [1, 2, 3, 7, 88])
  | 22 => ([], [], some [1, 3, 7, 11])
  | 23 => ([], [], some [1, 3, 7, 11, 12])
  | 24 => ([], [], some [1, 3, 7, 11, 12, 96])
  | 25 => ([], [], some [1, 3, 7, 11, 12])
  | 26 => ([], [], some [1, 3, 7, 11, 12, 13])
  | 27 => ([], [], some [1, 3, 7, 11, 12, 13, 105])
  | 28 => ([], [], some [1, 3, 7, 11, 12, 13])
  | 29 => ([], [], some [1, 3, 7, 11, 12, 13, 117])
  | 30 => ([], [], some [1, 3, 7, 11, 12, 13])
  | 31 => ([], [], some [6])
  | _ => ([], [], none)
theorem b88 {ags : List AV} {row : Option (List DV)} {r : AV} {row' nw : Option (List DV)} (hal : ags.length ≤ 126) (hrow : row'.isSome = true → row.isSome = true) (h : xwp Try.prog x88 (retK [.tmp 6] row.isSome r row' nw) (St.init ags row)) : Good Try.prog 88 ags row r row' nw :=
  good_of_body' (md := md88) (od := od88) Try.f88 (by kernel_rfl) (by kernel_rfl) (by kernel_rfl) (by kernel_rfl) (by kernel_rfl) hal hrow h

def refR (f : List Bool → List Bool) (m : Nat) (mn last : Int) : Nat → Int → List Bool → List Bool → List Bool
  | 0, _, _, out => out
  | n + 1, k, p, out =>
    if k ≤ last then
      if mn ≤ k then (if (addTo out p m).2 = true then refR f m mn last n (k + 1) (f p) (addTo out p m).1 else (addTo out p m).1)
      else refR f m mn last n (k + 1) (f p) out
    else out
mutual
def refG (s : ByteArray) : T → List Bool → List Bool
  | .node k a b c d mn mx subs, p =>
    if k = 1 then p
    else if k = 2 then classTo a b c d s p s.size
    else if k = 3 then rcatG s subs p
    else if k = 4 then raltG s subs p (List.replicate (s.size + 1) false)
    else if k = 5 then refR (rfstG s subs) (s.size + 1) mn (if mx < 0 then mn + s.size + 1 else mx) ((if mx < 0 then mn + s.size + 1 else mx) + 1).toNat 0 p (List.replicate (s.size + 1) false)
    else List.replicate (s.size + 1) false
def rcatG (s : ByteArray) : List T → List Bool → List Bool
  | [], p => p
  | t :: l, p => rcatG s l (refG s t p)
def raltG (s : ByteArray) : List T → List Bool → List Bool → List Bool
  | [], _, out => out
  | t :: l, p, out => raltG s l p (addTo out (refG s t p) (s.size + 1)).1
def rfstG (s : ByteArray) : List T → List Bool → List Bool
  | [], p => p
  | t :: _, p => refG s t p
end
theorem refR_len (f : List Bool → List Bool) (m : Nat) (mn last : Int) : ∀ (n : Nat) (k : Int) (p out : List Bool), (refR f m mn last n k p out).length = out.length
  | 0, _, _, _ => rfl
  | n + 1, k, p, out => by
    simp only [refR]
    split
    · split
      · split
        · rw [refR_len f m mn last n, addTo_len]
        · rw [addTo_len]
      · rw [refR_len f m mn last n]
    · rfl
mutual
theorem refG_len (s : ByteArray) : ∀ (t : T) (p : List Bool), p.length = s.size + 1 → (refG s t p).length = s.size + 1
  | .node k a b c d mn mx subs, p, h => by
    simp only [refG]
    split
    · exact h
    split
    · exact classTo_len _ _ _ _ _ _ _
    split
    · exact rcatG_len s subs p h
    split
    · exact raltG_len s subs p _ h (by simp)
    split
    · rw [refR_len]; simp
    · simp
theorem rcatG_len (s : ByteArray) : ∀ (l : List T) (p : List Bool), p.length = s.size + 1 → (rcatG s l p).length = s.size + 1
  | [], p, h => by simp only [rcatG]; exact h
  | t :: l, p, h => by simp only [rcatG]; exact rcatG_len s l _ (refG_len s t p h)
theorem raltG_len (s : ByteArray) : ∀ (l : List T) (p out : List Bool), p.length = s.size + 1 → out.length = s.size + 1 → (raltG s l p out).length = s.size + 1
  | [], p, out, _, h => by simp only [raltG]; exact h
  | t :: l, p, out, h, h2 => by simp only [raltG]; exact raltG_len s l p _ h (by rw [addTo_len]; exact h2)
end
end Go.Sv
namespace Go.Sv
open Go

def word (s : ByteArray) (i j : Nat) : List Nat := (List.range' i (j - i)).map (byteN s)
theorem word_nil (s : ByteArray) (i : Nat) : word s i i = [] := by simp [word]
theorem word_one (s : ByteArray) (i : Nat) : word s i (i + 1) = [byteN s i] := by
  simp [word, Nat.add_sub_cancel_left]
theorem word_len (s : ByteArray) (i j : Nat) : (word s i j).length = j - i := by simp [word]
theorem word_app (s : ByteArray) {i j k : Nat} (h : i ≤ j) (h2 : j ≤ k) : word s i j ++ word s j k = word s i k := by
  unfold word
  rw [← List.map_append]
  congr 1
  have e : j = i + (j - i) := by omega
  conv => lhs; rhs; arg 1; rw [e]
  rw [List.range'_append_1]
  congr 1; omega
theorem word_split (s : ByteArray) {i k : Nat} (h : i ≤ k) {u v : List Nat} (e : word s i k = u ++ v) : i + u.length ≤ k ∧ u = word s i (i + u.length) ∧ v = word s (i + u.length) k := by
  have hl := congrArg List.length e
  rw [word_len, List.length_append] at hl
  have h1 : i + u.length ≤ k := by omega
  rw [← word_app s (Nat.le_add_right i u.length) h1] at e
  have := List.append_inj e (by rw [word_len]; omega)
  exact ⟨h1, this.1.symm, this.2.symm⟩

def powL (P : List Nat → Prop) : Nat → List Nat → Prop
  | 0, w => w = []
  | n + 1, w => ∃ u v, w = u ++ v ∧ P u ∧ powL P n v

mutual
def L : T → List Nat → Prop
  | .node k a b c d mn mx subs, w =>
    if k = 1 then w = []
    else if k = 2 then ∃ x, w = [x] ∧ inG a b c d x = true
    else if k = 3 then catL subs w
    else if k = 4 then altL subs w
    else if k = 5 then ∃ r : Nat, mn ≤ r ∧ (mx < 0 ∨ (r : Int) ≤ mx) ∧ powL (fstL subs) r w
    else False
def catL : List T → List Nat → Prop
  | [], w => w = []
  | t :: l, w => ∃ u v, w = u ++ v ∧ L t u ∧ catL l v
def altL : List T → List Nat → Prop
  | [], _ => False
  | t :: l, w => L t w ∨ altL l w
def fstL : List T → List Nat → Prop
  | [], w => w = []
  | t :: _, w => L t w
end

def At (p : List Bool) (j : Nat) : Prop := p.getD j false = true
theorem At.lt {p : List Bool} {j : Nat} (h : At p j) : j < p.length := by
  unfold At at h
  rcases Nat.lt_or_ge j p.length with h' | h'
  · exact h'
  · rw [List.getD_eq_getElem?_getD, List.getElem?_eq_none h'] at h; simp at h
theorem at_rep (m j : Nat) : ¬ At (List.replicate m false) j := by
  intro h
  have := h.lt
  unfold At at h
  rw [List.getD_eq_getElem?_getD, List.getElem?_eq_getElem this] at h
  simp at h
theorem at_set {p : List Bool} {i : Nat} {v : Bool} (j : Nat) (hi : i < p.length) : At (p.set i v) j ↔ (j = i ∧ v = true) ∨ (j ≠ i ∧ At p j) := by
  unfold At
  rw [List.getD_eq_getElem?_getD, List.getD_eq_getElem?_getD, List.getElem?_set]
  by_cases h : i = j
  · subst h; simp [hi]
  · simp [h, Ne.symm h]
theorem at_ext {p q : List Bool} (hl : p.length = q.length) (h : ∀ j, At p j ↔ At q j) : p = q := by
  refine List.ext_getElem hl fun j h1 h2 => ?_
  have := h j
  unfold At at this
  rw [List.getD_eq_getElem?_getD, List.getD_eq_getElem?_getD, List.getElem?_eq_getElem h1, List.getElem?_eq_getElem h2] at this
  simp only [Option.getD_some] at this
  exact Bool.eq_iff_iff.2 this

theorem at_addTo {p q : List Bool} : ∀ (m : Nat), m ≤ p.length → ∀ j, At (addTo p q m).1 j ↔ At p j ∨ (j < m ∧ At q j)
  | 0, _, j => by simp [addTo]
  | m + 1, h, j => by
    have ih := at_addTo (p := p) (q := q) m (by omega)
    have hl : m < (addTo p q m).1.length := by rw [addTo_len]; omega
    simp only [addTo]
    split
    · rename_i hc
      simp only [at_set j hl, ih j]
      constructor
      · rintro (⟨rfl, _⟩ | ⟨_, h | ⟨h1, h2⟩⟩)
        · exact .inr ⟨by omega, hc.1⟩
        · exact .inl h
        · exact .inr ⟨by omega, h2⟩
      · intro h
        by_cases hj : j = m
        · exact .inl (by simp [hj])
        · rcases h with h | ⟨h1, h2⟩
          · exact .inr ⟨hj, .inl h⟩
          · exact .inr ⟨hj, .inr ⟨by omega, h2⟩⟩
    · rename_i hc
      rw [ih j]
      constructor
      · rintro (h | ⟨h1, h2⟩)
        · exact .inl h
        · exact .inr ⟨by omega, h2⟩
      · rintro (h | ⟨h1, h2⟩)
        · exact .inl h
        · by_cases hj : j = m
          · subst hj
            have h3 : At (addTo p q j).1 j := by
              unfold At
              cases hb : (addTo p q j).1.getD j false with
              | true => rfl
              | false => exact absurd ⟨h2, hb⟩ hc
            rcases (ih j).1 h3 with h | ⟨h1, _⟩
            · exact .inl h
            · omega
          · exact .inr ⟨by omega, h2⟩
theorem addTo_new {p q : List Bool} : ∀ (m : Nat), m ≤ p.length → ((addTo p q m).2 = true ↔ ∃ j, j < m ∧ At q j ∧ ¬ At p j)
  | 0, _ => by simp [addTo]
  | m + 1, h => by
    have ih := addTo_new (p := p) (q := q) m (by omega)
    have ha := at_addTo (p := p) (q := q) m (by omega) m
    simp only [addTo]
    split
    · rename_i hc
      simp only [true_iff]
      refine ⟨m, by omega, hc.1, fun hp => ?_⟩
      have := ha.2 (.inl hp)
      unfold At at this
      rw [hc.2] at this; cases this
    · rename_i hc
      rw [ih]
      constructor
      · rintro ⟨j, h1, h2, h3⟩; exact ⟨j, by omega, h2, h3⟩
      · rintro ⟨j, h1, h2, h3⟩
        by_cases hj : j = m
        · subst hj
          exfalso
          refine hc ⟨h2, ?_⟩
          cases hb : (addTo p q j).1.getD j false with
          | false => rfl
          | true =>
            rcases ha.1 hb with h | ⟨h, _⟩
            · exact absurd h h3
            · omega
        · exact ⟨j, by omega, h2, h3⟩

def Goes (s : ByteArray) (f : List Bool → List Bool) (P : List Nat → Prop) : Prop :=
  ∀ p, p.length = s.size + 1 → (f p).length = s.size + 1 ∧ ∀ j, At (f p) j ↔ ∃ i, i ≤ j ∧ At p i ∧ j ≤ s.size ∧ P (word s i j)

def iter (f : List Bool → List Bool) : Nat → List Bool → List Bool
  | 0, p => p
  | n + 1, p => iter f n (f p)
theorem iter_goes {s : ByteArray} {f : List Bool → List Bool} {P : List Nat → Prop} (hf : Goes s f P) : ∀ n, Goes s (iter f n) (powL P n)
  | 0 => fun p hp => ⟨hp, fun j => by
      simp only [iter, powL]
      constructor
      · intro h; exact ⟨j, Nat.le_refl _, h, by have := h.lt; omega, word_nil s j⟩
      · rintro ⟨i, h1, h2, h3, h4⟩
        have := congrArg List.length h4
        rw [word_len] at this
        simp at this
        rw [show j = i by omega]; exact h2⟩
  | n + 1 => fun p hp => by
    obtain ⟨h1, h2⟩ := hf p hp
    obtain ⟨h3, h4⟩ := iter_goes hf n (f p) h1
    refine ⟨h3, fun j => ?_⟩
    simp only [iter, powL]
    rw [h4 j]
    constructor
    · rintro ⟨i, g1, g2, g3, g4⟩
      obtain ⟨i0, k1, k2, k3, k4⟩ := (h2 i).1 g2
      exact ⟨i0, by omega, k2, g3, _, _, (word_app s k1 g1).symm, k4, g4⟩
    · rintro ⟨i, g1, g2, g3, u, v, e, g4, g5⟩
      obtain ⟨k1, k2, k3⟩ := word_split s g1 e
      refine ⟨i + u.length, k1, (h2 _).2 ⟨i, by omega, g2, by omega, k2 ▸ g4⟩, g3, k3 ▸ g5⟩
def Sub (p q : List Bool) : Prop := ∀ j, At p j → At q j
theorem Goes.mono {s : ByteArray} {f : List Bool → List Bool} {P : List Nat → Prop} (hf : Goes s f P) {p q : List Bool} (hp : p.length = s.size + 1) (hq : q.length = s.size + 1) (h : Sub p q) : Sub (f p) (f q) := by
  intro j hj
  obtain ⟨i, h1, h2, h3, h4⟩ := ((hf p hp).2 j).1 hj
  exact ((hf q hq).2 j).2 ⟨i, h1, h i h2, h3, h4⟩
theorem Goes.step {s : ByteArray} {f : List Bool → List Bool} {P : List Nat → Prop} (hf : Goes s f P) {p q r : List Bool} (hp : p.length = s.size + 1) (hq : q.length = s.size + 1) (hr : r.length = s.size + 1) (h : ∀ j, At r j → At p j ∨ At q j) : ∀ j, At (f r) j → At (f p) j ∨ At (f q) j := by
  intro j hj
  obtain ⟨i, h1, h2, h3, h4⟩ := ((hf r hr).2 j).1 hj
  rcases h i h2 with h | h
  · exact .inl (((hf p hp).2 j).2 ⟨i, h1, h, h3, h4⟩)
  · exact .inr (((hf q hq).2 j).2 ⟨i, h1, h, h3, h4⟩)
theorem iter_sub {s : ByteArray} {f : List Bool → List Bool} {P : List Nat → Prop} (hf : Goes s f P) {out : List Bool} (ho : out.length = s.size + 1) (hc : Sub (f out) out) : ∀ (n : Nat) (p : List Bool), p.length = s.size + 1 → Sub p out → Sub (iter f n p) out
  | 0, p, _, h => h
  | n + 1, p, hp, h => iter_sub hf ho hc n (f p) (hf p hp).1 fun j hj => hc j (hf.mono hp ho h j hj)

theorem refR_spec {s : ByteArray} {f : List Bool → List Bool} {P : List Nat → Prop} (hf : Goes s f P) (mn last : Int) : ∀ (n : Nat) (k : Int) (p out : List Bool), p.length = s.size + 1 → out.length = s.size + 1 → (last + 1 - k).toNat ≤ n →
    (∀ j, At (f out) j → At out j ∨ At p j) → (k < mn → ∀ j, ¬ At out j) →
    (∀ j, At (refR f (s.size + 1) mn last n k p out) j ↔ At out j ∨ ∃ r : Nat, mn ≤ k + r ∧ k + r ≤ last ∧ At (iter f r p) j) ∧
    (falses out ≤ last - max k mn → ∀ (j r : Nat), mn ≤ k + r → At (iter f r p) j → At (refR f (s.size + 1) mn last n k p out) j)
  | 0, k, p, out, hp, ho, hn, hc, hz => by
    simp only [refR]
    refine ⟨fun j => ⟨.inl, ?_⟩, fun h => ?_⟩
    · rintro (h | ⟨r, h1, h2, h3⟩)
      · exact h
      · omega
    · omega
  | n + 1, k, p, out, hp, ho, hn, hc, hz => by
    have hfp := (hf p hp).1
    simp only [refR]
    split
    case isFalse hk =>
      refine ⟨fun j => ⟨.inl, ?_⟩, fun h => ?_⟩
      · rintro (h | ⟨r, h1, h2, h3⟩)
        · exact h
        · omega
      · omega
    rename_i hk
    split
    · rename_i hmn
      have hl2 : (addTo out p (s.size + 1)).1.length = s.size + 1 := by rw [addTo_len]; exact ho
      have hat : ∀ j, At (addTo out p (s.size + 1)).1 j ↔ At out j ∨ At p j := fun j => by
        rw [at_addTo _ (by omega)]
        exact or_congr Iff.rfl ⟨fun h => h.2, fun h => ⟨by have := h.lt; omega, h⟩⟩
      have hnew := addTo_new (p := out) (q := p) (s.size + 1) (by omega)
      have hfs := addTo_falses out p (s.size + 1) (by omega)
      split
      · rename_i hcame
        have hc' : ∀ j, At (f (addTo out p (s.size + 1)).1) j → At (addTo out p (s.size + 1)).1 j ∨ At (f p) j := fun j hj => by
          rcases hf.step ho hp hl2 (fun j hj => (hat j).1 hj) j hj with h | h
          · exact .inl ((hat j).2 (hc j h))
          · exact .inr h
        obtain ⟨i1, i2⟩ := refR_spec hf mn last n (k + 1) (f p) _ hfp hl2 (by omega) hc' (fun h => by omega)
        refine ⟨fun j => ?_, fun hlt j r hr hj => ?_⟩
        · rw [i1 j, hat j]
          constructor
          · rintro ((h | h) | ⟨r, h1, h2, h3⟩)
            · exact .inl h
            · exact .inr ⟨0, by omega, by omega, h⟩
            · exact .inr ⟨r + 1, by omega, by omega, h3⟩
          · rintro (h | ⟨r, h1, h2, h3⟩)
            · exact .inl (.inl h)
            · cases r with
              | zero => exact .inl (.inr h3)
              | succ r => exact .inr ⟨r, by omega, by omega, h3⟩
        · cases r with
          | zero => exact (i1 j).2 (.inl ((hat j).2 (.inr hj)))
          | succ r =>
            have := hfs.2 hcame
            exact i2 (by omega) j r (by omega) hj
      · rename_i hcame
        have hsub : Sub p out := fun j hj => by
          by_cases h : At out j
          · exact h
          · exact absurd (hnew.2 ⟨j, by have := hj.lt; omega, hj, h⟩) hcame
        have hcl : Sub (f out) out := fun j hj => (hc j hj).elim id (hsub j)
        have hit : ∀ r j, At (iter f r p) j → At out j := fun r j hj => iter_sub hf ho hcl r p hp hsub j hj
        refine ⟨fun j => ?_, fun _ j r _ hj => (hat j).2 (.inl (hit r j hj))⟩
        rw [hat j]
        constructor
        · rintro (h | h)
          · exact .inl h
          · exact .inl (hsub j h)
        · rintro (h | ⟨r, _, _, h⟩)
          · exact .inl h
          · exact .inl (hit r j h)
    · rename_i hmn
      have hz' := hz (by omega)
      have hc' : ∀ j, At (f out) j → At out j ∨ At (f p) j := fun j hj => by
        obtain ⟨i, _, h2, _⟩ := ((hf out ho).2 j).1 hj
        exact absurd h2 (hz' i)
      obtain ⟨i1, i2⟩ := refR_spec hf mn last n (k + 1) (f p) out hfp ho (by omega) hc' (fun h => hz')
      refine ⟨fun j => ?_, fun hlt j r hr hj => ?_⟩
      · rw [i1 j]
        constructor
        · rintro (h | ⟨r, h1, h2, h3⟩)
          · exact .inl h
          · exact .inr ⟨r + 1, by omega, by omega, h3⟩
        · rintro (h | ⟨r, h1, h2, h3⟩)
          · exact .inl h
          · cases r with
            | zero => omega
            | succ r => exact .inr ⟨r, by omega, by omega, h3⟩
      · cases r with
        | zero => omega
        | succ r => exact i2 (by omega) j r (by omega) hj

theorem falses_le (p : List Bool) : falses p ≤ p.length := List.countP_le_length

theorem ex_pow {s : ByteArray} {f : List Bool → List Bool} {P : List Nat → Prop} (hf : Goes s f P) {p : List Bool} (hp : p.length = s.size + 1) (C : Nat → Prop) (j : Nat) : (∃ r, C r ∧ At (iter f r p) j) ↔ ∃ i, i ≤ j ∧ At p i ∧ j ≤ s.size ∧ ∃ r, C r ∧ powL P r (word s i j) := by
  constructor
  · rintro ⟨r, h1, h2⟩
    obtain ⟨i, g1, g2, g3, g4⟩ := ((iter_goes hf r p hp).2 j).1 h2
    exact ⟨i, g1, g2, g3, r, h1, g4⟩
  · rintro ⟨i, g1, g2, g3, r, h1, g4⟩
    exact ⟨r, h1, ((iter_goes hf r p hp).2 j).2 ⟨i, g1, g2, g3, g4⟩⟩

theorem refRep_goes {s : ByteArray} {f : List Bool → List Bool} {P : List Nat → Prop} (hf : Goes s f P) {mn mx : Int} (h0 : 0 ≤ mn) (hm : mx < 0 ∨ mn ≤ mx) : Goes s (fun p => refR f (s.size + 1) mn (if mx < 0 then mn + s.size + 1 else mx) ((if mx < 0 then mn + s.size + 1 else mx) + 1).toNat 0 p (List.replicate (s.size + 1) false)) (fun w => ∃ r : Nat, mn ≤ r ∧ (mx < 0 ∨ (r : Int) ≤ mx) ∧ powL P r w) := by
  intro p hp
  have hr : (List.replicate (s.size + 1) false).length = s.size + 1 := by simp
  have hz : ∀ j, At (f (List.replicate (s.size + 1) false)) j → At (List.replicate (s.size + 1) false) j ∨ At p j := fun j hj => by
    obtain ⟨i, _, h2, _⟩ := ((hf _ hr).2 j).1 hj
    exact absurd h2 (at_rep _ _)
  obtain ⟨h1, h2⟩ := refR_spec hf mn (if mx < 0 then mn + s.size + 1 else mx) ((if mx < 0 then mn + s.size + 1 else mx) + 1).toNat 0 p (List.replicate (s.size + 1) false) hp hr (by omega) hz (fun _ j => at_rep _ _)
  refine ⟨by rw [refR_len]; exact hr, fun j => ?_⟩
  have e := ex_pow hf hp (fun r : Nat => mn ≤ r ∧ (mx < 0 ∨ (r : Int) ≤ mx)) j
  simp only [and_assoc] at e
  rw [← e]
  constructor
  · intro h
    rcases (h1 j).1 h with h | ⟨r, g1, g2, g3⟩
    · exact absurd h (at_rep _ _)
    · refine ⟨r, by omega, ?_, g3⟩
      split at g2 <;> omega
  · rintro ⟨r, g1, g2, g3⟩
    by_cases hx : mx < 0
    · refine h2 ?_ j r (by omega) g3
      have := falses_le (List.replicate (s.size + 1) false)
      rw [if_pos hx]; omega
    · exact (h1 j).2 (.inr ⟨r, by omega, by rw [if_neg hx]; omega, g3⟩)

theorem classTo_goes (a b c d : Int) (s : ByteArray) : Goes s (fun p => classTo a b c d s p s.size) (fun w => ∃ x, w = [x] ∧ inG a b c d x = true) := by
  intro p hp
  refine ⟨classTo_len _ _ _ _ _ _ _, fun j => ?_⟩
  have key : ∀ m, m ≤ s.size → (At (classTo a b c d s p m) j ↔ ∃ i, j = i + 1 ∧ i < m ∧ At p i ∧ inG a b c d (byteN s i) = true) := by
    intro m
    induction m with
    | zero => intro _; simp only [classTo]; exact ⟨fun h => absurd h (at_rep _ _), fun ⟨i, _, h, _⟩ => by omega⟩
    | succ m ih =>
      intro hm
      have ih := ih (by omega)
      simp only [classTo]
      rw [at_set j (by rw [classTo_len]; omega), ih]
      constructor
      · rintro (⟨rfl, h⟩ | ⟨h1, i, h2, h3, h4⟩)
        · simp only [Bool.and_eq_true] at h
          exact ⟨m, rfl, by omega, h.1, h.2⟩
        · exact ⟨i, h2, by omega, h4⟩
      · rintro ⟨i, rfl, h2, h3, h4⟩
        by_cases hi : i = m
        · subst hi; exact .inl ⟨rfl, by rw [Bool.and_eq_true]; exact ⟨h3, h4⟩⟩
        · exact .inr ⟨by omega, i, rfl, by omega, h3, h4⟩
  rw [key s.size (Nat.le_refl _)]
  constructor
  · rintro ⟨i, rfl, h2, h3, h4⟩
    exact ⟨i, by omega, h3, by omega, _, word_one s i, h4⟩
  · rintro ⟨i, h1, h2, h3, x, h4, h5⟩
    have hl := congrArg List.length h4
    rw [word_len] at hl
    simp at hl
    have : j = i + 1 := by omega
    subst this
    rw [word_one] at h4
    cases h4
    exact ⟨i, rfl, by omega, h2, h5⟩
theorem id_goes (s : ByteArray) : Goes s (fun p => p) (fun w => w = []) := by
  intro p hp
  refine ⟨hp, fun j => ?_⟩
  show At p j ↔ _
  constructor
  · intro h; exact ⟨j, Nat.le_refl _, h, by have := h.lt; omega, word_nil s j⟩
  · rintro ⟨i, h1, h2, h3, h4⟩
    have := congrArg List.length h4
    rw [word_len] at this
    simp at this
    rw [show j = i by omega]; exact h2
theorem Goes.seq {s : ByteArray} {f g : List Bool → List Bool} {P Q : List Nat → Prop} (hf : Goes s f P) (hg : Goes s g Q) : Goes s (fun p => g (f p)) (fun w => ∃ u v, w = u ++ v ∧ P u ∧ Q v) := by
  intro p hp
  obtain ⟨h1, h2⟩ := hf p hp
  obtain ⟨h3, h4⟩ := hg (f p) h1
  refine ⟨h3, fun j => ?_⟩
  rw [h4 j]
  constructor
  · rintro ⟨i, g1, g2, g3, g4⟩
    obtain ⟨i0, k1, k2, k3, k4⟩ := (h2 i).1 g2
    exact ⟨i0, by omega, k2, g3, _, _, (word_app s k1 g1).symm, k4, g4⟩
  · rintro ⟨i, g1, g2, g3, u, v, e, g4, g5⟩
    obtain ⟨k1, k2, k3⟩ := word_split s g1 e
    exact ⟨i + u.length, k1, (h2 _).2 ⟨i, by omega, g2, by omega, k2 ▸ g4⟩, g3, k3 ▸ g5⟩
theorem Goes.congr {s : ByteArray} {f : List Bool → List Bool} {P Q : List Nat → Prop} (hf : Goes s f P) (h : ∀ w, P w ↔ Q w) : Goes s f Q := by
  intro p hp
  refine ⟨(hf p hp).1, fun j => ?_⟩
  rw [(hf p hp).2 j]
  simp only [h]
theorem alt_goes {s : ByteArray} {f : List Bool → List Bool} {P : List Nat → Prop} (hf : Goes s f P) {p out : List Bool} (hp : p.length = s.size + 1) (ho : out.length = s.size + 1) (j : Nat) :
    At (addTo out (f p) (s.size + 1)).1 j ↔ At out j ∨ ∃ i, i ≤ j ∧ At p i ∧ j ≤ s.size ∧ P (word s i j) := by
  rw [at_addTo _ (by omega), ← (hf p hp).2 j]
  exact or_congr Iff.rfl ⟨fun h => h.2, fun h => ⟨by have := h.lt; have := (hf p hp).1; omega, h⟩⟩

theorem plainT_kind {k a b c d mn mx : Int} {subs : List T} (h : plainT (.node k a b c d mn mx subs) = true) : (k = 1 ∨ k = 2 ∨ k = 3 ∨ k = 4 ∨ k = 5) ∧ (k = 5 → 0 ≤ mn ∧ (mx < 0 ∨ mn ≤ mx)) := by
  by_cases h5 : k = 5
  · subst h5
    simp [plainT] at h
    omega
  · by_cases h1 : k = 1 ∨ k = 2 ∨ k = 3 ∨ k = 4
    · omega
    · have h2 : ¬ k = 1 := by omega
      have h3 : ¬ k = 2 := by omega
      have h4 : ¬ (k = 3 ∨ k = 4) := by omega
      simp [plainT, h2, h3, h4, h5] at h
mutual
theorem refG_goes (s : ByteArray) : ∀ (t : T), okT t → Goes s (refG s t) (L t)
  | .node k a b c d mn mx subs, h => by
    simp only [okT, okN] at h
    obtain ⟨hk, hr⟩ := plainT_kind h.1.2.2.2.2
    by_cases h2 : k = 2
    · subst h2
      have := classTo_goes a b c d s
      intro p hp; simpa [refG, L] using this p hp
    by_cases h3 : k = 3
    · subst h3
      have := rcatG_goes s subs h.2
      intro p hp; simpa [refG, L] using this p hp
    by_cases h4 : k = 4
    · subst h4
      intro p hp
      have := raltG_goes s subs h.2 p (List.replicate (s.size + 1) false) hp (by simp)
      refine ⟨by simp only [refG]; exact this.1, fun j => ?_⟩
      simp only [refG, L]
      simp only [if_neg h2, if_neg h3, if_neg (show ¬ (4 : Int) = 1 by omega), if_true]
      rw [this.2 j]
      constructor
      · rintro (h | h)
        · exact absurd h (at_rep _ _)
        · exact h
      · exact .inr
    by_cases h5 : k = 5
    · subst h5
      have := refRep_goes (rfstG_goes s subs h.2) (hr rfl).1 (hr rfl).2
      intro p hp
      have := this p hp
      simp only [refG, L]
      exact this
    · have h1 : k = 1 := by omega
      subst h1
      have := id_goes s
      intro p hp; simpa [refG, L] using this p hp
theorem rcatG_goes (s : ByteArray) : ∀ (l : List T), okL l → Goes s (rcatG s l) (catL l)
  | [], _ => by
    have := id_goes s
    intro p hp; simpa [rcatG, catL] using this p hp
  | t :: l, h => by
    simp only [okL] at h
    have := (refG_goes s t h.1).seq (rcatG_goes s l h.2)
    intro p hp; simpa [rcatG, catL] using this p hp
theorem raltG_goes (s : ByteArray) : ∀ (l : List T), okL l → ∀ (p out : List Bool), p.length = s.size + 1 → out.length = s.size + 1 → (raltG s l p out).length = s.size + 1 ∧
    ∀ j, At (raltG s l p out) j ↔ At out j ∨ ∃ i, i ≤ j ∧ At p i ∧ j ≤ s.size ∧ altL l (word s i j)
  | [], _, p, out, _, ho => ⟨ho, fun j => by simp [raltG, altL]⟩
  | t :: l, h, p, out, hp, ho => by
    simp only [okL] at h
    have h1 := alt_goes (refG_goes s t h.1) hp ho
    have h2 := raltG_goes s l h.2 p (addTo out (refG s t p) (s.size + 1)).1 hp (by rw [addTo_len]; exact ho)
    refine ⟨by simp only [raltG]; exact h2.1, fun j => ?_⟩
    simp only [raltG, altL]
    rw [h2.2 j, h1 j]
    constructor
    · rintro ((h | ⟨i, g1, g2, g3, g4⟩) | ⟨i, g1, g2, g3, g4⟩)
      · exact .inl h
      · exact .inr ⟨i, g1, g2, g3, .inl g4⟩
      · exact .inr ⟨i, g1, g2, g3, .inr g4⟩
    · rintro (h | ⟨i, g1, g2, g3, g4 | g4⟩)
      · exact .inl (.inl h)
      · exact .inl (.inr ⟨i, g1, g2, g3, g4⟩)
      · exact .inr ⟨i, g1, g2, g3, g4⟩
theorem rfstG_goes (s : ByteArray) : ∀ (l : List T), okL l → Goes s (rfstG s l) (fstL l)
  | [], _ => by
    have := id_goes s
    intro p hp; simpa [rfstG, fstL] using this p hp
  | t :: l, h => by
    simp only [okL] at h
    have := refG_goes s t h.1
    intro p hp; simpa [rfstG, fstL] using this p hp
end
theorem goes_eq {s : ByteArray} {f g : List Bool → List Bool} {P : List Nat → Prop} (hf : Goes s f P) (hg : Goes s g P) {p : List Bool} (hp : p.length = s.size + 1) : f p = g p :=
  at_ext (by rw [(hf p hp).1, (hg p hp).1]) fun j => by rw [(hf p hp).2 j, (hg p hp).2 j]
end Go.Sv
