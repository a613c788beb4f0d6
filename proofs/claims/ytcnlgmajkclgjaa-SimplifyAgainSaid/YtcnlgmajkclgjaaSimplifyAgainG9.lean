/- A part of the proof of the law SimplifyAgain: that it answers true for every input, and that the input reads behind the call as before (no condition). -/
import Derived.Test.YtcnlgmajkclgjaaSimplifyAgainG8
set_option linter.all false
set_option linter.unusedSectionVars false
set_option linter.unusedVariables false
set_option linter.unusedSimpArgs false
namespace Go.Sv
open Go Go.Proofs
def x50 : XC := (.seq (.ops 2 [
    (0, ⟨(some 1), none, .box (.t 0)⟩),
    (1, ⟨(some 2), none, .alloc [(.int .u64 0), (.int .u64 0), (.int .u64 0), (.int .u64 0)]⟩)] (some [1, 2])) (.seq (.ops 1 [
    (0, ⟨(some 3), none, .mv (.k (.d (.val (.slice none 0 0))))⟩)] (some [1, 2, 3])) (.seq (.seq (.ops 2 [
    (0, ⟨(some 6), none, .load (some 8) (.t 1)⟩),
    (1, ⟨(some 7), none, .call 51 [(.t 6)] none false⟩)] (some [1, 2, 3, 7])) (.cond (.t 7) (.seq (.ops 2 [
    (0, ⟨(some 8), none, .build [(.int .u64 0), (.int .u64 0), (.int .u64 0), (.int .u64 0)] []⟩),
    (1, ⟨none, none, .store 4 (.t 2) (.t 8)⟩)] (some [2])) .ret) .skip)) (.seq (.seq (.ops 2 [
    (0, ⟨(some 9), none, .fadd 0 (.t 1)⟩),
    (1, ⟨(some 10), none, .load none (.t 9)⟩)] (some [1, 2, 3, 10])) (.block 0 (.seq (.ops 2 [
    (0, ⟨(some 12), none, .arith .eql (.t 10) (.k (.d (.val (.int .i64 2))))⟩),
    (1, ⟨(some 11), none, .mv (.t 12)⟩)] (some [1, 2, 3, 10, 11])) (.cond (.t 11) (.seq (.ops 3 [
    (0, ⟨(some 13), none, .fadd 1 (.t 1)⟩),
    (1, ⟨(some 14), none, .load (some 4) (.t 13)⟩),
    (2, ⟨none, none, .store 4 (.t 2) (.t 14)⟩)] (some [2])) .ret) (.seq (.ops 2 [
    (0, ⟨(some 16), none, .arith .eql (.t 10) (.k (.d (.val (.int .i64 3))))⟩),
    (1, ⟨(some 15), none, .mv (.t 16)⟩)] (some [1, 2, 3, 10, 15])) (.cond (.t 15) (.seq (.ops 1 [
    (0, ⟨(some 4), none, .mv (.k (.d (.val (.int .i64 0))))⟩)] (some [1, 2, 3, 4])) (.block 1 (.loop (.seq (.seq (.ops 5 [
    (0, ⟨(some 17), none, .mv (.t 4)⟩),
    (1, ⟨(some 18), none, .fadd 7 (.t 1)⟩),
    (2, ⟨(some 19), none, .load none (.t 18)⟩),
    (3, ⟨(some 20), none, .lenS (.t 19)⟩),
    (4, ⟨(some 21), none, .arith .lss (.t 17) (.t 20)⟩)] (some [1, 2, 3, 4, 21])) (.cond (.t 21) .skip (.exit 1))) (.seq (.block 2 (.seq (.ops 10 [
    (0, ⟨(some 24), none, .mv (.t 3)⟩),
    (1, ⟨(some 25), none, .fadd 7 (.t 1)⟩),
    (2, ⟨(some 26), none, .load none (.t 25)⟩),
    (3, ⟨(some 27), none, .mv (.t 4)⟩),
    (4, ⟨(some 28), none, .idxS 8 (.t 26) (.t 27)⟩),
    (5, ⟨(some 29), none, .load (some 8) (.t 28)⟩),
    (6, ⟨(some 30), none, .call 50 [(.t 29)] none false⟩),
    (7, ⟨(some 31), none, .call 74 [(.t 30)] none false⟩),
    (8, ⟨(some 32), none, .app [(.int .i64 0)] 8 (.t 24) (.t 31)⟩),
    (9, ⟨(some 3), none, .mv (.t 32)⟩)] (some [1, 2, 3, 4])) (.seq (.ops 7 [
    (0, ⟨(some 33), none, .fadd 7 (.t 1)⟩),
    (1, ⟨(some 34), none, .load none (.t 33)⟩),
    (2, ⟨(some 35), none, .mv (.t 4)⟩),
    (3, ⟨(some 36), none, .idxS 8 (.t 34) (.t 35)⟩),
    (4, ⟨(some 37), none, .load (some 8) (.t 36)⟩),
    (5, ⟨(some 38), none, .call 72 [(.t 37)] none false⟩),
    (6, ⟨(some 39), none, .un .not (.t 38)⟩)] (some [1, 2, 3, 4, 39])) (.cond (.t 39) (.exit 1) .skip)))) (.ops 3 [
    (0, ⟨(some 22), none, .mv (.t 4)⟩),
    (1, ⟨(some 23), none, .arith .add (.t 22) (.k (.d (.val (.int .i64 1))))⟩),
    (2, ⟨(some 4), none, .mv (.t 23)⟩)] (some [1, 2, 3, 4]))))))) (.seq (.ops 2 [
    (0, ⟨(some 41), none, .arith .eql (.t 10) (.k (.d (.val (.int .i64 4))))⟩),
    (1, ⟨(some 40), none, .mv (.t 41)⟩)] (some [1, 2, 3, 10, 40])) (.cond (.t 40) (.seq (.ops 1 [
    (0, ⟨(some 5), none, .mv (.k (.d (.val (.int .i64 0))))⟩)] (some [1, 2, 3, 5])) (.block 3 (.loop (.seq (.seq (.ops 5 [
    (0, ⟨(some 42), none, .mv (.t 5)⟩),
    (1, ⟨(some 43), none, .fadd 7 (.t 1)⟩),
    (2, ⟨(some 44), none, .load none (.t 43)⟩),
    (3, ⟨(some 45), none, .lenS (.t 44)⟩),
    (4, ⟨(some 46), none, .arith .lss (.t 42) (.t 45)⟩)] (some [1, 2, 3, 5, 46])) (.cond (.t 46) .skip (.exit 3))) (.seq (.block 4 (.ops 10 [
    (0, ⟨(some 49), none, .mv (.t 3)⟩),
    (1, ⟨(some 50), none, .fadd 7 (.t 1)⟩),
    (2, ⟨(some 51), none, .load none (.t 50)⟩),
    (3, ⟨(some 52), none, .mv (.t 5)⟩),
    (4, ⟨(some 53), none, .idxS 8 (.t 51) (.t 52)⟩),
    (5, ⟨(some 54), none, .load (some 8) (.t 53)⟩),
    (6, ⟨(some 55), none, .call 50 [(.t 54)] none false⟩),
    (7, ⟨(some 56), none, .call 74 [(.t 55)] none false⟩),
    (8, ⟨(some 57), none, .app [(.int .i64 0)] 8 (.t 49) (.t 56)⟩),
    (9, ⟨(some 3), none, .mv (.t 57)⟩)] (some [1, 2, 3, 5]))) (.ops 3 [
    (0, ⟨(some 47), none, .mv (.t 5)⟩),
    (1, ⟨(some 48), none, .arith .add (.t 47) (.k (.d (.val (.int .i64 1))))⟩),
    (2, ⟨(some 5), none, .mv (.t 48)⟩)] (some [1, 2, 3, 5]))))))) (.seq (.ops 2 [
    (0, ⟨(some 59), none, .arith .eql (.t 10) (.k (.d (.val (.int .i64 5))))⟩),
    (1, ⟨(some 58), none, .mv (.t 59)⟩)] (some [1, 2, 3, 58])) (.cond (.t 58) (.seq (.ops 3 [
    (0, ⟨(some 60), none, .fadd 6 (.t 1)⟩),
    (1, ⟨(some 61), none, .load none (.t 60)⟩),
    (2, ⟨(some 62), none, .arith .neq (.t 61) (.k (.d (.val (.int .i64 0))))⟩)] (some [1, 2, 3, 62])) (.cond (.t 62) (.seq (.ops 6 [
    (0, ⟨(some 63), none, .fadd 7 (.t 1)⟩),
    (1, ⟨(some 64), none, .load none (.t 63)⟩),
    (2, ⟨(some 65), none, .idxS 8 (.t 64) (.k (.d (.val (.int .i64 0))))⟩),
    (3, ⟨(some 66), none, .load (some 8) (.t 65)⟩),
    (4, ⟨(some 67), none, .call 50 [(.t 66)] none false⟩),
    (5, ⟨none, none, .store 4 (.t 2) (.t 67)⟩)] (some [2])) .ret) .skip)) .skip)))))))))) (.seq (.ops 3 [
    (0, ⟨(some 68), none, .mv (.t 3)⟩),
    (1, ⟨(some 69), none, .call 99 [(.t 68)] none false⟩),
    (2, ⟨none, none, .store 4 (.t 2) (.t 69)⟩)] (some [2])) .ret)))))
def md50 : FuncId → Option Nat × Bool
  | _ => (none, false)
def od50 : Nat → List (List Nat) × List Nat × Option (List Nat)
  | 0 => ([], [], some [1, 2])
  | 1 => ([], [], some [1, 2, 3])
  | 2 => ([], [], some [1, 2, 3, 7])
  | 3 => ([], [], some [2])
  | 4 => ([], [], some [1, 2, 3, 10])
  | 5 => ([], [], some [1, 2, 3, 10, 11])
  | 6 => ([], [], some [2])
  | 7 => ([], [], some [1, 2, 3, 10, 15])
  | 8 => ([], [], some [1, 2, 3, 4])
  | 9 => ([], [], some [1, 2, 3, 4, 21])
  | 10 => ([], [], some [1, 2, 3, 4])
  | 11 => ([], [], some [1, 2, 3, 4])
  | 12 => ([], [], some [1, 2, 3, 4, 39])
  | 13 => ([], [], some [1, 2, 3, 10, 40])
  | 14 => ([], [], some [1, 2, 3, 5])
  | 15 => ([], [], some [1, 2, 3, 5, 46])
  | 16 => ([], [], some [1, 2, 3, 5])
  | 17 => ([], [], some [1, 2, 3, 5])
  | 18 => ([], [], some [1, 2, 3, 58])
  | 19 => ([], [], some [1, 2, 3, 62])
  | 20 => ([], [], some [2])
  | 21 => ([], [], some [2])
  | _ => ([], [], none)
theorem b50 {ags : List AV} {row : Option (List DV)} {r : AV} {row' nw : Option (List DV)} (hal : ags.length ≤ 70) (hrow : row'.isSome = true → row.isSome = true) (h : xwp Try.prog x50 (retK [.cell 2 (some 4)] row.isSome r row' nw) (St.init ags row)) : Good Try.prog 50 ags row r row' nw :=
  good_of_body' (md := md50) (od := od50) Try.f50 (by kernel_rfl) (by kernel_rfl) (by kernel_rfl) (by kernel_rfl) (by kernel_rfl) hal hrow h

noncomputable def firstW (t : T) : List Int := setWs (firstL (L t))
theorem firstW_ok (t : T) : okWs (firstW t) ∧ ∀ y, y < 256 → (inWs (firstW t) y = true ↔ ∃ w, L t (y :: w)) := by
  obtain ⟨h1, h2⟩ := setWs_ok (firstL_lt (L t))
  refine ⟨h1, fun y hy => ?_⟩
  unfold firstW
  rw [h2 y hy, mem_firstL]
  exact ⟨fun h => h.2, fun h => ⟨hy, h⟩⟩
theorem words4 {ws : List Int} (h : okWs ws) : ∃ w0 w1 w2 w3, ws = [w0, w1, w2, w3] ∧ okW w0 ∧ okW w1 ∧ okW w2 ∧ okW w3 := by
  match ws, h.1, h.2 with
  | [w0, w1, w2, w3], _, h2 => exact ⟨w0, w1, w2, w3, rfl, h2 w0 (by simp), h2 w1 (by simp), h2 w2 (by simp), h2 w3 (by simp)⟩
set_option maxRecDepth 100000
set_option maxHeartbeats 4000000
attribute [local irreducible] W E R KP thenK blockK retK Good xwp aRun
theorem first50_good : ∀ (n : Nat) (t : T), t.cnt ≤ n → n ≤ 300000 → okT t → Good Try.prog 50 [nodeA t] none (.agg (encW (firstW t))) none none := by
  intro n
  induction n with
  | zero => intro t ht; have := cnt_pos t; omega
  | succ n ih =>
  intro t ht hc hok
  have hnn := none51_good 300000 t (by omega) (by omega) hok
  have hnL := nnT_L t hok
  have hS := okT_S hok
  have hfw := firstW_ok t
  have hdef : firstW t = setWs (firstL (L t)) := rfl
  obtain ⟨k, a, b, c, d, mn, mx, subs⟩ := t
  have hR := okT_R hok
  have hoks := okT_subs hok
  have hpl := okT_plain hok
  have hcs : ∀ i (h : i < subs.length), subs[i].cnt ≤ n := fun i h => by
    have := cntL_get subs i h
    simp only [T.cnt] at ht
    omega
  have ih' : ∀ i (h : i < subs.length), Good Try.prog 50 [nodeA subs[i]] none (.agg (encW (firstW subs[i]))) none none := fun i h => ih _ (hcs i h) (by omega) (okL_get subs i h hoks)
  have hnu : ∀ i (h : i < subs.length), Good Try.prog 72 [nodeA subs[i]] none (.b (nullS subs[i])) none none := fun i h => null72_good _ (by have := hcs i h; omega) (okL_get subs i h hoks)
  have hlen : subs.length ≤ 300000 := by
    have := cntL_len subs
    simp only [T.cnt] at ht
    omega
  have e0 : nodeA (.node k a b c d mn mx subs) = .agg [.i k, .d (.val (.int .u64 a)), .d (.val (.int .u64 b)), .d (.val (.int .u64 c)), .d (.val (.int .u64 d)), .i mn, .i mx, .d (.sl (encL subs) subs.length)] := rfl
  have hkind := (plainT_kind hpl).1
  have hk5 : k = 5 → ∃ u, subs = [u] := fun h5 => by subst h5; exact plainT_5 hpl
  rw [e0] at hnn
  rw [e0]
  rcases Bool.eq_false_or_eq_true (nnT (.node k a b c d mn mx subs)) with hq | hq
  · rw [hq] at hnn
    have e : firstW (.node k a b c d mn mx subs) = [0, 0, 0, 0] := by
      rw [hdef, firstL_none (hnL.1 hq)]; rfl
    rw [e]
    refine b50 (by simp) (by simp) (w_init ?_)
    unfold x50
    repeat' (first
    | (apply r_mvV; rfl)
    | (apply r_mvP; rfl)
    | (apply r_mvPL; rfl)
    | (apply r_mvS; rfl)
    | (apply r_mvSL; rfl)
    | (apply r_mvA; rfl)
    | (apply r_mvT; rfl)
    | (apply r_mvF; rfl)
    | (apply r_mvD; rfl)
    | (apply r_faddD; rfl)
    | (apply r_faddL; rfl)
    | (apply r_l; apply ld_kind; assumption; rfl)
    | (apply r_l; apply ld_mn; assumption; rfl)
    | (apply r_l; apply ld_mx; assumption; rfl)
    | (apply r_l; apply ld_subs; assumption; rfl)
    | (apply r_l; apply ld_set; assumption; rfl)
    | (apply r_l; apply ld_node; assumption; rfl)
    | (apply r_l; apply ld_kind'; assumption; rfl)
    | (apply r_l; apply ld_mn'; assumption; rfl)
    | (apply r_l; apply ld_mx'; assumption; rfl)
    | (apply r_l; apply ld_subs'; assumption; rfl)
    | (apply r_l; apply ld_node'; assumption; rfl)
    | (apply r_ldL (v := .agg [.i k, .d (.val (.int .u64 a)), .d (.val (.int .u64 b)), .d (.val (.int .u64 c)), .d (.val (.int .u64 d)), .i mn, .i mx, .d (.sl (encL subs) subs.length)]); rfl; rfl; rfl)
    | (apply r_callA; rfl; rfl; exact hnn)
    | (apply r_p (v := .agg [.d (.val (.int .u64 0)), .d (.val (.int .u64 0)), .d (.val (.int .u64 0)), .d (.val (.int .u64 0))]); rfl)
    | (apply r_ldL (v := .agg [.d (.val (.int .u64 0)), .d (.val (.int .u64 0)), .d (.val (.int .u64 0)), .d (.val (.int .u64 0))]); rfl; rfl; rfl)
    | (apply r_ldL; rfl; rfl; rfl)
    | (apply r_eql; rfl; rfl; (first | (apply decide_eq_true; omega) | (apply decide_eq_false; omega) | rfl))
    | (apply r_neq; rfl; rfl; (first | (apply decide_eq_true; omega) | (apply decide_eq_false; omega) | rfl))
    | (apply r_lss; rfl; rfl; (first | (apply decide_eq_true; omega) | (apply decide_eq_false; omega) | rfl))
    | (apply r_add; rfl; rfl; rfl; omega)
    | (apply r_not; rfl; rfl)
    | (apply r_lenD; rfl)
    | (apply r_lenL; rfl)
    | (apply r_len0; rfl)
    | (apply r_alloc; ((conv => lhs; simp only [Nat.reduceAdd]) <;> rfl); rfl)
    | (apply r_box; ((conv => lhs; simp only [Nat.reduceAdd]) <;> rfl); rfl; rfl; rfl)
    | (apply r_stL; rfl; rfl; rfl; rfl; (first | rfl | (simp only [z_nil, z_add] <;> rfl)); rfl; rfl)
    | (apply r_p; rfl)
    | (apply r_nilK)
    | (apply r_nil)
    | (apply k_V; rfl)
    | (apply k_P; rfl)
    | (apply k_PL; rfl)
    | (apply k_S; rfl)
    | (apply k_SL; rfl)
    | (apply k_A; rfl)
    | (apply k_T; rfl)
    | (apply k_F; rfl)
    | (apply k_D; rfl; rotate_left; rfl)
    | (apply k_nil)
    | (apply e_ret (vs := [.d (.val _)]); rfl)
    | (apply e_ret; rfl)
    | (apply e_ret' (vs := [.d (.val _)]); rfl)
    | (apply e_ret'; rfl)
    | (apply w_seq)
    | (apply w_ops; ((conv => lhs; simp only [Nat.reduceAdd]) <;> rfl))
    | (apply w_condT; rfl)
    | (apply w_condF; rfl)
    | ((apply w_condS; rfl) <;> (intro h; try simp only [decide_eq_true_eq, decide_eq_false_iff_not, Bool.not_eq_true, Bool.not_eq_false] at h))
    | (apply e_thenN)
    | (apply w_block)
    | (apply e_thenR)
    | (apply e_thenX)
    | (apply e_blkN)
    | (apply e_blkR)
    | (apply e_blkE)
    | (apply w_exit)
    | (apply w_ret)
    | (apply w_skip)
    | (apply e_blkE'; rfl))
    exact .data _ rfl
  rw [hq] at hnn
  have hsome : ¬ ∀ w, ¬ L (.node k a b c d mn mx subs) w := fun h => by rw [hnL.2 h] at hq; cases hq
  by_cases h2 : k = 2
  · have e : firstW (.node k a b c d mn mx subs) = [a, b, c, d] := by
      refine words_ext hfw.1 ⟨rfl, fun w hw => ?_⟩ fun y hy => ?_
      · simp only [List.mem_cons, List.not_mem_nil, or_false] at hw
        rcases hw with rfl | rfl | rfl | rfl
        · exact hS.1
        · exact hS.2.1
        · exact hS.2.2.1
        · exact hS.2.2.2
      · rw [Bool.eq_iff_iff, hfw.2 y hy]
        subst h2
        constructor
        · rintro ⟨w, hw⟩
          rw [L_k2] at hw
          obtain ⟨x, e, hx⟩ := hw
          simp only [List.cons.injEq] at e
          obtain ⟨rfl, rfl⟩ := e
          exact hx
        · intro hx; exact ⟨[], L_k2.2 ⟨y, rfl, hx⟩⟩
    rw [e]
    refine b50 (by simp) (by simp) (w_init ?_)
    unfold x50
    repeat' (first
    | (apply r_mvV; rfl)
    | (apply r_mvP; rfl)
    | (apply r_mvPL; rfl)
    | (apply r_mvS; rfl)
    | (apply r_mvSL; rfl)
    | (apply r_mvA; rfl)
    | (apply r_mvT; rfl)
    | (apply r_mvF; rfl)
    | (apply r_mvD; rfl)
    | (apply r_faddD; rfl)
    | (apply r_faddL; rfl)
    | (apply r_l; apply ld_kind; assumption; rfl)
    | (apply r_l; apply ld_mn; assumption; rfl)
    | (apply r_l; apply ld_mx; assumption; rfl)
    | (apply r_l; apply ld_subs; assumption; rfl)
    | (apply r_l; apply ld_set; assumption; rfl)
    | (apply r_l; apply ld_node; assumption; rfl)
    | (apply r_l; apply ld_kind'; assumption; rfl)
    | (apply r_l; apply ld_mn'; assumption; rfl)
    | (apply r_l; apply ld_mx'; assumption; rfl)
    | (apply r_l; apply ld_subs'; assumption; rfl)
    | (apply r_l; apply ld_node'; assumption; rfl)
    | (apply r_ldL (v := .agg [.i k, .d (.val (.int .u64 a)), .d (.val (.int .u64 b)), .d (.val (.int .u64 c)), .d (.val (.int .u64 d)), .i mn, .i mx, .d (.sl (encL subs) subs.length)]); rfl; rfl; rfl)
    | (apply r_callA; rfl; rfl; exact hnn)
    | (apply r_ldL (v := .agg [.d (.val (.int .u64 a)), .d (.val (.int .u64 b)), .d (.val (.int .u64 c)), .d (.val (.int .u64 d))]); rfl; rfl; rfl)
    | (apply r_ldL; rfl; rfl; rfl)
    | (apply r_eql; rfl; rfl; (first | (apply decide_eq_true; omega) | (apply decide_eq_false; omega) | rfl))
    | (apply r_neq; rfl; rfl; (first | (apply decide_eq_true; omega) | (apply decide_eq_false; omega) | rfl))
    | (apply r_lss; rfl; rfl; (first | (apply decide_eq_true; omega) | (apply decide_eq_false; omega) | rfl))
    | (apply r_add; rfl; rfl; rfl; omega)
    | (apply r_not; rfl; rfl)
    | (apply r_lenD; rfl)
    | (apply r_lenL; rfl)
    | (apply r_len0; rfl)
    | (apply r_alloc; ((conv => lhs; simp only [Nat.reduceAdd]) <;> rfl); rfl)
    | (apply r_box; ((conv => lhs; simp only [Nat.reduceAdd]) <;> rfl); rfl; rfl; rfl)
    | (apply r_stL; rfl; rfl; rfl; rfl; (first | rfl | (simp only [z_nil, z_add] <;> rfl)); rfl; rfl)
    | (apply r_p; rfl)
    | (apply r_nilK)
    | (apply r_nil)
    | (apply k_V; rfl)
    | (apply k_P; rfl)
    | (apply k_PL; rfl)
    | (apply k_S; rfl)
    | (apply k_SL; rfl)
    | (apply k_A; rfl)
    | (apply k_T; rfl)
    | (apply k_F; rfl)
    | (apply k_D; rfl; rotate_left; rfl)
    | (apply k_nil)
    | (apply e_ret (vs := [.d (.val _)]); rfl)
    | (apply e_ret; rfl)
    | (apply e_ret' (vs := [.d (.val _)]); rfl)
    | (apply e_ret'; rfl)
    | (apply w_seq)
    | (apply w_ops; ((conv => lhs; simp only [Nat.reduceAdd]) <;> rfl))
    | (apply w_condT; rfl)
    | (apply w_condF; rfl)
    | ((apply w_condS; rfl) <;> (intro h; try simp only [decide_eq_true_eq, decide_eq_false_iff_not, Bool.not_eq_true, Bool.not_eq_false] at h))
    | (apply e_thenN)
    | (apply w_block)
    | (apply e_thenR)
    | (apply e_thenX)
    | (apply e_blkN)
    | (apply e_blkR)
    | (apply e_blkE)
    | (apply w_exit)
    | (apply w_ret)
    | (apply w_skip)
    | (apply e_blkE'; rfl))
    exact .data _ rfl
  by_cases h3 : k = 3
  · have hall : ∀ j (h : j < subs.length), ∃ w, L subs[j] w := by
      intro j hj
      refine Classical.byContradiction fun hcn => ?_
      refine hsome fun w hw => ?_
      subst h3
      rw [L_k3] at hw
      have key : ∀ (l : List T) (w : List Nat), catL l w → ∀ j (h : j < l.length), ∃ w, L l[j] w := by
        intro l
        induction l with
        | nil => intro w _ j h; simp at h
        | cons t l ih =>
          rintro w ⟨u, v, _, hu, hv⟩ j h
          cases j with
          | zero => exact ⟨u, hu⟩
          | succ j => exact ih v hv j (by simpa using h)
      exact hcn (key subs w hw j hj)
    have hcf := catL_first subs hall
    have hend : ∀ (i : Nat) (bytes : List Nat), (∀ x ∈ bytes, x < 256) → bytes.length ≤ 256 * (i + 1) → i ≤ subs.length → (∀ j (h : j < subs.length), j < i → L subs[j] []) → (∀ y, y < 256 → (y ∈ bytes ↔ ∃ j, ∃ h : j < subs.length, j ≤ i ∧ ∃ w, L subs[j] (y :: w))) → (∀ h : i < subs.length, ¬ L subs[i] []) → setWs bytes = firstW (.node k a b c d mn mx subs) := by
      intro i bytes hb _ hi hnul hmem hlast
      rw [hdef]
      refine first_eq hb fun y hy => ?_
      rw [hmem y hy]
      subst h3
      simp only [L_k3]
      rw [hcf y]
      constructor
      · rintro ⟨j, hj, hji, hw⟩
        exact ⟨j, hj, fun i' hi' hlt => hnul i' hi' (by omega), hw⟩
      · rintro ⟨j, hj, hall2, hw⟩
        refine ⟨j, hj, ?_, hw⟩
        rcases Nat.lt_or_ge i j with h | h
        · exact absurd (hall2 i (by omega) h) (hlast (by omega))
        · exact h
    clear hsome hcf hdef ih ht hok hoks hpl hR hS hnL
    generalize firstW (.node k a b c d mn mx subs) = fw at hfw hend ⊢
    obtain ⟨w0, w1, w2, w3, rfl, _⟩ := words4 hfw.1
    clear hfw
    refine b50 (by simp) (by simp) (w_init ?_)
    unfold x50
    repeat' (first
    | (apply r_mvV; rfl)
    | (apply r_mvP; rfl)
    | (apply r_mvPL; rfl)
    | (apply r_mvS; rfl)
    | (apply r_mvSL; rfl)
    | (apply r_mvA; rfl)
    | (apply r_mvT; rfl)
    | (apply r_mvF; rfl)
    | (apply r_mvD; rfl)
    | (apply r_faddD; rfl)
    | (apply r_faddL; rfl)
    | (apply r_l; apply ld_kind; assumption; rfl)
    | (apply r_l; apply ld_mn; assumption; rfl)
    | (apply r_l; apply ld_mx; assumption; rfl)
    | (apply r_l; apply ld_subs; assumption; rfl)
    | (apply r_l; apply ld_set; assumption; rfl)
    | (apply r_l; apply ld_node; assumption; rfl)
    | (apply r_l; apply ld_kind'; assumption; rfl)
    | (apply r_l; apply ld_mn'; assumption; rfl)
    | (apply r_l; apply ld_mx'; assumption; rfl)
    | (apply r_l; apply ld_subs'; assumption; rfl)
    | (apply r_l; apply ld_node'; assumption; rfl)
    | (apply r_ldL (v := .agg [.i k, .d (.val (.int .u64 a)), .d (.val (.int .u64 b)), .d (.val (.int .u64 c)), .d (.val (.int .u64 d)), .i mn, .i mx, .d (.sl (encL subs) subs.length)]); rfl; rfl; rfl)
    | (apply r_callA; rfl; rfl; exact hnn)
    | (apply r_ldL; rfl; rfl; rfl)
    | (apply r_eql; rfl; rfl; (first | (apply decide_eq_true; omega) | (apply decide_eq_false; omega) | rfl))
    | (apply r_neq; rfl; rfl; (first | (apply decide_eq_true; omega) | (apply decide_eq_false; omega) | rfl))
    | (apply r_lss; rfl; rfl; (first | (apply decide_eq_true; omega) | (apply decide_eq_false; omega) | rfl))
    | (apply r_add; rfl; rfl; rfl; omega)
    | (apply r_not; rfl; rfl)
    | (apply r_lenD; rfl)
    | (apply r_lenL; rfl)
    | (apply r_len0; rfl)
    | (apply r_alloc; ((conv => lhs; simp only [Nat.reduceAdd]) <;> rfl); rfl)
    | (apply r_box; ((conv => lhs; simp only [Nat.reduceAdd]) <;> rfl); rfl; rfl; rfl)
    | (apply r_stL; rfl; rfl; rfl; rfl; (first | rfl | (simp only [z_nil, z_add] <;> rfl)); rfl; rfl)
    | (apply r_p; rfl)
    | (apply r_nilK)
    | (apply r_nil)
    | (apply k_V; rfl)
    | (apply k_P; rfl)
    | (apply k_PL; rfl)
    | (apply k_S; rfl)
    | (apply k_SL; rfl)
    | (apply k_A; rfl)
    | (apply k_T; rfl)
    | (apply k_F; rfl)
    | (apply k_D; rfl; rotate_left; rfl)
    | (apply k_nil)
    | (apply e_ret (vs := [.d (.val _)]); rfl)
    | (apply e_ret; rfl)
    | (apply e_ret' (vs := [.d (.val _)]); rfl)
    | (apply e_ret'; rfl)
    | (apply w_seq)
    | (apply w_ops; ((conv => lhs; simp only [Nat.reduceAdd]) <;> rfl))
    | (apply w_condT; rfl)
    | (apply w_condF; rfl)
    | ((apply w_condS; rfl) <;> (intro h; try simp only [decide_eq_true_eq, decide_eq_false_iff_not, Bool.not_eq_true, Bool.not_eq_false] at h))
    | (apply e_thenN)
    | (apply w_block)
    | (apply e_thenR)
    | (apply e_thenX)
    | (apply e_blkN)
    | (apply e_blkR)
    | (apply e_blkE)
    | (apply w_exit)
    | (apply w_ret)
    | (apply w_skip)
    | (apply e_blkE'; rfl))
    apply w_loopI (ι := Nat × List Nat) (S := fun z => ⟨(((Fr.nil.put 1 (.ptrL 1 0)).put 2 (.ptrL 2 0)).put 3 (.slL 50 0 z.2.length 1)).put 4 (.i z.1), rowsOf [(1, [.i k, .d (.val (.int .u64 a)), .d (.val (.int .u64 b)), .d (.val (.int .u64 c)), .d (.val (.int .u64 d)), .i mn, .i mx, .d (.sl (encL subs) subs.length)]), (2, [.d (.val (.int .u64 0)), .d (.val (.int .u64 0)), .d (.val (.int .u64 0)), .d (.val (.int .u64 0))]), (50, (encI (encJ z.2)).map AV.d)], Frz.buts 100 [2, 50], 100⟩) (m := fun z => subs.length - z.1) (I := fun z => z.1 ≤ subs.length ∧ (∀ x ∈ z.2, x < 256) ∧ z.2.length ≤ 256 * z.1 ∧ (∀ j (h : j < subs.length), j < z.1 → L subs[j] []) ∧ ∀ y, y < 256 → (y ∈ z.2 ↔ ∃ j, ∃ h : j < subs.length, j < z.1 ∧ ∃ w, L subs[j] (y :: w))) (i0 := (0, []))
    · exact ⟨Nat.zero_le _, by simp, by simp, fun j _ h => by omega, fun y _ => ⟨fun h => by simp at h, fun ⟨j, _, h, _⟩ => by omega⟩⟩
    · refine wkM [(50, 1000000)] [50] rfl ?_ ?_ rfl ?_
      · intro p hp
        simp only [List.mem_cons, List.not_mem_nil, or_false] at hp
        rcases hp with rfl | rfl | rfl
        · exact ⟨by omega, .inr ⟨rfl, _, rfl, .data rfl⟩⟩
        · exact ⟨by omega, .inr ⟨rfl, _, rfl, .data rfl⟩⟩
        · exact ⟨by omega, .inl ⟨rfl, rfl⟩⟩
      · intro q hq; simp only [List.mem_cons, List.not_mem_nil, or_false] at hq; rcases hq with rfl | rfl <;> rfl
      · dsimp only
        repeat' (first
    | exact FWk.nil
    | (apply FWk.i; rfl; (first | rfl | omega | (simp; done)))
    | (apply FWk.sl; rfl; rfl; rfl; rfl; omega; rfl)
    | (apply FWk.ptr; rfl; rfl; rfl; omega; rfl)
    | (apply FWk.d; rfl; rfl)
    | (apply FWk.a; rfl; rfl; rfl)
    | (apply FWk.slN; rfl; omega; rfl))
    rintro ⟨i, bytes⟩ K ⟨hi, hb, hbl, hnul, hmem⟩ hK
    dsimp only at hi hb hbl hnul hmem hK ⊢
    rcases Nat.lt_or_ge i subs.length with hlt | hge
    · have hs := NodeAt.sub hlt
      have hg := ih' i hlt
      have hn := hnu i hlt
      have hok2 := firstW_ok subs[i]
      have hna : [nodeA subs[i]].all AV.nrm = true := by rw [List.all_cons, nodeA_nrm]; rfl
      have hnb : nullS subs[i] = true ↔ L subs[i] [] := by simp only [nullS, decide_eq_true_eq]
      obtain ⟨v0, v1, v2, v3, hv, g0, g1, g2, g3⟩ := words4 hok2.1
      rw [hv] at hg hok2
      have h74 := list74_good g0 g1 g2 g3
      unfold setA at h74
      have hm2 : ∀ y, y < 256 → (y ∈ bytes ++ listTo v0 v1 v2 v3 256 ↔ ∃ j, ∃ h : j < subs.length, j < i + 1 ∧ ∃ w, L subs[j] (y :: w)) := by
        intro y hy
        rw [List.mem_append, hmem y hy, mem_listTo]
        have h1 : inG v0 v1 v2 v3 y = true ↔ ∃ w, L subs[i] (y :: w) := hok2.2 y hy
        rw [h1]
        constructor
        · rintro (⟨j, hj, hji, hw⟩ | ⟨_, hw⟩)
          · exact ⟨j, hj, by omega, hw⟩
          · exact ⟨i, hlt, by omega, hw⟩
        · rintro ⟨j, hj, hji, hw⟩
          by_cases e : j = i
          · subst e; exact .inr ⟨hy, hw⟩
          · exact .inl ⟨j, hj, by omega, hw⟩
      have hb2 : ∀ x ∈ bytes ++ listTo v0 v1 v2 v3 256, x < 256 := by
        intro x hx
        rcases List.mem_append.1 hx with hx | hx
        · exact hb x hx
        · exact ((mem_listTo _ _ _ _ x 256).1 hx).1
      have hll := listTo_len v0 v1 v2 v3 256
      have hbl2 : (bytes ++ listTo v0 v1 v2 v3 256).length ≤ 256 * (i + 1) := by rw [List.length_append]; omega
      have hjl : (encJ bytes ++ encJ (listTo v0 v1 v2 v3 256)).length = bytes.length + (listTo v0 v1 v2 v3 256).length := by rw [List.length_append, encJ_len, encJ_len]
      clear hok2 hv g0 g1 g2 g3 ih' hnu
      rcases Bool.eq_false_or_eq_true (nullS subs[i]) with hnq | hnq
      · rw [hnq] at hn hnb
        repeat' (first
    | (apply r_mvV; rfl)
    | (apply r_mvP; rfl)
    | (apply r_mvPL; rfl)
    | (apply r_mvS; rfl)
    | (apply r_mvSL; rfl)
    | (apply r_mvA; rfl)
    | (apply r_mvT; rfl)
    | (apply r_mvF; rfl)
    | (apply r_mvD; rfl)
    | (apply r_faddD; rfl)
    | (apply r_faddL; rfl)
    | (apply r_l; apply ld_kind; assumption; rfl)
    | (apply r_l; apply ld_mn; assumption; rfl)
    | (apply r_l; apply ld_mx; assumption; rfl)
    | (apply r_l; apply ld_subs; assumption; rfl)
    | (apply r_l; apply ld_set; assumption; rfl)
    | (apply r_l; apply ld_node; assumption; rfl)
    | (apply r_l; apply ld_kind'; assumption; rfl)
    | (apply r_l; apply ld_mn'; assumption; rfl)
    | (apply r_l; apply ld_mx'; assumption; rfl)
    | (apply r_l; apply ld_subs'; assumption; rfl)
    | (apply r_l; apply ld_node'; assumption; rfl)
    | (apply r_p; apply ix_sub; rfl; rfl; omega)
    | (apply r_callA (f := 50) (ags := [nodeA subs[i]]); rfl; exact hna; exact hg)
    | (apply r_callA (f := 74); rfl; rfl; exact h74)
    | (apply r_appI (b := 50) (id := 113) (K := encJ bytes) (L := encJ (listTo v0 v1 v2 v3 256)); rfl; rfl; rfl; rfl; rfl; exact encJ_len _; exact encJ_len _; omega)
    | (apply r_callA (f := 72) (ags := [nodeA subs[i]]); rfl; exact hna; exact hn)
    | (apply r_ldL; rfl; rfl; rfl)
    | (apply r_eql; rfl; rfl; (first | (apply decide_eq_true; omega) | (apply decide_eq_false; omega) | rfl))
    | (apply r_neq; rfl; rfl; (first | (apply decide_eq_true; omega) | (apply decide_eq_false; omega) | rfl))
    | (apply r_lss; rfl; rfl; (first | (apply decide_eq_true; omega) | (apply decide_eq_false; omega) | rfl))
    | (apply r_add; rfl; rfl; rfl; omega)
    | (apply r_not; rfl; rfl)
    | (apply r_lenD; rfl)
    | (apply r_lenL; rfl)
    | (apply r_len0; rfl)
    | (apply r_alloc; ((conv => lhs; simp only [Nat.reduceAdd]) <;> rfl); rfl)
    | (apply r_box; ((conv => lhs; simp only [Nat.reduceAdd]) <;> rfl); rfl; rfl; rfl)
    | (apply r_stL; rfl; rfl; rfl; rfl; (first | rfl | (simp only [z_nil, z_add] <;> rfl)); rfl; rfl)
    | (apply r_p; rfl)
    | (apply r_nilK)
    | (apply r_nil)
    | (apply k_V; rfl)
    | (apply k_P; rfl)
    | (apply k_PL; rfl)
    | (apply k_S; rfl)
    | (apply k_SL; rfl)
    | (apply k_A; rfl)
    | (apply k_T; rfl)
    | (apply k_F; rfl)
    | (apply k_D; rfl; rotate_left; rfl)
    | (apply k_nil)
    | (apply e_ret (vs := [.d (.val _)]); rfl)
    | (apply e_ret; rfl)
    | (apply e_ret' (vs := [.d (.val _)]); rfl)
    | (apply e_ret'; rfl)
    | (apply w_seq)
    | (apply w_ops; ((conv => lhs; simp only [Nat.reduceAdd]) <;> rfl))
    | (apply w_condT; rfl)
    | (apply w_condF; rfl)
    | ((apply w_condS; rfl) <;> (intro h; try simp only [decide_eq_true_eq, decide_eq_false_iff_not, Bool.not_eq_true, Bool.not_eq_false] at h))
    | (apply e_thenN)
    | (apply w_block)
    | (apply e_thenR)
    | (apply e_thenX)
    | (apply e_blkN)
    | (apply e_blkR)
    | (apply e_blkE)
    | (apply w_exit)
    | (apply w_ret)
    | (apply w_skip)
    | (apply e_blkE'; rfl))
        apply e_thenK
        apply hK (i + 1, bytes ++ listTo v0 v1 v2 v3 256)
        · refine ⟨by dsimp only; omega, hb2, hbl2, fun j hj hji => ?_, hm2⟩
          by_cases e : j = i
          · subst e; exact hnb.1 rfl
          · exact hnul j hj (by dsimp only at hji; omega)
        · dsimp only; omega
        · dsimp only
          rw [encJ_app]
          refine wkM [(50, 113)] [] rfl ?_ ?_ rfl ?_
          · intro p hp; simp only [List.mem_cons, List.not_mem_nil, or_false] at hp; rcases hp with rfl | rfl | rfl <;> first | exact ⟨by omega, .inr ⟨rfl, _, rfl, .data rfl⟩⟩ | exact ⟨by omega, .inr ⟨rfl, _, rfl, .data encI_isD⟩⟩
          · intro q hq; simp only [List.mem_cons, List.not_mem_nil, or_false] at hq; rcases hq with rfl | rfl <;> rfl
          · rw [List.length_append]
            repeat' (first
    | exact FWk.nil
    | (apply FWk.i; rfl; (first | rfl | omega | (simp; done)))
    | (apply FWk.sl; rfl; rfl; rfl; rfl; omega; rfl)
    | (apply FWk.ptr; rfl; rfl; rfl; omega; rfl)
    | (apply FWk.d; rfl; rfl)
    | (apply FWk.a; rfl; rfl; rfl)
    | (apply FWk.slN; rfl; omega; rfl))
      · rw [hnq] at hn hnb
        have hfin := hend i _ hb2 hbl2 hi (fun j hj hji => hnul j hj hji) (fun y hy => by rw [hm2 y hy]; exact ⟨fun ⟨j, hj, h, hw⟩ => ⟨j, hj, by omega, hw⟩, fun ⟨j, hj, h, hw⟩ => ⟨j, hj, by omega, hw⟩⟩) (fun _ h => by have := hnb.2 h; cases this)
        have h99 := set99_good _ hb2 (by omega)
        rw [hfin] at h99
        rw [encJ_app, List.length_append] at h99
        repeat' (first
    | (apply r_mvV; rfl)
    | (apply r_mvP; rfl)
    | (apply r_mvPL; rfl)
    | (apply r_mvS; rfl)
    | (apply r_mvSL; rfl)
    | (apply r_mvA; rfl)
    | (apply r_mvT; rfl)
    | (apply r_mvF; rfl)
    | (apply r_mvD; rfl)
    | (apply r_faddD; rfl)
    | (apply r_faddL; rfl)
    | (apply r_l; apply ld_kind; assumption; rfl)
    | (apply r_l; apply ld_mn; assumption; rfl)
    | (apply r_l; apply ld_mx; assumption; rfl)
    | (apply r_l; apply ld_subs; assumption; rfl)
    | (apply r_l; apply ld_set; assumption; rfl)
    | (apply r_l; apply ld_node; assumption; rfl)
    | (apply r_l; apply ld_kind'; assumption; rfl)
    | (apply r_l; apply ld_mn'; assumption; rfl)
    | (apply r_l; apply ld_mx'; assumption; rfl)
    | (apply r_l; apply ld_subs'; assumption; rfl)
    | (apply r_l; apply ld_node'; assumption; rfl)
    | (apply r_p; apply ix_sub; rfl; rfl; omega)
    | (apply r_callA (f := 50) (ags := [nodeA subs[i]]); rfl; exact hna; exact hg)
    | (apply r_callA (f := 74); rfl; rfl; exact h74)
    | (apply r_appI (b := 50) (id := 113) (K := encJ bytes) (L := encJ (listTo v0 v1 v2 v3 256)); rfl; rfl; rfl; rfl; rfl; exact encJ_len _; exact encJ_len _; omega)
    | (apply r_callA (f := 72) (ags := [nodeA subs[i]]); rfl; exact hna; exact hn)
    | (apply r_callLI (b := 113) (L := encJ bytes ++ encJ (listTo v0 v1 v2 v3 256)) (us := []); rfl; rfl; exact hjl; exact h99; rfl)
    | (apply r_ldL (v := .agg [.d (.val (.int .u64 w0)), .d (.val (.int .u64 w1)), .d (.val (.int .u64 w2)), .d (.val (.int .u64 w3))]); rfl; rfl; rfl)
    | (apply r_ldL; rfl; rfl; rfl)
    | (apply r_eql; rfl; rfl; (first | (apply decide_eq_true; omega) | (apply decide_eq_false; omega) | rfl))
    | (apply r_neq; rfl; rfl; (first | (apply decide_eq_true; omega) | (apply decide_eq_false; omega) | rfl))
    | (apply r_lss; rfl; rfl; (first | (apply decide_eq_true; omega) | (apply decide_eq_false; omega) | rfl))
    | (apply r_add; rfl; rfl; rfl; omega)
    | (apply r_not; rfl; rfl)
    | (apply r_lenD; rfl)
    | (apply r_lenL; rfl)
    | (apply r_len0; rfl)
    | (apply r_alloc; ((conv => lhs; simp only [Nat.reduceAdd]) <;> rfl); rfl)
    | (apply r_box; ((conv => lhs; simp only [Nat.reduceAdd]) <;> rfl); rfl; rfl; rfl)
    | (apply r_stL; rfl; rfl; rfl; rfl; (first | rfl | (simp only [z_nil, z_add] <;> rfl)); rfl; rfl)
    | (apply r_p; rfl)
    | (apply r_nilK)
    | (apply r_nil)
    | (apply k_V; rfl)
    | (apply k_P; rfl)
    | (apply k_PL; rfl)
    | (apply k_S; rfl)
    | (apply k_SL; rfl)
    | (apply k_A; rfl)
    | (apply k_T; rfl)
    | (apply k_F; rfl)
    | (apply k_D; rfl; rotate_left; rfl)
    | (apply k_nil)
    | (apply e_ret (vs := [.d (.val _)]); rfl)
    | (apply e_ret; rfl)
    | (apply e_ret' (vs := [.d (.val _)]); rfl)
    | (apply e_ret'; rfl)
    | (apply w_seq)
    | (apply w_ops; ((conv => lhs; simp only [Nat.reduceAdd]) <;> rfl))
    | (apply w_condT; rfl)
    | (apply w_condF; rfl)
    | ((apply w_condS; rfl) <;> (intro h; try simp only [decide_eq_true_eq, decide_eq_false_iff_not, Bool.not_eq_true, Bool.not_eq_false] at h))
    | (apply e_thenN)
    | (apply w_block)
    | (apply e_thenR)
    | (apply e_thenX)
    | (apply e_blkN)
    | (apply e_blkR)
    | (apply e_blkE)
    | (apply w_exit)
    | (apply w_ret)
    | (apply w_skip)
    | (apply e_blkE'; rfl))
        exact .data _ rfl
    · have ei : i = subs.length := by omega
      subst ei
      have hfin := hend subs.length bytes hb (by omega) (Nat.le_refl _) hnul (fun y hy => by rw [hmem y hy]; exact ⟨fun ⟨j, hj, h, hw⟩ => ⟨j, hj, by omega, hw⟩, fun ⟨j, hj, h, hw⟩ => ⟨j, hj, by omega, hw⟩⟩) (fun h => by omega)
      have h99 := set99_good bytes hb (by omega)
      rw [hfin] at h99
      repeat' (first
    | (apply r_mvV; rfl)
    | (apply r_mvP; rfl)
    | (apply r_mvPL; rfl)
    | (apply r_mvS; rfl)
    | (apply r_mvSL; rfl)
    | (apply r_mvA; rfl)
    | (apply r_mvT; rfl)
    | (apply r_mvF; rfl)
    | (apply r_mvD; rfl)
    | (apply r_faddD; rfl)
    | (apply r_faddL; rfl)
    | (apply r_l; apply ld_kind; assumption; rfl)
    | (apply r_l; apply ld_mn; assumption; rfl)
    | (apply r_l; apply ld_mx; assumption; rfl)
    | (apply r_l; apply ld_subs; assumption; rfl)
    | (apply r_l; apply ld_set; assumption; rfl)
    | (apply r_l; apply ld_node; assumption; rfl)
    | (apply r_l; apply ld_kind'; assumption; rfl)
    | (apply r_l; apply ld_mn'; assumption; rfl)
    | (apply r_l; apply ld_mx'; assumption; rfl)
    | (apply r_l; apply ld_subs'; assumption; rfl)
    | (apply r_l; apply ld_node'; assumption; rfl)
    | (apply r_callLI (b := 50) (L := encJ bytes) (us := []); rfl; rfl; exact encJ_len _; exact h99; rfl)
    | (apply r_ldL (v := .agg [.d (.val (.int .u64 w0)), .d (.val (.int .u64 w1)), .d (.val (.int .u64 w2)), .d (.val (.int .u64 w3))]); rfl; rfl; rfl)
    | (apply r_ldL; rfl; rfl; rfl)
    | (apply r_eql; rfl; rfl; (first | (apply decide_eq_true; omega) | (apply decide_eq_false; omega) | rfl))
    | (apply r_neq; rfl; rfl; (first | (apply decide_eq_true; omega) | (apply decide_eq_false; omega) | rfl))
    | (apply r_lss; rfl; rfl; (first | (apply decide_eq_true; omega) | (apply decide_eq_false; omega) | rfl))
    | (apply r_add; rfl; rfl; rfl; omega)
    | (apply r_not; rfl; rfl)
    | (apply r_lenD; rfl)
    | (apply r_lenL; rfl)
    | (apply r_len0; rfl)
    | (apply r_alloc; ((conv => lhs; simp only [Nat.reduceAdd]) <;> rfl); rfl)
    | (apply r_box; ((conv => lhs; simp only [Nat.reduceAdd]) <;> rfl); rfl; rfl; rfl)
    | (apply r_stL; rfl; rfl; rfl; rfl; (first | rfl | (simp only [z_nil, z_add] <;> rfl)); rfl; rfl)
    | (apply r_p; rfl)
    | (apply r_nilK)
    | (apply r_nil)
    | (apply k_V; rfl)
    | (apply k_P; rfl)
    | (apply k_PL; rfl)
    | (apply k_S; rfl)
    | (apply k_SL; rfl)
    | (apply k_A; rfl)
    | (apply k_T; rfl)
    | (apply k_F; rfl)
    | (apply k_D; rfl; rotate_left; rfl)
    | (apply k_nil)
    | (apply e_ret (vs := [.d (.val _)]); rfl)
    | (apply e_ret; rfl)
    | (apply e_ret' (vs := [.d (.val _)]); rfl)
    | (apply e_ret'; rfl)
    | (apply w_seq)
    | (apply w_ops; ((conv => lhs; simp only [Nat.reduceAdd]) <;> rfl))
    | (apply w_condT; rfl)
    | (apply w_condF; rfl)
    | ((apply w_condS; rfl) <;> (intro h; try simp only [decide_eq_true_eq, decide_eq_false_iff_not, Bool.not_eq_true, Bool.not_eq_false] at h))
    | (apply e_thenN)
    | (apply w_block)
    | (apply e_thenR)
    | (apply e_thenX)
    | (apply e_blkN)
    | (apply e_blkR)
    | (apply e_blkE)
    | (apply w_exit)
    | (apply w_ret)
    | (apply w_skip)
    | (apply e_blkE'; rfl))
      exact .data _ rfl
  by_cases h4 : k = 4
  · have hend : ∀ (bytes : List Nat), (∀ x ∈ bytes, x < 256) → (∀ y, y < 256 → (y ∈ bytes ↔ ∃ j, ∃ h : j < subs.length, j < subs.length ∧ ∃ w, L subs[j] (y :: w))) → setWs bytes = firstW (.node k a b c d mn mx subs) := by
      intro bytes hb hmem
      rw [hdef]
      refine first_eq hb fun y hy => ?_
      rw [hmem y hy]
      subst h4
      simp only [L_k4]
      rw [altL_first]
      exact ⟨fun ⟨j, hj, _, hw⟩ => ⟨j, hj, hw⟩, fun ⟨j, hj, hw⟩ => ⟨j, hj, hj, hw⟩⟩
    clear hsome hdef ih ht hok hoks hpl hR hS hnL hnu
    generalize firstW (.node k a b c d mn mx subs) = fw at hfw hend ⊢
    obtain ⟨w0, w1, w2, w3, rfl, _⟩ := words4 hfw.1
    clear hfw
    refine b50 (by simp) (by simp) (w_init ?_)
    unfold x50
    repeat' (first
    | (apply r_mvV; rfl)
    | (apply r_mvP; rfl)
    | (apply r_mvPL; rfl)
    | (apply r_mvS; rfl)
    | (apply r_mvSL; rfl)
    | (apply r_mvA; rfl)
    | (apply r_mvT; rfl)
    | (apply r_mvF; rfl)
    | (apply r_mvD; rfl)
    | (apply r_faddD; rfl)
    | (apply r_faddL; rfl)
    | (apply r_l; apply ld_kind; assumption; rfl)
    | (apply r_l; apply ld_mn; assumption; rfl)
    | (apply r_l; apply ld_mx; assumption; rfl)
    | (apply r_l; apply ld_subs; assumption; rfl)
    | (apply r_l; apply ld_set; assumption; rfl)
    | (apply r_l; apply ld_node; assumption; rfl)
    | (apply r_l; apply ld_kind'; assumption; rfl)
    | (apply r_l; apply ld_mn'; assumption; rfl)
    | (apply r_l; apply ld_mx'; assumption; rfl)
    | (apply r_l; apply ld_subs'; assumption; rfl)
    | (apply r_l; apply ld_node'; assumption; rfl)
    | (apply r_ldL (v := .agg [.i k, .d (.val (.int .u64 a)), .d (.val (.int .u64 b)), .d (.val (.int .u64 c)), .d (.val (.int .u64 d)), .i mn, .i mx, .d (.sl (encL subs) subs.length)]); rfl; rfl; rfl)
    | (apply r_callA; rfl; rfl; exact hnn)
    | (apply r_ldL; rfl; rfl; rfl)
    | (apply r_eql; rfl; rfl; (first | (apply decide_eq_true; omega) | (apply decide_eq_false; omega) | rfl))
    | (apply r_neq; rfl; rfl; (first | (apply decide_eq_true; omega) | (apply decide_eq_false; omega) | rfl))
    | (apply r_lss; rfl; rfl; (first | (apply decide_eq_true; omega) | (apply decide_eq_false; omega) | rfl))
    | (apply r_add; rfl; rfl; rfl; omega)
    | (apply r_not; rfl; rfl)
    | (apply r_lenD; rfl)
    | (apply r_lenL; rfl)
    | (apply r_len0; rfl)
    | (apply r_alloc; ((conv => lhs; simp only [Nat.reduceAdd]) <;> rfl); rfl)
    | (apply r_box; ((conv => lhs; simp only [Nat.reduceAdd]) <;> rfl); rfl; rfl; rfl)
    | (apply r_stL; rfl; rfl; rfl; rfl; (first | rfl | (simp only [z_nil, z_add] <;> rfl)); rfl; rfl)
    | (apply r_p; rfl)
    | (apply r_nilK)
    | (apply r_nil)
    | (apply k_V; rfl)
    | (apply k_P; rfl)
    | (apply k_PL; rfl)
    | (apply k_S; rfl)
    | (apply k_SL; rfl)
    | (apply k_A; rfl)
    | (apply k_T; rfl)
    | (apply k_F; rfl)
    | (apply k_D; rfl; rotate_left; rfl)
    | (apply k_nil)
    | (apply e_ret (vs := [.d (.val _)]); rfl)
    | (apply e_ret; rfl)
    | (apply e_ret' (vs := [.d (.val _)]); rfl)
    | (apply e_ret'; rfl)
    | (apply w_seq)
    | (apply w_ops; ((conv => lhs; simp only [Nat.reduceAdd]) <;> rfl))
    | (apply w_condT; rfl)
    | (apply w_condF; rfl)
    | ((apply w_condS; rfl) <;> (intro h; try simp only [decide_eq_true_eq, decide_eq_false_iff_not, Bool.not_eq_true, Bool.not_eq_false] at h))
    | (apply e_thenN)
    | (apply w_block)
    | (apply e_thenR)
    | (apply e_thenX)
    | (apply e_blkN)
    | (apply e_blkR)
    | (apply e_blkE)
    | (apply w_exit)
    | (apply w_ret)
    | (apply w_skip)
    | (apply e_blkE'; rfl))
    apply w_loopI (ι := Nat × List Nat) (S := fun z => ⟨(((Fr.nil.put 1 (.ptrL 1 0)).put 2 (.ptrL 2 0)).put 3 (.slL 50 0 z.2.length 1)).put 5 (.i z.1), rowsOf [(1, [.i k, .d (.val (.int .u64 a)), .d (.val (.int .u64 b)), .d (.val (.int .u64 c)), .d (.val (.int .u64 d)), .i mn, .i mx, .d (.sl (encL subs) subs.length)]), (2, [.d (.val (.int .u64 0)), .d (.val (.int .u64 0)), .d (.val (.int .u64 0)), .d (.val (.int .u64 0))]), (50, (encI (encJ z.2)).map AV.d)], Frz.buts 100 [2, 50], 100⟩) (m := fun z => subs.length - z.1) (I := fun z => z.1 ≤ subs.length ∧ (∀ x ∈ z.2, x < 256) ∧ z.2.length ≤ 256 * z.1 ∧ ∀ y, y < 256 → (y ∈ z.2 ↔ ∃ j, ∃ h : j < subs.length, j < z.1 ∧ ∃ w, L subs[j] (y :: w))) (i0 := (0, []))
    · exact ⟨Nat.zero_le _, by simp, by simp, fun y _ => ⟨fun h => by simp at h, fun ⟨j, _, h, _⟩ => by omega⟩⟩
    · refine wkM [(50, 1000000)] [50] rfl ?_ ?_ rfl ?_
      · intro p hp
        simp only [List.mem_cons, List.not_mem_nil, or_false] at hp
        rcases hp with rfl | rfl | rfl
        · exact ⟨by omega, .inr ⟨rfl, _, rfl, .data rfl⟩⟩
        · exact ⟨by omega, .inr ⟨rfl, _, rfl, .data rfl⟩⟩
        · exact ⟨by omega, .inl ⟨rfl, rfl⟩⟩
      · intro q hq; simp only [List.mem_cons, List.not_mem_nil, or_false] at hq; rcases hq with rfl | rfl <;> rfl
      · dsimp only
        repeat' (first
    | exact FWk.nil
    | (apply FWk.i; rfl; (first | rfl | omega | (simp; done)))
    | (apply FWk.sl; rfl; rfl; rfl; rfl; omega; rfl)
    | (apply FWk.ptr; rfl; rfl; rfl; omega; rfl)
    | (apply FWk.d; rfl; rfl)
    | (apply FWk.a; rfl; rfl; rfl)
    | (apply FWk.slN; rfl; omega; rfl))
    rintro ⟨i, bytes⟩ K ⟨hi, hb, hbl, hmem⟩ hK
    dsimp only at hi hb hbl hmem hK ⊢
    rcases Nat.lt_or_ge i subs.length with hlt | hge
    · have hs := NodeAt.sub hlt
      have hg := ih' i hlt
      have hok2 := firstW_ok subs[i]
      have hna : [nodeA subs[i]].all AV.nrm = true := by rw [List.all_cons, nodeA_nrm]; rfl
      obtain ⟨v0, v1, v2, v3, hv, g0, g1, g2, g3⟩ := words4 hok2.1
      rw [hv] at hg hok2
      have h74 := list74_good g0 g1 g2 g3
      unfold setA at h74
      have hm2 : ∀ y, y < 256 → (y ∈ bytes ++ listTo v0 v1 v2 v3 256 ↔ ∃ j, ∃ h : j < subs.length, j < i + 1 ∧ ∃ w, L subs[j] (y :: w)) := by
        intro y hy
        rw [List.mem_append, hmem y hy, mem_listTo]
        have h1 : inG v0 v1 v2 v3 y = true ↔ ∃ w, L subs[i] (y :: w) := hok2.2 y hy
        rw [h1]
        constructor
        · rintro (⟨j, hj, hji, hw⟩ | ⟨_, hw⟩)
          · exact ⟨j, hj, by omega, hw⟩
          · exact ⟨i, hlt, by omega, hw⟩
        · rintro ⟨j, hj, hji, hw⟩
          by_cases e : j = i
          · subst e; exact .inr ⟨hy, hw⟩
          · exact .inl ⟨j, hj, by omega, hw⟩
      have hb2 : ∀ x ∈ bytes ++ listTo v0 v1 v2 v3 256, x < 256 := by
        intro x hx
        rcases List.mem_append.1 hx with hx | hx
        · exact hb x hx
        · exact ((mem_listTo _ _ _ _ x 256).1 hx).1
      have hll := listTo_len v0 v1 v2 v3 256
      have hbl2 : (bytes ++ listTo v0 v1 v2 v3 256).length ≤ 256 * (i + 1) := by rw [List.length_append]; omega
      clear hok2 hv g0 g1 g2 g3 ih'
      repeat' (first
    | (apply r_mvV; rfl)
    | (apply r_mvP; rfl)
    | (apply r_mvPL; rfl)
    | (apply r_mvS; rfl)
    | (apply r_mvSL; rfl)
    | (apply r_mvA; rfl)
    | (apply r_mvT; rfl)
    | (apply r_mvF; rfl)
    | (apply r_mvD; rfl)
    | (apply r_faddD; rfl)
    | (apply r_faddL; rfl)
    | (apply r_l; apply ld_kind; assumption; rfl)
    | (apply r_l; apply ld_mn; assumption; rfl)
    | (apply r_l; apply ld_mx; assumption; rfl)
    | (apply r_l; apply ld_subs; assumption; rfl)
    | (apply r_l; apply ld_set; assumption; rfl)
    | (apply r_l; apply ld_node; assumption; rfl)
    | (apply r_l; apply ld_kind'; assumption; rfl)
    | (apply r_l; apply ld_mn'; assumption; rfl)
    | (apply r_l; apply ld_mx'; assumption; rfl)
    | (apply r_l; apply ld_subs'; assumption; rfl)
    | (apply r_l; apply ld_node'; assumption; rfl)
    | (apply r_p; apply ix_sub; rfl; rfl; omega)
    | (apply r_callA (f := 50) (ags := [nodeA subs[i]]); rfl; exact hna; exact hg)
    | (apply r_callA (f := 74); rfl; rfl; exact h74)
    | (apply r_appI (b := 50) (id := 113) (K := encJ bytes) (L := encJ (listTo v0 v1 v2 v3 256)); rfl; rfl; rfl; rfl; rfl; exact encJ_len _; exact encJ_len _; omega)
    | (apply r_ldL; rfl; rfl; rfl)
    | (apply r_eql; rfl; rfl; (first | (apply decide_eq_true; omega) | (apply decide_eq_false; omega) | rfl))
    | (apply r_neq; rfl; rfl; (first | (apply decide_eq_true; omega) | (apply decide_eq_false; omega) | rfl))
    | (apply r_lss; rfl; rfl; (first | (apply decide_eq_true; omega) | (apply decide_eq_false; omega) | rfl))
    | (apply r_add; rfl; rfl; rfl; omega)
    | (apply r_not; rfl; rfl)
    | (apply r_lenD; rfl)
    | (apply r_lenL; rfl)
    | (apply r_len0; rfl)
    | (apply r_alloc; ((conv => lhs; simp only [Nat.reduceAdd]) <;> rfl); rfl)
    | (apply r_box; ((conv => lhs; simp only [Nat.reduceAdd]) <;> rfl); rfl; rfl; rfl)
    | (apply r_stL; rfl; rfl; rfl; rfl; (first | rfl | (simp only [z_nil, z_add] <;> rfl)); rfl; rfl)
    | (apply r_p; rfl)
    | (apply r_nilK)
    | (apply r_nil)
    | (apply k_V; rfl)
    | (apply k_P; rfl)
    | (apply k_PL; rfl)
    | (apply k_S; rfl)
    | (apply k_SL; rfl)
    | (apply k_A; rfl)
    | (apply k_T; rfl)
    | (apply k_F; rfl)
    | (apply k_D; rfl; rotate_left; rfl)
    | (apply k_nil)
    | (apply e_ret (vs := [.d (.val _)]); rfl)
    | (apply e_ret; rfl)
    | (apply e_ret' (vs := [.d (.val _)]); rfl)
    | (apply e_ret'; rfl)
    | (apply w_seq)
    | (apply w_ops; ((conv => lhs; simp only [Nat.reduceAdd]) <;> rfl))
    | (apply w_condT; rfl)
    | (apply w_condF; rfl)
    | ((apply w_condS; rfl) <;> (intro h; try simp only [decide_eq_true_eq, decide_eq_false_iff_not, Bool.not_eq_true, Bool.not_eq_false] at h))
    | (apply e_thenN)
    | (apply w_block)
    | (apply e_thenR)
    | (apply e_thenX)
    | (apply e_blkN)
    | (apply e_blkR)
    | (apply e_blkE)
    | (apply w_exit)
    | (apply w_ret)
    | (apply w_skip)
    | (apply e_blkE'; rfl))
      apply e_thenK
      apply hK (i + 1, bytes ++ listTo v0 v1 v2 v3 256)
      · exact ⟨by dsimp only; omega, hb2, hbl2, hm2⟩
      · dsimp only; omega
      · dsimp only
        rw [encJ_app]
        refine wkM [(50, 113)] [] rfl ?_ ?_ rfl ?_
        · intro p hp; simp only [List.mem_cons, List.not_mem_nil, or_false] at hp; rcases hp with rfl | rfl | rfl <;> first | exact ⟨by omega, .inr ⟨rfl, _, rfl, .data rfl⟩⟩ | exact ⟨by omega, .inr ⟨rfl, _, rfl, .data encI_isD⟩⟩
        · intro q hq; simp only [List.mem_cons, List.not_mem_nil, or_false] at hq; rcases hq with rfl | rfl <;> rfl
        · rw [List.length_append]
          repeat' (first
    | exact FWk.nil
    | (apply FWk.i; rfl; (first | rfl | omega | (simp; done)))
    | (apply FWk.sl; rfl; rfl; rfl; rfl; omega; rfl)
    | (apply FWk.ptr; rfl; rfl; rfl; omega; rfl)
    | (apply FWk.d; rfl; rfl)
    | (apply FWk.a; rfl; rfl; rfl)
    | (apply FWk.slN; rfl; omega; rfl))
    · have ei : i = subs.length := by omega
      subst ei
      have hfin := hend bytes hb hmem
      have h99 := set99_good bytes hb (by omega)
      rw [hfin] at h99
      repeat' (first
    | (apply r_mvV; rfl)
    | (apply r_mvP; rfl)
    | (apply r_mvPL; rfl)
    | (apply r_mvS; rfl)
    | (apply r_mvSL; rfl)
    | (apply r_mvA; rfl)
    | (apply r_mvT; rfl)
    | (apply r_mvF; rfl)
    | (apply r_mvD; rfl)
    | (apply r_faddD; rfl)
    | (apply r_faddL; rfl)
    | (apply r_l; apply ld_kind; assumption; rfl)
    | (apply r_l; apply ld_mn; assumption; rfl)
    | (apply r_l; apply ld_mx; assumption; rfl)
    | (apply r_l; apply ld_subs; assumption; rfl)
    | (apply r_l; apply ld_set; assumption; rfl)
    | (apply r_l; apply ld_node; assumption; rfl)
    | (apply r_l; apply ld_kind'; assumption; rfl)
    | (apply r_l; apply ld_mn'; assumption; rfl)
    | (apply r_l; apply ld_mx'; assumption; rfl)
    | (apply r_l; apply ld_subs'; assumption; rfl)
    | (apply r_l; apply ld_node'; assumption; rfl)
    | (apply r_callLI (b := 50) (L := encJ bytes) (us := []); rfl; rfl; exact encJ_len _; exact h99; rfl)
    | (apply r_ldL (v := .agg [.d (.val (.int .u64 w0)), .d (.val (.int .u64 w1)), .d (.val (.int .u64 w2)), .d (.val (.int .u64 w3))]); rfl; rfl; rfl)
    | (apply r_ldL; rfl; rfl; rfl)
    | (apply r_eql; rfl; rfl; (first | (apply decide_eq_true; omega) | (apply decide_eq_false; omega) | rfl))
    | (apply r_neq; rfl; rfl; (first | (apply decide_eq_true; omega) | (apply decide_eq_false; omega) | rfl))
    | (apply r_lss; rfl; rfl; (first | (apply decide_eq_true; omega) | (apply decide_eq_false; omega) | rfl))
    | (apply r_add; rfl; rfl; rfl; omega)
    | (apply r_not; rfl; rfl)
    | (apply r_lenD; rfl)
    | (apply r_lenL; rfl)
    | (apply r_len0; rfl)
    | (apply r_alloc; ((conv => lhs; simp only [Nat.reduceAdd]) <;> rfl); rfl)
    | (apply r_box; ((conv => lhs; simp only [Nat.reduceAdd]) <;> rfl); rfl; rfl; rfl)
    | (apply r_stL; rfl; rfl; rfl; rfl; (first | rfl | (simp only [z_nil, z_add] <;> rfl)); rfl; rfl)
    | (apply r_p; rfl)
    | (apply r_nilK)
    | (apply r_nil)
    | (apply k_V; rfl)
    | (apply k_P; rfl)
    | (apply k_PL; rfl)
    | (apply k_S; rfl)
    | (apply k_SL; rfl)
    | (apply k_A; rfl)
    | (apply k_T; rfl)
    | (apply k_F; rfl)
    | (apply k_D; rfl; rotate_left; rfl)
    | (apply k_nil)
    | (apply e_ret (vs := [.d (.val _)]); rfl)
    | (apply e_ret; rfl)
    | (apply e_ret' (vs := [.d (.val _)]); rfl)
    | (apply e_ret'; rfl)
    | (apply w_seq)
    | (apply w_ops; ((conv => lhs; simp only [Nat.reduceAdd]) <;> rfl))
    | (apply w_condT; rfl)
    | (apply w_condF; rfl)
    | ((apply w_condS; rfl) <;> (intro h; try simp only [decide_eq_true_eq, decide_eq_false_iff_not, Bool.not_eq_true, Bool.not_eq_false] at h))
    | (apply e_thenN)
    | (apply w_block)
    | (apply e_thenR)
    | (apply e_thenX)
    | (apply e_blkN)
    | (apply e_blkR)
    | (apply e_blkE)
    | (apply w_exit)
    | (apply w_ret)
    | (apply w_skip)
    | (apply e_blkE'; rfl))
      exact .data _ rfl
  have h990 := set99_good [] (by simp) (by simp)
  by_cases h5 : k = 5 ∧ mx ≠ 0
  · obtain ⟨h5, hx⟩ := h5
    obtain ⟨u, hu⟩ := hk5 h5
    have hl1 : 0 < subs.length := by rw [hu]; simp
    have hg := ih' 0 hl1
    have hs := NodeAt.sub hl1
    have hu0 : subs[0] = u := by simp [hu]
    rw [hu0] at hg hs
    have hr5 := hR h5
    have e : firstW (.node k a b c d mn mx subs) = firstW u := by
      rw [hdef]
      refine (setWs_same (firstL_lt _) (firstL_lt _) fun y hy => ?_)
      rw [mem_firstL, mem_firstL]
      refine and_congr Iff.rfl ?_
      subst h5
      simp only [L_k5]
      rw [hu]
      have : ∀ w, fstL [u] w ↔ L u w := fun w => by rw [fstL]
      simp only [powL_congr this]
      exact rep_first hr5.1.1 (by omega) hx y
    rw [e]
    have hok2 := firstW_ok u
    obtain ⟨w0, w1, w2, w3, hv, _⟩ := words4 hok2.1
    rw [hv] at hg ⊢
    have hna : [nodeA u].all AV.nrm = true := by rw [List.all_cons, nodeA_nrm]; rfl
    clear hu0 hu hk5 ih' hnu hsome hdef ih ht hok hoks hpl hR hS hnL e hok2 hv hfw
    refine b50 (by simp) (by simp) (w_init ?_)
    unfold x50
    repeat' (first
    | (apply r_mvV; rfl)
    | (apply r_mvP; rfl)
    | (apply r_mvPL; rfl)
    | (apply r_mvS; rfl)
    | (apply r_mvSL; rfl)
    | (apply r_mvA; rfl)
    | (apply r_mvT; rfl)
    | (apply r_mvF; rfl)
    | (apply r_mvD; rfl)
    | (apply r_faddD; rfl)
    | (apply r_faddL; rfl)
    | (apply r_l; apply ld_kind; assumption; rfl)
    | (apply r_l; apply ld_mn; assumption; rfl)
    | (apply r_l; apply ld_mx; assumption; rfl)
    | (apply r_l; apply ld_subs; assumption; rfl)
    | (apply r_l; apply ld_set; assumption; rfl)
    | (apply r_l; apply ld_node; assumption; rfl)
    | (apply r_l; apply ld_kind'; assumption; rfl)
    | (apply r_l; apply ld_mn'; assumption; rfl)
    | (apply r_l; apply ld_mx'; assumption; rfl)
    | (apply r_l; apply ld_subs'; assumption; rfl)
    | (apply r_l; apply ld_node'; assumption; rfl)
    | (apply r_ldL (v := .agg [.i k, .d (.val (.int .u64 a)), .d (.val (.int .u64 b)), .d (.val (.int .u64 c)), .d (.val (.int .u64 d)), .i mn, .i mx, .d (.sl (encL subs) subs.length)]); rfl; rfl; rfl)
    | (apply r_callA (f := 51); rfl; rfl; exact hnn)
    | (apply r_p (v := .d (.ptr (encL subs) 0)); exact ix_sub0 rfl rfl hl1)
    | (apply r_l; apply ld_node'; exact hs; rfl)
    | (apply r_callA (ags := [nodeA u]); rfl; exact hna; exact hg)
    | (apply r_ldL (v := .agg [.d (.val (.int .u64 w0)), .d (.val (.int .u64 w1)), .d (.val (.int .u64 w2)), .d (.val (.int .u64 w3))]); rfl; rfl; rfl)
    | (apply r_ldL; rfl; rfl; rfl)
    | (apply r_eql; rfl; rfl; (first | (apply decide_eq_true; omega) | (apply decide_eq_false; omega) | rfl))
    | (apply r_neq; rfl; rfl; (first | (apply decide_eq_true; omega) | (apply decide_eq_false; omega) | rfl))
    | (apply r_lss; rfl; rfl; (first | (apply decide_eq_true; omega) | (apply decide_eq_false; omega) | rfl))
    | (apply r_add; rfl; rfl; rfl; omega)
    | (apply r_not; rfl; rfl)
    | (apply r_lenD; rfl)
    | (apply r_lenL; rfl)
    | (apply r_len0; rfl)
    | (apply r_alloc; ((conv => lhs; simp only [Nat.reduceAdd]) <;> rfl); rfl)
    | (apply r_box; ((conv => lhs; simp only [Nat.reduceAdd]) <;> rfl); rfl; rfl; rfl)
    | (apply r_stL; rfl; rfl; rfl; rfl; (first | rfl | (simp only [z_nil, z_add] <;> rfl)); rfl; rfl)
    | (apply r_p; rfl)
    | (apply r_nilK)
    | (apply r_nil)
    | (apply k_V; rfl)
    | (apply k_P; rfl)
    | (apply k_PL; rfl)
    | (apply k_S; rfl)
    | (apply k_SL; rfl)
    | (apply k_A; rfl)
    | (apply k_T; rfl)
    | (apply k_F; rfl)
    | (apply k_D; rfl; rotate_left; rfl)
    | (apply k_nil)
    | (apply e_ret (vs := [.d (.val _)]); rfl)
    | (apply e_ret; rfl)
    | (apply e_ret' (vs := [.d (.val _)]); rfl)
    | (apply e_ret'; rfl)
    | (apply w_seq)
    | (apply w_ops; ((conv => lhs; simp only [Nat.reduceAdd]) <;> rfl))
    | (apply w_condT; rfl)
    | (apply w_condF; rfl)
    | ((apply w_condS; rfl) <;> (intro h; try simp only [decide_eq_true_eq, decide_eq_false_iff_not, Bool.not_eq_true, Bool.not_eq_false] at h))
    | (apply e_thenN)
    | (apply w_block)
    | (apply e_thenR)
    | (apply e_thenX)
    | (apply e_blkN)
    | (apply e_blkR)
    | (apply e_blkE)
    | (apply w_exit)
    | (apply w_ret)
    | (apply w_skip)
    | (apply e_blkE'; rfl))
    exact .data _ rfl
  · have e : firstW (.node k a b c d mn mx subs) = [0, 0, 0, 0] := by
      have e2 : setWs [] = firstW (.node k a b c d mn mx subs) := by
        rw [hdef]
        refine first_eq (by simp) fun y hy => ⟨fun h => by simp at h, ?_⟩
        rintro ⟨w, hw⟩
        exfalso
        rcases (show k = 1 ∨ k = 5 by omega) with rfl | rfl
        · rw [L_k1] at hw; cases hw
        · have hx : mx = 0 := by
            rcases Int.lt_trichotomy mx 0 with h | h | h
            · exact absurd ⟨rfl, by omega⟩ h5
            · exact h
            · exact absurd ⟨rfl, by omega⟩ h5
          rw [L_k5] at hw
          obtain ⟨r, _, h2, h3⟩ := hw
          have : r = 0 := by omega
          subst this
          simp [powL] at h3
      rw [← e2]; rfl
    rw [e]
    have e2 : setWs [] = [0, 0, 0, 0] := rfl
    rw [e2] at h990
    clear ih' hnu hsome hdef ih ht hok hoks hpl hR hS hnL e hfw hk5
    refine b50 (by simp) (by simp) (w_init ?_)
    unfold x50
    repeat' (first
    | (apply r_mvV; rfl)
    | (apply r_mvP; rfl)
    | (apply r_mvPL; rfl)
    | (apply r_mvS; rfl)
    | (apply r_mvSL; rfl)
    | (apply r_mvA; rfl)
    | (apply r_mvT; rfl)
    | (apply r_mvF; rfl)
    | (apply r_mvD; rfl)
    | (apply r_faddD; rfl)
    | (apply r_faddL; rfl)
    | (apply r_l; apply ld_kind; assumption; rfl)
    | (apply r_l; apply ld_mn; assumption; rfl)
    | (apply r_l; apply ld_mx; assumption; rfl)
    | (apply r_l; apply ld_subs; assumption; rfl)
    | (apply r_l; apply ld_set; assumption; rfl)
    | (apply r_l; apply ld_node; assumption; rfl)
    | (apply r_l; apply ld_kind'; assumption; rfl)
    | (apply r_l; apply ld_mn'; assumption; rfl)
    | (apply r_l; apply ld_mx'; assumption; rfl)
    | (apply r_l; apply ld_subs'; assumption; rfl)
    | (apply r_l; apply ld_node'; assumption; rfl)
    | (apply r_ldL (v := .agg [.i k, .d (.val (.int .u64 a)), .d (.val (.int .u64 b)), .d (.val (.int .u64 c)), .d (.val (.int .u64 d)), .i mn, .i mx, .d (.sl (encL subs) subs.length)]); rfl; rfl; rfl)
    | (apply r_callA (f := 51); rfl; rfl; exact hnn)
    | (apply r_call (bs := [.d (.sl [] 0)]) (us := []); rfl; rfl; exact h990; rfl)
    | (apply r_ldL (v := .agg [.d (.val (.int .u64 0)), .d (.val (.int .u64 0)), .d (.val (.int .u64 0)), .d (.val (.int .u64 0))]); rfl; rfl; rfl)
    | (apply r_ldL; rfl; rfl; rfl)
    | (apply r_eql; rfl; rfl; (first | (apply decide_eq_true; omega) | (apply decide_eq_false; omega) | rfl))
    | (apply r_neq; rfl; rfl; (first | (apply decide_eq_true; omega) | (apply decide_eq_false; omega) | rfl))
    | (apply r_lss; rfl; rfl; (first | (apply decide_eq_true; omega) | (apply decide_eq_false; omega) | rfl))
    | (apply r_add; rfl; rfl; rfl; omega)
    | (apply r_not; rfl; rfl)
    | (apply r_lenD; rfl)
    | (apply r_lenL; rfl)
    | (apply r_len0; rfl)
    | (apply r_alloc; ((conv => lhs; simp only [Nat.reduceAdd]) <;> rfl); rfl)
    | (apply r_box; ((conv => lhs; simp only [Nat.reduceAdd]) <;> rfl); rfl; rfl; rfl)
    | (apply r_stL; rfl; rfl; rfl; rfl; (first | rfl | (simp only [z_nil, z_add] <;> rfl)); rfl; rfl)
    | (apply r_p; rfl)
    | (apply r_nilK)
    | (apply r_nil)
    | (apply k_V; rfl)
    | (apply k_P; rfl)
    | (apply k_PL; rfl)
    | (apply k_S; rfl)
    | (apply k_SL; rfl)
    | (apply k_A; rfl)
    | (apply k_T; rfl)
    | (apply k_F; rfl)
    | (apply k_D; rfl; rotate_left; rfl)
    | (apply k_nil)
    | (apply e_ret (vs := [.d (.val _)]); rfl)
    | (apply e_ret; rfl)
    | (apply e_ret' (vs := [.d (.val _)]); rfl)
    | (apply e_ret'; rfl)
    | (apply w_seq)
    | (apply w_ops; ((conv => lhs; simp only [Nat.reduceAdd]) <;> rfl))
    | (apply w_condT; rfl)
    | (apply w_condF; rfl)
    | ((apply w_condS; rfl) <;> (intro h; try simp only [decide_eq_true_eq, decide_eq_false_iff_not, Bool.not_eq_true, Bool.not_eq_false] at h))
    | (apply e_thenN)
    | (apply w_block)
    | (apply e_thenR)
    | (apply e_thenX)
    | (apply e_blkN)
    | (apply e_blkR)
    | (apply e_blkE)
    | (apply w_exit)
    | (apply w_ret)
    | (apply w_skip)
    | (apply e_blkE'; rfl))
    all_goals exact .data _ rfl
end Go.Sv
namespace Go.Sv
open Go Go.Proofs
set_option maxRecDepth 100000
set_option maxHeartbeats 4000000
attribute [local irreducible] W E R KP thenK blockK retK Good xwp aRun
end Go.Sv
namespace Go.Sv
open Go Go.Proofs
def x48 : XC := (.seq (.ops 2 [
    (0, ⟨(some 1), none, .box (.t 0)⟩),
    (1, ⟨(some 2), none, .mv (.k (.d (.val (.int .i64 0))))⟩)] (some [1])) (.seq (.ops 1 [
    (0, ⟨(some 3), none, .mv (.k (.d (.val (.int .i64 1))))⟩)] (some [1, 3])) (.seq (.seq (.ops 1 [
    (0, ⟨(some 4), none, .mv (.k (.d (.val (.int .i64 0))))⟩)] (some [1, 3, 4])) (.block 0 (.loop (.seq (.seq (.ops 5 [
    (0, ⟨(some 5), none, .mv (.t 4)⟩),
    (1, ⟨(some 6), none, .fadd 7 (.t 1)⟩),
    (2, ⟨(some 7), none, .load none (.t 6)⟩),
    (3, ⟨(some 8), none, .lenS (.t 7)⟩),
    (4, ⟨(some 9), none, .arith .lss (.t 5) (.t 8)⟩)] (some [1, 3, 4, 9])) (.cond (.t 9) .skip (.exit 0))) (.seq (.block 1 (.ops 9 [
    (0, ⟨(some 12), none, .mv (.t 3)⟩),
    (1, ⟨(some 13), none, .fadd 7 (.t 1)⟩),
    (2, ⟨(some 14), none, .load none (.t 13)⟩),
    (3, ⟨(some 15), none, .mv (.t 4)⟩),
    (4, ⟨(some 16), none, .idxS 8 (.t 14) (.t 15)⟩),
    (5, ⟨(some 17), none, .load (some 8) (.t 16)⟩),
    (6, ⟨(some 18), none, .call 48 [(.t 17)] none false⟩),
    (7, ⟨(some 19), none, .arith .add (.t 12) (.t 18)⟩),
    (8, ⟨(some 3), none, .mv (.t 19)⟩)] (some [1, 3, 4]))) (.ops 3 [
    (0, ⟨(some 10), none, .mv (.t 4)⟩),
    (1, ⟨(some 11), none, .arith .add (.t 10) (.k (.d (.val (.int .i64 1))))⟩),
    (2, ⟨(some 4), none, .mv (.t 11)⟩)] (some [1, 3, 4]))))))) (.seq (.ops 2 [
    (0, ⟨(some 20), none, .mv (.t 3)⟩),
    (1, ⟨(some 2), none, .mv (.t 20)⟩)] (some [2])) .ret))))
def md48 : FuncId → Option Nat × Bool
  | _ => (none, false)
def od48 : Nat → List (List Nat) × List Nat × Option (List Nat)
  | 0 => ([], [], some [1])
  | 1 => ([], [], some [1, 3])
  | 2 => ([], [], some [1, 3, 4])
  | 3 => ([], [], some [1, 3, 4, 9])
  | 4 => ([], [], some [1, 3, 4])
  | 5 => ([], [], some [1, 3, 4])
  | 6 => ([], [], some [2])
  | _ => ([], [], none)
theorem b48 {ags : List AV} {row : Option (List DV)} {r : AV} {row' nw : Option (List DV)} (hal : ags.length ≤ 21) (hrow : row'.isSome = true → row.isSome = true) (h : xwp Try.prog x48 (retK [.tmp 2] row.isSome r row' nw) (St.init ags row)) : Good Try.prog 48 ags row r row' nw :=
  good_of_body' (md := md48) (od := od48) Try.f48 (by kernel_rfl) (by kernel_rfl) (by kernel_rfl) (by kernel_rfl) (by kernel_rfl) hal hrow h

set_option maxRecDepth 100000
set_option maxHeartbeats 4000000
attribute [local irreducible] W E R KP thenK blockK retK Good xwp aRun
theorem size48_good : ∀ (n : Nat) (t : T), t.cnt ≤ n → n ≤ 1000000 → Good Try.prog 48 [nodeA t] none (.i (t.cnt : Nat)) none none := by
  intro n
  induction n with
  | zero => intro t ht; have := cnt_pos t; omega
  | succ n ih =>
  intro t ht hc
  obtain ⟨k, a, b, c, d, mn, mx, subs⟩ := t
  have ih' : ∀ i (h : i < subs.length), Good Try.prog 48 [nodeA subs[i]] none (.i (subs[i].cnt : Nat)) none none := by
    intro i h
    refine ih _ ?_ (by omega)
    have := cntL_get subs i h
    simp only [T.cnt] at ht
    omega
  have hlen : subs.length ≤ 1000000 := by
    have := cntL_len subs
    simp only [T.cnt] at ht
    omega
  have e0 : nodeA (.node k a b c d mn mx subs) = .agg [.i k, .d (.val (.int .u64 a)), .d (.val (.int .u64 b)), .d (.val (.int .u64 c)), .d (.val (.int .u64 d)), .i mn, .i mx, .d (.sl (encL subs) subs.length)] := rfl
  rw [e0]
  rw [T.cnt] at ht ⊢
  refine b48 (by simp) (by simp) (w_init ?_)
  unfold x48
  repeat' (first
    | (apply r_mvV; rfl)
    | (apply r_mvP; rfl)
    | (apply r_mvPL; rfl)
    | (apply r_mvS; rfl)
    | (apply r_mvSL; rfl)
    | (apply r_mvA; rfl)
    | (apply r_mvT; rfl)
    | (apply r_mvF; rfl)
    | (apply r_mvD; rfl)
    | (apply r_faddD; rfl)
    | (apply r_faddL; rfl)
    | (apply r_l; apply ld_kind; assumption; rfl)
    | (apply r_l; apply ld_mn; assumption; rfl)
    | (apply r_l; apply ld_mx; assumption; rfl)
    | (apply r_l; apply ld_subs; assumption; rfl)
    | (apply r_l; apply ld_set; assumption; rfl)
    | (apply r_l; apply ld_node; assumption; rfl)
    | (apply r_l; apply ld_kind'; assumption; rfl)
    | (apply r_l; apply ld_mn'; assumption; rfl)
    | (apply r_l; apply ld_mx'; assumption; rfl)
    | (apply r_l; apply ld_subs'; assumption; rfl)
    | (apply r_l; apply ld_node'; assumption; rfl)
    | (apply r_ldL; rfl; rfl; rfl)
    | (apply r_lss; rfl; rfl; (first | (apply decide_eq_true; omega) | (apply decide_eq_false; omega) | rfl))
    | (apply r_add; rfl; rfl; rfl; omega)
    | (apply r_lenD; rfl)
    | (apply r_lenL; rfl)
    | (apply r_len0; rfl)
    | (apply r_box; ((conv => lhs; simp only [Nat.reduceAdd]) <;> rfl); rfl; rfl; rfl)
    | (apply r_p; rfl)
    | (apply r_nilK)
    | (apply r_nil)
    | (apply k_V; rfl)
    | (apply k_P; rfl)
    | (apply k_PL; rfl)
    | (apply k_S; rfl)
    | (apply k_SL; rfl)
    | (apply k_A; rfl)
    | (apply k_T; rfl)
    | (apply k_F; rfl)
    | (apply k_D; rfl; rotate_left; rfl)
    | (apply k_nil)
    | (apply e_ret (vs := [.d (.val _)]); rfl)
    | (apply e_ret; rfl)
    | (apply e_ret' (vs := [.d (.val _)]); rfl)
    | (apply e_ret'; rfl)
    | (apply w_seq)
    | (apply w_ops; ((conv => lhs; simp only [Nat.reduceAdd]) <;> rfl))
    | (apply w_condT; rfl)
    | (apply w_condF; rfl)
    | ((apply w_condS; rfl) <;> (intro h; try simp only [decide_eq_true_eq, decide_eq_false_iff_not, Bool.not_eq_true, Bool.not_eq_false] at h))
    | (apply e_thenN)
    | (apply w_block)
    | (apply e_thenR)
    | (apply e_thenX)
    | (apply e_blkN)
    | (apply e_blkR)
    | (apply e_blkE)
    | (apply w_exit)
    | (apply w_ret)
    | (apply w_skip)
    | (apply e_blkE'; rfl))
  apply w_loopI (S := fun i : Nat => ⟨((Fr.nil.put 1 (.ptrL 1 0)).put 3 (.i ((1 + cntL (subs.take i) : Nat) : Int))).put 4 (.i i), Heap.nil.put 1 [.i k, .d (.val (.int .u64 a)), .d (.val (.int .u64 b)), .d (.val (.int .u64 c)), .d (.val (.int .u64 d)), .i mn, .i mx, .d (.sl (encL subs) subs.length)], Frz.lo 100, 100⟩) (m := fun i => subs.length - i) (I := fun i => i ≤ subs.length) (i0 := 0)
  · exact Nat.zero_le _
  · refine wkR (by omega) rfl rfl ?_
    simp only [List.take_zero, cntL]
    repeat' (first
    | exact FWk.nil
    | (apply FWk.i; rfl; (first | rfl | omega | (simp; done)))
    | (apply FWk.sl; rfl; rfl; rfl; rfl; omega; rfl)
    | (apply FWk.ptr; rfl; rfl; rfl; omega; rfl)
    | (apply FWk.d; rfl; rfl)
    | (apply FWk.a; rfl; rfl; rfl)
    | (apply FWk.slN; rfl; omega; rfl))
  intro i K hi hK
  dsimp only
  rcases Nat.lt_or_ge i subs.length with hlt | hge
  · have hs := NodeAt.sub hlt
    have hg := ih' i hlt
    have hd := cntL_take subs i hlt
    have h2 := cntL_take_le subs (i + 1)
    have hna : [nodeA subs[i]].all AV.nrm = true := by rw [List.all_cons, nodeA_nrm]; rfl
    repeat' (first
    | (apply r_mvV; rfl)
    | (apply r_mvP; rfl)
    | (apply r_mvPL; rfl)
    | (apply r_mvS; rfl)
    | (apply r_mvSL; rfl)
    | (apply r_mvA; rfl)
    | (apply r_mvT; rfl)
    | (apply r_mvF; rfl)
    | (apply r_mvD; rfl)
    | (apply r_faddD; rfl)
    | (apply r_faddL; rfl)
    | (apply r_l; apply ld_kind; assumption; rfl)
    | (apply r_l; apply ld_mn; assumption; rfl)
    | (apply r_l; apply ld_mx; assumption; rfl)
    | (apply r_l; apply ld_subs; assumption; rfl)
    | (apply r_l; apply ld_set; assumption; rfl)
    | (apply r_l; apply ld_node; assumption; rfl)
    | (apply r_l; apply ld_kind'; assumption; rfl)
    | (apply r_l; apply ld_mn'; assumption; rfl)
    | (apply r_l; apply ld_mx'; assumption; rfl)
    | (apply r_l; apply ld_subs'; assumption; rfl)
    | (apply r_l; apply ld_node'; assumption; rfl)
    | (apply r_p; apply ix_sub; rfl; rfl; omega)
    | (apply r_callA (ags := [nodeA subs[i]]); rfl; exact hna; exact hg)
    | (apply r_ldL; rfl; rfl; rfl)
    | (apply r_lss; rfl; rfl; (first | (apply decide_eq_true; omega) | (apply decide_eq_false; omega) | rfl))
    | (apply r_add; rfl; rfl; rfl; omega)
    | (apply r_lenD; rfl)
    | (apply r_lenL; rfl)
    | (apply r_len0; rfl)
    | (apply r_box; ((conv => lhs; simp only [Nat.reduceAdd]) <;> rfl); rfl; rfl; rfl)
    | (apply r_p; rfl)
    | (apply r_nilK)
    | (apply r_nil)
    | (apply k_V; rfl)
    | (apply k_P; rfl)
    | (apply k_PL; rfl)
    | (apply k_S; rfl)
    | (apply k_SL; rfl)
    | (apply k_A; rfl)
    | (apply k_T; rfl)
    | (apply k_F; rfl)
    | (apply k_D; rfl; rotate_left; rfl)
    | (apply k_nil)
    | (apply e_ret (vs := [.d (.val _)]); rfl)
    | (apply e_ret; rfl)
    | (apply e_ret' (vs := [.d (.val _)]); rfl)
    | (apply e_ret'; rfl)
    | (apply w_seq)
    | (apply w_ops; ((conv => lhs; simp only [Nat.reduceAdd]) <;> rfl))
    | (apply w_condT; rfl)
    | (apply w_condF; rfl)
    | ((apply w_condS; rfl) <;> (intro h; try simp only [decide_eq_true_eq, decide_eq_false_iff_not, Bool.not_eq_true, Bool.not_eq_false] at h))
    | (apply e_thenN)
    | (apply w_block)
    | (apply e_thenR)
    | (apply e_thenX)
    | (apply e_blkN)
    | (apply e_blkR)
    | (apply e_blkE)
    | (apply w_exit)
    | (apply w_ret)
    | (apply w_skip)
    | (apply e_blkE'; rfl))
    apply e_thenK
    apply hK (i + 1)
    · omega
    · omega
    · rw [hd]
      refine wkR (by omega) rfl rfl ?_
      repeat' (first
    | exact FWk.nil
    | (apply FWk.i; rfl; (first | rfl | omega | (simp; done)))
    | (apply FWk.sl; rfl; rfl; rfl; rfl; omega; rfl)
    | (apply FWk.ptr; rfl; rfl; rfl; omega; rfl)
    | (apply FWk.d; rfl; rfl)
    | (apply FWk.a; rfl; rfl; rfl)
    | (apply FWk.slN; rfl; omega; rfl))
  · have ei : i = subs.length := by omega
    subst ei
    repeat' (first
    | (apply r_mvV; rfl)
    | (apply r_mvP; rfl)
    | (apply r_mvPL; rfl)
    | (apply r_mvS; rfl)
    | (apply r_mvSL; rfl)
    | (apply r_mvA; rfl)
    | (apply r_mvT; rfl)
    | (apply r_mvF; rfl)
    | (apply r_mvD; rfl)
    | (apply r_faddD; rfl)
    | (apply r_faddL; rfl)
    | (apply r_l; apply ld_kind; assumption; rfl)
    | (apply r_l; apply ld_mn; assumption; rfl)
    | (apply r_l; apply ld_mx; assumption; rfl)
    | (apply r_l; apply ld_subs; assumption; rfl)
    | (apply r_l; apply ld_set; assumption; rfl)
    | (apply r_l; apply ld_node; assumption; rfl)
    | (apply r_l; apply ld_kind'; assumption; rfl)
    | (apply r_l; apply ld_mn'; assumption; rfl)
    | (apply r_l; apply ld_mx'; assumption; rfl)
    | (apply r_l; apply ld_subs'; assumption; rfl)
    | (apply r_l; apply ld_node'; assumption; rfl)
    | (apply r_ldL; rfl; rfl; rfl)
    | (apply r_lss; rfl; rfl; (first | (apply decide_eq_true; omega) | (apply decide_eq_false; omega) | rfl))
    | (apply r_add; rfl; rfl; rfl; omega)
    | (apply r_lenD; rfl)
    | (apply r_lenL; rfl)
    | (apply r_len0; rfl)
    | (apply r_box; ((conv => lhs; simp only [Nat.reduceAdd]) <;> rfl); rfl; rfl; rfl)
    | (apply r_p; rfl)
    | (apply r_nilK)
    | (apply r_nil)
    | (apply k_V; rfl)
    | (apply k_P; rfl)
    | (apply k_PL; rfl)
    | (apply k_S; rfl)
    | (apply k_SL; rfl)
    | (apply k_A; rfl)
    | (apply k_T; rfl)
    | (apply k_F; rfl)
    | (apply k_D; rfl; rotate_left; rfl)
    | (apply k_nil)
    | (apply e_ret (vs := [.d (.val _)]); rfl)
    | (apply e_ret; rfl)
    | (apply e_ret' (vs := [.d (.val _)]); rfl)
    | (apply e_ret'; rfl)
    | (apply w_seq)
    | (apply w_ops; ((conv => lhs; simp only [Nat.reduceAdd]) <;> rfl))
    | (apply w_condT; rfl)
    | (apply w_condF; rfl)
    | ((apply w_condS; rfl) <;> (intro h; try simp only [decide_eq_true_eq, decide_eq_false_iff_not, Bool.not_eq_true, Bool.not_eq_false] at h))
    | (apply e_thenN)
    | (apply w_block)
    | (apply e_thenR)
    | (apply e_thenX)
    | (apply e_blkN)
    | (apply e_blkR)
    | (apply e_blkE)
    | (apply w_exit)
    | (apply w_ret)
    | (apply w_skip)
    | (apply e_blkE'; rfl))
    exact retI (by rw [List.take_length])
end Go.Sv
namespace Go.Sv
open Go Go.Proofs
def x11 : XC := (.seq (.ops 2 [
    (0, ⟨(some 1), none, .box (.t 0)⟩),
    (1, ⟨(some 2), none, .mv (.k (.d (.val (.bool false))))⟩)] (some [1])) (.seq (.seq (.ops 12 [
    (0, ⟨(some 10), none, .call 44 [] none false⟩),
    (1, ⟨(some 11), none, .un .not (.t 10)⟩),
    (2, ⟨(some 12), none, .mv (.t 11)⟩),
    (3, ⟨(some 13), (some (12, false)), .load (some 8) (.t 1)⟩),
    (4, ⟨(some 14), (some (12, false)), .call 45 [(.t 13)] none false⟩),
    (5, ⟨(some 15), (some (12, false)), .un .not (.t 14)⟩),
    (6, ⟨(some 16), none, .pick (.t 12) (.k (.d (.val (.bool true)))) (.t 15)⟩),
    (7, ⟨(some 17), none, .mv (.t 16)⟩),
    (8, ⟨(some 18), (some (17, false)), .load (some 8) (.t 1)⟩),
    (9, ⟨(some 19), (some (17, false)), .call 32 [(.t 18)] none false⟩),
    (10, ⟨(some 20), (some (17, false)), .un .not (.t 19)⟩),
    (11, ⟨(some 21), none, .pick (.t 17) (.k (.d (.val (.bool true)))) (.t 20)⟩)] (some [1, 21])) (.cond (.t 21) (.seq (.ops 2 [
    (0, ⟨(some 22), none, .call 44 [] none false⟩),
    (1, ⟨(some 2), none, .mv (.t 22)⟩)] (some [2])) .ret) .skip)) (.seq (.ops 8 [
    (0, ⟨(some 24), none, .load (some 8) (.t 1)⟩),
    (1, ⟨(some 25), none, .call 46 [(.t 24)] none false⟩),
    (2, ⟨(some 23), none, .mv (.t 25)⟩),
    (3, ⟨(some 26), none, .ext (.t 23) 0⟩),
    (4, ⟨(some 27), none, .ext (.t 23) 1⟩),
    (5, ⟨(some 3), none, .alloc [(.int .i64 0), (.int .u64 0), (.int .u64 0), (.int .u64 0), (.int .u64 0), (.int .i64 0), (.int .i64 0), (.slice none 0 0)]⟩),
    (6, ⟨none, none, .store 8 (.t 3) (.t 26)⟩),
    (7, ⟨(some 4), none, .mv (.t 27)⟩)] (some [1, 3, 4])) (.seq (.ops 8 [
    (0, ⟨(some 29), none, .load (some 8) (.t 3)⟩),
    (1, ⟨(some 30), none, .call 46 [(.t 29)] none false⟩),
    (2, ⟨(some 28), none, .mv (.t 30)⟩),
    (3, ⟨(some 31), none, .ext (.t 28) 0⟩),
    (4, ⟨(some 32), none, .ext (.t 28) 1⟩),
    (5, ⟨(some 5), none, .alloc [(.int .i64 0), (.int .u64 0), (.int .u64 0), (.int .u64 0), (.int .u64 0), (.int .i64 0), (.int .i64 0), (.slice none 0 0)]⟩),
    (6, ⟨none, none, .store 8 (.t 5) (.t 31)⟩),
    (7, ⟨(some 6), none, .mv (.t 32)⟩)] (some [1, 3, 4, 5, 6])) (.seq (.seq (.ops 24 [
    (0, ⟨(some 33), none, .mv (.t 4)⟩),
    (1, ⟨(some 34), none, .arith .neq (.t 33) (.k (.d (.val (.int .i64 0))))⟩),
    (2, ⟨(some 35), none, .mv (.t 34)⟩),
    (3, ⟨(some 36), (some (35, false)), .mv (.t 6)⟩),
    (4, ⟨(some 37), (some (35, false)), .arith .neq (.t 36) (.k (.d (.val (.int .i64 0))))⟩),
    (5, ⟨(some 38), none, .pick (.t 35) (.k (.d (.val (.bool true)))) (.t 37)⟩),
    (6, ⟨(some 39), none, .mv (.t 38)⟩),
    (7, ⟨(some 40), (some (39, false)), .load (some 8) (.t 3)⟩),
    (8, ⟨(some 41), (some (39, false)), .call 32 [(.t 40)] none false⟩),
    (9, ⟨(some 42), (some (39, false)), .un .not (.t 41)⟩),
    (10, ⟨(some 43), none, .pick (.t 39) (.k (.d (.val (.bool true)))) (.t 42)⟩),
    (11, ⟨(some 44), none, .mv (.t 43)⟩),
    (12, ⟨(some 45), (some (44, false)), .load (some 8) (.t 3)⟩),
    (13, ⟨(some 46), (some (44, false)), .load (some 8) (.t 5)⟩),
    (14, ⟨(some 47), (some (44, false)), .call 47 [(.t 45), (.t 46)] none false⟩),
    (15, ⟨(some 48), (some (44, false)), .un .not (.t 47)⟩),
    (16, ⟨(some 49), none, .pick (.t 44) (.k (.d (.val (.bool true)))) (.t 48)⟩),
    (17, ⟨(some 50), none, .mv (.t 49)⟩),
    (18, ⟨(some 51), (some (50, false)), .load (some 8) (.t 3)⟩),
    (19, ⟨(some 52), (some (50, false)), .call 48 [(.t 51)] none false⟩),
    (20, ⟨(some 53), (some (50, false)), .load (some 8) (.t 1)⟩),
    (21, ⟨(some 54), (some (50, false)), .call 48 [(.t 53)] none false⟩),
    (22, ⟨(some 55), (some (50, false)), .arith .gtr (.t 52) (.t 54)⟩),
    (23, ⟨(some 56), none, .pick (.t 50) (.k (.d (.val (.bool true)))) (.t 55)⟩)] (some [1, 3, 56])) (.cond (.t 56) (.seq (.ops 1 [
    (0, ⟨(some 2), none, .mv (.k (.d (.val (.bool false))))⟩)] (some [2])) .ret) .skip)) (.seq (.ops 6 [
    (0, ⟨(some 57), none, .load (some 8) (.t 1)⟩),
    (1, ⟨(some 58), none, .call 49 [(.t 57), (.k (.d (.val (.int .i64 10))))] none false⟩),
    (2, ⟨(some 59), none, .load (some 8) (.t 3)⟩),
    (3, ⟨(some 60), none, .call 49 [(.t 59), (.k (.d (.val (.int .i64 10))))] none false⟩),
    (4, ⟨(some 7), none, .mv (.t 58)⟩),
    (5, ⟨(some 8), none, .mv (.t 60)⟩)] (some [1, 3, 7, 8])) (.seq (.seq (.ops 3 [
    (0, ⟨(some 61), none, .mv (.t 7)⟩),
    (1, ⟨(some 62), none, .lenS (.t 61)⟩),
    (2, ⟨(some 63), none, .mv (.k (.d (.val (.int .i64 0))))⟩)] (some [1, 3, 7, 8, 62, 63])) (.block 0 (.loop (.seq (.ops 1 [
    (0, ⟨(some 64), none, .arith .lss (.t 63) (.t 62)⟩)] (some [1, 3, 7, 8, 62, 63, 64])) (.seq (.cond (.t 64) .skip (.exit 0)) (.seq (.block 1 (.seq (.ops 2 [
    (0, ⟨(some 65), none, .mv (.t 63)⟩),
    (1, ⟨(some 9), none, .mv (.t 65)⟩)] (some [1, 3, 7, 8, 9, 62, 63])) (.seq (.ops 9 [
    (0, ⟨(some 66), none, .mv (.t 7)⟩),
    (1, ⟨(some 67), none, .mv (.t 9)⟩),
    (2, ⟨(some 68), none, .idxS 1 (.t 66) (.t 67)⟩),
    (3, ⟨(some 69), none, .load none (.t 68)⟩),
    (4, ⟨(some 70), none, .mv (.t 8)⟩),
    (5, ⟨(some 71), none, .mv (.t 9)⟩),
    (6, ⟨(some 72), none, .idxS 1 (.t 70) (.t 71)⟩),
    (7, ⟨(some 73), none, .load none (.t 72)⟩),
    (8, ⟨(some 74), none, .beq true (.t 69) (.t 73)⟩)] (some [1, 3, 7, 8, 62, 63, 74])) (.cond (.t 74) (.seq (.ops 1 [
    (0, ⟨(some 2), none, .mv (.k (.d (.val (.bool false))))⟩)] (some [2])) .ret) .skip)))) (.ops 2 [
    (0, ⟨(some 75), none, .arith .add (.t 63) (.k (.d (.val (.int .i64 1))))⟩),
    (1, ⟨(some 63), none, .mv (.t 75)⟩)] (some [1, 3, 7, 8, 62, 63])))))))) (.seq (.ops 13 [
    (0, ⟨(some 76), none, .load (some 8) (.t 1)⟩),
    (1, ⟨(some 77), none, .call 50 [(.t 76)] none false⟩),
    (2, ⟨(some 78), none, .load (some 8) (.t 3)⟩),
    (3, ⟨(some 79), none, .call 50 [(.t 78)] none false⟩),
    (4, ⟨(some 80), none, .eqAgg 4 false (.t 77) (.t 79)⟩),
    (5, ⟨(some 81), none, .mv (.t 80)⟩),
    (6, ⟨(some 82), (some (81, true)), .load (some 8) (.t 1)⟩),
    (7, ⟨(some 83), (some (81, true)), .call 51 [(.t 82)] none false⟩),
    (8, ⟨(some 84), (some (81, true)), .load (some 8) (.t 3)⟩),
    (9, ⟨(some 85), (some (81, true)), .call 51 [(.t 84)] none false⟩),
    (10, ⟨(some 86), (some (81, true)), .beq false (.t 83) (.t 85)⟩),
    (11, ⟨(some 87), none, .pick (.t 81) (.t 86) (.k (.d (.val (.bool false))))⟩),
    (12, ⟨(some 2), none, .mv (.t 87)⟩)] (some [2])) .ret))))))))
def md11 : FuncId → Option Nat × Bool
  | _ => (none, false)
def od11 : Nat → List (List Nat) × List Nat × Option (List Nat)
  | 0 => ([], [], some [1])
  | 1 => ([], [], some [1, 21])
  | 2 => ([], [], some [2])
  | 3 => ([], [], some [1, 3, 4])
  | 4 => ([], [], some [1, 3, 4, 5, 6])
  | 5 => ([[], [0], [0, 1], [0, 1, 2], [0, 1, 2, 3], [0, 1, 2, 3, 4], [0, 1, 2, 3, 4, 5], [0, 1, 2, 3, 4, 5, 6], [0, 1, 2, 3, 4, 5, 6, 7], [0, 1, 2, 3, 4, 5, 6, 7, 8], [0, 1, 2, 3, 4, 5, 6, 7, 8, 9], [0, 1, 2, 3, 4, 5, 6, 7, 8, 9, 10], [0, 1, 2, 3, 4, 5, 6, 7, 8, 9, 10, 11], [0, 1, 2, 3, 4, 5, 6, 7, 8, 9, 10, 11], [0, 1, 2, 3, 4, 5, 6, 7, 8, 9, 10, 11, 12, 13], [0, 1, 2, 3, 4, 5, 6, 7, 8, 9, 10, 11, 12, 13, 14], [0, 1, 2, 3, 4, 5, 6, 7, 8, 9, 10, 11, 12, 13, 14, 15], [0, 1, 2, 3, 4, 5, 6, 7, 8, 9, 10, 11, 12, 13, 14, 15, 16], [0, 1, 2, 3, 4, 5, 6, 7, 8, 9, 10, 11, 12, 13, 14, 15, 16, 17], [0, 1, 2, 3, 4, 5, 6, 7, 8, 9, 10, 11, 12, 13, 14, 15, 16, 17, 18], [0, 1, 2, 3, 4, 5, 6, 7, 8, 9, 10, 11, 12, 13, 14, 15, 16, 17], [0, 1, 2, 3, 4, 5, 6, 7, 8, 9, 10, 11, 12, 13, 14, 15, 16, 17, 18, 19, 20], [0, 1, 2, 3, 4, 5, 6, 7, 8, 9, 10, 11, 12, 13, 14, 15, 16, 17, 18, 19, 20, 21], [0, 1, 2, 3, 4, 5, 6, 7, 8, 9, 10, 11, 12, 13, 14, 15, 16, 17, 18, 19, 20, 21, 22]], [0, 1, 2, 3, 4, 5, 6, 7, 8, 9, 10, 11, 12, 13, 14, 15, 16, 17, 18, 19, 20, 21, 22, 23], some [1, 3, 56])
  | 6 => ([], [], some [2])
  | 7 => ([[], [0], [], [0, 1, 2], [0, 1, 2, 3], [0, 1, 2, 3, 4]], [0, 1, 2, 3, 4, 5], some [1, 3, 7, 8])
  | 8 => ([], [], some [1, 3, 7, 8, 62, 63])
  | 9 => ([], [], some [1, 3, 7, 8, 62, 63, 64])
  | 10 => ([], [], some [1, 3, 7, 8, 9, 62, 63])
  | 11 => ([[], [], [0, 1], [0, 1, 2], [], [], [4, 5], [4, 5, 6], [0, 1, 2, 3, 4, 5, 6, 7]], [0, 1, 2, 3, 4, 5, 6, 7, 8], some [1, 3, 7, 8, 62, 63, 74])
  | 12 => ([], [], some [2])
  | 13 => ([], [], some [1, 3, 7, 8, 62, 63])
  | 14 => ([[], [0], [], [0, 1, 2], [0, 1, 2, 3], [0, 1, 2, 3, 4], [0, 1, 2, 3, 4, 5], [0, 1, 2, 3, 4, 5, 6], [0, 1, 2, 3, 4, 5], [0, 1, 2, 3, 4, 5, 6, 7, 8], [0, 1, 2, 3, 4, 5, 6, 7, 8, 9], [0, 1, 2, 3, 4, 5, 6, 7, 8, 9, 10], [0, 1, 2, 3, 4, 5, 6, 7, 8, 9, 10, 11]], [0, 1, 2, 3, 4, 5, 6, 7, 8, 9, 10, 11, 12], some [2])
  | _ => ([], [], none)
theorem b11 {ags : List AV} {row : Option (List DV)} {r : AV} {row' nw : Option (List DV)} (hal : ags.length ≤ 88) (hrow : row'.isSome = true → row.isSome = true) (h : xwp Try.prog x11 (retK [.tmp 2] row.isSome r row' nw) (St.init ags row)) : Good Try.prog 11 ags row r row' nw :=
  good_of_body' (md := md11) (od := od11) Try.f11 (by kernel_rfl) (by kernel_rfl) (by kernel_rfl) (by kernel_rfl) (by kernel_rfl) hal hrow h

set_option maxRecDepth 100000
set_option maxHeartbeats 4000000
attribute [local irreducible] W E R KP thenK blockK retK Good xwp aRun
theorem firstW_congr {t u : T} (h : ∀ w, L t w ↔ L u w) : firstW t = firstW u := by
  have : L t = L u := funext fun w => propext (h w)
  unfold firstW
  rw [this]
theorem nnT_congr {t u : T} (ht : okT t) (hu : okT u) (h : ∀ w, L t w ↔ L u w) : nnT t = nnT u := by
  rw [Bool.eq_iff_iff, nnT_L t ht, nnT_L u hu]
  exact ⟨fun g w hw => g w ((h w).2 hw), fun g w hw => g w ((h w).1 hw)⟩
theorem law11 (t : T) (ht : inT t) : Good Try.prog 11 [nodeA t] none (.b true) none none := by
  have haw := awake10_good
  have h45 := few_good t
  by_cases hf : sizeT t 601 ≤ 200
  case neg =>
    rw [show decide (sizeT t 601 ≤ 200) = false by simp [hf]] at h45
    clear ht hf
    obtain ⟨k, a, b, c, d, mn, mx, subs⟩ := t
    have e0 : nodeA (.node k a b c d mn mx subs) = .agg [.i k, .d (.val (.int .u64 a)), .d (.val (.int .u64 b)), .d (.val (.int .u64 c)), .d (.val (.int .u64 d)), .i mn, .i mx, .d (.sl (encL subs) subs.length)] := rfl
    rw [e0] at h45 ⊢
    refine b11 (by simp) (by simp) (w_init ?_)
    unfold x11
    repeat' (first
    | (apply r_mvV; rfl)
    | (apply r_mvP; rfl)
    | (apply r_mvPL; rfl)
    | (apply r_mvS; rfl)
    | (apply r_mvSL; rfl)
    | (apply r_mvA; rfl)
    | (apply r_mvT; rfl)
    | (apply r_mvF; rfl)
    | (apply r_mvD; rfl)
    | (apply r_l; apply ld_kind; assumption; rfl)
    | (apply r_l; apply ld_mn; assumption; rfl)
    | (apply r_l; apply ld_mx; assumption; rfl)
    | (apply r_l; apply ld_subs; assumption; rfl)
    | (apply r_l; apply ld_set; assumption; rfl)
    | (apply r_l; apply ld_node; assumption; rfl)
    | (apply r_l; apply ld_kind'; assumption; rfl)
    | (apply r_l; apply ld_mn'; assumption; rfl)
    | (apply r_l; apply ld_mx'; assumption; rfl)
    | (apply r_l; apply ld_subs'; assumption; rfl)
    | (apply r_l; apply ld_node'; assumption; rfl)
    | (apply r_callA (ags := []); rfl; rfl; exact haw)
    | (apply r_callA; rfl; rfl; exact h45)
    | (apply r_ldL; rfl; rfl; rfl)
    | (apply r_neq; rfl; rfl; (first | (apply decide_eq_true; omega) | (apply decide_eq_false; omega) | rfl))
    | (apply r_lss; rfl; rfl; (first | (apply decide_eq_true; omega) | (apply decide_eq_false; omega) | rfl))
    | (apply r_gtr; rfl; rfl; (first | (apply decide_eq_true; omega) | (apply decide_eq_false; omega) | rfl))
    | (apply r_add; rfl; rfl; rfl; omega)
    | (apply r_not; rfl; rfl)
    | (apply r_beq; rfl; rfl; rfl)
    | (apply r_bne; rfl; rfl; rfl)
    | (apply r_pickT; rfl)
    | (apply r_pickF; rfl)
    | (apply r_lenD; rfl)
    | (apply r_lenL; rfl)
    | (apply r_len0; rfl)
    | (apply r_ext; rfl; rfl)
    | (apply r_gT; rfl)
    | (apply r_gF'; rfl; rfl)
    | (apply r_gN'; rfl)
    | ((apply r_gS (o := default); rfl) <;> (intro h; try simp only [decide_eq_true_eq, decide_eq_false_iff_not, Bool.not_eq_true, Bool.not_eq_false] at h))
    | (apply r_alloc; ((conv => lhs; simp only [Nat.reduceAdd]) <;> rfl); rfl)
    | (apply r_box; ((conv => lhs; simp only [Nat.reduceAdd]) <;> rfl); rfl; rfl; rfl)
    | (apply r_stL; rfl; rfl; rfl; rfl; (first | rfl | (simp only [z_nil, z_add] <;> rfl)); rfl; rfl)
    | (apply r_p; rfl)
    | (apply r_nilK)
    | (apply r_nil)
    | (apply k_V; rfl)
    | (apply k_P; rfl)
    | (apply k_PL; rfl)
    | (apply k_S; rfl)
    | (apply k_SL; rfl)
    | (apply k_A; rfl)
    | (apply k_T; rfl)
    | (apply k_F; rfl)
    | (apply k_D; rfl; rotate_left; rfl)
    | (apply k_nil)
    | (apply e_ret (vs := [.d (.val _)]); rfl)
    | (apply e_ret; rfl)
    | (apply e_ret' (vs := [.d (.val _)]); rfl)
    | (apply e_ret'; rfl)
    | (apply w_seq)
    | (apply w_ops; ((conv => lhs; simp only [Nat.reduceAdd]) <;> rfl))
    | (apply w_condT; rfl)
    | (apply w_condF; rfl)
    | ((apply w_condS; rfl) <;> (intro h; try simp only [decide_eq_true_eq, decide_eq_false_iff_not, Bool.not_eq_true, Bool.not_eq_false] at h))
    | (apply e_thenN)
    | (apply w_block)
    | (apply e_thenR)
    | (apply e_thenX)
    | (apply e_blkN)
    | (apply e_blkR)
    | (apply e_blkE)
    | (apply w_exit)
    | (apply w_ret)
    | (apply w_skip)
    | (apply e_blkE'; rfl))
    exact retB rfl
  have hc := few_cnt hf
  have h32 := right8_good t (by omega)
  rw [show decide (sizeT t 601 ≤ 200) = true by simp [hf]] at h45
  by_cases hr : rightT t = true
  case neg =>
    have hr : rightT t = false := by simpa using hr
    rw [hr] at h32
    clear ht hf hc hr
    obtain ⟨k, a, b, c, d, mn, mx, subs⟩ := t
    have e0 : nodeA (.node k a b c d mn mx subs) = .agg [.i k, .d (.val (.int .u64 a)), .d (.val (.int .u64 b)), .d (.val (.int .u64 c)), .d (.val (.int .u64 d)), .i mn, .i mx, .d (.sl (encL subs) subs.length)] := rfl
    rw [e0] at h45 h32 ⊢
    refine b11 (by simp) (by simp) (w_init ?_)
    unfold x11
    repeat' (first
    | (apply r_mvV; rfl)
    | (apply r_mvP; rfl)
    | (apply r_mvPL; rfl)
    | (apply r_mvS; rfl)
    | (apply r_mvSL; rfl)
    | (apply r_mvA; rfl)
    | (apply r_mvT; rfl)
    | (apply r_mvF; rfl)
    | (apply r_mvD; rfl)
    | (apply r_l; apply ld_kind; assumption; rfl)
    | (apply r_l; apply ld_mn; assumption; rfl)
    | (apply r_l; apply ld_mx; assumption; rfl)
    | (apply r_l; apply ld_subs; assumption; rfl)
    | (apply r_l; apply ld_set; assumption; rfl)
    | (apply r_l; apply ld_node; assumption; rfl)
    | (apply r_l; apply ld_kind'; assumption; rfl)
    | (apply r_l; apply ld_mn'; assumption; rfl)
    | (apply r_l; apply ld_mx'; assumption; rfl)
    | (apply r_l; apply ld_subs'; assumption; rfl)
    | (apply r_l; apply ld_node'; assumption; rfl)
    | (apply r_callA (ags := []); rfl; rfl; exact haw)
    | (apply r_callA; rfl; rfl; exact h45)
    | (apply r_callA; rfl; rfl; exact h32)
    | (apply r_ldL; rfl; rfl; rfl)
    | (apply r_neq; rfl; rfl; (first | (apply decide_eq_true; omega) | (apply decide_eq_false; omega) | rfl))
    | (apply r_lss; rfl; rfl; (first | (apply decide_eq_true; omega) | (apply decide_eq_false; omega) | rfl))
    | (apply r_gtr; rfl; rfl; (first | (apply decide_eq_true; omega) | (apply decide_eq_false; omega) | rfl))
    | (apply r_add; rfl; rfl; rfl; omega)
    | (apply r_not; rfl; rfl)
    | (apply r_beq; rfl; rfl; rfl)
    | (apply r_bne; rfl; rfl; rfl)
    | (apply r_pickT; rfl)
    | (apply r_pickF; rfl)
    | (apply r_lenD; rfl)
    | (apply r_lenL; rfl)
    | (apply r_len0; rfl)
    | (apply r_ext; rfl; rfl)
    | (apply r_gT; rfl)
    | (apply r_gF'; rfl; rfl)
    | (apply r_gN'; rfl)
    | ((apply r_gS (o := default); rfl) <;> (intro h; try simp only [decide_eq_true_eq, decide_eq_false_iff_not, Bool.not_eq_true, Bool.not_eq_false] at h))
    | (apply r_alloc; ((conv => lhs; simp only [Nat.reduceAdd]) <;> rfl); rfl)
    | (apply r_box; ((conv => lhs; simp only [Nat.reduceAdd]) <;> rfl); rfl; rfl; rfl)
    | (apply r_stL; rfl; rfl; rfl; rfl; (first | rfl | (simp only [z_nil, z_add] <;> rfl)); rfl; rfl)
    | (apply r_p; rfl)
    | (apply r_nilK)
    | (apply r_nil)
    | (apply k_V; rfl)
    | (apply k_P; rfl)
    | (apply k_PL; rfl)
    | (apply k_S; rfl)
    | (apply k_SL; rfl)
    | (apply k_A; rfl)
    | (apply k_T; rfl)
    | (apply k_F; rfl)
    | (apply k_D; rfl; rotate_left; rfl)
    | (apply k_nil)
    | (apply e_ret (vs := [.d (.val _)]); rfl)
    | (apply e_ret; rfl)
    | (apply e_ret' (vs := [.d (.val _)]); rfl)
    | (apply e_ret'; rfl)
    | (apply w_seq)
    | (apply w_ops; ((conv => lhs; simp only [Nat.reduceAdd]) <;> rfl))
    | (apply w_condT; rfl)
    | (apply w_condF; rfl)
    | ((apply w_condS; rfl) <;> (intro h; try simp only [decide_eq_true_eq, decide_eq_false_iff_not, Bool.not_eq_true, Bool.not_eq_false] at h))
    | (apply e_thenN)
    | (apply w_block)
    | (apply e_thenR)
    | (apply e_thenX)
    | (apply e_blkN)
    | (apply e_blkR)
    | (apply e_blkE)
    | (apply w_exit)
    | (apply w_ret)
    | (apply w_skip)
    | (apply e_blkE'; rfl))
    exact retB rfl
  rw [hr] at h32
  have hfi : fitsT t 12 = true := by rw [← right_fits]; exact hr
  have hok : okT t := ok_of_right ht hr
  have hmo := simT_ok t hok
  have hmf := simT_fits hok hfi
  have hmc := simT_cnt t hok
  have hL : ∀ w, L t w ↔ L (simT t) w := fun w => (simT_L t hok w).symm
  have hp := Simple46_good t (by omega) (fun _ => hok)
  have hp2 := Simple46_good (simT t) (by omega) (fun _ => hmo)
  rw [show sE t = 0 by simp [sE, hfi], show sN t = simT t by simp [sN, hfi]] at hp
  rw [show sE (simT t) = 0 by simp [sE, hmf], show sN (simT t) = simT t by simp [sN, hmf, simT_again t hok]] at hp2
  have h32m := right8_good (simT t) (by omega)
  rw [show rightT (simT t) = true by rw [right_fits]; exact hmf] at h32m
  have h47 := same47_good 1000000 (simT t) (by omega) (by omega)
  have h48 := size48_good 1000000 t (by omega) (by omega)
  have h48m := size48_good 1000000 (simT t) (by omega) (by omega)
  have h49 := len49_good 1000000 t (by omega) (by omega) hok 10 (by omega)
  have h49m := len49_good 1000000 (simT t) (by omega) (by omega) hmo 10 (by omega)
  have h50 := first50_good 300000 t (by omega) (by omega) hok
  have h50m := first50_good 300000 (simT t) (by omega) (by omega) hmo
  have h51 := none51_good 1000000 t (by omega) (by omega) hok
  have h51m := none51_good 1000000 (simT t) (by omega) (by omega) hmo
  rw [← lenS_congr hL 10] at h49m
  rw [← firstW_congr hL] at h50m
  rw [← nnT_congr hok hmo hL] at h51m
  have hw := words4 (firstW_ok t).1
  have hln := lenS_len (L t) 10
  generalize firstW t = fw at h50 h50m hw
  obtain ⟨w0, w1, w2, w3, hv, _⟩ := hw
  rw [hv] at h50 h50m
  generalize lenS (L t) 10 = ls at h49 h49m hln
  generalize nnT t = nn at h51 h51m
  generalize t.cnt = c1 at h48 hmc
  generalize (simT t).cnt = c2 at h48m hmc
  clear hv ht hf hc hr hfi hok hmo hmf hL
  generalize simT t = u at hp hp2 h32m h47 h48m h49m h50m h51m
  obtain ⟨km, am, bm, cm, dm, mnm, mxm, subsm⟩ := u
  obtain ⟨k, a, b, c, d, mn, mx, subs⟩ := t
  have e0 : nodeA (.node k a b c d mn mx subs) = .agg [.i k, .d (.val (.int .u64 a)), .d (.val (.int .u64 b)), .d (.val (.int .u64 c)), .d (.val (.int .u64 d)), .i mn, .i mx, .d (.sl (encL subs) subs.length)] := rfl
  have e1 : nodeA (.node km am bm cm dm mnm mxm subsm) = .agg [.i km, .d (.val (.int .u64 am)), .d (.val (.int .u64 bm)), .d (.val (.int .u64 cm)), .d (.val (.int .u64 dm)), .i mnm, .i mxm, .d (.sl (encL subsm) subsm.length)] := rfl
  rw [e1] at hp hp2 h32m h47 h48m h49m h50m h51m
  rw [e0] at h45 h32 hp h48 h49 h50 h51 ⊢
  refine b11 (by simp) (by simp) (w_init ?_)
  unfold x11
  have hcg : decide ((c2 : Int) > c1) = false := by simp; omega
  repeat' (first
    | (apply r_mvV; rfl)
    | (apply r_mvP; rfl)
    | (apply r_mvPL; rfl)
    | (apply r_mvS; rfl)
    | (apply r_mvSL; rfl)
    | (apply r_mvA; rfl)
    | (apply r_mvT; rfl)
    | (apply r_mvF; rfl)
    | (apply r_mvD; rfl)
    | (apply r_l; apply ld_kind; assumption; rfl)
    | (apply r_l; apply ld_mn; assumption; rfl)
    | (apply r_l; apply ld_mx; assumption; rfl)
    | (apply r_l; apply ld_subs; assumption; rfl)
    | (apply r_l; apply ld_set; assumption; rfl)
    | (apply r_l; apply ld_node; assumption; rfl)
    | (apply r_l; apply ld_kind'; assumption; rfl)
    | (apply r_l; apply ld_mn'; assumption; rfl)
    | (apply r_l; apply ld_mx'; assumption; rfl)
    | (apply r_l; apply ld_subs'; assumption; rfl)
    | (apply r_l; apply ld_node'; assumption; rfl)
    | (apply r_callA (ags := []); rfl; rfl; exact haw)
    | (apply r_callA; rfl; rfl; exact h45)
    | (apply r_callA; rfl; rfl; exact h32)
    | (apply r_callA; rfl; rfl; exact hp)
    | (apply r_ldL; rfl; rfl; rfl)
    | (apply r_neq; rfl; rfl; (first | (apply decide_eq_true; omega) | (apply decide_eq_false; omega) | rfl))
    | (apply r_lss; rfl; rfl; (first | (apply decide_eq_true; omega) | (apply decide_eq_false; omega) | rfl))
    | (apply r_gtr; rfl; rfl; (first | (apply decide_eq_true; omega) | (apply decide_eq_false; omega) | rfl))
    | (apply r_add; rfl; rfl; rfl; omega)
    | (apply r_not; rfl; rfl)
    | (apply r_beq; rfl; rfl; rfl)
    | (apply r_bne; rfl; rfl; rfl)
    | (apply r_pickT; rfl)
    | (apply r_pickF; rfl)
    | (apply r_lenD; rfl)
    | (apply r_lenL; rfl)
    | (apply r_len0; rfl)
    | (apply r_ext; rfl; rfl)
    | (apply r_gT; rfl)
    | (apply r_gF'; rfl; rfl)
    | (apply r_gN'; rfl)
    | ((apply r_gS (o := default); rfl) <;> (intro h; try simp only [decide_eq_true_eq, decide_eq_false_iff_not, Bool.not_eq_true, Bool.not_eq_false] at h))
    | (apply r_alloc; ((conv => lhs; simp only [Nat.reduceAdd]) <;> rfl); rfl)
    | (apply r_box; ((conv => lhs; simp only [Nat.reduceAdd]) <;> rfl); rfl; rfl; rfl)
    | (apply r_stL; rfl; rfl; rfl; rfl; (first | rfl | (simp only [z_nil, z_add] <;> rfl)); rfl; rfl)
    | (apply r_p; rfl)
    | (apply r_nilK)
    | (apply r_nil)
    | (apply k_V; rfl)
    | (apply k_P; rfl)
    | (apply k_PL; rfl)
    | (apply k_S; rfl)
    | (apply k_SL; rfl)
    | (apply k_A; rfl)
    | (apply k_T; rfl)
    | (apply k_F; rfl)
    | (apply k_D; rfl; rotate_left; rfl)
    | (apply k_nil)
    | (apply e_ret (vs := [.d (.val _)]); rfl)
    | (apply e_ret; rfl)
    | (apply e_ret' (vs := [.d (.val _)]); rfl)
    | (apply e_ret'; rfl)
    | (apply w_seq)
    | (apply w_ops; ((conv => lhs; simp only [Nat.reduceAdd]) <;> rfl))
    | (apply w_condT; rfl)
    | (apply w_condF; rfl)
    | ((apply w_condS; rfl) <;> (intro h; try simp only [decide_eq_true_eq, decide_eq_false_iff_not, Bool.not_eq_true, Bool.not_eq_false] at h))
    | (apply e_thenN)
    | (apply w_block)
    | (apply e_thenR)
    | (apply e_thenX)
    | (apply e_blkN)
    | (apply e_blkR)
    | (apply e_blkE)
    | (apply w_exit)
    | (apply w_ret)
    | (apply w_skip)
    | (apply e_blkE'; rfl))
  repeat' (first
    | (apply r_mvV; rfl)
    | (apply r_mvP; rfl)
    | (apply r_mvPL; rfl)
    | (apply r_mvS; rfl)
    | (apply r_mvSL; rfl)
    | (apply r_mvA; rfl)
    | (apply r_mvT; rfl)
    | (apply r_mvF; rfl)
    | (apply r_mvD; rfl)
    | (apply r_ldL (v := .agg [.i km, .d (.val (.int .u64 am)), .d (.val (.int .u64 bm)), .d (.val (.int .u64 cm)), .d (.val (.int .u64 dm)), .i mnm, .i mxm, .d (.sl (encL subsm) subsm.length)]); rfl; rfl; rfl)
    | (apply r_callA; rfl; rfl; exact hp2)
    | (apply r_ldL; rfl; rfl; rfl)
    | (apply r_neq; rfl; rfl; (first | (apply decide_eq_true; omega) | (apply decide_eq_false; omega) | rfl))
    | (apply r_lss; rfl; rfl; (first | (apply decide_eq_true; omega) | (apply decide_eq_false; omega) | rfl))
    | (apply r_gtr; rfl; rfl; (first | (apply decide_eq_true; omega) | (apply decide_eq_false; omega) | rfl))
    | (apply r_add; rfl; rfl; rfl; omega)
    | (apply r_not; rfl; rfl)
    | (apply r_beq; rfl; rfl; rfl)
    | (apply r_bne; rfl; rfl; rfl)
    | (apply r_pickT; rfl)
    | (apply r_pickF; rfl)
    | (apply r_lenD; rfl)
    | (apply r_lenL; rfl)
    | (apply r_len0; rfl)
    | (apply r_ext; rfl; rfl)
    | (apply r_gT; rfl)
    | (apply r_gF'; rfl; rfl)
    | (apply r_gN'; rfl)
    | ((apply r_gS (o := default); rfl) <;> (intro h; try simp only [decide_eq_true_eq, decide_eq_false_iff_not, Bool.not_eq_true, Bool.not_eq_false] at h))
    | (apply r_alloc; ((conv => lhs; simp only [Nat.reduceAdd]) <;> rfl); rfl)
    | (apply r_box; ((conv => lhs; simp only [Nat.reduceAdd]) <;> rfl); rfl; rfl; rfl)
    | (apply r_stL; rfl; rfl; rfl; rfl; (first | rfl | (simp only [z_nil, z_add] <;> rfl)); rfl; rfl)
    | (apply r_p; rfl)
    | (apply r_nilK)
    | (apply r_nil)
    | (apply k_V; rfl)
    | (apply k_P; rfl)
    | (apply k_PL; rfl)
    | (apply k_S; rfl)
    | (apply k_SL; rfl)
    | (apply k_A; rfl)
    | (apply k_T; rfl)
    | (apply k_F; rfl)
    | (apply k_D; rfl; rotate_left; rfl)
    | (apply k_nil)
    | (apply e_ret (vs := [.d (.val _)]); rfl)
    | (apply e_ret; rfl)
    | (apply e_ret' (vs := [.d (.val _)]); rfl)
    | (apply e_ret'; rfl)
    | (apply w_seq)
    | (apply w_ops; ((conv => lhs; simp only [Nat.reduceAdd]) <;> rfl))
    | (apply w_condT; rfl)
    | (apply w_condF; rfl)
    | ((apply w_condS; rfl) <;> (intro h; try simp only [decide_eq_true_eq, decide_eq_false_iff_not, Bool.not_eq_true, Bool.not_eq_false] at h))
    | (apply e_thenN)
    | (apply w_block)
    | (apply e_thenR)
    | (apply e_thenX)
    | (apply e_blkN)
    | (apply e_blkR)
    | (apply e_blkE)
    | (apply w_exit)
    | (apply w_ret)
    | (apply w_skip)
    | (apply e_blkE'; rfl))
  repeat' (first
    | (apply r_mvV; rfl)
    | (apply r_mvP; rfl)
    | (apply r_mvPL; rfl)
    | (apply r_mvS; rfl)
    | (apply r_mvSL; rfl)
    | (apply r_mvA; rfl)
    | (apply r_mvT; rfl)
    | (apply r_mvF; rfl)
    | (apply r_mvD; rfl)
    | (apply r_ldL (v := .agg [.i km, .d (.val (.int .u64 am)), .d (.val (.int .u64 bm)), .d (.val (.int .u64 cm)), .d (.val (.int .u64 dm)), .i mnm, .i mxm, .d (.sl (encL subsm) subsm.length)]); rfl; rfl; rfl)
    | (apply r_callA; rfl; rfl; exact h32m)
    | (apply r_callA; rfl; rfl; exact h47)
    | (apply r_callA; rfl; rfl; exact h48m)
    | (apply r_ldL (v := .agg [.i k, .d (.val (.int .u64 a)), .d (.val (.int .u64 b)), .d (.val (.int .u64 c)), .d (.val (.int .u64 d)), .i mn, .i mx, .d (.sl (encL subs) subs.length)]); rfl; rfl; rfl)
    | (apply r_callA; rfl; rfl; exact h48)
    | (apply r_p (v := .b false); exact congrArg (fun z => some (AV.b z)) hcg)
    | (apply r_ldL; rfl; rfl; rfl)
    | (apply r_neq; rfl; rfl; (first | (apply decide_eq_true; omega) | (apply decide_eq_false; omega) | rfl))
    | (apply r_lss; rfl; rfl; (first | (apply decide_eq_true; omega) | (apply decide_eq_false; omega) | rfl))
    | (apply r_gtr; rfl; rfl; (first | (apply decide_eq_true; omega) | (apply decide_eq_false; omega) | rfl))
    | (apply r_add; rfl; rfl; rfl; omega)
    | (apply r_not; rfl; rfl)
    | (apply r_beq; rfl; rfl; rfl)
    | (apply r_bne; rfl; rfl; rfl)
    | (apply r_pickT; rfl)
    | (apply r_pickF; rfl)
    | (apply r_lenD; rfl)
    | (apply r_lenL; rfl)
    | (apply r_len0; rfl)
    | (apply r_ext; rfl; rfl)
    | (apply r_gT; rfl)
    | (apply r_gF'; rfl; rfl)
    | (apply r_gN'; rfl)
    | ((apply r_gS (o := default); rfl) <;> (intro h; try simp only [decide_eq_true_eq, decide_eq_false_iff_not, Bool.not_eq_true, Bool.not_eq_false] at h))
    | (apply r_alloc; ((conv => lhs; simp only [Nat.reduceAdd]) <;> rfl); rfl)
    | (apply r_box; ((conv => lhs; simp only [Nat.reduceAdd]) <;> rfl); rfl; rfl; rfl)
    | (apply r_stL; rfl; rfl; rfl; rfl; (first | rfl | (simp only [z_nil, z_add] <;> rfl)); rfl; rfl)
    | (apply r_p; rfl)
    | (apply r_nilK)
    | (apply r_nil)
    | (apply k_V; rfl)
    | (apply k_P; rfl)
    | (apply k_PL; rfl)
    | (apply k_S; rfl)
    | (apply k_SL; rfl)
    | (apply k_A; rfl)
    | (apply k_T; rfl)
    | (apply k_F; rfl)
    | (apply k_D; rfl; rotate_left; rfl)
    | (apply k_nil)
    | (apply e_ret (vs := [.d (.val _)]); rfl)
    | (apply e_ret; rfl)
    | (apply e_ret' (vs := [.d (.val _)]); rfl)
    | (apply e_ret'; rfl)
    | (apply w_seq)
    | (apply w_ops; ((conv => lhs; simp only [Nat.reduceAdd]) <;> rfl))
    | (apply w_condT; rfl)
    | (apply w_condF; rfl)
    | ((apply w_condS; rfl) <;> (intro h; try simp only [decide_eq_true_eq, decide_eq_false_iff_not, Bool.not_eq_true, Bool.not_eq_false] at h))
    | (apply e_thenN)
    | (apply w_block)
    | (apply e_thenR)
    | (apply e_thenX)
    | (apply e_blkN)
    | (apply e_blkR)
    | (apply e_blkE)
    | (apply w_exit)
    | (apply w_ret)
    | (apply w_skip)
    | (apply e_blkE'; rfl))
  repeat' (first
    | (apply r_mvV; rfl)
    | (apply r_mvP; rfl)
    | (apply r_mvPL; rfl)
    | (apply r_mvS; rfl)
    | (apply r_mvSL; rfl)
    | (apply r_mvA; rfl)
    | (apply r_mvT; rfl)
    | (apply r_mvF; rfl)
    | (apply r_mvD; rfl)
    | (apply r_ldL (v := .agg [.i k, .d (.val (.int .u64 a)), .d (.val (.int .u64 b)), .d (.val (.int .u64 c)), .d (.val (.int .u64 d)), .i mn, .i mx, .d (.sl (encL subs) subs.length)]); rfl; rfl; rfl)
    | (apply r_ldL (v := .agg [.i km, .d (.val (.int .u64 am)), .d (.val (.int .u64 bm)), .d (.val (.int .u64 cm)), .d (.val (.int .u64 dm)), .i mnm, .i mxm, .d (.sl (encL subsm) subsm.length)]); rfl; rfl; rfl)
    | (apply r_callA (ags := [.agg [.i k, .d (.val (.int .u64 a)), .d (.val (.int .u64 b)), .d (.val (.int .u64 c)), .d (.val (.int .u64 d)), .i mn, .i mx, .d (.sl (encL subs) subs.length)], .i (10 : Nat)]); rfl; rfl; exact h49)
    | (apply r_callA (ags := [.agg [.i km, .d (.val (.int .u64 am)), .d (.val (.int .u64 bm)), .d (.val (.int .u64 cm)), .d (.val (.int .u64 dm)), .i mnm, .i mxm, .d (.sl (encL subsm) subsm.length)], .i (10 : Nat)]); rfl; rfl; exact h49m)
    | (apply r_ldL; rfl; rfl; rfl)
    | (apply r_neq; rfl; rfl; (first | (apply decide_eq_true; omega) | (apply decide_eq_false; omega) | rfl))
    | (apply r_lss; rfl; rfl; (first | (apply decide_eq_true; omega) | (apply decide_eq_false; omega) | rfl))
    | (apply r_gtr; rfl; rfl; (first | (apply decide_eq_true; omega) | (apply decide_eq_false; omega) | rfl))
    | (apply r_add; rfl; rfl; rfl; omega)
    | (apply r_not; rfl; rfl)
    | (apply r_beq; rfl; rfl; rfl)
    | (apply r_bne; rfl; rfl; rfl)
    | (apply r_pickT; rfl)
    | (apply r_pickF; rfl)
    | (apply r_lenD; rfl)
    | (apply r_lenL; rfl)
    | (apply r_len0; rfl)
    | (apply r_ext; rfl; rfl)
    | (apply r_gT; rfl)
    | (apply r_gF'; rfl; rfl)
    | (apply r_gN'; rfl)
    | ((apply r_gS (o := default); rfl) <;> (intro h; try simp only [decide_eq_true_eq, decide_eq_false_iff_not, Bool.not_eq_true, Bool.not_eq_false] at h))
    | (apply r_alloc; ((conv => lhs; simp only [Nat.reduceAdd]) <;> rfl); rfl)
    | (apply r_box; ((conv => lhs; simp only [Nat.reduceAdd]) <;> rfl); rfl; rfl; rfl)
    | (apply r_stL; rfl; rfl; rfl; rfl; (first | rfl | (simp only [z_nil, z_add] <;> rfl)); rfl; rfl)
    | (apply r_p; rfl)
    | (apply r_nilK)
    | (apply r_nil)
    | (apply k_V; rfl)
    | (apply k_P; rfl)
    | (apply k_PL; rfl)
    | (apply k_S; rfl)
    | (apply k_SL; rfl)
    | (apply k_A; rfl)
    | (apply k_T; rfl)
    | (apply k_F; rfl)
    | (apply k_D; rfl; rotate_left; rfl)
    | (apply k_nil)
    | (apply e_ret (vs := [.d (.val _)]); rfl)
    | (apply e_ret; rfl)
    | (apply e_ret' (vs := [.d (.val _)]); rfl)
    | (apply e_ret'; rfl)
    | (apply w_seq)
    | (apply w_ops; ((conv => lhs; simp only [Nat.reduceAdd]) <;> rfl))
    | (apply w_condT; rfl)
    | (apply w_condF; rfl)
    | ((apply w_condS; rfl) <;> (intro h; try simp only [decide_eq_true_eq, decide_eq_false_iff_not, Bool.not_eq_true, Bool.not_eq_false] at h))
    | (apply e_thenN)
    | (apply w_block)
    | (apply e_thenR)
    | (apply e_thenX)
    | (apply e_blkN)
    | (apply e_blkR)
    | (apply e_blkE)
    | (apply w_exit)
    | (apply w_ret)
    | (apply w_skip)
    | (apply e_blkE'; rfl))
  apply w_loopI (S := fun i : Nat => ⟨((((((Fr.nil.put 1 (.ptrL 1 0)).put 3 (.ptrL 20 0)).put 7 (.d (.sl (encB ls) (10 + 1)))).put 8 (.d (.sl (encB ls) (10 + 1)))).put 62 (.i ((10 + 1 : Nat) : Int))).put 63 (.i i)), rowsOf [(1, [.i k, .d (.val (.int .u64 a)), .d (.val (.int .u64 b)), .d (.val (.int .u64 c)), .d (.val (.int .u64 d)), .i mn, .i mx, .d (.sl (encL subs) subs.length)]), (20, [.i km, .d (.val (.int .u64 am)), .d (.val (.int .u64 bm)), .d (.val (.int .u64 cm)), .d (.val (.int .u64 dm)), .i mnm, .i mxm, .d (.sl (encL subsm) subsm.length)])], Frz.lo 100, 100⟩) (m := fun i => 11 - i) (I := fun i => i ≤ 11) (i0 := 0)
  · exact Nat.zero_le _
  · refine wkRs (by omega) ?_ ?_
    · intro p hp
      simp only [List.mem_cons, List.not_mem_nil, or_false] at hp
      rcases hp with rfl | rfl <;> exact ⟨by omega, rfl, rfl⟩
    · repeat' (first
    | exact FWk.nil
    | (apply FWk.i; rfl; (first | rfl | omega | (simp; done)))
    | (apply FWk.sl; rfl; rfl; rfl; rfl; omega; rfl)
    | (apply FWk.ptr; rfl; rfl; rfl; omega; rfl)
    | (apply FWk.d; rfl; rfl)
    | (apply FWk.a; rfl; rfl; rfl)
    | (apply FWk.slN; rfl; omega; rfl))
  intro i K hi hK
  dsimp only
  rcases Nat.lt_or_ge i 11 with hlt | hge
  · have hb : ls[i]? = some (ls.getD i false) := by
      rw [List.getD_eq_getElem?_getD, List.getElem?_eq_getElem (by omega)]; rfl
    generalize ls.getD i false = v at hb
    have hvv : (!(v == v)) = false := by cases v <;> rfl
    repeat' (first
    | (apply r_mvV; rfl)
    | (apply r_mvP; rfl)
    | (apply r_mvPL; rfl)
    | (apply r_mvS; rfl)
    | (apply r_mvSL; rfl)
    | (apply r_mvA; rfl)
    | (apply r_mvT; rfl)
    | (apply r_mvF; rfl)
    | (apply r_mvD; rfl)
    | (apply r_ixB' (m := 11) (j := i); rfl; rfl; omega; exact hln)
    | (apply r_ldB; rfl; exact hb)
    | (apply r_p (v := .b false); exact congrArg (fun z => some (AV.b z)) hvv)
    | (apply r_ldL; rfl; rfl; rfl)
    | (apply r_neq; rfl; rfl; (first | (apply decide_eq_true; omega) | (apply decide_eq_false; omega) | rfl))
    | (apply r_lss; rfl; rfl; (first | (apply decide_eq_true; omega) | (apply decide_eq_false; omega) | rfl))
    | (apply r_gtr; rfl; rfl; (first | (apply decide_eq_true; omega) | (apply decide_eq_false; omega) | rfl))
    | (apply r_add; rfl; rfl; rfl; omega)
    | (apply r_not; rfl; rfl)
    | (apply r_beq; rfl; rfl; rfl)
    | (apply r_bne; rfl; rfl; rfl)
    | (apply r_pickT; rfl)
    | (apply r_pickF; rfl)
    | (apply r_lenD; rfl)
    | (apply r_lenL; rfl)
    | (apply r_len0; rfl)
    | (apply r_ext; rfl; rfl)
    | (apply r_gT; rfl)
    | (apply r_gF'; rfl; rfl)
    | (apply r_gN'; rfl)
    | ((apply r_gS (o := default); rfl) <;> (intro h; try simp only [decide_eq_true_eq, decide_eq_false_iff_not, Bool.not_eq_true, Bool.not_eq_false] at h))
    | (apply r_alloc; ((conv => lhs; simp only [Nat.reduceAdd]) <;> rfl); rfl)
    | (apply r_box; ((conv => lhs; simp only [Nat.reduceAdd]) <;> rfl); rfl; rfl; rfl)
    | (apply r_stL; rfl; rfl; rfl; rfl; (first | rfl | (simp only [z_nil, z_add] <;> rfl)); rfl; rfl)
    | (apply r_p; rfl)
    | (apply r_nilK)
    | (apply r_nil)
    | (apply k_V; rfl)
    | (apply k_P; rfl)
    | (apply k_PL; rfl)
    | (apply k_S; rfl)
    | (apply k_SL; rfl)
    | (apply k_A; rfl)
    | (apply k_T; rfl)
    | (apply k_F; rfl)
    | (apply k_D; rfl; rotate_left; rfl)
    | (apply k_nil)
    | (apply e_ret (vs := [.d (.val _)]); rfl)
    | (apply e_ret; rfl)
    | (apply e_ret' (vs := [.d (.val _)]); rfl)
    | (apply e_ret'; rfl)
    | (apply w_seq)
    | (apply w_ops; ((conv => lhs; simp only [Nat.reduceAdd]) <;> rfl))
    | (apply w_condT; rfl)
    | (apply w_condF; rfl)
    | ((apply w_condS; rfl) <;> (intro h; try simp only [decide_eq_true_eq, decide_eq_false_iff_not, Bool.not_eq_true, Bool.not_eq_false] at h))
    | (apply e_thenN)
    | (apply w_block)
    | (apply e_thenR)
    | (apply e_thenX)
    | (apply e_blkN)
    | (apply e_blkR)
    | (apply e_blkE)
    | (apply w_exit)
    | (apply w_ret)
    | (apply w_skip)
    | (apply e_blkE'; rfl))
    apply e_thenK
    apply hK (i + 1)
    · omega
    · omega
    · refine wkRs (by omega) ?_ ?_
      · intro p hp
        simp only [List.mem_cons, List.not_mem_nil, or_false] at hp
        rcases hp with rfl | rfl <;> exact ⟨by omega, rfl, rfl⟩
      · repeat' (first
    | exact FWk.nil
    | (apply FWk.i; rfl; (first | rfl | omega | (simp; done)))
    | (apply FWk.sl; rfl; rfl; rfl; rfl; omega; rfl)
    | (apply FWk.ptr; rfl; rfl; rfl; omega; rfl)
    | (apply FWk.d; rfl; rfl)
    | (apply FWk.a; rfl; rfl; rfl)
    | (apply FWk.slN; rfl; omega; rfl))
  · have hnv : (nn == nn) = true := by cases nn <;> rfl
    repeat' (first
    | (apply r_mvV; rfl)
    | (apply r_mvP; rfl)
    | (apply r_mvPL; rfl)
    | (apply r_mvS; rfl)
    | (apply r_mvSL; rfl)
    | (apply r_mvA; rfl)
    | (apply r_mvT; rfl)
    | (apply r_mvF; rfl)
    | (apply r_mvD; rfl)
    | (apply r_ldL (v := .agg [.i k, .d (.val (.int .u64 a)), .d (.val (.int .u64 b)), .d (.val (.int .u64 c)), .d (.val (.int .u64 d)), .i mn, .i mx, .d (.sl (encL subs) subs.length)]); rfl; rfl; rfl)
    | (apply r_ldL (v := .agg [.i km, .d (.val (.int .u64 am)), .d (.val (.int .u64 bm)), .d (.val (.int .u64 cm)), .d (.val (.int .u64 dm)), .i mnm, .i mxm, .d (.sl (encL subsm) subsm.length)]); rfl; rfl; rfl)
    | (apply r_callA (ags := [.agg [.i k, .d (.val (.int .u64 a)), .d (.val (.int .u64 b)), .d (.val (.int .u64 c)), .d (.val (.int .u64 d)), .i mn, .i mx, .d (.sl (encL subs) subs.length)]]); rfl; rfl; exact h50)
    | (apply r_callA (ags := [.agg [.i km, .d (.val (.int .u64 am)), .d (.val (.int .u64 bm)), .d (.val (.int .u64 cm)), .d (.val (.int .u64 dm)), .i mnm, .i mxm, .d (.sl (encL subsm) subsm.length)]]); rfl; rfl; exact h50m)
    | (apply r_eqX (r := true); rfl; rfl; simp)
    | (apply r_callA (ags := [.agg [.i k, .d (.val (.int .u64 a)), .d (.val (.int .u64 b)), .d (.val (.int .u64 c)), .d (.val (.int .u64 d)), .i mn, .i mx, .d (.sl (encL subs) subs.length)]]); rfl; rfl; exact h51)
    | (apply r_callA (ags := [.agg [.i km, .d (.val (.int .u64 am)), .d (.val (.int .u64 bm)), .d (.val (.int .u64 cm)), .d (.val (.int .u64 dm)), .i mnm, .i mxm, .d (.sl (encL subsm) subsm.length)]]); rfl; rfl; exact h51m)
    | (apply r_p (v := .b true); exact congrArg (fun z => some (AV.b z)) hnv)
    | (apply r_ldL; rfl; rfl; rfl)
    | (apply r_neq; rfl; rfl; (first | (apply decide_eq_true; omega) | (apply decide_eq_false; omega) | rfl))
    | (apply r_lss; rfl; rfl; (first | (apply decide_eq_true; omega) | (apply decide_eq_false; omega) | rfl))
    | (apply r_gtr; rfl; rfl; (first | (apply decide_eq_true; omega) | (apply decide_eq_false; omega) | rfl))
    | (apply r_add; rfl; rfl; rfl; omega)
    | (apply r_not; rfl; rfl)
    | (apply r_beq; rfl; rfl; rfl)
    | (apply r_bne; rfl; rfl; rfl)
    | (apply r_pickT; rfl)
    | (apply r_pickF; rfl)
    | (apply r_lenD; rfl)
    | (apply r_lenL; rfl)
    | (apply r_len0; rfl)
    | (apply r_ext; rfl; rfl)
    | (apply r_gT; rfl)
    | (apply r_gF'; rfl; rfl)
    | (apply r_gN'; rfl)
    | ((apply r_gS (o := default); rfl) <;> (intro h; try simp only [decide_eq_true_eq, decide_eq_false_iff_not, Bool.not_eq_true, Bool.not_eq_false] at h))
    | (apply r_alloc; ((conv => lhs; simp only [Nat.reduceAdd]) <;> rfl); rfl)
    | (apply r_box; ((conv => lhs; simp only [Nat.reduceAdd]) <;> rfl); rfl; rfl; rfl)
    | (apply r_stL; rfl; rfl; rfl; rfl; (first | rfl | (simp only [z_nil, z_add] <;> rfl)); rfl; rfl)
    | (apply r_p; rfl)
    | (apply r_nilK)
    | (apply r_nil)
    | (apply k_V; rfl)
    | (apply k_P; rfl)
    | (apply k_PL; rfl)
    | (apply k_S; rfl)
    | (apply k_SL; rfl)
    | (apply k_A; rfl)
    | (apply k_T; rfl)
    | (apply k_F; rfl)
    | (apply k_D; rfl; rotate_left; rfl)
    | (apply k_nil)
    | (apply e_ret (vs := [.d (.val _)]); rfl)
    | (apply e_ret; rfl)
    | (apply e_ret' (vs := [.d (.val _)]); rfl)
    | (apply e_ret'; rfl)
    | (apply w_seq)
    | (apply w_ops; ((conv => lhs; simp only [Nat.reduceAdd]) <;> rfl))
    | (apply w_condT; rfl)
    | (apply w_condF; rfl)
    | ((apply w_condS; rfl) <;> (intro h; try simp only [decide_eq_true_eq, decide_eq_false_iff_not, Bool.not_eq_true, Bool.not_eq_false] at h))
    | (apply e_thenN)
    | (apply w_block)
    | (apply e_thenR)
    | (apply e_thenX)
    | (apply e_blkN)
    | (apply e_blkR)
    | (apply e_blkE)
    | (apply w_exit)
    | (apply w_ret)
    | (apply w_skip)
    | (apply e_blkE'; rfl))
    exact retB rfl
end Go.Sv
namespace Go.Sv
open Go Go.Proofs Go.Proofs.Ytcnlgmajkclgjaa Go.ChangeShapes Go.WideShapes Go.ChangeAt Go.RowKit
set_option linter.unusedVariables false
set_option maxRecDepth 100000

theorem try_own : ownKnob Try.prog.godebug = none := by kernel_rfl
theorem try_laidOut : laidOutB Try.prog = true := by kernel_rfl
theorem rowed : ∀ t ∈ [27, 9, 3, 5, 41], Try.prog.readableRec t = true ∧ t < Try.prog.types.size := by
  intro t ht
  simp only [List.mem_cons, List.not_mem_nil, or_false] at ht
  rcases ht with rfl | rfl | rfl | rfl | rfl
  all_goals exact ⟨by kernel_rfl, of_decide_eq_true (by kernel_rfl)⟩

section
variable {H : Type} {enc : TypeId × Value → H}
theorem stays_all {W W' : World} {sp : Nat → Bool} (hsame : ∀ p : MemPlace, p.block < W.heap.size → W.sameAt W' p) : ∀ {ts : List TypeId} {vs : List Value} {ds : List (DataW H)} {ps : List MemPlace}, (∀ t ∈ ts, Try.prog.readableRec t = true ∧ t < Try.prog.types.size) →
    DataW.TrodAll enc Try.prog W 0 (fun _ => true) true ts vs ds ps → (∀ p ∈ ps, p.block < W.heap.size) → (∀ p ∈ ps, sp p.block = true) → DataW.TrodAll enc Try.prog W' 0 sp true ts vs ds ps
  | [], [], [], ps, _, h, _, _ => h
  | t :: ts, v :: vs, d :: ds, ps, hr, h, hl, hs => by
    obtain ⟨p, q, h1, h2, rfl⟩ := h
    refine ⟨p, q, WideElems.Trod_stays try_laidOut (hr t (by simp)).1 (hr t (by simp)).2 h1 (fun x hx => hsame x (hl x (by simp [hx]))) (fun x hx => hs x (by simp [hx])), ?_, rfl⟩
    exact stays_all hsame (fun t ht => hr t (by simp [ht])) h2 (fun x hx => hl x (by simp [hx])) (fun x hx => hs x (by simp [hx]))

theorem law_post {s : ChangeSpec} {f : Func} {W W' : World} {args : Array Value} {ds gs : List (DataW H)} {before : List MemPlace} (hW : DataW.Whole enc Try.prog f.params.toList s.vars false W args.toList ds gs before) (hsv : s.vars = [])
    (h1 : (s.fn H (ds ++ gs)).results = [.lit (.bool true)]) (h2 : (s.fn H (ds ++ gs)).args = ds) (h3 : (s.fn H (ds ++ gs)).vars = []) (hrt : f.resultTypes = #[4]) (hb : Below W.heap.size W W')
    (hr : ∀ t ∈ f.params.toList, Try.prog.readableRec t = true ∧ t < Try.prog.types.size) : s.post enc Try.prog f false true false false W args (.bool true) W' := by
  have hlt := hW.lt
  have hW0 := hW
  obtain ⟨p, q, hA, hV, rfl, _, _⟩ := hW
  rw [hsv] at hV
  obtain ⟨rfl, rfl⟩ := trodVars_none hV
  have hlt' : ∀ x ∈ p, x.block < W.heap.size := fun x hx => by simpa using hlt x (by simp [hx])
  refine ⟨ds, [], p ++ [], [], p, [], hW0, ?_, ?_, ?_, hb.frame _, fun h => by cases h⟩
  · rw [hrt, h1]
    exact trodAll_mk1 (shut_bool Try.underlying4 true)
  · rw [h2]
    exact stays_all (fun x hx => hb.same hx) hr hA hlt' (fun x hx => by simpa using hlt' x hx)
  · rw [hsv, h3]; rfl

theorem Kept.below {w w' : World} (h : Kept w w' (fun k => (none : Option (List DV)).isSome = true ∧ (none : Option Nat) = some k)) : Below w.heap.size w w' :=
  ⟨h.os, h.tape, h.output, h.size, fun k hk => h.keep k hk (by simp)⟩

theorem law_calls {f : FuncId} {ags : List AV} (hg : Good Try.prog f ags none (.b true) none none) {W : World} {args : Array Value} (ha : RAs W NoA (fun _ => none) NoA args ags) : Calls Try.prog f args W fun e W' => e = .returned (.bool true) ∧ Below W.heap.size W W' := by
  have hNo : (fun k => NoA k ∨ ((none : Option (List DV)).isSome = true ∧ (none : Option Nat) = some k)) = NoA := by
    funext k; simp [NoA]
  have hU : (fun b : Nat => (none : Option (List DV)).isSome = true ∧ b = 0) = NoA := by
    funext k; simp [NoA]
  have := hg.2.2 W NoA none args (fun k h => h.elim) (fun k h => by simp at h) (fun ds h => by cases h) (by rw [hNo, hU]; exact ha)
  refine this.mono fun e W' ⟨v, nm, he, hk, _, _, _, hv⟩ => ?_
  have := hv.val_eq
  subst this
  exact ⟨he, hk.below⟩
theorem RAs.nil {W : World} : RAs W NoA (fun _ => none) NoA #[] [] := ⟨rfl, fun j h => by simp at h⟩
theorem RAs.mk : ∀ {W : World} {vs : List Value} {ags : List AV}, vs.length = ags.length → (∀ (j : Nat) v a, vs[j]? = some v → ags[j]? = some a → RA W NoA (fun _ => none) NoA v a) → RAs W NoA (fun _ => none) NoA vs.toArray ags := by
  intro W vs ags hl h
  refine ⟨by simpa using hl, fun j hj => ?_⟩
  have hj2 : j < vs.length := by omega
  have : vs.toArray.getD j undef = vs[j] := by simp [Array.getD, hj2]
  rw [this]
  exact h j _ _ (List.getElem?_eq_getElem hj2) (List.getElem?_eq_getElem hj)
theorem RDs.toA {W : World} {vs : List Value} {ds : List DV} (h : RDs W vs ds) : RA W NoA (fun _ => none) NoA (.agg vs.toArray) (.agg (ds.map AV.d)) := by
  refine .agg _ _ (by simpa using h.1) fun j hj => ?_
  have hj1 : j < ds.length := by simpa using hj
  have hj2 : j < vs.length := by rw [h.1]; exact hj1
  have : vs.toArray.getD j undef = vs[j] := by simp [Array.getD, hj2]
  rw [this, List.getElem_map]
  exact .d _ _ (h.2 j _ _ (List.getElem?_eq_getElem hj2) (List.getElem?_eq_getElem hj1))
theorem arg_node {W : World} {base : Nat} {v : Value} {d : DataW H} {p : List MemPlace} (hok : Value.okWide Try.prog W .any base 27 v) (h : DataW.Trod enc Try.prog W 0 (fun _ => true) true 27 v d p) : ∃ t : T, inT t ∧ RA W NoA (fun _ => none) NoA v (nodeA t) := by
  obtain ⟨n, hn⟩ := h
  obtain ⟨t, h1, h2⟩ := node_open n _ _ hn
  have hs : ∃ cs, v = .agg cs := by
    unfold Value.okWide at hok
    rw [Try.underlying27] at hok
    obtain ⟨cs, h, _⟩ := hok
    exact ⟨cs, h⟩
  obtain ⟨cs, rfl⟩ := hs
  exact ⟨t, h1, h2.toA⟩
end
theorem joined_of {P : Program} {f : FuncId} {fn : Func} {s : ChangeSpec} {c : OpenClaim}
    (k1 : (c.wf (OpenSpec.ofChange s) && laidOutB P && mapsRowed P && fn.params.all (P.readableRec ·) && namedTie P c.named s.vars && (c.stops == []) && (P.stops == []) && (c.knobs == []) && (P.stopKnobs == [])) = true)
    (k2 : (c.inPlace == P.inPlace f) = true) (k3 : (c.unfollowed == P.unfollowed f) = true) (k4 : (c.recurses == P.recurses f) = true) (k5 : (c.named == P.varsNamed f) = true)
    (k6 : ((c.maps == (fn.params.toList ++ s.plain.varTypes P).any (P.mapsRec ·)) && (c.ifaces == (fn.params.toList ++ s.plain.varTypes P).any (P.ifacesRec ·)) && (c.mapsOut == P.mapsAmong fn.resultTypes.toList) &&
  (c.loops == (fn.params.toList ++ s.plain.varTypes P).any (P.loopsFrom ·)) && (c.wideKeys == (fn.params.toList ++ s.plain.varTypes P ++ fn.resultTypes.toList).any (P.wideKeysFrom ·)) &&
  s.vars.all (P.varReadable ·) && fn.resultTypes.all (fun t => P.readableRec t && decide (t < P.types.size)) && (c.ifacesOut == fn.resultTypes.toList.any (P.ifacesRec ·)) && (c.loopsOut == fn.resultTypes.toList.any (P.loopsFrom ·))) = true)
    (hm : P.mayEnter = true) (hl : P.liftsFinal = c.lifted) (hk : P.make = some c.make) (k7 : ((c.plainKeys == P.plainKeys) && c.shortTexts.isNone && P.stopsHeard && (c.kinds == (if c.domain.isEmpty then [] else fn.params.toList.map fun t => match P.underlying t with | some (.int k) => some k | _ => none)) && (c.pinned == c.pinnedBy) &&
  (c.veiled == (fn.params.toList ++ s.plain.varTypes P ++ fn.resultTypes.toList).any (P.veiledRec ·)) && c.veiledFits P fn.params.toList (fn.params.toList ++ s.plain.varTypes P ++ fn.resultTypes.toList)) = true) : joinedFacts P f fn s c = true := by
  unfold joinedFacts
  simp only [Bool.and_eq_true] at k1 k6 k7 ⊢
  obtain ⟨⟨⟨⟨⟨⟨⟨⟨a1, a2⟩, a3⟩, a4⟩, a5⟩, a6⟩, a7⟩, a8⟩, a9⟩ := k1
  obtain ⟨⟨⟨⟨⟨⟨⟨⟨b1, b2⟩, b3⟩, b4⟩, b5⟩, b6⟩, b7⟩, b8⟩, b9⟩ := k6
  obtain ⟨⟨⟨⟨⟨⟨c1, c2⟩, c3⟩, c4⟩, c5⟩, c6⟩, c7⟩ := k7
  have d1 : (c.lifted == P.liftsFinal) = true := by rw [hl]; exact beq_self_eq_true _
  have d2 : (P.make == some c.make) = true := by rw [hk]; exact beq_self_eq_true _
  repeat' apply And.intro
  all_goals assumption
end Go.Sv
namespace Go.Sv
open Go Go.Proofs Go.Proofs.Ytcnlgmajkclgjaa
set_option maxRecDepth 100000
def orderN : List Nat := [104, 97, 114, 110, 101, 115, 115, 32, 52, 100, 99, 102, 50, 98, 101, 99, 57, 54, 53, 101, 49, 53, 55, 56, 102, 100, 97, 52, 56, 101, 99, 52, 97, 101, 57, 98, 98, 50, 100, 98, 101, 100, 51, 97, 52, 98, 99, 100, 100, 51, 97, 57, 56, 98, 50, 102, 51, 57, 102, 50, 50, 101, 97, 100, 48, 54, 49, 51, 100, 51, 56, 56, 32, 99, 117, 116, 32, 97, 116, 32, 115, 105, 101, 118, 101, 47, 115, 105, 101, 118, 101, 108, 97, 119, 49, 49, 46, 69, 110, 100, 115, 84, 101, 108, 108, 32, 115, 105, 101, 118, 101, 47, 115, 105, 101, 118, 101, 108, 97, 119, 49, 49, 46, 69, 110, 100, 115, 77, 97, 116, 99, 104, 32, 115, 105, 101, 118, 101, 47, 115, 105, 101, 118, 101, 108, 97, 119, 49, 49, 46, 69, 110, 100, 115, 83, 105, 109, 112, 108, 101, 32, 115, 105, 101, 118, 101, 47, 115, 105, 101, 118, 101, 108, 97, 119, 49, 49, 46, 69, 110, 100, 115, 66, 101, 115, 116, 32, 115, 105, 101, 118, 101, 47, 115, 105, 101, 118, 101, 108, 97, 119, 49, 49, 46, 69, 110, 100, 115, 76, 111, 110, 103, 101, 114, 32, 115, 105, 101, 118, 101, 47, 115, 105, 101, 118, 101, 108, 97, 119, 49, 49, 46, 69, 110, 100, 115, 80, 97, 114, 116, 115, 32, 115, 105, 101, 118, 101, 47, 115, 105, 101, 118, 101, 108, 97, 119, 49, 49, 46, 69, 110, 100, 115, 83, 116, 97, 114, 32, 115, 105, 101, 118, 101, 47, 115, 105, 101, 118, 101, 108, 97, 119, 49, 48, 46, 83, 105, 109, 112, 108, 105, 102, 121, 84, 101, 108, 108, 115, 32, 115, 105, 101, 118, 101, 47, 115, 105, 101, 118, 101, 108, 97, 119, 49, 48, 46, 83, 105, 109, 112, 108, 105, 102, 121, 65, 103, 97, 105, 110, 32, 115, 105, 101, 118, 101, 47, 115, 105, 101, 118, 101, 108, 97, 119, 49, 48, 46, 83, 105, 109, 112, 108, 105, 102, 121, 75, 101, 101, 112, 115, 32, 115, 105, 101, 118, 101, 47, 115, 105, 101, 118, 101, 108, 97, 119, 49, 48, 46, 83, 105, 109, 112, 108, 105, 102, 121, 79, 110, 101, 32, 115, 105, 101, 118, 101, 47, 115, 105, 101, 118, 101, 108, 97, 119, 49, 51, 46, 69, 120, 112, 97, 110, 100, 84, 101, 108, 108, 115, 32, 115, 105, 101, 118, 101, 47, 115, 105, 101, 118, 101, 108, 97, 119, 49, 51, 46, 69, 120, 112, 97, 110, 100, 83, 97, 109, 101, 32, 115, 105, 101, 118, 101, 47, 115, 105, 101, 118, 101, 108, 97, 119, 49, 51, 46, 69, 120, 112, 97, 110, 100, 80, 108, 97, 105, 110, 32, 115, 105, 101, 118, 101, 47, 115, 105, 101, 118, 101, 108, 97, 119, 49, 51, 46, 69, 120, 112, 97, 110, 100, 66, 117, 100, 103, 101, 116, 32, 115, 105, 101, 118, 101, 47, 115, 105, 101, 118, 101, 108, 97, 119, 49, 51, 46, 69, 120, 112, 97, 110, 100, 70, 105, 114, 115, 116, 32, 115, 105, 101, 118, 101, 47, 115, 105, 101, 118, 101, 108, 97, 119, 48, 57, 46, 77, 101, 97, 115, 117, 114, 101, 84, 101, 108, 108, 115, 32, 115, 105, 101, 118, 101, 47, 115, 105, 101, 118, 101, 108, 97, 119, 48, 57, 46, 77, 101, 97, 115, 117, 114, 101, 75, 110, 111, 119, 115, 32, 115, 105, 101, 118, 101, 47, 115, 105, 101, 118, 101, 108, 97, 119, 48, 57, 46, 77, 101, 97, 115, 117, 114, 101, 76, 101, 110, 103, 116, 104, 115, 32, 115, 105, 101, 118, 101, 47, 115, 105, 101, 118, 101, 108, 97, 119, 48, 57, 46, 77, 101, 97, 115, 117, 114, 101, 80, 97, 114, 116, 115, 32, 115, 105, 101, 118, 101, 47, 115, 105, 101, 118, 101, 108, 97, 119, 48, 57, 46, 77, 101, 97, 115, 117, 114, 101, 82, 101, 112, 32, 115, 105, 101, 118, 101, 47, 115, 105, 101, 118, 101, 108, 97, 119, 49, 50, 46, 68, 101, 114, 105, 118, 101, 84, 101, 108, 108, 115, 32, 115, 105, 101, 118, 101, 47, 115, 105, 101, 118, 101, 108, 97, 119, 49, 50, 46, 68, 101, 114, 105, 118, 101, 76, 111, 110, 103, 101, 115, 116, 32, 115, 105, 101, 118, 101, 47, 115, 105, 101, 118, 101, 108, 97, 119, 49, 50, 46, 68, 101, 114, 105, 118, 101, 87, 111, 114, 100, 115, 32, 115, 105, 101, 118, 101, 47, 115, 105, 101, 118, 101, 108, 97, 119, 49, 50, 46, 68, 101, 114, 105, 118, 101, 70, 105, 114, 115, 116, 32, 115, 105, 101, 118, 101, 47, 115, 105, 101, 118, 101, 108, 97, 119, 49, 50, 46, 68, 101, 114, 105, 118, 101, 83, 105, 109, 112, 108, 101]
theorem order_eq : Try.prog.initOrder = String.ofList (orderN.map Char.ofNat) := by kernel_rfl
theorem order_list : Try.prog.initOrder.toList = orderN.map Char.ofNat := by rw [order_eq, String.toList_ofList]
theorem ow1 : (stripLifts liftWords (behindMainWord (wordsSigns (orderN.map Char.ofNat)))).1 = [] := by kernel_rfl
theorem ow2 : ((stripLifts liftWords (behindMainWord (wordsSigns (orderN.map Char.ofNat)))).2.head? == some "cut".toList) = true := by kernel_rfl
theorem ow3 : ((behindMainWord (wordsSigns (orderN.map Char.ofNat))).isEmpty = false) := by kernel_rfl
theorem ow4 : ((behindMainWord (wordsSigns (orderN.map Char.ofNat))).head? == some "cut".toList) = true := by kernel_rfl
theorem ow5 : ((behindMainWord (wordsSigns (orderN.map Char.ofNat))).head? == some "carried".toList) = false := by kernel_rfl
theorem ow6 : ((behindMainWord (wordsSigns (orderN.map Char.ofNat))).head? == some "gc".toList) = false := by kernel_rfl
theorem ow7 : ((behindMainWord (wordsSigns (orderN.map Char.ofNat))).head? == some "spec".toList) = false := by kernel_rfl
theorem try_lays : Try.prog.laysLater = false := by kernel_rfl
theorem try_refl : Try.prog.bearsReflect = false := by kernel_rfl
theorem try_door : Try.prog.doorFits [] = true := by kernel_rfl
theorem headLifts_of {P : Program} {l : List Char} (h : P.initOrder.toList = l) (h1 : (stripLifts liftWords (behindMainWord (wordsSigns l))).1 = []) (h2 : ((stripLifts liftWords (behindMainWord (wordsSigns l))).2.head? == some "cut".toList) = true) : P.headLifts = [] := by
  subst h
  unfold Program.headLifts
  simp only [h2, if_true, h1]
theorem try_headLifts : Try.prog.headLifts = [] := headLifts_of order_list ow1 ow2
theorem mayEnter_of {P : Program} {l : List Char} (h : P.initOrder.toList = l) (h1 : (stripLifts liftWords (behindMainWord (wordsSigns l))).1 = []) (h2 : ((stripLifts liftWords (behindMainWord (wordsSigns l))).2.head? == some "cut".toList) = true)
    (h3 : (behindMainWord (wordsSigns l)).isEmpty = false) (k1 : P.laysLater = false) (k2 : P.bearsReflect = false) (k3 : P.doorFits [] = true) : P.mayEnter = true := by
  subst h
  unfold Program.mayEnter
  generalize behindMainWord (wordsSigns P.initOrder.toList) = q at h1 h2 h3 ⊢
  cases q with
  | nil => cases h3
  | cons c rest =>
    have e1 : ([] : List String).contains "finals" = false := rfl
    have e2 : ([] : List String).contains "reflectrows" = false := rfl
    have e3 : ([] : List String).contains "leanrows" = false := rfl
    simp only [h1, h2, k1, k2, k3, e1, e2, e3, Bool.not_false, Bool.or_true, Bool.and_true, Bool.or_self, Bool.and_self]
theorem try_mayEnter : Try.prog.mayEnter = true := mayEnter_of order_list ow1 ow2 ow3 try_lays try_refl try_door
theorem lifts_of {P : Program} {l : List Char} (h : P.initOrder.toList = l) (h5 : ((behindMainWord (wordsSigns l)).head? == some "carried".toList) = false) (k : P.headLifts = []) : P.liftsFinal = false := by
  subst h
  unfold Program.liftsFinal
  rw [k]
  have e1 : ([] : List String).contains "finals" = false := rfl
  simp only [h5, e1, Bool.false_and, Bool.or_self]
theorem try_lifts : Try.prog.liftsFinal = false := lifts_of order_list ow5 try_headLifts
theorem make_of {P : Program} {l : List Char} (h : P.initOrder.toList = l) (h3 : (behindMainWord (wordsSigns l)).isEmpty = false) (h4 : ((behindMainWord (wordsSigns l)).head? == some "cut".toList) = true)
    (h6 : ((behindMainWord (wordsSigns l)).head? == some "gc".toList) = false) (h7 : ((behindMainWord (wordsSigns l)).head? == some "spec".toList) = false) : P.make = some .cut := by
  subst h
  unfold Program.make
  generalize behindMainWord (wordsSigns P.initOrder.toList) = q at h3 h4 h6 h7 ⊢
  cases q with
  | nil => cases h3
  | cons c rest =>
    simp only [List.head?_cons] at h4 h6 h7
    have g : ∀ x : List Char, (some c == some x) = (c == x) := fun x => rfl
    rw [g] at h4 h6 h7
    simp only [h4, h6, h7, Bool.or_self, Bool.false_eq_true, if_false, Bool.true_or, if_true]
theorem try_make : Try.prog.make = some .cut := make_of order_list ow3 ow4 ow6 ow7
end Go.Sv
