/- A part of the proof of the law SimplifyAgain: that it answers true for every input, and that the input reads behind the call as before (no condition). -/
import Derived.Test.YtcnlgmajkclgjaaSimplifyAgainG7
set_option linter.all false
set_option linter.unusedSectionVars false
set_option linter.unusedVariables false
set_option linter.unusedSimpArgs false
namespace Go.Sv
open Go Go.Proofs
def x51 : XC := (.seq (.ops 2 [
    (0, ⟨(some 1), none, .box (.t 0)⟩),
    (1, ⟨(some 2), none, .mv (.k (.d (.val (.bool false))))⟩)] (some [1])) (.seq (.seq (.ops 2 [
    (0, ⟨(some 5), none, .fadd 0 (.t 1)⟩),
    (1, ⟨(some 6), none, .load none (.t 5)⟩)] (some [1, 6])) (.block 0 (.seq (.ops 2 [
    (0, ⟨(some 8), none, .arith .eql (.t 6) (.k (.d (.val (.int .i64 2))))⟩),
    (1, ⟨(some 7), none, .mv (.t 8)⟩)] (some [1, 6, 7])) (.cond (.t 7) (.seq (.ops 5 [
    (0, ⟨(some 9), none, .fadd 1 (.t 1)⟩),
    (1, ⟨(some 10), none, .load (some 4) (.t 9)⟩),
    (2, ⟨(some 11), none, .build [(.int .u64 0), (.int .u64 0), (.int .u64 0), (.int .u64 0)] []⟩),
    (3, ⟨(some 12), none, .eqAgg 4 false (.t 10) (.t 11)⟩),
    (4, ⟨(some 2), none, .mv (.t 12)⟩)] (some [2])) .ret) (.seq (.ops 2 [
    (0, ⟨(some 14), none, .arith .eql (.t 6) (.k (.d (.val (.int .i64 3))))⟩),
    (1, ⟨(some 13), none, .mv (.t 14)⟩)] (some [1, 6, 13])) (.cond (.t 13) (.seq (.ops 1 [
    (0, ⟨(some 3), none, .mv (.k (.d (.val (.int .i64 0))))⟩)] (some [1, 3])) (.block 1 (.loop (.seq (.seq (.ops 5 [
    (0, ⟨(some 15), none, .mv (.t 3)⟩),
    (1, ⟨(some 16), none, .fadd 7 (.t 1)⟩),
    (2, ⟨(some 17), none, .load none (.t 16)⟩),
    (3, ⟨(some 18), none, .lenS (.t 17)⟩),
    (4, ⟨(some 19), none, .arith .lss (.t 15) (.t 18)⟩)] (some [1, 3, 19])) (.cond (.t 19) .skip (.exit 1))) (.seq (.block 2 (.seq (.ops 6 [
    (0, ⟨(some 22), none, .fadd 7 (.t 1)⟩),
    (1, ⟨(some 23), none, .load none (.t 22)⟩),
    (2, ⟨(some 24), none, .mv (.t 3)⟩),
    (3, ⟨(some 25), none, .idxS 8 (.t 23) (.t 24)⟩),
    (4, ⟨(some 26), none, .load (some 8) (.t 25)⟩),
    (5, ⟨(some 27), none, .call 51 [(.t 26)] none false⟩)] (some [1, 3, 27])) (.cond (.t 27) (.seq (.ops 1 [
    (0, ⟨(some 2), none, .mv (.k (.d (.val (.bool true))))⟩)] (some [2])) .ret) .skip))) (.ops 3 [
    (0, ⟨(some 20), none, .mv (.t 3)⟩),
    (1, ⟨(some 21), none, .arith .add (.t 20) (.k (.d (.val (.int .i64 1))))⟩),
    (2, ⟨(some 3), none, .mv (.t 21)⟩)] (some [1, 3]))))))) (.seq (.ops 2 [
    (0, ⟨(some 29), none, .arith .eql (.t 6) (.k (.d (.val (.int .i64 4))))⟩),
    (1, ⟨(some 28), none, .mv (.t 29)⟩)] (some [1, 6, 28])) (.cond (.t 28) (.seq (.seq (.ops 1 [
    (0, ⟨(some 4), none, .mv (.k (.d (.val (.int .i64 0))))⟩)] (some [1, 4])) (.block 3 (.loop (.seq (.seq (.ops 5 [
    (0, ⟨(some 30), none, .mv (.t 4)⟩),
    (1, ⟨(some 31), none, .fadd 7 (.t 1)⟩),
    (2, ⟨(some 32), none, .load none (.t 31)⟩),
    (3, ⟨(some 33), none, .lenS (.t 32)⟩),
    (4, ⟨(some 34), none, .arith .lss (.t 30) (.t 33)⟩)] (some [1, 4, 34])) (.cond (.t 34) .skip (.exit 3))) (.seq (.block 4 (.seq (.ops 7 [
    (0, ⟨(some 37), none, .fadd 7 (.t 1)⟩),
    (1, ⟨(some 38), none, .load none (.t 37)⟩),
    (2, ⟨(some 39), none, .mv (.t 4)⟩),
    (3, ⟨(some 40), none, .idxS 8 (.t 38) (.t 39)⟩),
    (4, ⟨(some 41), none, .load (some 8) (.t 40)⟩),
    (5, ⟨(some 42), none, .call 51 [(.t 41)] none false⟩),
    (6, ⟨(some 43), none, .un .not (.t 42)⟩)] (some [1, 4, 43])) (.cond (.t 43) (.seq (.ops 1 [
    (0, ⟨(some 2), none, .mv (.k (.d (.val (.bool false))))⟩)] (some [2])) .ret) .skip))) (.ops 3 [
    (0, ⟨(some 35), none, .mv (.t 4)⟩),
    (1, ⟨(some 36), none, .arith .add (.t 35) (.k (.d (.val (.int .i64 1))))⟩),
    (2, ⟨(some 4), none, .mv (.t 36)⟩)] (some [1, 4]))))))) (.seq (.ops 1 [
    (0, ⟨(some 2), none, .mv (.k (.d (.val (.bool true))))⟩)] (some [2])) .ret)) (.seq (.ops 2 [
    (0, ⟨(some 45), none, .arith .eql (.t 6) (.k (.d (.val (.int .i64 5))))⟩),
    (1, ⟨(some 44), none, .mv (.t 45)⟩)] (some [1, 44])) (.cond (.t 44) (.seq (.ops 11 [
    (0, ⟨(some 46), none, .fadd 5 (.t 1)⟩),
    (1, ⟨(some 47), none, .load none (.t 46)⟩),
    (2, ⟨(some 48), none, .arith .gtr (.t 47) (.k (.d (.val (.int .i64 0))))⟩),
    (3, ⟨(some 49), none, .mv (.t 48)⟩),
    (4, ⟨(some 50), (some (49, true)), .fadd 7 (.t 1)⟩),
    (5, ⟨(some 51), (some (49, true)), .load none (.t 50)⟩),
    (6, ⟨(some 52), (some (49, true)), .idxS 8 (.t 51) (.k (.d (.val (.int .i64 0))))⟩),
    (7, ⟨(some 53), (some (49, true)), .load (some 8) (.t 52)⟩),
    (8, ⟨(some 54), (some (49, true)), .call 51 [(.t 53)] none false⟩),
    (9, ⟨(some 55), none, .pick (.t 49) (.t 54) (.k (.d (.val (.bool false))))⟩),
    (10, ⟨(some 2), none, .mv (.t 55)⟩)] (some [2])) .ret) .skip)))))))))) (.seq (.ops 1 [
    (0, ⟨(some 2), none, .mv (.k (.d (.val (.bool false))))⟩)] (some [2])) .ret)))
def md51 : FuncId → Option Nat × Bool
  | _ => (none, false)
def od51 : Nat → List (List Nat) × List Nat × Option (List Nat)
  | 0 => ([], [], some [1])
  | 1 => ([], [], some [1, 6])
  | 2 => ([], [], some [1, 6, 7])
  | 3 => ([], [], some [2])
  | 4 => ([], [], some [1, 6, 13])
  | 5 => ([], [], some [1, 3])
  | 6 => ([], [], some [1, 3, 19])
  | 7 => ([], [], some [1, 3])
  | 8 => ([], [], some [1, 3, 27])
  | 9 => ([], [], some [2])
  | 10 => ([], [], some [1, 6, 28])
  | 11 => ([], [], some [1, 4])
  | 12 => ([], [], some [1, 4, 34])
  | 13 => ([], [], some [1, 4])
  | 14 => ([], [], some [1, 4, 43])
  | 15 => ([], [], some [2])
  | 16 => ([], [], some [2])
  | 17 => ([], [], some [1, 44])
  | 18 => ([], [], some [2])
  | 19 => ([], [], some [2])
  | _ => ([], [], none)
theorem b51 {ags : List AV} {row : Option (List DV)} {r : AV} {row' nw : Option (List DV)} (hal : ags.length ≤ 56) (hrow : row'.isSome = true → row.isSome = true) (h : xwp Try.prog x51 (retK [.tmp 2] row.isSome r row' nw) (St.init ags row)) : Good Try.prog 51 ags row r row' nw :=
  good_of_body' (md := md51) (od := od51) Try.f51 (by kernel_rfl) (by kernel_rfl) (by kernel_rfl) (by kernel_rfl) (by kernel_rfl) hal hrow h

def x98 : XC := (.seq (.ops 1 [
    (0, ⟨(some 4), none, .mv (.k (.d (.val (.slice none 0 0))))⟩)] (some [0, 1])) (.seq (.ops 4 [
    (0, ⟨(some 8), none, .mv (.t 0)⟩),
    (1, ⟨(some 9), none, .lenS (.t 8)⟩),
    (2, ⟨(some 10), none, .mks [(.bool false)] 1 (.t 9) (.t 9)⟩),
    (3, ⟨(some 5), none, .mv (.t 10)⟩)] (some [0, 1, 5])) (.seq (.seq (.ops 1 [
    (0, ⟨(some 6), none, .mv (.k (.d (.val (.int .i64 0))))⟩)] (some [0, 1, 5, 6])) (.block 0 (.loop (.seq (.seq (.ops 4 [
    (0, ⟨(some 11), none, .mv (.t 6)⟩),
    (1, ⟨(some 12), none, .mv (.t 0)⟩),
    (2, ⟨(some 13), none, .lenS (.t 12)⟩),
    (3, ⟨(some 14), none, .arith .lss (.t 11) (.t 13)⟩)] (some [0, 1, 5, 6, 14])) (.cond (.t 14) .skip (.exit 0))) (.seq (.block 1 (.seq (.ops 1 [
    (0, ⟨(some 7), none, .mv (.k (.d (.val (.int .i64 0))))⟩)] (some [0, 1, 5, 6, 7])) (.block 2 (.loop (.seq (.seq (.ops 6 [
    (0, ⟨(some 17), none, .mv (.t 6)⟩),
    (1, ⟨(some 18), none, .mv (.t 7)⟩),
    (2, ⟨(some 19), none, .arith .add (.t 17) (.t 18)⟩),
    (3, ⟨(some 20), none, .mv (.t 0)⟩),
    (4, ⟨(some 21), none, .lenS (.t 20)⟩),
    (5, ⟨(some 22), none, .arith .lss (.t 19) (.t 21)⟩)] (some [0, 1, 5, 6, 7, 22])) (.cond (.t 22) .skip (.exit 2))) (.seq (.block 3 (.ops 24 [
    (0, ⟨(some 25), none, .mv (.t 5)⟩),
    (1, ⟨(some 26), none, .mv (.t 6)⟩),
    (2, ⟨(some 27), none, .mv (.t 7)⟩),
    (3, ⟨(some 28), none, .arith .add (.t 26) (.t 27)⟩),
    (4, ⟨(some 29), none, .mv (.t 5)⟩),
    (5, ⟨(some 30), none, .mv (.t 6)⟩),
    (6, ⟨(some 31), none, .mv (.t 7)⟩),
    (7, ⟨(some 32), none, .arith .add (.t 30) (.t 31)⟩),
    (8, ⟨(some 33), none, .idxS 1 (.t 29) (.t 32)⟩),
    (9, ⟨(some 34), none, .load none (.t 33)⟩),
    (10, ⟨(some 35), none, .mv (.t 34)⟩),
    (11, ⟨(some 36), (some (35, false)), .mv (.t 0)⟩),
    (12, ⟨(some 37), (some (35, false)), .mv (.t 6)⟩),
    (13, ⟨(some 38), (some (35, false)), .idxS 1 (.t 36) (.t 37)⟩),
    (14, ⟨(some 39), (some (35, false)), .load none (.t 38)⟩),
    (15, ⟨(some 40), (some (35, false)), .mv (.t 39)⟩),
    (16, ⟨(some 41), (some (40, true)), .mv (.t 1)⟩),
    (17, ⟨(some 42), (some (40, true)), .mv (.t 7)⟩),
    (18, ⟨(some 43), (some (40, true)), .idxS 1 (.t 41) (.t 42)⟩),
    (19, ⟨(some 44), (some (40, true)), .load none (.t 43)⟩),
    (20, ⟨(some 45), (some (35, false)), .pick (.t 40) (.t 44) (.k (.d (.val (.bool false))))⟩),
    (21, ⟨(some 46), none, .pick (.t 35) (.k (.d (.val (.bool true)))) (.t 45)⟩),
    (22, ⟨(some 47), none, .idxS 1 (.t 25) (.t 28)⟩),
    (23, ⟨none, none, .store 1 (.t 47) (.t 46)⟩)] (some [0, 1, 5, 6, 7]))) (.ops 3 [
    (0, ⟨(some 23), none, .mv (.t 7)⟩),
    (1, ⟨(some 24), none, .arith .add (.t 23) (.k (.d (.val (.int .i64 1))))⟩),
    (2, ⟨(some 7), none, .mv (.t 24)⟩)] (some [0, 1, 5, 6, 7])))))))) (.ops 3 [
    (0, ⟨(some 15), none, .mv (.t 6)⟩),
    (1, ⟨(some 16), none, .arith .add (.t 15) (.k (.d (.val (.int .i64 1))))⟩),
    (2, ⟨(some 6), none, .mv (.t 16)⟩)] (some [0, 1, 5, 6]))))))) (.seq (.ops 2 [
    (0, ⟨(some 48), none, .mv (.t 5)⟩),
    (1, ⟨(some 4), none, .mv (.t 48)⟩)] (some [4])) .ret))))
def md98 : FuncId → Option Nat × Bool
  | _ => (none, false)
def od98 : Nat → List (List Nat) × List Nat × Option (List Nat)
  | 0 => ([], [], some [0, 1])
  | 1 => ([], [], some [0, 1, 5])
  | 2 => ([], [], some [0, 1, 5, 6])
  | 3 => ([], [], some [0, 1, 5, 6, 14])
  | 4 => ([], [], some [0, 1, 5, 6])
  | 5 => ([], [], some [0, 1, 5, 6, 7])
  | 6 => ([], [], some [0, 1, 5, 6, 7, 22])
  | 7 => ([], [], some [0, 1, 5, 6, 7])
  | 8 => ([], [], some [0, 1, 5, 6, 7])
  | 9 => ([], [], some [4])
  | _ => ([], [], none)
theorem b98 {ags : List AV} {row : Option (List DV)} {r : AV} {row' nw : Option (List DV)} (hal : ags.length ≤ 49) (hrow : row'.isSome = true → row.isSome = true) (h : xwp Try.prog x98 (retK [.tmp 4] row.isSome r row' nw) (St.init ags row)) : Good Try.prog 98 ags row r row' nw :=
  good_of_body' (md := md98) (od := od98) Try.f98 (by kernel_rfl) (by kernel_rfl) (by kernel_rfl) (by kernel_rfl) (by kernel_rfl) hal hrow h

set_option maxRecDepth 100000
set_option maxHeartbeats 4000000
attribute [local irreducible] W E R KP thenK blockK retK Good xwp aRun
theorem none51_good : ∀ (n : Nat) (t : T), t.cnt ≤ n → n ≤ 1000000 → okT t → Good Try.prog 51 [nodeA t] none (.b (nnT t)) none none := by
  intro n
  induction n with
  | zero => intro t ht; have := cnt_pos t; omega
  | succ n ih =>
  intro t ht hc hok
  obtain ⟨k, a, b, c, d, mn, mx, subs⟩ := t
  have hR := okT_R hok
  have hoks := okT_subs hok
  have hpl := okT_plain hok
  have ih' : ∀ i (h : i < subs.length), Good Try.prog 51 [nodeA subs[i]] none (.b (nnT subs[i])) none none := by
    intro i h
    refine ih _ ?_ (by omega) (okL_get subs i h hoks)
    have := cntL_get subs i h
    simp only [T.cnt] at ht
    omega
  have hlen : subs.length ≤ 1000000 := by
    have := cntL_len subs
    simp only [T.cnt] at ht
    omega
  have e0 : nodeA (.node k a b c d mn mx subs) = .agg [.i k, .d (.val (.int .u64 a)), .d (.val (.int .u64 b)), .d (.val (.int .u64 c)), .d (.val (.int .u64 d)), .i mn, .i mx, .d (.sl (encL subs) subs.length)] := rfl
  have hk5 : k = 5 → ∃ u, subs = [u] := fun h5 => by subst h5; exact plainT_5 hpl
  clear ih ht hok hoks hpl hR
  rw [e0, nnT]
  by_cases h2 : k = 2
  · rw [if_pos h2]
    refine b51 (by simp) (by simp) (w_init ?_)
    unfold x51
    repeat' (first
    | (apply r_mvV; rfl)
    | (apply r_mvP; rfl)
    | (apply r_mvPL; rfl)
    | (apply r_mvS; rfl)
    | (apply r_mvSL; rfl)
    | (apply r_mvA; rfl)
    | (apply r_mvT; rfl)
    | (apply r_mvF; rfl)
    | (apply r_mvD; rfl)
    | (apply r_faddD; rfl)
    | (apply r_faddL; rfl)
    | (apply r_l; apply ld_kind; assumption; rfl)
    | (apply r_l; apply ld_mn; assumption; rfl)
    | (apply r_l; apply ld_mx; assumption; rfl)
    | (apply r_l; apply ld_subs; assumption; rfl)
    | (apply r_l; apply ld_set; assumption; rfl)
    | (apply r_l; apply ld_node; assumption; rfl)
    | (apply r_l; apply ld_kind'; assumption; rfl)
    | (apply r_l; apply ld_mn'; assumption; rfl)
    | (apply r_l; apply ld_mx'; assumption; rfl)
    | (apply r_l; apply ld_subs'; assumption; rfl)
    | (apply r_l; apply ld_node'; assumption; rfl)
    | (apply r_ldL (v := .agg [.d (.val (.int .u64 a)), .d (.val (.int .u64 b)), .d (.val (.int .u64 c)), .d (.val (.int .u64 d))]); rfl; rfl; rfl)
    | (apply r_p (v := .agg [.d (.val (.int .u64 0)), .d (.val (.int .u64 0)), .d (.val (.int .u64 0)), .d (.val (.int .u64 0))]); rfl)
    | (apply r_eqX (r := isZero a b c d); rfl; rfl; rfl)
    | (apply r_ldL; rfl; rfl; rfl)
    | (apply r_eql; rfl; rfl; (first | (apply decide_eq_true; omega) | (apply decide_eq_false; omega) | rfl))
    | (apply r_lss; rfl; rfl; (first | (apply decide_eq_true; omega) | (apply decide_eq_false; omega) | rfl))
    | (apply r_gtr; rfl; rfl; (first | (apply decide_eq_true; omega) | (apply decide_eq_false; omega) | rfl))
    | (apply r_add; rfl; rfl; rfl; omega)
    | (apply r_not; rfl; rfl)
    | (apply r_pickT; rfl)
    | (apply r_pickF; rfl)
    | (apply r_lenD; rfl)
    | (apply r_lenL; rfl)
    | (apply r_len0; rfl)
    | (apply r_gT; rfl)
    | (apply r_gF'; rfl; rfl)
    | (apply r_gN'; rfl)
    | ((apply r_gS (o := default); rfl) <;> (intro h; try simp only [decide_eq_true_eq, decide_eq_false_iff_not, Bool.not_eq_true, Bool.not_eq_false] at h))
    | (apply r_box; ((conv => lhs; simp only [Nat.reduceAdd]) <;> rfl); rfl; rfl; rfl)
    | (apply r_p; rfl)
    | (apply r_nilK)
    | (apply r_nil)
    | (apply k_V; rfl)
    | (apply k_P; rfl)
    | (apply k_PL; rfl)
    | (apply k_S; rfl)
    | (apply k_SL; rfl)
    | (apply k_A; rfl)
    | (apply k_T; rfl)
    | (apply k_F; rfl)
    | (apply k_D; rfl; rotate_left; rfl)
    | (apply k_nil)
    | (apply e_ret (vs := [.d (.val _)]); rfl)
    | (apply e_ret; rfl)
    | (apply e_ret' (vs := [.d (.val _)]); rfl)
    | (apply e_ret'; rfl)
    | (apply w_seq)
    | (apply w_ops; ((conv => lhs; simp only [Nat.reduceAdd]) <;> rfl))
    | (apply w_condT; rfl)
    | (apply w_condF; rfl)
    | ((apply w_condS; rfl) <;> (intro h; try simp only [decide_eq_true_eq, decide_eq_false_iff_not, Bool.not_eq_true, Bool.not_eq_false] at h))
    | (apply e_thenN)
    | (apply w_block)
    | (apply e_thenR)
    | (apply e_thenX)
    | (apply e_blkN)
    | (apply e_blkR)
    | (apply e_blkE)
    | (apply w_exit)
    | (apply w_ret)
    | (apply w_skip)
    | (apply e_blkE'; rfl))
    exact retB rfl
  rw [if_neg h2]
  by_cases h3 : k = 3
  · rw [if_pos h3]
    refine b51 (by simp) (by simp) (w_init ?_)
    unfold x51
    repeat' (first
    | (apply r_mvV; rfl)
    | (apply r_mvP; rfl)
    | (apply r_mvPL; rfl)
    | (apply r_mvS; rfl)
    | (apply r_mvSL; rfl)
    | (apply r_mvA; rfl)
    | (apply r_mvT; rfl)
    | (apply r_mvF; rfl)
    | (apply r_mvD; rfl)
    | (apply r_faddD; rfl)
    | (apply r_faddL; rfl)
    | (apply r_l; apply ld_kind; assumption; rfl)
    | (apply r_l; apply ld_mn; assumption; rfl)
    | (apply r_l; apply ld_mx; assumption; rfl)
    | (apply r_l; apply ld_subs; assumption; rfl)
    | (apply r_l; apply ld_set; assumption; rfl)
    | (apply r_l; apply ld_node; assumption; rfl)
    | (apply r_l; apply ld_kind'; assumption; rfl)
    | (apply r_l; apply ld_mn'; assumption; rfl)
    | (apply r_l; apply ld_mx'; assumption; rfl)
    | (apply r_l; apply ld_subs'; assumption; rfl)
    | (apply r_l; apply ld_node'; assumption; rfl)
    | (apply r_ldL; rfl; rfl; rfl)
    | (apply r_eql; rfl; rfl; (first | (apply decide_eq_true; omega) | (apply decide_eq_false; omega) | rfl))
    | (apply r_lss; rfl; rfl; (first | (apply decide_eq_true; omega) | (apply decide_eq_false; omega) | rfl))
    | (apply r_gtr; rfl; rfl; (first | (apply decide_eq_true; omega) | (apply decide_eq_false; omega) | rfl))
    | (apply r_add; rfl; rfl; rfl; omega)
    | (apply r_not; rfl; rfl)
    | (apply r_pickT; rfl)
    | (apply r_pickF; rfl)
    | (apply r_lenD; rfl)
    | (apply r_lenL; rfl)
    | (apply r_len0; rfl)
    | (apply r_gT; rfl)
    | (apply r_gF'; rfl; rfl)
    | (apply r_gN'; rfl)
    | ((apply r_gS (o := default); rfl) <;> (intro h; try simp only [decide_eq_true_eq, decide_eq_false_iff_not, Bool.not_eq_true, Bool.not_eq_false] at h))
    | (apply r_box; ((conv => lhs; simp only [Nat.reduceAdd]) <;> rfl); rfl; rfl; rfl)
    | (apply r_p; rfl)
    | (apply r_nilK)
    | (apply r_nil)
    | (apply k_V; rfl)
    | (apply k_P; rfl)
    | (apply k_PL; rfl)
    | (apply k_S; rfl)
    | (apply k_SL; rfl)
    | (apply k_A; rfl)
    | (apply k_T; rfl)
    | (apply k_F; rfl)
    | (apply k_D; rfl; rotate_left; rfl)
    | (apply k_nil)
    | (apply e_ret (vs := [.d (.val _)]); rfl)
    | (apply e_ret; rfl)
    | (apply e_ret' (vs := [.d (.val _)]); rfl)
    | (apply e_ret'; rfl)
    | (apply w_seq)
    | (apply w_ops; ((conv => lhs; simp only [Nat.reduceAdd]) <;> rfl))
    | (apply w_condT; rfl)
    | (apply w_condF; rfl)
    | ((apply w_condS; rfl) <;> (intro h; try simp only [decide_eq_true_eq, decide_eq_false_iff_not, Bool.not_eq_true, Bool.not_eq_false] at h))
    | (apply e_thenN)
    | (apply w_block)
    | (apply e_thenR)
    | (apply e_thenX)
    | (apply e_blkN)
    | (apply e_blkR)
    | (apply e_blkE)
    | (apply w_exit)
    | (apply w_ret)
    | (apply w_skip)
    | (apply e_blkE'; rfl))
    apply w_loopI (S := fun i : Nat => ⟨(Fr.nil.put 1 (.ptrL 1 0)).put 3 (.i i), Heap.nil.put 1 [.i k, .d (.val (.int .u64 a)), .d (.val (.int .u64 b)), .d (.val (.int .u64 c)), .d (.val (.int .u64 d)), .i mn, .i mx, .d (.sl (encL subs) subs.length)], Frz.lo 100, 100⟩) (m := fun i => subs.length - i) (I := fun i => i ≤ subs.length ∧ nnAny subs = nnAny (subs.drop i)) (i0 := 0)
    · exact ⟨Nat.zero_le _, rfl⟩
    · refine wkR (by omega) rfl rfl ?_
      repeat' (first
    | exact FWk.nil
    | (apply FWk.i; rfl; (first | rfl | omega | (simp; done)))
    | (apply FWk.sl; rfl; rfl; rfl; rfl; omega; rfl)
    | (apply FWk.ptr; rfl; rfl; rfl; omega; rfl)
    | (apply FWk.d; rfl; rfl)
    | (apply FWk.a; rfl; rfl; rfl)
    | (apply FWk.slN; rfl; omega; rfl))
    rintro i K ⟨hi, hp⟩ hK
    dsimp only
    rcases Nat.lt_or_ge i subs.length with hlt | hge
    · have hs := NodeAt.sub hlt
      have hg := ih' i hlt
      have hd := nnAny_drop subs i hlt
      have hna : [nodeA subs[i]].all AV.nrm = true := by rw [List.all_cons, nodeA_nrm]; rfl
      rcases Bool.eq_false_or_eq_true (nnT subs[i]) with hq | hq
      · rw [hq] at hg hd
        repeat' (first
    | (apply r_mvV; rfl)
    | (apply r_mvP; rfl)
    | (apply r_mvPL; rfl)
    | (apply r_mvS; rfl)
    | (apply r_mvSL; rfl)
    | (apply r_mvA; rfl)
    | (apply r_mvT; rfl)
    | (apply r_mvF; rfl)
    | (apply r_mvD; rfl)
    | (apply r_faddD; rfl)
    | (apply r_faddL; rfl)
    | (apply r_l; apply ld_kind; assumption; rfl)
    | (apply r_l; apply ld_mn; assumption; rfl)
    | (apply r_l; apply ld_mx; assumption; rfl)
    | (apply r_l; apply ld_subs; assumption; rfl)
    | (apply r_l; apply ld_set; assumption; rfl)
    | (apply r_l; apply ld_node; assumption; rfl)
    | (apply r_l; apply ld_kind'; assumption; rfl)
    | (apply r_l; apply ld_mn'; assumption; rfl)
    | (apply r_l; apply ld_mx'; assumption; rfl)
    | (apply r_l; apply ld_subs'; assumption; rfl)
    | (apply r_l; apply ld_node'; assumption; rfl)
    | (apply r_p; apply ix_sub; rfl; rfl; omega)
    | (apply r_callA (ags := [nodeA subs[i]]); rfl; exact hna; exact hg)
    | (apply r_ldL; rfl; rfl; rfl)
    | (apply r_eql; rfl; rfl; (first | (apply decide_eq_true; omega) | (apply decide_eq_false; omega) | rfl))
    | (apply r_lss; rfl; rfl; (first | (apply decide_eq_true; omega) | (apply decide_eq_false; omega) | rfl))
    | (apply r_gtr; rfl; rfl; (first | (apply decide_eq_true; omega) | (apply decide_eq_false; omega) | rfl))
    | (apply r_add; rfl; rfl; rfl; omega)
    | (apply r_not; rfl; rfl)
    | (apply r_pickT; rfl)
    | (apply r_pickF; rfl)
    | (apply r_lenD; rfl)
    | (apply r_lenL; rfl)
    | (apply r_len0; rfl)
    | (apply r_gT; rfl)
    | (apply r_gF'; rfl; rfl)
    | (apply r_gN'; rfl)
    | ((apply r_gS (o := default); rfl) <;> (intro h; try simp only [decide_eq_true_eq, decide_eq_false_iff_not, Bool.not_eq_true, Bool.not_eq_false] at h))
    | (apply r_box; ((conv => lhs; simp only [Nat.reduceAdd]) <;> rfl); rfl; rfl; rfl)
    | (apply r_p; rfl)
    | (apply r_nilK)
    | (apply r_nil)
    | (apply k_V; rfl)
    | (apply k_P; rfl)
    | (apply k_PL; rfl)
    | (apply k_S; rfl)
    | (apply k_SL; rfl)
    | (apply k_A; rfl)
    | (apply k_T; rfl)
    | (apply k_F; rfl)
    | (apply k_D; rfl; rotate_left; rfl)
    | (apply k_nil)
    | (apply e_ret (vs := [.d (.val _)]); rfl)
    | (apply e_ret; rfl)
    | (apply e_ret' (vs := [.d (.val _)]); rfl)
    | (apply e_ret'; rfl)
    | (apply w_seq)
    | (apply w_ops; ((conv => lhs; simp only [Nat.reduceAdd]) <;> rfl))
    | (apply w_condT; rfl)
    | (apply w_condF; rfl)
    | ((apply w_condS; rfl) <;> (intro h; try simp only [decide_eq_true_eq, decide_eq_false_iff_not, Bool.not_eq_true, Bool.not_eq_false] at h))
    | (apply e_thenN)
    | (apply w_block)
    | (apply e_thenR)
    | (apply e_thenX)
    | (apply e_blkN)
    | (apply e_blkR)
    | (apply e_blkE)
    | (apply w_exit)
    | (apply w_ret)
    | (apply w_skip)
    | (apply e_blkE'; rfl))
        exact retB (by rw [hp, hd]; rfl)
      · rw [hq] at hg hd
        repeat' (first
    | (apply r_mvV; rfl)
    | (apply r_mvP; rfl)
    | (apply r_mvPL; rfl)
    | (apply r_mvS; rfl)
    | (apply r_mvSL; rfl)
    | (apply r_mvA; rfl)
    | (apply r_mvT; rfl)
    | (apply r_mvF; rfl)
    | (apply r_mvD; rfl)
    | (apply r_faddD; rfl)
    | (apply r_faddL; rfl)
    | (apply r_l; apply ld_kind; assumption; rfl)
    | (apply r_l; apply ld_mn; assumption; rfl)
    | (apply r_l; apply ld_mx; assumption; rfl)
    | (apply r_l; apply ld_subs; assumption; rfl)
    | (apply r_l; apply ld_set; assumption; rfl)
    | (apply r_l; apply ld_node; assumption; rfl)
    | (apply r_l; apply ld_kind'; assumption; rfl)
    | (apply r_l; apply ld_mn'; assumption; rfl)
    | (apply r_l; apply ld_mx'; assumption; rfl)
    | (apply r_l; apply ld_subs'; assumption; rfl)
    | (apply r_l; apply ld_node'; assumption; rfl)
    | (apply r_p; apply ix_sub; rfl; rfl; omega)
    | (apply r_callA (ags := [nodeA subs[i]]); rfl; exact hna; exact hg)
    | (apply r_ldL; rfl; rfl; rfl)
    | (apply r_eql; rfl; rfl; (first | (apply decide_eq_true; omega) | (apply decide_eq_false; omega) | rfl))
    | (apply r_lss; rfl; rfl; (first | (apply decide_eq_true; omega) | (apply decide_eq_false; omega) | rfl))
    | (apply r_gtr; rfl; rfl; (first | (apply decide_eq_true; omega) | (apply decide_eq_false; omega) | rfl))
    | (apply r_add; rfl; rfl; rfl; omega)
    | (apply r_not; rfl; rfl)
    | (apply r_pickT; rfl)
    | (apply r_pickF; rfl)
    | (apply r_lenD; rfl)
    | (apply r_lenL; rfl)
    | (apply r_len0; rfl)
    | (apply r_gT; rfl)
    | (apply r_gF'; rfl; rfl)
    | (apply r_gN'; rfl)
    | ((apply r_gS (o := default); rfl) <;> (intro h; try simp only [decide_eq_true_eq, decide_eq_false_iff_not, Bool.not_eq_true, Bool.not_eq_false] at h))
    | (apply r_box; ((conv => lhs; simp only [Nat.reduceAdd]) <;> rfl); rfl; rfl; rfl)
    | (apply r_p; rfl)
    | (apply r_nilK)
    | (apply r_nil)
    | (apply k_V; rfl)
    | (apply k_P; rfl)
    | (apply k_PL; rfl)
    | (apply k_S; rfl)
    | (apply k_SL; rfl)
    | (apply k_A; rfl)
    | (apply k_T; rfl)
    | (apply k_F; rfl)
    | (apply k_D; rfl; rotate_left; rfl)
    | (apply k_nil)
    | (apply e_ret (vs := [.d (.val _)]); rfl)
    | (apply e_ret; rfl)
    | (apply e_ret' (vs := [.d (.val _)]); rfl)
    | (apply e_ret'; rfl)
    | (apply w_seq)
    | (apply w_ops; ((conv => lhs; simp only [Nat.reduceAdd]) <;> rfl))
    | (apply w_condT; rfl)
    | (apply w_condF; rfl)
    | ((apply w_condS; rfl) <;> (intro h; try simp only [decide_eq_true_eq, decide_eq_false_iff_not, Bool.not_eq_true, Bool.not_eq_false] at h))
    | (apply e_thenN)
    | (apply w_block)
    | (apply e_thenR)
    | (apply e_thenX)
    | (apply e_blkN)
    | (apply e_blkR)
    | (apply e_blkE)
    | (apply w_exit)
    | (apply w_ret)
    | (apply w_skip)
    | (apply e_blkE'; rfl))
        apply e_thenK
        apply hK (i + 1)
        · exact ⟨by omega, by rw [hp, hd, Bool.false_or]⟩
        · omega
        · refine wkR (by omega) rfl rfl ?_
          repeat' (first
    | exact FWk.nil
    | (apply FWk.i; rfl; (first | rfl | omega | (simp; done)))
    | (apply FWk.sl; rfl; rfl; rfl; rfl; omega; rfl)
    | (apply FWk.ptr; rfl; rfl; rfl; omega; rfl)
    | (apply FWk.d; rfl; rfl)
    | (apply FWk.a; rfl; rfl; rfl)
    | (apply FWk.slN; rfl; omega; rfl))
    · have e : nnAny subs = false := by rw [hp, List.drop_of_length_le hge, nnAny]
      repeat' (first
    | (apply r_mvV; rfl)
    | (apply r_mvP; rfl)
    | (apply r_mvPL; rfl)
    | (apply r_mvS; rfl)
    | (apply r_mvSL; rfl)
    | (apply r_mvA; rfl)
    | (apply r_mvT; rfl)
    | (apply r_mvF; rfl)
    | (apply r_mvD; rfl)
    | (apply r_faddD; rfl)
    | (apply r_faddL; rfl)
    | (apply r_l; apply ld_kind; assumption; rfl)
    | (apply r_l; apply ld_mn; assumption; rfl)
    | (apply r_l; apply ld_mx; assumption; rfl)
    | (apply r_l; apply ld_subs; assumption; rfl)
    | (apply r_l; apply ld_set; assumption; rfl)
    | (apply r_l; apply ld_node; assumption; rfl)
    | (apply r_l; apply ld_kind'; assumption; rfl)
    | (apply r_l; apply ld_mn'; assumption; rfl)
    | (apply r_l; apply ld_mx'; assumption; rfl)
    | (apply r_l; apply ld_subs'; assumption; rfl)
    | (apply r_l; apply ld_node'; assumption; rfl)
    | (apply r_ldL; rfl; rfl; rfl)
    | (apply r_eql; rfl; rfl; (first | (apply decide_eq_true; omega) | (apply decide_eq_false; omega) | rfl))
    | (apply r_lss; rfl; rfl; (first | (apply decide_eq_true; omega) | (apply decide_eq_false; omega) | rfl))
    | (apply r_gtr; rfl; rfl; (first | (apply decide_eq_true; omega) | (apply decide_eq_false; omega) | rfl))
    | (apply r_add; rfl; rfl; rfl; omega)
    | (apply r_not; rfl; rfl)
    | (apply r_pickT; rfl)
    | (apply r_pickF; rfl)
    | (apply r_lenD; rfl)
    | (apply r_lenL; rfl)
    | (apply r_len0; rfl)
    | (apply r_gT; rfl)
    | (apply r_gF'; rfl; rfl)
    | (apply r_gN'; rfl)
    | ((apply r_gS (o := default); rfl) <;> (intro h; try simp only [decide_eq_true_eq, decide_eq_false_iff_not, Bool.not_eq_true, Bool.not_eq_false] at h))
    | (apply r_box; ((conv => lhs; simp only [Nat.reduceAdd]) <;> rfl); rfl; rfl; rfl)
    | (apply r_p; rfl)
    | (apply r_nilK)
    | (apply r_nil)
    | (apply k_V; rfl)
    | (apply k_P; rfl)
    | (apply k_PL; rfl)
    | (apply k_S; rfl)
    | (apply k_SL; rfl)
    | (apply k_A; rfl)
    | (apply k_T; rfl)
    | (apply k_F; rfl)
    | (apply k_D; rfl; rotate_left; rfl)
    | (apply k_nil)
    | (apply e_ret (vs := [.d (.val _)]); rfl)
    | (apply e_ret; rfl)
    | (apply e_ret' (vs := [.d (.val _)]); rfl)
    | (apply e_ret'; rfl)
    | (apply w_seq)
    | (apply w_ops; ((conv => lhs; simp only [Nat.reduceAdd]) <;> rfl))
    | (apply w_condT; rfl)
    | (apply w_condF; rfl)
    | ((apply w_condS; rfl) <;> (intro h; try simp only [decide_eq_true_eq, decide_eq_false_iff_not, Bool.not_eq_true, Bool.not_eq_false] at h))
    | (apply e_thenN)
    | (apply w_block)
    | (apply e_thenR)
    | (apply e_thenX)
    | (apply e_blkN)
    | (apply e_blkR)
    | (apply e_blkE)
    | (apply w_exit)
    | (apply w_ret)
    | (apply w_skip)
    | (apply e_blkE'; rfl))
      exact retB e.symm
  rw [if_neg h3]
  by_cases h4 : k = 4
  · rw [if_pos h4]
    refine b51 (by simp) (by simp) (w_init ?_)
    unfold x51
    repeat' (first
    | (apply r_mvV; rfl)
    | (apply r_mvP; rfl)
    | (apply r_mvPL; rfl)
    | (apply r_mvS; rfl)
    | (apply r_mvSL; rfl)
    | (apply r_mvA; rfl)
    | (apply r_mvT; rfl)
    | (apply r_mvF; rfl)
    | (apply r_mvD; rfl)
    | (apply r_faddD; rfl)
    | (apply r_faddL; rfl)
    | (apply r_l; apply ld_kind; assumption; rfl)
    | (apply r_l; apply ld_mn; assumption; rfl)
    | (apply r_l; apply ld_mx; assumption; rfl)
    | (apply r_l; apply ld_subs; assumption; rfl)
    | (apply r_l; apply ld_set; assumption; rfl)
    | (apply r_l; apply ld_node; assumption; rfl)
    | (apply r_l; apply ld_kind'; assumption; rfl)
    | (apply r_l; apply ld_mn'; assumption; rfl)
    | (apply r_l; apply ld_mx'; assumption; rfl)
    | (apply r_l; apply ld_subs'; assumption; rfl)
    | (apply r_l; apply ld_node'; assumption; rfl)
    | (apply r_ldL; rfl; rfl; rfl)
    | (apply r_eql; rfl; rfl; (first | (apply decide_eq_true; omega) | (apply decide_eq_false; omega) | rfl))
    | (apply r_lss; rfl; rfl; (first | (apply decide_eq_true; omega) | (apply decide_eq_false; omega) | rfl))
    | (apply r_gtr; rfl; rfl; (first | (apply decide_eq_true; omega) | (apply decide_eq_false; omega) | rfl))
    | (apply r_add; rfl; rfl; rfl; omega)
    | (apply r_not; rfl; rfl)
    | (apply r_pickT; rfl)
    | (apply r_pickF; rfl)
    | (apply r_lenD; rfl)
    | (apply r_lenL; rfl)
    | (apply r_len0; rfl)
    | (apply r_gT; rfl)
    | (apply r_gF'; rfl; rfl)
    | (apply r_gN'; rfl)
    | ((apply r_gS (o := default); rfl) <;> (intro h; try simp only [decide_eq_true_eq, decide_eq_false_iff_not, Bool.not_eq_true, Bool.not_eq_false] at h))
    | (apply r_box; ((conv => lhs; simp only [Nat.reduceAdd]) <;> rfl); rfl; rfl; rfl)
    | (apply r_p; rfl)
    | (apply r_nilK)
    | (apply r_nil)
    | (apply k_V; rfl)
    | (apply k_P; rfl)
    | (apply k_PL; rfl)
    | (apply k_S; rfl)
    | (apply k_SL; rfl)
    | (apply k_A; rfl)
    | (apply k_T; rfl)
    | (apply k_F; rfl)
    | (apply k_D; rfl; rotate_left; rfl)
    | (apply k_nil)
    | (apply e_ret (vs := [.d (.val _)]); rfl)
    | (apply e_ret; rfl)
    | (apply e_ret' (vs := [.d (.val _)]); rfl)
    | (apply e_ret'; rfl)
    | (apply w_seq)
    | (apply w_ops; ((conv => lhs; simp only [Nat.reduceAdd]) <;> rfl))
    | (apply w_condT; rfl)
    | (apply w_condF; rfl)
    | ((apply w_condS; rfl) <;> (intro h; try simp only [decide_eq_true_eq, decide_eq_false_iff_not, Bool.not_eq_true, Bool.not_eq_false] at h))
    | (apply e_thenN)
    | (apply w_block)
    | (apply e_thenR)
    | (apply e_thenX)
    | (apply e_blkN)
    | (apply e_blkR)
    | (apply e_blkE)
    | (apply w_exit)
    | (apply w_ret)
    | (apply w_skip)
    | (apply e_blkE'; rfl))
    apply w_loopI (S := fun i : Nat => ⟨(Fr.nil.put 1 (.ptrL 1 0)).put 4 (.i i), Heap.nil.put 1 [.i k, .d (.val (.int .u64 a)), .d (.val (.int .u64 b)), .d (.val (.int .u64 c)), .d (.val (.int .u64 d)), .i mn, .i mx, .d (.sl (encL subs) subs.length)], Frz.lo 100, 100⟩) (m := fun i => subs.length - i) (I := fun i => i ≤ subs.length ∧ nnAll subs = nnAll (subs.drop i)) (i0 := 0)
    · exact ⟨Nat.zero_le _, rfl⟩
    · refine wkR (by omega) rfl rfl ?_
      repeat' (first
    | exact FWk.nil
    | (apply FWk.i; rfl; (first | rfl | omega | (simp; done)))
    | (apply FWk.sl; rfl; rfl; rfl; rfl; omega; rfl)
    | (apply FWk.ptr; rfl; rfl; rfl; omega; rfl)
    | (apply FWk.d; rfl; rfl)
    | (apply FWk.a; rfl; rfl; rfl)
    | (apply FWk.slN; rfl; omega; rfl))
    rintro i K ⟨hi, hp⟩ hK
    dsimp only
    rcases Nat.lt_or_ge i subs.length with hlt | hge
    · have hs := NodeAt.sub hlt
      have hg := ih' i hlt
      have hd := nnAll_drop subs i hlt
      have hna : [nodeA subs[i]].all AV.nrm = true := by rw [List.all_cons, nodeA_nrm]; rfl
      rcases Bool.eq_false_or_eq_true (nnT subs[i]) with hq | hq
      · rw [hq] at hg hd
        repeat' (first
    | (apply r_mvV; rfl)
    | (apply r_mvP; rfl)
    | (apply r_mvPL; rfl)
    | (apply r_mvS; rfl)
    | (apply r_mvSL; rfl)
    | (apply r_mvA; rfl)
    | (apply r_mvT; rfl)
    | (apply r_mvF; rfl)
    | (apply r_mvD; rfl)
    | (apply r_faddD; rfl)
    | (apply r_faddL; rfl)
    | (apply r_l; apply ld_kind; assumption; rfl)
    | (apply r_l; apply ld_mn; assumption; rfl)
    | (apply r_l; apply ld_mx; assumption; rfl)
    | (apply r_l; apply ld_subs; assumption; rfl)
    | (apply r_l; apply ld_set; assumption; rfl)
    | (apply r_l; apply ld_node; assumption; rfl)
    | (apply r_l; apply ld_kind'; assumption; rfl)
    | (apply r_l; apply ld_mn'; assumption; rfl)
    | (apply r_l; apply ld_mx'; assumption; rfl)
    | (apply r_l; apply ld_subs'; assumption; rfl)
    | (apply r_l; apply ld_node'; assumption; rfl)
    | (apply r_p; apply ix_sub; rfl; rfl; omega)
    | (apply r_callA (ags := [nodeA subs[i]]); rfl; exact hna; exact hg)
    | (apply r_ldL; rfl; rfl; rfl)
    | (apply r_eql; rfl; rfl; (first | (apply decide_eq_true; omega) | (apply decide_eq_false; omega) | rfl))
    | (apply r_lss; rfl; rfl; (first | (apply decide_eq_true; omega) | (apply decide_eq_false; omega) | rfl))
    | (apply r_gtr; rfl; rfl; (first | (apply decide_eq_true; omega) | (apply decide_eq_false; omega) | rfl))
    | (apply r_add; rfl; rfl; rfl; omega)
    | (apply r_not; rfl; rfl)
    | (apply r_pickT; rfl)
    | (apply r_pickF; rfl)
    | (apply r_lenD; rfl)
    | (apply r_lenL; rfl)
    | (apply r_len0; rfl)
    | (apply r_gT; rfl)
    | (apply r_gF'; rfl; rfl)
    | (apply r_gN'; rfl)
    | ((apply r_gS (o := default); rfl) <;> (intro h; try simp only [decide_eq_true_eq, decide_eq_false_iff_not, Bool.not_eq_true, Bool.not_eq_false] at h))
    | (apply r_box; ((conv => lhs; simp only [Nat.reduceAdd]) <;> rfl); rfl; rfl; rfl)
    | (apply r_p; rfl)
    | (apply r_nilK)
    | (apply r_nil)
    | (apply k_V; rfl)
    | (apply k_P; rfl)
    | (apply k_PL; rfl)
    | (apply k_S; rfl)
    | (apply k_SL; rfl)
    | (apply k_A; rfl)
    | (apply k_T; rfl)
    | (apply k_F; rfl)
    | (apply k_D; rfl; rotate_left; rfl)
    | (apply k_nil)
    | (apply e_ret (vs := [.d (.val _)]); rfl)
    | (apply e_ret; rfl)
    | (apply e_ret' (vs := [.d (.val _)]); rfl)
    | (apply e_ret'; rfl)
    | (apply w_seq)
    | (apply w_ops; ((conv => lhs; simp only [Nat.reduceAdd]) <;> rfl))
    | (apply w_condT; rfl)
    | (apply w_condF; rfl)
    | ((apply w_condS; rfl) <;> (intro h; try simp only [decide_eq_true_eq, decide_eq_false_iff_not, Bool.not_eq_true, Bool.not_eq_false] at h))
    | (apply e_thenN)
    | (apply w_block)
    | (apply e_thenR)
    | (apply e_thenX)
    | (apply e_blkN)
    | (apply e_blkR)
    | (apply e_blkE)
    | (apply w_exit)
    | (apply w_ret)
    | (apply w_skip)
    | (apply e_blkE'; rfl))
        apply e_thenK
        apply hK (i + 1)
        · exact ⟨by omega, by rw [hp, hd, Bool.true_and]⟩
        · omega
        · refine wkR (by omega) rfl rfl ?_
          repeat' (first
    | exact FWk.nil
    | (apply FWk.i; rfl; (first | rfl | omega | (simp; done)))
    | (apply FWk.sl; rfl; rfl; rfl; rfl; omega; rfl)
    | (apply FWk.ptr; rfl; rfl; rfl; omega; rfl)
    | (apply FWk.d; rfl; rfl)
    | (apply FWk.a; rfl; rfl; rfl)
    | (apply FWk.slN; rfl; omega; rfl))
      · rw [hq] at hg hd
        repeat' (first
    | (apply r_mvV; rfl)
    | (apply r_mvP; rfl)
    | (apply r_mvPL; rfl)
    | (apply r_mvS; rfl)
    | (apply r_mvSL; rfl)
    | (apply r_mvA; rfl)
    | (apply r_mvT; rfl)
    | (apply r_mvF; rfl)
    | (apply r_mvD; rfl)
    | (apply r_faddD; rfl)
    | (apply r_faddL; rfl)
    | (apply r_l; apply ld_kind; assumption; rfl)
    | (apply r_l; apply ld_mn; assumption; rfl)
    | (apply r_l; apply ld_mx; assumption; rfl)
    | (apply r_l; apply ld_subs; assumption; rfl)
    | (apply r_l; apply ld_set; assumption; rfl)
    | (apply r_l; apply ld_node; assumption; rfl)
    | (apply r_l; apply ld_kind'; assumption; rfl)
    | (apply r_l; apply ld_mn'; assumption; rfl)
    | (apply r_l; apply ld_mx'; assumption; rfl)
    | (apply r_l; apply ld_subs'; assumption; rfl)
    | (apply r_l; apply ld_node'; assumption; rfl)
    | (apply r_p; apply ix_sub; rfl; rfl; omega)
    | (apply r_callA (ags := [nodeA subs[i]]); rfl; exact hna; exact hg)
    | (apply r_ldL; rfl; rfl; rfl)
    | (apply r_eql; rfl; rfl; (first | (apply decide_eq_true; omega) | (apply decide_eq_false; omega) | rfl))
    | (apply r_lss; rfl; rfl; (first | (apply decide_eq_true; omega) | (apply decide_eq_false; omega) | rfl))
    | (apply r_gtr; rfl; rfl; (first | (apply decide_eq_true; omega) | (apply decide_eq_false; omega) | rfl))
    | (apply r_add; rfl; rfl; rfl; omega)
    | (apply r_not; rfl; rfl)
    | (apply r_pickT; rfl)
    | (apply r_pickF; rfl)
    | (apply r_lenD; rfl)
    | (apply r_lenL; rfl)
    | (apply r_len0; rfl)
    | (apply r_gT; rfl)
    | (apply r_gF'; rfl; rfl)
    | (apply r_gN'; rfl)
    | ((apply r_gS (o := default); rfl) <;> (intro h; try simp only [decide_eq_true_eq, decide_eq_false_iff_not, Bool.not_eq_true, Bool.not_eq_false] at h))
    | (apply r_box; ((conv => lhs; simp only [Nat.reduceAdd]) <;> rfl); rfl; rfl; rfl)
    | (apply r_p; rfl)
    | (apply r_nilK)
    | (apply r_nil)
    | (apply k_V; rfl)
    | (apply k_P; rfl)
    | (apply k_PL; rfl)
    | (apply k_S; rfl)
    | (apply k_SL; rfl)
    | (apply k_A; rfl)
    | (apply k_T; rfl)
    | (apply k_F; rfl)
    | (apply k_D; rfl; rotate_left; rfl)
    | (apply k_nil)
    | (apply e_ret (vs := [.d (.val _)]); rfl)
    | (apply e_ret; rfl)
    | (apply e_ret' (vs := [.d (.val _)]); rfl)
    | (apply e_ret'; rfl)
    | (apply w_seq)
    | (apply w_ops; ((conv => lhs; simp only [Nat.reduceAdd]) <;> rfl))
    | (apply w_condT; rfl)
    | (apply w_condF; rfl)
    | ((apply w_condS; rfl) <;> (intro h; try simp only [decide_eq_true_eq, decide_eq_false_iff_not, Bool.not_eq_true, Bool.not_eq_false] at h))
    | (apply e_thenN)
    | (apply w_block)
    | (apply e_thenR)
    | (apply e_thenX)
    | (apply e_blkN)
    | (apply e_blkR)
    | (apply e_blkE)
    | (apply w_exit)
    | (apply w_ret)
    | (apply w_skip)
    | (apply e_blkE'; rfl))
        exact retB (by rw [hp, hd]; rfl)
    · have e : nnAll subs = true := by rw [hp, List.drop_of_length_le hge, nnAll]
      repeat' (first
    | (apply r_mvV; rfl)
    | (apply r_mvP; rfl)
    | (apply r_mvPL; rfl)
    | (apply r_mvS; rfl)
    | (apply r_mvSL; rfl)
    | (apply r_mvA; rfl)
    | (apply r_mvT; rfl)
    | (apply r_mvF; rfl)
    | (apply r_mvD; rfl)
    | (apply r_faddD; rfl)
    | (apply r_faddL; rfl)
    | (apply r_l; apply ld_kind; assumption; rfl)
    | (apply r_l; apply ld_mn; assumption; rfl)
    | (apply r_l; apply ld_mx; assumption; rfl)
    | (apply r_l; apply ld_subs; assumption; rfl)
    | (apply r_l; apply ld_set; assumption; rfl)
    | (apply r_l; apply ld_node; assumption; rfl)
    | (apply r_l; apply ld_kind'; assumption; rfl)
    | (apply r_l; apply ld_mn'; assumption; rfl)
    | (apply r_l; apply ld_mx'; assumption; rfl)
    | (apply r_l; apply ld_subs'; assumption; rfl)
    | (apply r_l; apply ld_node'; assumption; rfl)
    | (apply r_ldL; rfl; rfl; rfl)
    | (apply r_eql; rfl; rfl; (first | (apply decide_eq_true; omega) | (apply decide_eq_false; omega) | rfl))
    | (apply r_lss; rfl; rfl; (first | (apply decide_eq_true; omega) | (apply decide_eq_false; omega) | rfl))
    | (apply r_gtr; rfl; rfl; (first | (apply decide_eq_true; omega) | (apply decide_eq_false; omega) | rfl))
    | (apply r_add; rfl; rfl; rfl; omega)
    | (apply r_not; rfl; rfl)
    | (apply r_pickT; rfl)
    | (apply r_pickF; rfl)
    | (apply r_lenD; rfl)
    | (apply r_lenL; rfl)
    | (apply r_len0; rfl)
    | (apply r_gT; rfl)
    | (apply r_gF'; rfl; rfl)
    | (apply r_gN'; rfl)
    | ((apply r_gS (o := default); rfl) <;> (intro h; try simp only [decide_eq_true_eq, decide_eq_false_iff_not, Bool.not_eq_true, Bool.not_eq_false] at h))
    | (apply r_box; ((conv => lhs; simp only [Nat.reduceAdd]) <;> rfl); rfl; rfl; rfl)
    | (apply r_p; rfl)
    | (apply r_nilK)
    | (apply r_nil)
    | (apply k_V; rfl)
    | (apply k_P; rfl)
    | (apply k_PL; rfl)
    | (apply k_S; rfl)
    | (apply k_SL; rfl)
    | (apply k_A; rfl)
    | (apply k_T; rfl)
    | (apply k_F; rfl)
    | (apply k_D; rfl; rotate_left; rfl)
    | (apply k_nil)
    | (apply e_ret (vs := [.d (.val _)]); rfl)
    | (apply e_ret; rfl)
    | (apply e_ret' (vs := [.d (.val _)]); rfl)
    | (apply e_ret'; rfl)
    | (apply w_seq)
    | (apply w_ops; ((conv => lhs; simp only [Nat.reduceAdd]) <;> rfl))
    | (apply w_condT; rfl)
    | (apply w_condF; rfl)
    | ((apply w_condS; rfl) <;> (intro h; try simp only [decide_eq_true_eq, decide_eq_false_iff_not, Bool.not_eq_true, Bool.not_eq_false] at h))
    | (apply e_thenN)
    | (apply w_block)
    | (apply e_thenR)
    | (apply e_thenX)
    | (apply e_blkN)
    | (apply e_blkR)
    | (apply e_blkE)
    | (apply w_exit)
    | (apply w_ret)
    | (apply w_skip)
    | (apply e_blkE'; rfl))
      exact retB e.symm
  rw [if_neg h4]
  by_cases h5 : k = 5
  · rw [if_pos h5]
    obtain ⟨u, hu⟩ := hk5 h5
    have hl1 : 0 < subs.length := by rw [hu]; simp
    have hg := ih' 0 hl1
    have hs := NodeAt.sub hl1
    have hu0 : subs[0] = u := by simp [hu]
    rw [hu0] at hg hs
    have en : nnFst subs = nnT u := by rw [hu, nnFst]
    rw [en]
    have hna : [nodeA u].all AV.nrm = true := by rw [List.all_cons, nodeA_nrm]; rfl
    clear hu0 en hu hk5 ih'
    generalize nnT u = q at hg
    by_cases hm : 0 < mn
    · rw [decide_eq_true hm, Bool.true_and]
      refine b51 (by simp) (by simp) (w_init ?_)
      unfold x51
      repeat' (first
    | (apply r_mvV; rfl)
    | (apply r_mvP; rfl)
    | (apply r_mvPL; rfl)
    | (apply r_mvS; rfl)
    | (apply r_mvSL; rfl)
    | (apply r_mvA; rfl)
    | (apply r_mvT; rfl)
    | (apply r_mvF; rfl)
    | (apply r_mvD; rfl)
    | (apply r_faddD; rfl)
    | (apply r_faddL; rfl)
    | (apply r_l; apply ld_kind; assumption; rfl)
    | (apply r_l; apply ld_mn; assumption; rfl)
    | (apply r_l; apply ld_mx; assumption; rfl)
    | (apply r_l; apply ld_subs; assumption; rfl)
    | (apply r_l; apply ld_set; assumption; rfl)
    | (apply r_l; apply ld_node; assumption; rfl)
    | (apply r_l; apply ld_kind'; assumption; rfl)
    | (apply r_l; apply ld_mn'; assumption; rfl)
    | (apply r_l; apply ld_mx'; assumption; rfl)
    | (apply r_l; apply ld_subs'; assumption; rfl)
    | (apply r_l; apply ld_node'; assumption; rfl)
    | (apply r_p (v := .d (.ptr (encL subs) 0)); exact ix_sub0 rfl rfl hl1)
    | (apply r_l; apply ld_node'; exact hs; rfl)
    | (apply r_callA (ags := [nodeA u]); rfl; exact hna; exact hg)
    | (apply r_ldL; rfl; rfl; rfl)
    | (apply r_eql; rfl; rfl; (first | (apply decide_eq_true; omega) | (apply decide_eq_false; omega) | rfl))
    | (apply r_lss; rfl; rfl; (first | (apply decide_eq_true; omega) | (apply decide_eq_false; omega) | rfl))
    | (apply r_gtr; rfl; rfl; (first | (apply decide_eq_true; omega) | (apply decide_eq_false; omega) | rfl))
    | (apply r_add; rfl; rfl; rfl; omega)
    | (apply r_not; rfl; rfl)
    | (apply r_pickT; rfl)
    | (apply r_pickF; rfl)
    | (apply r_lenD; rfl)
    | (apply r_lenL; rfl)
    | (apply r_len0; rfl)
    | (apply r_gT; rfl)
    | (apply r_gF'; rfl; rfl)
    | (apply r_gN'; rfl)
    | ((apply r_gS (o := default); rfl) <;> (intro h; try simp only [decide_eq_true_eq, decide_eq_false_iff_not, Bool.not_eq_true, Bool.not_eq_false] at h))
    | (apply r_box; ((conv => lhs; simp only [Nat.reduceAdd]) <;> rfl); rfl; rfl; rfl)
    | (apply r_p; rfl)
    | (apply r_nilK)
    | (apply r_nil)
    | (apply k_V; rfl)
    | (apply k_P; rfl)
    | (apply k_PL; rfl)
    | (apply k_S; rfl)
    | (apply k_SL; rfl)
    | (apply k_A; rfl)
    | (apply k_T; rfl)
    | (apply k_F; rfl)
    | (apply k_D; rfl; rotate_left; rfl)
    | (apply k_nil)
    | (apply e_ret (vs := [.d (.val _)]); rfl)
    | (apply e_ret; rfl)
    | (apply e_ret' (vs := [.d (.val _)]); rfl)
    | (apply e_ret'; rfl)
    | (apply w_seq)
    | (apply w_ops; ((conv => lhs; simp only [Nat.reduceAdd]) <;> rfl))
    | (apply w_condT; rfl)
    | (apply w_condF; rfl)
    | ((apply w_condS; rfl) <;> (intro h; try simp only [decide_eq_true_eq, decide_eq_false_iff_not, Bool.not_eq_true, Bool.not_eq_false] at h))
    | (apply e_thenN)
    | (apply w_block)
    | (apply e_thenR)
    | (apply e_thenX)
    | (apply e_blkN)
    | (apply e_blkR)
    | (apply e_blkE)
    | (apply w_exit)
    | (apply w_ret)
    | (apply w_skip)
    | (apply e_blkE'; rfl))
      exact retB rfl
    · rw [decide_eq_false hm, Bool.false_and]
      refine b51 (by simp) (by simp) (w_init ?_)
      unfold x51
      repeat' (first
    | (apply r_mvV; rfl)
    | (apply r_mvP; rfl)
    | (apply r_mvPL; rfl)
    | (apply r_mvS; rfl)
    | (apply r_mvSL; rfl)
    | (apply r_mvA; rfl)
    | (apply r_mvT; rfl)
    | (apply r_mvF; rfl)
    | (apply r_mvD; rfl)
    | (apply r_faddD; rfl)
    | (apply r_faddL; rfl)
    | (apply r_l; apply ld_kind; assumption; rfl)
    | (apply r_l; apply ld_mn; assumption; rfl)
    | (apply r_l; apply ld_mx; assumption; rfl)
    | (apply r_l; apply ld_subs; assumption; rfl)
    | (apply r_l; apply ld_set; assumption; rfl)
    | (apply r_l; apply ld_node; assumption; rfl)
    | (apply r_l; apply ld_kind'; assumption; rfl)
    | (apply r_l; apply ld_mn'; assumption; rfl)
    | (apply r_l; apply ld_mx'; assumption; rfl)
    | (apply r_l; apply ld_subs'; assumption; rfl)
    | (apply r_l; apply ld_node'; assumption; rfl)
    | (apply r_ldL; rfl; rfl; rfl)
    | (apply r_eql; rfl; rfl; (first | (apply decide_eq_true; omega) | (apply decide_eq_false; omega) | rfl))
    | (apply r_lss; rfl; rfl; (first | (apply decide_eq_true; omega) | (apply decide_eq_false; omega) | rfl))
    | (apply r_gtr; rfl; rfl; (first | (apply decide_eq_true; omega) | (apply decide_eq_false; omega) | rfl))
    | (apply r_add; rfl; rfl; rfl; omega)
    | (apply r_not; rfl; rfl)
    | (apply r_pickT; rfl)
    | (apply r_pickF; rfl)
    | (apply r_lenD; rfl)
    | (apply r_lenL; rfl)
    | (apply r_len0; rfl)
    | (apply r_gT; rfl)
    | (apply r_gF'; rfl; rfl)
    | (apply r_gN'; rfl)
    | ((apply r_gS (o := default); rfl) <;> (intro h; try simp only [decide_eq_true_eq, decide_eq_false_iff_not, Bool.not_eq_true, Bool.not_eq_false] at h))
    | (apply r_box; ((conv => lhs; simp only [Nat.reduceAdd]) <;> rfl); rfl; rfl; rfl)
    | (apply r_p; rfl)
    | (apply r_nilK)
    | (apply r_nil)
    | (apply k_V; rfl)
    | (apply k_P; rfl)
    | (apply k_PL; rfl)
    | (apply k_S; rfl)
    | (apply k_SL; rfl)
    | (apply k_A; rfl)
    | (apply k_T; rfl)
    | (apply k_F; rfl)
    | (apply k_D; rfl; rotate_left; rfl)
    | (apply k_nil)
    | (apply e_ret (vs := [.d (.val _)]); rfl)
    | (apply e_ret; rfl)
    | (apply e_ret' (vs := [.d (.val _)]); rfl)
    | (apply e_ret'; rfl)
    | (apply w_seq)
    | (apply w_ops; ((conv => lhs; simp only [Nat.reduceAdd]) <;> rfl))
    | (apply w_condT; rfl)
    | (apply w_condF; rfl)
    | ((apply w_condS; rfl) <;> (intro h; try simp only [decide_eq_true_eq, decide_eq_false_iff_not, Bool.not_eq_true, Bool.not_eq_false] at h))
    | (apply e_thenN)
    | (apply w_block)
    | (apply e_thenR)
    | (apply e_thenX)
    | (apply e_blkN)
    | (apply e_blkR)
    | (apply e_blkE)
    | (apply w_exit)
    | (apply w_ret)
    | (apply w_skip)
    | (apply e_blkE'; rfl))
      exact retB rfl
  · rw [if_neg h5]
    refine b51 (by simp) (by simp) (w_init ?_)
    unfold x51
    repeat' (first
    | (apply r_mvV; rfl)
    | (apply r_mvP; rfl)
    | (apply r_mvPL; rfl)
    | (apply r_mvS; rfl)
    | (apply r_mvSL; rfl)
    | (apply r_mvA; rfl)
    | (apply r_mvT; rfl)
    | (apply r_mvF; rfl)
    | (apply r_mvD; rfl)
    | (apply r_faddD; rfl)
    | (apply r_faddL; rfl)
    | (apply r_l; apply ld_kind; assumption; rfl)
    | (apply r_l; apply ld_mn; assumption; rfl)
    | (apply r_l; apply ld_mx; assumption; rfl)
    | (apply r_l; apply ld_subs; assumption; rfl)
    | (apply r_l; apply ld_set; assumption; rfl)
    | (apply r_l; apply ld_node; assumption; rfl)
    | (apply r_l; apply ld_kind'; assumption; rfl)
    | (apply r_l; apply ld_mn'; assumption; rfl)
    | (apply r_l; apply ld_mx'; assumption; rfl)
    | (apply r_l; apply ld_subs'; assumption; rfl)
    | (apply r_l; apply ld_node'; assumption; rfl)
    | (apply r_ldL; rfl; rfl; rfl)
    | (apply r_eql; rfl; rfl; (first | (apply decide_eq_true; omega) | (apply decide_eq_false; omega) | rfl))
    | (apply r_lss; rfl; rfl; (first | (apply decide_eq_true; omega) | (apply decide_eq_false; omega) | rfl))
    | (apply r_gtr; rfl; rfl; (first | (apply decide_eq_true; omega) | (apply decide_eq_false; omega) | rfl))
    | (apply r_add; rfl; rfl; rfl; omega)
    | (apply r_not; rfl; rfl)
    | (apply r_pickT; rfl)
    | (apply r_pickF; rfl)
    | (apply r_lenD; rfl)
    | (apply r_lenL; rfl)
    | (apply r_len0; rfl)
    | (apply r_gT; rfl)
    | (apply r_gF'; rfl; rfl)
    | (apply r_gN'; rfl)
    | ((apply r_gS (o := default); rfl) <;> (intro h; try simp only [decide_eq_true_eq, decide_eq_false_iff_not, Bool.not_eq_true, Bool.not_eq_false] at h))
    | (apply r_box; ((conv => lhs; simp only [Nat.reduceAdd]) <;> rfl); rfl; rfl; rfl)
    | (apply r_p; rfl)
    | (apply r_nilK)
    | (apply r_nil)
    | (apply k_V; rfl)
    | (apply k_P; rfl)
    | (apply k_PL; rfl)
    | (apply k_S; rfl)
    | (apply k_SL; rfl)
    | (apply k_A; rfl)
    | (apply k_T; rfl)
    | (apply k_F; rfl)
    | (apply k_D; rfl; rotate_left; rfl)
    | (apply k_nil)
    | (apply e_ret (vs := [.d (.val _)]); rfl)
    | (apply e_ret; rfl)
    | (apply e_ret' (vs := [.d (.val _)]); rfl)
    | (apply e_ret'; rfl)
    | (apply w_seq)
    | (apply w_ops; ((conv => lhs; simp only [Nat.reduceAdd]) <;> rfl))
    | (apply w_condT; rfl)
    | (apply w_condF; rfl)
    | ((apply w_condS; rfl) <;> (intro h; try simp only [decide_eq_true_eq, decide_eq_false_iff_not, Bool.not_eq_true, Bool.not_eq_false] at h))
    | (apply e_thenN)
    | (apply w_block)
    | (apply e_thenR)
    | (apply e_thenX)
    | (apply e_blkN)
    | (apply e_blkR)
    | (apply e_blkE)
    | (apply w_exit)
    | (apply w_ret)
    | (apply w_skip)
    | (apply e_blkE'; rfl))
    exact retB rfl
def Joined (a b p : List Bool) (D : Nat → Nat → Prop) : Prop := p.length = a.length ∧ ∀ n, n < a.length → (At p n ↔ ∃ i k, D i k ∧ i + k = n ∧ At a i ∧ At b k)
theorem join98_good (a b : List Bool) {m : Nat} (ha : a.length = m) (hb : b.length = m) (hm : m ≤ 1000000) : Good Try.prog 98 [.d (.sl (encB a) m), .d (.sl (encB b) m)] none (.d (.sl (encB (joinB a b)) m)) none none := by
  refine b98 (by simp) (by simp) (w_init ?_)
  unfold x98
  repeat' (first
    | (apply r_mvV; rfl)
    | (apply r_mvP; rfl)
    | (apply r_mvPL; rfl)
    | (apply r_mvS; rfl)
    | (apply r_mvSL; rfl)
    | (apply r_mvA; rfl)
    | (apply r_mvT; rfl)
    | (apply r_mvF; rfl)
    | (apply r_mvD; rfl)
    | (apply r_mksB (m := m); rfl; rfl; rfl; rfl; omega)
    | (apply r_ldL; rfl; rfl; rfl)
    | (apply r_lss; rfl; rfl; (first | (apply decide_eq_true; omega) | (apply decide_eq_false; omega) | rfl))
    | (apply r_add; rfl; rfl; rfl; omega)
    | (apply r_pickT; rfl)
    | (apply r_pickF; rfl)
    | (apply r_lenD; rfl)
    | (apply r_lenL; rfl)
    | (apply r_len0; rfl)
    | (apply r_gT; rfl)
    | (apply r_gF'; rfl; rfl)
    | (apply r_gN'; rfl)
    | ((apply r_gS (o := default); rfl) <;> (intro h; try simp only [decide_eq_true_eq, decide_eq_false_iff_not, Bool.not_eq_true, Bool.not_eq_false] at h))
    | (apply r_stL; rfl; rfl; rfl; rfl; (first | rfl | (simp only [z_nil, z_add] <;> rfl)); rfl; rfl)
    | (apply r_p; rfl)
    | (apply r_nilK)
    | (apply r_nil)
    | (apply k_V; rfl)
    | (apply k_P; rfl)
    | (apply k_PL; rfl)
    | (apply k_S; rfl)
    | (apply k_SL; rfl)
    | (apply k_A; rfl)
    | (apply k_T; rfl)
    | (apply k_F; rfl)
    | (apply k_D; rfl; rotate_left; rfl)
    | (apply k_nil)
    | (apply e_ret (vs := [.d (.val _)]); rfl)
    | (apply e_ret; rfl)
    | (apply e_ret' (vs := [.d (.val _)]); rfl)
    | (apply e_ret'; rfl)
    | (apply w_seq)
    | (apply w_ops; ((conv => lhs; simp only [Nat.reduceAdd]) <;> rfl))
    | (apply w_condT; rfl)
    | (apply w_condF; rfl)
    | ((apply w_condS; rfl) <;> (intro h; try simp only [decide_eq_true_eq, decide_eq_false_iff_not, Bool.not_eq_true, Bool.not_eq_false] at h))
    | (apply e_thenN)
    | (apply w_block)
    | (apply e_thenR)
    | (apply e_thenX)
    | (apply e_blkN)
    | (apply e_blkR)
    | (apply e_blkE)
    | (apply w_exit)
    | (apply w_ret)
    | (apply w_skip)
    | (apply e_blkE'; rfl))
  apply w_loopI (ι := Nat × List Bool) (S := fun q => ⟨(((Fr.nil.put 0 (.d (.sl (encB a) m))).put 1 (.d (.sl (encB b) m))).put 5 (.slL 50 0 m 1)).put 6 (.i q.1), rowsOf [(50, (encB q.2).map AV.d)], Frz.buts 100 [50], 100⟩) (m := fun q => m - q.1) (I := fun q => q.1 ≤ m ∧ Joined a b q.2 (fun i k => i < q.1)) (i0 := (0, List.replicate m false))
  · refine ⟨Nat.zero_le _, by simp [ha], fun n hn => ⟨fun h => absurd h (at_rep _ _), ?_⟩⟩
    rintro ⟨i, k, h, _⟩
    dsimp only at h
    omega
  · dsimp only
    refine wkM [(50, 4)] [] rfl ?_ ?_ rfl ?_
    · intro p hp
      simp only [List.mem_cons, List.not_mem_nil, or_false] at hp
      rcases hp with rfl
      exact ⟨by omega, .inr ⟨rfl, _, rfl, .data encB_isD⟩⟩
    · intro q hq; simp only [List.mem_cons, List.not_mem_nil, or_false] at hq; rcases hq with rfl <;> rfl
    · repeat' (first
    | exact FWk.nil
    | (apply FWk.i; rfl; (first | rfl | omega | (simp; done)))
    | (apply FWk.sl; rfl; rfl; rfl; rfl; omega; rfl)
    | (apply FWk.ptr; rfl; rfl; rfl; omega; rfl)
    | (apply FWk.d; rfl; rfl)
    | (apply FWk.a; rfl; rfl; rfl)
    | (apply FWk.slN; rfl; omega; rfl))
  rintro ⟨i, p⟩ K ⟨hi, hj⟩ hK
  dsimp only at hi hj hK ⊢
  rcases Nat.lt_or_ge i m with hlt | hge
  · repeat' (first
    | (apply r_mvV; rfl)
    | (apply r_mvP; rfl)
    | (apply r_mvPL; rfl)
    | (apply r_mvS; rfl)
    | (apply r_mvSL; rfl)
    | (apply r_mvA; rfl)
    | (apply r_mvT; rfl)
    | (apply r_mvF; rfl)
    | (apply r_mvD; rfl)
    | (apply r_ldL; rfl; rfl; rfl)
    | (apply r_lss; rfl; rfl; (first | (apply decide_eq_true; omega) | (apply decide_eq_false; omega) | rfl))
    | (apply r_add; rfl; rfl; rfl; omega)
    | (apply r_pickT; rfl)
    | (apply r_pickF; rfl)
    | (apply r_lenD; rfl)
    | (apply r_lenL; rfl)
    | (apply r_len0; rfl)
    | (apply r_gT; rfl)
    | (apply r_gF'; rfl; rfl)
    | (apply r_gN'; rfl)
    | ((apply r_gS (o := default); rfl) <;> (intro h; try simp only [decide_eq_true_eq, decide_eq_false_iff_not, Bool.not_eq_true, Bool.not_eq_false] at h))
    | (apply r_stL; rfl; rfl; rfl; rfl; (first | rfl | (simp only [z_nil, z_add] <;> rfl)); rfl; rfl)
    | (apply r_p; rfl)
    | (apply r_nilK)
    | (apply r_nil)
    | (apply k_V; rfl)
    | (apply k_P; rfl)
    | (apply k_PL; rfl)
    | (apply k_S; rfl)
    | (apply k_SL; rfl)
    | (apply k_A; rfl)
    | (apply k_T; rfl)
    | (apply k_F; rfl)
    | (apply k_D; rfl; rotate_left; rfl)
    | (apply k_nil)
    | (apply e_ret (vs := [.d (.val _)]); rfl)
    | (apply e_ret; rfl)
    | (apply e_ret' (vs := [.d (.val _)]); rfl)
    | (apply e_ret'; rfl)
    | (apply w_seq)
    | (apply w_ops; ((conv => lhs; simp only [Nat.reduceAdd]) <;> rfl))
    | (apply w_condT; rfl)
    | (apply w_condF; rfl)
    | ((apply w_condS; rfl) <;> (intro h; try simp only [decide_eq_true_eq, decide_eq_false_iff_not, Bool.not_eq_true, Bool.not_eq_false] at h))
    | (apply e_thenN)
    | (apply w_block)
    | (apply e_thenR)
    | (apply e_thenX)
    | (apply e_blkN)
    | (apply e_blkR)
    | (apply e_blkE)
    | (apply w_exit)
    | (apply w_ret)
    | (apply w_skip)
    | (apply e_blkE'; rfl))
    apply w_loopI (ι := Nat × List Bool) (S := fun q => ⟨((((Fr.nil.put 0 (.d (.sl (encB a) m))).put 1 (.d (.sl (encB b) m))).put 5 (.slL 50 0 m 1)).put 6 (.i i)).put 7 (.i q.1), rowsOf [(50, (encB q.2).map AV.d)], Frz.buts 200 [50], 200⟩) (m := fun q => m - q.1) (I := fun q => i + q.1 ≤ m ∧ Joined a b q.2 (fun i' k' => i' < i ∨ (i' = i ∧ k' < q.1))) (i0 := (0, p))
    · refine ⟨by dsimp only; omega, hj.1, fun n hn => ?_⟩
      rw [hj.2 n hn]
      dsimp only
      constructor
      · rintro ⟨i', k', h1, h2⟩; exact ⟨i', k', .inl h1, h2⟩
      · rintro ⟨i', k', h1 | h1, h2⟩
        · exact ⟨i', k', h1, h2⟩
        · omega
    · refine wkM [] [] rfl ?_ ?_ rfl ?_
      · intro p hp
        simp only [List.mem_cons, List.not_mem_nil, or_false] at hp
        rcases hp with rfl
        exact ⟨by omega, .inr ⟨rfl, _, rfl, .data encB_isD⟩⟩
      · intro q hq; simp only [List.mem_cons, List.not_mem_nil, or_false] at hq; rcases hq with rfl <;> rfl
      · dsimp only
        repeat' (first
    | exact FWk.nil
    | (apply FWk.i; rfl; (first | rfl | omega | (simp; done)))
    | (apply FWk.sl; rfl; rfl; rfl; rfl; omega; rfl)
    | (apply FWk.ptr; rfl; rfl; rfl; omega; rfl)
    | (apply FWk.d; rfl; rfl)
    | (apply FWk.a; rfl; rfl; rfl)
    | (apply FWk.slN; rfl; omega; rfl))
    rintro ⟨k, p2⟩ K2 ⟨hik, hj2⟩ hK2
    dsimp only at hik hj2 hK2 ⊢
    rcases Nat.lt_or_ge (i + k) m with hlk | hgk
    · have hpl : p2.length = m := hj2.1.trans ha
      have hgp : p2[i + k]? = some (p2.getD (i + k) false) := by rw [List.getD_eq_getElem?_getD, List.getElem?_eq_getElem (by omega)]; rfl
      have hga : a[i]? = some (a.getD i false) := by rw [List.getD_eq_getElem?_getD, List.getElem?_eq_getElem (by omega)]; rfl
      have hgb : b[k]? = some (b.getD k false) := by rw [List.getD_eq_getElem?_getD, List.getElem?_eq_getElem (by omega)]; rfl
      have fin : ∀ v fr C Z nx, v = (p2.getD (i + k) false || a.getD i false && b.getD k false) → Wk ⟨fr, C, Z, nx⟩ ⟨((((Fr.nil.put 0 (.d (.sl (encB a) m))).put 1 (.d (.sl (encB b) m))).put 5 (.slL 50 0 m 1)).put 6 (.i i)).put 7 (.i ((k + 1 : Nat) : Int)), rowsOf [(50, (encB (p2.set (i + k) v)).map AV.d)], Frz.buts 200 [50], 200⟩ → K2 ⟨fr, C, Z, nx⟩ := by
        intro v fr C Z nx hv hw
        refine hK2 (k + 1, p2.set (i + k) v) fr C Z nx ⟨by dsimp only; omega, by dsimp only; rw [List.length_set]; exact hj2.1, fun n hn => ?_⟩ (by dsimp only; omega) hw
        dsimp only
        rw [at_set n (by omega), hj2.2 n hn]
        have hv2 : v = true ↔ (At p2 (i + k) ∨ (At a i ∧ At b k)) := by
          rw [hv]; simp [At]
        rw [hv2]
        constructor
        · rintro (⟨rfl, h | ⟨h1, h2⟩⟩ | ⟨hne, i', k', h1, h2, h3⟩)
          · rw [hj2.2 _ hn] at h
            obtain ⟨i', k', h1, h2⟩ := h
            exact ⟨i', k', by omega, h2⟩
          · exact ⟨i, k, .inr ⟨rfl, by omega⟩, rfl, h1, h2⟩
          · exact ⟨i', k', by omega, h2, h3⟩
        · rintro ⟨i', k', h1, h2, h3, h4⟩
          by_cases hn2 : n = i + k
          · left
            refine ⟨hn2, ?_⟩
            by_cases he : i' = i
            · subst he
              have : k' = k := by omega
              subst this
              exact .inr ⟨h3, h4⟩
            · left
              rw [hj2.2 _ (by omega)]
              exact ⟨i', k', by omega, by omega, h3, h4⟩
          · exact .inr ⟨hn2, i', k', by omega, h2, h3, h4⟩
      generalize hv1 : p2.getD (i + k) false = v1 at hgp fin
      generalize a.getD i false = v2 at hga fin
      generalize b.getD k false = v3 at hgb fin
      cases v1 <;> cases v2
      all_goals
        repeat' (first
    | (apply r_mvV; rfl)
    | (apply r_mvP; rfl)
    | (apply r_mvPL; rfl)
    | (apply r_mvS; rfl)
    | (apply r_mvSL; rfl)
    | (apply r_mvA; rfl)
    | (apply r_mvT; rfl)
    | (apply r_mvF; rfl)
    | (apply r_mvD; rfl)
    | (apply r_ixL (j := i + k); rfl; ((conv => lhs; simp only [Nat.reduceAdd]) <;> rfl); omega)
    | (apply r_ldBL (j := i + k); rfl; rfl; exact hgp)
    | (apply r_ixB' (j := i); rfl; rfl; exact hlt; exact ha)
    | (apply r_ldB (j := i); rfl; exact hga)
    | (apply r_ixB' (j := k); rfl; rfl; omega; exact hb)
    | (apply r_ldB (j := k); rfl; exact hgb)
    | (apply r_stB (j := i + k); rfl; rfl; rfl; rfl; omega)
    | (apply r_ldL; rfl; rfl; rfl)
    | (apply r_lss; rfl; rfl; (first | (apply decide_eq_true; omega) | (apply decide_eq_false; omega) | rfl))
    | (apply r_add; rfl; rfl; rfl; omega)
    | (apply r_pickT; rfl)
    | (apply r_pickF; rfl)
    | (apply r_lenD; rfl)
    | (apply r_lenL; rfl)
    | (apply r_len0; rfl)
    | (apply r_gT; rfl)
    | (apply r_gF'; rfl; rfl)
    | (apply r_gN'; rfl)
    | ((apply r_gS (o := default); rfl) <;> (intro h; try simp only [decide_eq_true_eq, decide_eq_false_iff_not, Bool.not_eq_true, Bool.not_eq_false] at h))
    | (apply r_stL; rfl; rfl; rfl; rfl; (first | rfl | (simp only [z_nil, z_add] <;> rfl)); rfl; rfl)
    | (apply r_p; rfl)
    | (apply r_nilK)
    | (apply r_nil)
    | (apply k_V; rfl)
    | (apply k_P; rfl)
    | (apply k_PL; rfl)
    | (apply k_S; rfl)
    | (apply k_SL; rfl)
    | (apply k_A; rfl)
    | (apply k_T; rfl)
    | (apply k_F; rfl)
    | (apply k_D; rfl; rotate_left; rfl)
    | (apply k_nil)
    | (apply e_ret (vs := [.d (.val _)]); rfl)
    | (apply e_ret; rfl)
    | (apply e_ret' (vs := [.d (.val _)]); rfl)
    | (apply e_ret'; rfl)
    | (apply w_seq)
    | (apply w_ops; ((conv => lhs; simp only [Nat.reduceAdd]) <;> rfl))
    | (apply w_condT; rfl)
    | (apply w_condF; rfl)
    | ((apply w_condS; rfl) <;> (intro h; try simp only [decide_eq_true_eq, decide_eq_false_iff_not, Bool.not_eq_true, Bool.not_eq_false] at h))
    | (apply e_thenN)
    | (apply w_block)
    | (apply e_thenR)
    | (apply e_thenX)
    | (apply e_blkN)
    | (apply e_blkR)
    | (apply e_blkE)
    | (apply w_exit)
    | (apply w_ret)
    | (apply w_skip)
    | (apply e_blkE'; rfl))
        apply e_thenK
        refine fin _ _ _ _ _ (by first | rfl | simp) ?_
        refine wkM [] [] rfl ?_ ?_ rfl ?_
        · intro p hp
          simp only [List.mem_cons, List.not_mem_nil, or_false] at hp
          rcases hp with rfl
          exact ⟨by omega, .inr ⟨rfl, _, rfl, .data encB_isD⟩⟩
        · intro q hq; simp only [List.mem_cons, List.not_mem_nil, or_false] at hq; rcases hq with rfl <;> rfl
        · repeat' (first
    | exact FWk.nil
    | (apply FWk.i; rfl; (first | rfl | omega | (simp; done)))
    | (apply FWk.sl; rfl; rfl; rfl; rfl; omega; rfl)
    | (apply FWk.ptr; rfl; rfl; rfl; omega; rfl)
    | (apply FWk.d; rfl; rfl)
    | (apply FWk.a; rfl; rfl; rfl)
    | (apply FWk.slN; rfl; omega; rfl))
    · repeat' (first
    | (apply r_mvV; rfl)
    | (apply r_mvP; rfl)
    | (apply r_mvPL; rfl)
    | (apply r_mvS; rfl)
    | (apply r_mvSL; rfl)
    | (apply r_mvA; rfl)
    | (apply r_mvT; rfl)
    | (apply r_mvF; rfl)
    | (apply r_mvD; rfl)
    | (apply r_ldL; rfl; rfl; rfl)
    | (apply r_lss; rfl; rfl; (first | (apply decide_eq_true; omega) | (apply decide_eq_false; omega) | rfl))
    | (apply r_add; rfl; rfl; rfl; omega)
    | (apply r_pickT; rfl)
    | (apply r_pickF; rfl)
    | (apply r_lenD; rfl)
    | (apply r_lenL; rfl)
    | (apply r_len0; rfl)
    | (apply r_gT; rfl)
    | (apply r_gF'; rfl; rfl)
    | (apply r_gN'; rfl)
    | ((apply r_gS (o := default); rfl) <;> (intro h; try simp only [decide_eq_true_eq, decide_eq_false_iff_not, Bool.not_eq_true, Bool.not_eq_false] at h))
    | (apply r_stL; rfl; rfl; rfl; rfl; (first | rfl | (simp only [z_nil, z_add] <;> rfl)); rfl; rfl)
    | (apply r_p; rfl)
    | (apply r_nilK)
    | (apply r_nil)
    | (apply k_V; rfl)
    | (apply k_P; rfl)
    | (apply k_PL; rfl)
    | (apply k_S; rfl)
    | (apply k_SL; rfl)
    | (apply k_A; rfl)
    | (apply k_T; rfl)
    | (apply k_F; rfl)
    | (apply k_D; rfl; rotate_left; rfl)
    | (apply k_nil)
    | (apply e_ret (vs := [.d (.val _)]); rfl)
    | (apply e_ret; rfl)
    | (apply e_ret' (vs := [.d (.val _)]); rfl)
    | (apply e_ret'; rfl)
    | (apply w_seq)
    | (apply w_ops; ((conv => lhs; simp only [Nat.reduceAdd]) <;> rfl))
    | (apply w_condT; rfl)
    | (apply w_condF; rfl)
    | ((apply w_condS; rfl) <;> (intro h; try simp only [decide_eq_true_eq, decide_eq_false_iff_not, Bool.not_eq_true, Bool.not_eq_false] at h))
    | (apply e_thenN)
    | (apply w_block)
    | (apply e_thenR)
    | (apply e_thenX)
    | (apply e_blkN)
    | (apply e_blkR)
    | (apply e_blkE)
    | (apply w_exit)
    | (apply w_ret)
    | (apply w_skip)
    | (apply e_blkE'; rfl))
      apply e_thenK
      apply hK (i + 1, p2)
      · refine ⟨by dsimp only; omega, hj2.1, fun n hn => ?_⟩
        rw [hj2.2 n hn]
        dsimp only
        constructor
        · rintro ⟨i', k', h1, h2, h3, h4⟩; exact ⟨i', k', by omega, h2, h3, h4⟩
        · rintro ⟨i', k', h1, h2, h3, h4⟩
          have := h4.lt
          exact ⟨i', k', by omega, h2, h3, h4⟩
      · dsimp only; omega
      · refine wkM [] [] rfl ?_ ?_ rfl ?_
        · intro p hp
          simp only [List.mem_cons, List.not_mem_nil, or_false] at hp
          rcases hp with rfl
          exact ⟨by omega, .inr ⟨rfl, _, rfl, .data encB_isD⟩⟩
        · intro q hq; simp only [List.mem_cons, List.not_mem_nil, or_false] at hq; rcases hq with rfl <;> rfl
        · repeat' (first
    | exact FWk.nil
    | (apply FWk.i; rfl; (first | rfl | omega | (simp; done)))
    | (apply FWk.sl; rfl; rfl; rfl; rfl; omega; rfl)
    | (apply FWk.ptr; rfl; rfl; rfl; omega; rfl)
    | (apply FWk.d; rfl; rfl)
    | (apply FWk.a; rfl; rfl; rfl)
    | (apply FWk.slN; rfl; omega; rfl))
  · have e : p = joinB a b := by
      refine joinB_eq hj.1 fun n hn => ?_
      rw [hj.2 n hn]
      constructor
      · rintro ⟨i', k', h1, rfl, h3, h4⟩; exact ⟨i', by omega, h3, by rw [Nat.add_sub_cancel_left]; exact h4⟩
      · rintro ⟨i', h1, h3, h4⟩
        have := h3.lt
        exact ⟨i', n - i', by omega, by omega, h3, h4⟩
    repeat' (first
    | (apply r_mvV; rfl)
    | (apply r_mvP; rfl)
    | (apply r_mvPL; rfl)
    | (apply r_mvS; rfl)
    | (apply r_mvSL; rfl)
    | (apply r_mvA; rfl)
    | (apply r_mvT; rfl)
    | (apply r_mvF; rfl)
    | (apply r_mvD; rfl)
    | (apply r_ldL; rfl; rfl; rfl)
    | (apply r_lss; rfl; rfl; (first | (apply decide_eq_true; omega) | (apply decide_eq_false; omega) | rfl))
    | (apply r_add; rfl; rfl; rfl; omega)
    | (apply r_pickT; rfl)
    | (apply r_pickF; rfl)
    | (apply r_lenD; rfl)
    | (apply r_lenL; rfl)
    | (apply r_len0; rfl)
    | (apply r_gT; rfl)
    | (apply r_gF'; rfl; rfl)
    | (apply r_gN'; rfl)
    | ((apply r_gS (o := default); rfl) <;> (intro h; try simp only [decide_eq_true_eq, decide_eq_false_iff_not, Bool.not_eq_true, Bool.not_eq_false] at h))
    | (apply r_stL; rfl; rfl; rfl; rfl; (first | rfl | (simp only [z_nil, z_add] <;> rfl)); rfl; rfl)
    | (apply r_p; rfl)
    | (apply r_nilK)
    | (apply r_nil)
    | (apply k_V; rfl)
    | (apply k_P; rfl)
    | (apply k_PL; rfl)
    | (apply k_S; rfl)
    | (apply k_SL; rfl)
    | (apply k_A; rfl)
    | (apply k_T; rfl)
    | (apply k_F; rfl)
    | (apply k_D; rfl; rotate_left; rfl)
    | (apply k_nil)
    | (apply e_ret (vs := [.d (.val _)]); rfl)
    | (apply e_ret; rfl)
    | (apply e_ret' (vs := [.d (.val _)]); rfl)
    | (apply e_ret'; rfl)
    | (apply w_seq)
    | (apply w_ops; ((conv => lhs; simp only [Nat.reduceAdd]) <;> rfl))
    | (apply w_condT; rfl)
    | (apply w_condF; rfl)
    | ((apply w_condS; rfl) <;> (intro h; try simp only [decide_eq_true_eq, decide_eq_false_iff_not, Bool.not_eq_true, Bool.not_eq_false] at h))
    | (apply e_thenN)
    | (apply w_block)
    | (apply e_thenR)
    | (apply e_thenX)
    | (apply e_blkN)
    | (apply e_blkR)
    | (apply e_blkE)
    | (apply w_exit)
    | (apply w_ret)
    | (apply w_skip)
    | (apply e_blkE'; rfl))
    rcases Nat.eq_zero_or_pos m with h0 | h0
    · subst h0
      have hpe : p = [] := List.length_eq_zero_iff.1 (hj.1.trans ha)
      rw [← e, hpe]
      exact .data _ rfl
    · rw [← e]
      exact retSB rfl (hj.1.trans ha)
end Go.Sv
namespace Go.Sv
open Go Go.Proofs
def x49 : XC := (.seq (.ops 2 [
    (0, ⟨(some 2), none, .box (.t 0)⟩),
    (1, ⟨(some 4), none, .mv (.k (.d (.val (.slice none 0 0))))⟩)] (some [1, 2])) (.seq (.ops 4 [
    (0, ⟨(some 15), none, .mv (.t 1)⟩),
    (1, ⟨(some 16), none, .arith .add (.t 15) (.k (.d (.val (.int .i64 1))))⟩),
    (2, ⟨(some 17), none, .mks [(.bool false)] 1 (.t 16) (.t 16)⟩),
    (3, ⟨(some 5), none, .mv (.t 17)⟩)] (some [1, 2, 5])) (.seq (.seq (.ops 2 [
    (0, ⟨(some 18), none, .fadd 0 (.t 2)⟩),
    (1, ⟨(some 19), none, .load none (.t 18)⟩)] (some [1, 2, 5, 19])) (.block 0 (.seq (.ops 2 [
    (0, ⟨(some 21), none, .arith .eql (.t 19) (.k (.d (.val (.int .i64 1))))⟩),
    (1, ⟨(some 20), none, .mv (.t 21)⟩)] (some [1, 2, 5, 19, 20])) (.cond (.t 20) (.ops 3 [
    (0, ⟨(some 22), none, .mv (.t 5)⟩),
    (1, ⟨(some 23), none, .idxS 1 (.t 22) (.k (.d (.val (.int .i64 0))))⟩),
    (2, ⟨none, none, .store 1 (.t 23) (.k (.d (.val (.bool true))))⟩)] (some [5])) (.seq (.ops 2 [
    (0, ⟨(some 25), none, .arith .eql (.t 19) (.k (.d (.val (.int .i64 2))))⟩),
    (1, ⟨(some 24), none, .mv (.t 25)⟩)] (some [1, 2, 5, 19, 24])) (.cond (.t 24) (.seq (.ops 2 [
    (0, ⟨(some 26), none, .mv (.t 1)⟩),
    (1, ⟨(some 27), none, .arith .geq (.t 26) (.k (.d (.val (.int .i64 1))))⟩)] (some [2, 5, 27])) (.cond (.t 27) (.ops 7 [
    (0, ⟨(some 28), none, .mv (.t 5)⟩),
    (1, ⟨(some 29), none, .fadd 1 (.t 2)⟩),
    (2, ⟨(some 30), none, .load (some 4) (.t 29)⟩),
    (3, ⟨(some 31), none, .build [(.int .u64 0), (.int .u64 0), (.int .u64 0), (.int .u64 0)] []⟩),
    (4, ⟨(some 32), none, .eqAgg 4 true (.t 30) (.t 31)⟩),
    (5, ⟨(some 33), none, .idxS 1 (.t 28) (.k (.d (.val (.int .i64 1))))⟩),
    (6, ⟨none, none, .store 1 (.t 33) (.t 32)⟩)] (some [5])) .skip)) (.seq (.ops 2 [
    (0, ⟨(some 35), none, .arith .eql (.t 19) (.k (.d (.val (.int .i64 3))))⟩),
    (1, ⟨(some 34), none, .mv (.t 35)⟩)] (some [1, 2, 5, 19, 34])) (.cond (.t 34) (.seq (.ops 3 [
    (0, ⟨(some 36), none, .mv (.t 5)⟩),
    (1, ⟨(some 37), none, .idxS 1 (.t 36) (.k (.d (.val (.int .i64 0))))⟩),
    (2, ⟨none, none, .store 1 (.t 37) (.k (.d (.val (.bool true))))⟩)] (some [1, 2, 5])) (.seq (.ops 1 [
    (0, ⟨(some 6), none, .mv (.k (.d (.val (.int .i64 0))))⟩)] (some [1, 2, 5, 6])) (.block 1 (.loop (.seq (.seq (.ops 5 [
    (0, ⟨(some 38), none, .mv (.t 6)⟩),
    (1, ⟨(some 39), none, .fadd 7 (.t 2)⟩),
    (2, ⟨(some 40), none, .load none (.t 39)⟩),
    (3, ⟨(some 41), none, .lenS (.t 40)⟩),
    (4, ⟨(some 42), none, .arith .lss (.t 38) (.t 41)⟩)] (some [1, 2, 5, 6, 42])) (.cond (.t 42) .skip (.exit 1))) (.seq (.block 2 (.ops 10 [
    (0, ⟨(some 45), none, .mv (.t 5)⟩),
    (1, ⟨(some 46), none, .fadd 7 (.t 2)⟩),
    (2, ⟨(some 47), none, .load none (.t 46)⟩),
    (3, ⟨(some 48), none, .mv (.t 6)⟩),
    (4, ⟨(some 49), none, .idxS 8 (.t 47) (.t 48)⟩),
    (5, ⟨(some 50), none, .load (some 8) (.t 49)⟩),
    (6, ⟨(some 51), none, .mv (.t 1)⟩),
    (7, ⟨(some 52), none, .call 49 [(.t 50), (.t 51)] none false⟩),
    (8, ⟨(some 53), none, .call 98 [(.t 45), (.t 52)] none false⟩),
    (9, ⟨(some 5), none, .mv (.t 53)⟩)] (some [1, 2, 5, 6]))) (.ops 3 [
    (0, ⟨(some 43), none, .mv (.t 6)⟩),
    (1, ⟨(some 44), none, .arith .add (.t 43) (.k (.d (.val (.int .i64 1))))⟩),
    (2, ⟨(some 6), none, .mv (.t 44)⟩)] (some [1, 2, 5, 6])))))))) (.seq (.ops 2 [
    (0, ⟨(some 55), none, .arith .eql (.t 19) (.k (.d (.val (.int .i64 4))))⟩),
    (1, ⟨(some 54), none, .mv (.t 55)⟩)] (some [1, 2, 5, 19, 54])) (.cond (.t 54) (.seq (.ops 1 [
    (0, ⟨(some 7), none, .mv (.k (.d (.val (.int .i64 0))))⟩)] (some [1, 2, 5, 7])) (.block 3 (.loop (.seq (.seq (.ops 5 [
    (0, ⟨(some 56), none, .mv (.t 7)⟩),
    (1, ⟨(some 57), none, .fadd 7 (.t 2)⟩),
    (2, ⟨(some 58), none, .load none (.t 57)⟩),
    (3, ⟨(some 59), none, .lenS (.t 58)⟩),
    (4, ⟨(some 60), none, .arith .lss (.t 56) (.t 59)⟩)] (some [1, 2, 5, 7, 60])) (.cond (.t 60) .skip (.exit 3))) (.seq (.block 4 (.seq (.ops 8 [
    (0, ⟨(some 63), none, .fadd 7 (.t 2)⟩),
    (1, ⟨(some 64), none, .load none (.t 63)⟩),
    (2, ⟨(some 65), none, .mv (.t 7)⟩),
    (3, ⟨(some 66), none, .idxS 8 (.t 64) (.t 65)⟩),
    (4, ⟨(some 67), none, .load (some 8) (.t 66)⟩),
    (5, ⟨(some 68), none, .mv (.t 1)⟩),
    (6, ⟨(some 69), none, .call 49 [(.t 67), (.t 68)] none false⟩),
    (7, ⟨(some 8), none, .mv (.t 69)⟩)] (some [1, 2, 5, 7, 8])) (.seq (.ops 1 [
    (0, ⟨(some 9), none, .mv (.k (.d (.val (.int .i64 0))))⟩)] (some [1, 2, 5, 7, 8, 9])) (.block 5 (.loop (.seq (.seq (.ops 3 [
    (0, ⟨(some 70), none, .mv (.t 9)⟩),
    (1, ⟨(some 71), none, .mv (.t 1)⟩),
    (2, ⟨(some 72), none, .arith .leq (.t 70) (.t 71)⟩)] (some [1, 2, 5, 7, 8, 9, 72])) (.cond (.t 72) .skip (.exit 5))) (.seq (.block 6 (.ops 14 [
    (0, ⟨(some 75), none, .mv (.t 5)⟩),
    (1, ⟨(some 76), none, .mv (.t 9)⟩),
    (2, ⟨(some 77), none, .mv (.t 5)⟩),
    (3, ⟨(some 78), none, .mv (.t 9)⟩),
    (4, ⟨(some 79), none, .idxS 1 (.t 77) (.t 78)⟩),
    (5, ⟨(some 80), none, .load none (.t 79)⟩),
    (6, ⟨(some 81), none, .mv (.t 80)⟩),
    (7, ⟨(some 82), (some (81, false)), .mv (.t 8)⟩),
    (8, ⟨(some 83), (some (81, false)), .mv (.t 9)⟩),
    (9, ⟨(some 84), (some (81, false)), .idxS 1 (.t 82) (.t 83)⟩),
    (10, ⟨(some 85), (some (81, false)), .load none (.t 84)⟩),
    (11, ⟨(some 86), none, .pick (.t 81) (.k (.d (.val (.bool true)))) (.t 85)⟩),
    (12, ⟨(some 87), none, .idxS 1 (.t 75) (.t 76)⟩),
    (13, ⟨none, none, .store 1 (.t 87) (.t 86)⟩)] (some [1, 2, 5, 7, 8, 9]))) (.ops 3 [
    (0, ⟨(some 73), none, .mv (.t 9)⟩),
    (1, ⟨(some 74), none, .arith .add (.t 73) (.k (.d (.val (.int .i64 1))))⟩),
    (2, ⟨(some 9), none, .mv (.t 74)⟩)] (some [1, 2, 5, 7, 8, 9]))))))))) (.ops 3 [
    (0, ⟨(some 61), none, .mv (.t 7)⟩),
    (1, ⟨(some 62), none, .arith .add (.t 61) (.k (.d (.val (.int .i64 1))))⟩),
    (2, ⟨(some 7), none, .mv (.t 62)⟩)] (some [1, 2, 5, 7]))))))) (.seq (.ops 2 [
    (0, ⟨(some 89), none, .arith .eql (.t 19) (.k (.d (.val (.int .i64 5))))⟩),
    (1, ⟨(some 88), none, .mv (.t 89)⟩)] (some [1, 2, 5, 88])) (.cond (.t 88) (.seq (.ops 7 [
    (0, ⟨(some 90), none, .fadd 7 (.t 2)⟩),
    (1, ⟨(some 91), none, .load none (.t 90)⟩),
    (2, ⟨(some 92), none, .idxS 8 (.t 91) (.k (.d (.val (.int .i64 0))))⟩),
    (3, ⟨(some 93), none, .load (some 8) (.t 92)⟩),
    (4, ⟨(some 94), none, .mv (.t 1)⟩),
    (5, ⟨(some 95), none, .call 49 [(.t 93), (.t 94)] none false⟩),
    (6, ⟨(some 10), none, .mv (.t 95)⟩)] (some [1, 2, 5, 10])) (.seq (.ops 4 [
    (0, ⟨(some 96), none, .mv (.t 1)⟩),
    (1, ⟨(some 97), none, .arith .add (.t 96) (.k (.d (.val (.int .i64 1))))⟩),
    (2, ⟨(some 98), none, .mks [(.bool false)] 1 (.t 97) (.t 97)⟩),
    (3, ⟨(some 11), none, .mv (.t 98)⟩)] (some [1, 2, 5, 10, 11])) (.seq (.ops 3 [
    (0, ⟨(some 99), none, .mv (.t 11)⟩),
    (1, ⟨(some 100), none, .idxS 1 (.t 99) (.k (.d (.val (.int .i64 0))))⟩),
    (2, ⟨none, none, .store 1 (.t 100) (.k (.d (.val (.bool true))))⟩)] (some [1, 2, 5, 10, 11])) (.seq (.ops 3 [
    (0, ⟨(some 101), none, .fadd 6 (.t 2)⟩),
    (1, ⟨(some 102), none, .load none (.t 101)⟩),
    (2, ⟨(some 12), none, .mv (.t 102)⟩)] (some [1, 2, 5, 10, 11, 12])) (.seq (.seq (.ops 2 [
    (0, ⟨(some 103), none, .mv (.t 12)⟩),
    (1, ⟨(some 104), none, .arith .lss (.t 103) (.k (.d (.val (.int .i64 0))))⟩)] (some [1, 2, 5, 10, 11, 12, 104])) (.cond (.t 104) (.ops 5 [
    (0, ⟨(some 105), none, .fadd 5 (.t 2)⟩),
    (1, ⟨(some 106), none, .load none (.t 105)⟩),
    (2, ⟨(some 107), none, .mv (.t 1)⟩),
    (3, ⟨(some 108), none, .arith .add (.t 106) (.t 107)⟩),
    (4, ⟨(some 12), none, .mv (.t 108)⟩)] (some [1, 2, 5, 10, 11, 12])) .skip)) (.seq (.ops 1 [
    (0, ⟨(some 13), none, .mv (.k (.d (.val (.int .i64 0))))⟩)] (some [1, 2, 5, 10, 11, 12, 13])) (.block 7 (.loop (.seq (.seq (.ops 3 [
    (0, ⟨(some 109), none, .mv (.t 13)⟩),
    (1, ⟨(some 110), none, .mv (.t 12)⟩),
    (2, ⟨(some 111), none, .arith .leq (.t 109) (.t 110)⟩)] (some [1, 2, 5, 10, 11, 12, 13, 111])) (.cond (.t 111) .skip (.exit 7))) (.seq (.block 8 (.seq (.seq (.ops 4 [
    (0, ⟨(some 114), none, .mv (.t 13)⟩),
    (1, ⟨(some 115), none, .fadd 5 (.t 2)⟩),
    (2, ⟨(some 116), none, .load none (.t 115)⟩),
    (3, ⟨(some 117), none, .arith .geq (.t 114) (.t 116)⟩)] (some [1, 2, 5, 10, 11, 12, 13, 117])) (.cond (.t 117) (.seq (.ops 1 [
    (0, ⟨(some 14), none, .mv (.k (.d (.val (.int .i64 0))))⟩)] (some [1, 2, 5, 10, 11, 12, 13, 14])) (.block 9 (.loop (.seq (.seq (.ops 3 [
    (0, ⟨(some 118), none, .mv (.t 14)⟩),
    (1, ⟨(some 119), none, .mv (.t 1)⟩),
    (2, ⟨(some 120), none, .arith .leq (.t 118) (.t 119)⟩)] (some [1, 2, 5, 10, 11, 12, 13, 14, 120])) (.cond (.t 120) .skip (.exit 9))) (.seq (.block 10 (.ops 14 [
    (0, ⟨(some 123), none, .mv (.t 5)⟩),
    (1, ⟨(some 124), none, .mv (.t 14)⟩),
    (2, ⟨(some 125), none, .mv (.t 5)⟩),
    (3, ⟨(some 126), none, .mv (.t 14)⟩),
    (4, ⟨(some 127), none, .idxS 1 (.t 125) (.t 126)⟩),
    (5, ⟨(some 128), none, .load none (.t 127)⟩),
    (6, ⟨(some 129), none, .mv (.t 128)⟩),
    (7, ⟨(some 130), (some (129, false)), .mv (.t 11)⟩),
    (8, ⟨(some 131), (some (129, false)), .mv (.t 14)⟩),
    (9, ⟨(some 132), (some (129, false)), .idxS 1 (.t 130) (.t 131)⟩),
    (10, ⟨(some 133), (some (129, false)), .load none (.t 132)⟩),
    (11, ⟨(some 134), none, .pick (.t 129) (.k (.d (.val (.bool true)))) (.t 133)⟩),
    (12, ⟨(some 135), none, .idxS 1 (.t 123) (.t 124)⟩),
    (13, ⟨none, none, .store 1 (.t 135) (.t 134)⟩)] (some [1, 2, 5, 10, 11, 12, 13, 14]))) (.ops 3 [
    (0, ⟨(some 121), none, .mv (.t 14)⟩),
    (1, ⟨(some 122), none, .arith .add (.t 121) (.k (.d (.val (.int .i64 1))))⟩),
    (2, ⟨(some 14), none, .mv (.t 122)⟩)] (some [1, 2, 5, 10, 11, 12, 13, 14]))))))) .skip)) (.ops 4 [
    (0, ⟨(some 136), none, .mv (.t 11)⟩),
    (1, ⟨(some 137), none, .mv (.t 10)⟩),
    (2, ⟨(some 138), none, .call 98 [(.t 136), (.t 137)] none false⟩),
    (3, ⟨(some 11), none, .mv (.t 138)⟩)] (some [1, 2, 5, 10, 11, 12, 13])))) (.ops 3 [
    (0, ⟨(some 112), none, .mv (.t 13)⟩),
    (1, ⟨(some 113), none, .arith .add (.t 112) (.k (.d (.val (.int .i64 1))))⟩),
    (2, ⟨(some 13), none, .mv (.t 113)⟩)] (some [1, 2, 5, 10, 11, 12, 13])))))))))))) .skip)))))))))))) (.seq (.ops 2 [
    (0, ⟨(some 139), none, .mv (.t 5)⟩),
    (1, ⟨(some 4), none, .mv (.t 139)⟩)] (some [4])) .ret))))
def md49 : FuncId → Option Nat × Bool
  | _ => (none, false)
def od49 : Nat → List (List Nat) × List Nat × Option (List Nat)
  | 0 => ([], [], some [1, 2])
  | 1 => ([], [], some [1, 2, 5])
  | 2 => ([], [], some [1, 2, 5, 19])
  | 3 => ([], [], some [1, 2, 5, 19, 20])
  | 4 => ([], [], some [5])
  | 5 => ([], [], some [1, 2, 5, 19, 24])
  | 6 => ([], [], some [2, 5, 27])
  | 7 => ([], [], some [5])
  | 8 => ([], [], some [1, 2, 5, 19, 34])
  | 9 => ([], [], some [1, 2, 5])
  | 10 => ([], [], some [1, 2, 5, 6])
  | 11 => ([], [], some [1, 2, 5, 6, 42])
  | 12 => ([], [], some [1, 2, 5, 6])
  | 13 => ([], [], some [1, 2, 5, 6])
  | 14 => ([], [], some [1, 2, 5, 19, 54])
  | 15 => ([], [], some [1, 2, 5, 7])
  | 16 => ([], [], some [1, 2, 5, 7, 60])
  | 17 => ([], [], some [1, 2, 5, 7])
  | 18 => ([], [], some [1, 2, 5, 7, 8])
  | 19 => ([], [], some [1, 2, 5, 7, 8, 9])
  | 20 => ([], [], some [1, 2, 5, 7, 8, 9, 72])
  | 21 => ([], [], some [1, 2, 5, 7, 8, 9])
  | 22 => ([], [], some [1, 2, 5, 7, 8, 9])
  | 23 => ([], [], some [1, 2, 5, 88])
  | 24 => ([], [], some [1, 2, 5, 10])
  | 25 => ([], [], some [1, 2, 5, 10, 11])
  | 26 => ([], [], some [1, 2, 5, 10, 11])
  | 27 => ([], [], some [1, 2, 5, 10, 11, 12])
  | 28 => ([], [], some [1, 2, 5, 10, 11, 12, 104])
  | 29 => ([], [], some [1, 2, 5, 10, 11, 12])
  | 30 => ([], [], some [1, 2, 5, 10, 11, 12, 13])
  | 31 => ([], [], some [1, 2, 5, 10, 11, 12, 13, 111])
  | 32 => ([], [], some [1, 2, 5, 10, 11, 12, 13])
  | 33 => ([], [], some [1, 2, 5, 10, 11, 12, 13, 117])
  | 34 => ([], [], some [1, 2, 5, 10, 11, 12, 13, 14])
  | 35 => ([], [], some [1, 2, 5, 10, 11, 12, 13, 14, 120])
  | 36 => ([], [], some [1, 2, 5, 10, 11, 12, 13, 14])
  | 37 => ([], [], some [1, 2, 5, 10, 11, 12, 13, 14])
  | 38 => ([], [], some [1, 2, 5, 10, 11, 12, 13])
  | 39 => ([], [], some [4])
  | _ => ([], [], none)
theorem b49 {ags : List AV} {row : Option (List DV)} {r : AV} {row' nw : Option (List DV)} (hal : ags.length ≤ 140) (hrow : row'.isSome = true → row.isSome = true) (h : xwp Try.prog x49 (retK [.tmp 4] row.isSome r row' nw) (St.init ags row)) : Good Try.prog 49 ags row r row' nw :=
  good_of_body' (md := md49) (od := od49) Try.f49 (by kernel_rfl) (by kernel_rfl) (by kernel_rfl) (by kernel_rfl) (by kernel_rfl) hal hrow h

def x72 : XC := (.seq (.ops 2 [
    (0, ⟨(some 1), none, .box (.t 0)⟩),
    (1, ⟨(some 2), none, .mv (.k (.d (.val (.bool false))))⟩)] (some [1])) (.seq (.ops 5 [
    (0, ⟨(some 3), none, .load (some 8) (.t 1)⟩),
    (1, ⟨(some 4), none, .call 49 [(.t 3), (.k (.d (.val (.int .i64 0))))] none false⟩),
    (2, ⟨(some 5), none, .idxS 1 (.t 4) (.k (.d (.val (.int .i64 0))))⟩),
    (3, ⟨(some 6), none, .load none (.t 5)⟩),
    (4, ⟨(some 2), none, .mv (.t 6)⟩)] (some [2])) .ret))
def md72 : FuncId → Option Nat × Bool
  | _ => (none, false)
def od72 : Nat → List (List Nat) × List Nat × Option (List Nat)
  | 0 => ([], [], some [1])
  | 1 => ([], [], some [2])
  | _ => ([], [], none)
theorem b72 {ags : List AV} {row : Option (List DV)} {r : AV} {row' nw : Option (List DV)} (hal : ags.length ≤ 7) (hrow : row'.isSome = true → row.isSome = true) (h : xwp Try.prog x72 (retK [.tmp 2] row.isSome r row' nw) (St.init ags row)) : Good Try.prog 72 ags row r row' nw :=
  good_of_body' (md := md72) (od := od72) Try.f72 (by kernel_rfl) (by kernel_rfl) (by kernel_rfl) (by kernel_rfl) (by kernel_rfl) hal hrow h

theorem catL_snoc (l : List T) (t : T) (w : List Nat) : catL (l ++ [t]) w ↔ ∃ u v, w = u ++ v ∧ catL l u ∧ L t v := by
  rw [catL_app]; simp only [catL_one]
theorem altL_snoc (l : List T) (t : T) (w : List Nat) : altL (l ++ [t]) w ↔ altL l w ∨ L t w := by
  rw [altL_app]; simp only [altL, or_false]
theorem powL_snoc (P : List Nat → Prop) (k : Nat) (w : List Nat) : powL P (k + 1) w ↔ ∃ u v, w = u ++ v ∧ powL P k u ∧ P v := by
  rw [powL_add]; simp only [powL_one]
def Ored (p q p2 : List Bool) (k : Nat) : Prop := p2.length = p.length ∧ ∀ n, At p2 n ↔ At p n ∨ (n < k ∧ At q n)
theorem Ored.zero (p q : List Bool) : Ored p q p 0 := ⟨rfl, fun n => ⟨.inl, fun h => h.elim id fun h => absurd h.1 (by omega)⟩⟩
theorem Ored.step {p q p2 : List Bool} {k : Nat} (h : Ored p q p2 k) (hk : k < p.length) : Ored p q (p2.set k (p2.getD k false || q.getD k false)) (k + 1) := by
  refine ⟨by rw [List.length_set]; exact h.1, fun n => ?_⟩
  rw [at_set n (by rw [h.1]; exact hk), h.2 n]
  have hv : (p2.getD k false || q.getD k false) = true ↔ At p2 k ∨ At q k := by simp [At]
  rw [hv, h.2 k]
  constructor
  · rintro (⟨rfl, (h1 | h1) | h1⟩ | ⟨h1, h2 | h2⟩)
    · exact .inl h1
    · exact .inr ⟨by omega, h1.2⟩
    · exact .inr ⟨by omega, h1⟩
    · exact .inl h2
    · exact .inr ⟨by omega, h2.2⟩
  · rintro (h1 | ⟨h1, h2⟩)
    · by_cases e : n = k
      · subst e; exact .inl ⟨rfl, .inl (.inl h1)⟩
      · exact .inr ⟨e, .inl h1⟩
    · by_cases e : n = k
      · subst e; exact .inl ⟨rfl, .inr h2⟩
      · exact .inr ⟨e, .inr ⟨by omega, h2⟩⟩
set_option maxRecDepth 100000
set_option maxHeartbeats 4000000
attribute [local irreducible] W E R KP thenK blockK retK Good xwp aRun
theorem len49_good : ∀ (n : Nat) (t : T), t.cnt ≤ n → n ≤ 1000000 → okT t → ∀ m : Nat, m ≤ 1000 → Good Try.prog 49 [nodeA t, .i m] none (.d (.sl (encB (lenS (L t) m)) (m + 1))) none none := by
  intro n
  induction n with
  | zero => intro t ht; have := cnt_pos t; omega
  | succ n ih =>
  intro t ht hc hok m hm
  have hS := okT_S hok
  obtain ⟨k, a, b, c, d, mn, mx, subs⟩ := t
  have hR := okT_R hok
  have hoks := okT_subs hok
  have hpl := okT_plain hok
  have ih' : ∀ i (h : i < subs.length), Good Try.prog 49 [nodeA subs[i], .i m] none (.d (.sl (encB (lenS (L subs[i]) m)) (m + 1))) none none := by
    intro i h
    refine ih _ ?_ (by omega) (okL_get subs i h hoks) m hm
    have := cntL_get subs i h
    simp only [T.cnt] at ht
    omega
  have hlen : subs.length ≤ 1000000 := by
    have := cntL_len subs
    simp only [T.cnt] at ht
    omega
  have e0 : nodeA (.node k a b c d mn mx subs) = .agg [.i k, .d (.val (.int .u64 a)), .d (.val (.int .u64 b)), .d (.val (.int .u64 c)), .d (.val (.int .u64 d)), .i mn, .i mx, .d (.sl (encL subs) subs.length)] := rfl
  have hkind := (plainT_kind hpl).1
  have hk5 : k = 5 → ∃ u, subs = [u] := fun h5 => by subst h5; exact plainT_5 hpl
  have hr0 : (List.replicate (m + 1) false).length = m + 1 := List.length_replicate
  clear ih ht hok hoks hpl
  rw [e0]
  by_cases h1 : k = 1
  · have e : (List.replicate (m + 1) false).set 0 true = lenS (L (.node k a b c d mn mx subs)) m := by
      refine lenS_eq (by simp) fun j hj => ?_
      rw [at_set j (by simp)]
      subst h1
      simp only [L_k1]
      constructor
      · rintro (⟨rfl, _⟩ | ⟨_, h⟩)
        · exact ⟨[], rfl, rfl⟩
        · exact absurd h (at_rep _ _)
      · rintro ⟨w, rfl, h⟩; exact .inl ⟨h.symm, by simp⟩
    rw [← e]
    refine b49 (by simp) (by simp) (w_init ?_)
    unfold x49
    repeat' (first
    | (apply r_mvV; rfl)
    | (apply r_mvP; rfl)
    | (apply r_mvPL; rfl)
    | (apply r_mvS; rfl)
    | (apply r_mvSL; rfl)
    | (apply r_mvA; rfl)
    | (apply r_mvT; rfl)
    | (apply r_mvF; rfl)
    | (apply r_mvD; rfl)
    | (apply r_faddD; rfl)
    | (apply r_faddL; rfl)
    | (apply r_l; apply ld_kind; assumption; rfl)
    | (apply r_l; apply ld_mn; assumption; rfl)
    | (apply r_l; apply ld_mx; assumption; rfl)
    | (apply r_l; apply ld_subs; assumption; rfl)
    | (apply r_l; apply ld_set; assumption; rfl)
    | (apply r_l; apply ld_node; assumption; rfl)
    | (apply r_l; apply ld_kind'; assumption; rfl)
    | (apply r_l; apply ld_mn'; assumption; rfl)
    | (apply r_l; apply ld_mx'; assumption; rfl)
    | (apply r_l; apply ld_subs'; assumption; rfl)
    | (apply r_l; apply ld_node'; assumption; rfl)
    | (apply r_mksB (m := m + 1); rfl; rfl; ((conv => lhs; simp only [Nat.reduceAdd]) <;> rfl); omega; omega)
    | (apply r_ixL (j := 0); rfl; rfl; omega)
    | (apply r_stB (j := 0); rfl; rfl; rfl; rfl; omega)
    | (apply r_ldL; rfl; rfl; rfl)
    | (apply r_eql; rfl; rfl; (first | (apply decide_eq_true; omega) | (apply decide_eq_false; omega) | rfl))
    | (apply r_lss; rfl; rfl; (first | (apply decide_eq_true; omega) | (apply decide_eq_false; omega) | rfl))
    | (apply r_leq; rfl; rfl; (first | (apply decide_eq_true; omega) | (apply decide_eq_false; omega) | rfl))
    | (apply r_geq; rfl; rfl; (first | (apply decide_eq_true; omega) | (apply decide_eq_false; omega) | rfl))
    | (apply r_add; rfl; rfl; rfl; omega)
    | (apply r_pickT; rfl)
    | (apply r_pickF; rfl)
    | (apply r_lenD; rfl)
    | (apply r_lenL; rfl)
    | (apply r_len0; rfl)
    | (apply r_gT; rfl)
    | (apply r_gF'; rfl; rfl)
    | (apply r_gN'; rfl)
    | ((apply r_gS (o := default); rfl) <;> (intro h; try simp only [decide_eq_true_eq, decide_eq_false_iff_not, Bool.not_eq_true, Bool.not_eq_false] at h))
    | (apply r_box; ((conv => lhs; simp only [Nat.reduceAdd]) <;> rfl); rfl; rfl; rfl)
    | (apply r_stL; rfl; rfl; rfl; rfl; (first | rfl | (simp only [z_nil, z_add] <;> rfl)); rfl; rfl)
    | (apply r_p; rfl)
    | (apply r_nilK)
    | (apply r_nil)
    | (apply k_V; rfl)
    | (apply k_P; rfl)
    | (apply k_PL; rfl)
    | (apply k_S; rfl)
    | (apply k_SL; rfl)
    | (apply k_A; rfl)
    | (apply k_T; rfl)
    | (apply k_F; rfl)
    | (apply k_D; rfl; rotate_left; rfl)
    | (apply k_nil)
    | (apply e_ret (vs := [.d (.val _)]); rfl)
    | (apply e_ret; rfl)
    | (apply e_ret' (vs := [.d (.val _)]); rfl)
    | (apply e_ret'; rfl)
    | (apply w_seq)
    | (apply w_ops; ((conv => lhs; simp only [Nat.reduceAdd]) <;> rfl))
    | (apply w_condT; rfl)
    | (apply w_condF; rfl)
    | ((apply w_condS; rfl) <;> (intro h; try simp only [decide_eq_true_eq, decide_eq_false_iff_not, Bool.not_eq_true, Bool.not_eq_false] at h))
    | (apply e_thenN)
    | (apply w_block)
    | (apply e_thenR)
    | (apply e_thenX)
    | (apply e_blkN)
    | (apply e_blkR)
    | (apply e_blkE)
    | (apply w_exit)
    | (apply w_ret)
    | (apply w_skip)
    | (apply e_blkE'; rfl))
    exact retSB rfl (by simp)
  by_cases h2 : k = 2
  · by_cases hm1 : 1 ≤ m
    · have e : (List.replicate (m + 1) false).set 1 (!isZero a b c d) = lenS (L (.node k a b c d mn mx subs)) m := by
        refine lenS_eq (by simp) fun j hj => ?_
        rw [at_set j (by simp; omega)]
        subst h2
        simp only [L_k2]
        have hz := zero_iff hS.1 hS.2.1 hS.2.2.1 hS.2.2.2
        constructor
        · rintro (⟨rfl, h⟩ | ⟨_, h⟩)
          · have hz2 : ¬ ∀ x, x < 256 → inG a b c d x = false := fun h3 => by rw [hz.2 h3] at h; cases h
            have : ∃ x, inG a b c d x = true := Classical.byContradiction fun hc => hz2 fun x _ => by
              cases e : inG a b c d x with
              | false => rfl
              | true => exact absurd ⟨x, e⟩ hc
            obtain ⟨x, hx⟩ := this
            exact ⟨[x], ⟨x, rfl, hx⟩, rfl⟩
          · exact absurd h (at_rep _ _)
        · rintro ⟨w, ⟨x, rfl, hx⟩, h⟩
          refine .inl ⟨h.symm, ?_⟩
          cases e : isZero a b c d with
          | false => rfl
          | true => rw [hz.1 e x (inG_lt hx)] at hx; cases hx
      rw [← e]
      refine b49 (by simp) (by simp) (w_init ?_)
      unfold x49
      repeat' (first
    | (apply r_mvV; rfl)
    | (apply r_mvP; rfl)
    | (apply r_mvPL; rfl)
    | (apply r_mvS; rfl)
    | (apply r_mvSL; rfl)
    | (apply r_mvA; rfl)
    | (apply r_mvT; rfl)
    | (apply r_mvF; rfl)
    | (apply r_mvD; rfl)
    | (apply r_faddD; rfl)
    | (apply r_faddL; rfl)
    | (apply r_l; apply ld_kind; assumption; rfl)
    | (apply r_l; apply ld_mn; assumption; rfl)
    | (apply r_l; apply ld_mx; assumption; rfl)
    | (apply r_l; apply ld_subs; assumption; rfl)
    | (apply r_l; apply ld_set; assumption; rfl)
    | (apply r_l; apply ld_node; assumption; rfl)
    | (apply r_l; apply ld_kind'; assumption; rfl)
    | (apply r_l; apply ld_mn'; assumption; rfl)
    | (apply r_l; apply ld_mx'; assumption; rfl)
    | (apply r_l; apply ld_subs'; assumption; rfl)
    | (apply r_l; apply ld_node'; assumption; rfl)
    | (apply r_mksB (m := m + 1); rfl; rfl; ((conv => lhs; simp only [Nat.reduceAdd]) <;> rfl); omega; omega)
    | (apply r_ldL (v := .agg [.d (.val (.int .u64 a)), .d (.val (.int .u64 b)), .d (.val (.int .u64 c)), .d (.val (.int .u64 d))]); rfl; rfl; rfl)
    | (apply r_p (v := .agg [.d (.val (.int .u64 0)), .d (.val (.int .u64 0)), .d (.val (.int .u64 0)), .d (.val (.int .u64 0))]); rfl)
    | (apply r_eqX (r := !isZero a b c d); rfl; rfl; rfl)
    | (apply r_ixL (j := 1); rfl; rfl; omega)
    | (apply r_stB (j := 1); rfl; rfl; rfl; rfl; omega)
    | (apply r_ldL; rfl; rfl; rfl)
    | (apply r_eql; rfl; rfl; (first | (apply decide_eq_true; omega) | (apply decide_eq_false; omega) | rfl))
    | (apply r_lss; rfl; rfl; (first | (apply decide_eq_true; omega) | (apply decide_eq_false; omega) | rfl))
    | (apply r_leq; rfl; rfl; (first | (apply decide_eq_true; omega) | (apply decide_eq_false; omega) | rfl))
    | (apply r_geq; rfl; rfl; (first | (apply decide_eq_true; omega) | (apply decide_eq_false; omega) | rfl))
    | (apply r_add; rfl; rfl; rfl; omega)
    | (apply r_pickT; rfl)
    | (apply r_pickF; rfl)
    | (apply r_lenD; rfl)
    | (apply r_lenL; rfl)
    | (apply r_len0; rfl)
    | (apply r_gT; rfl)
    | (apply r_gF'; rfl; rfl)
    | (apply r_gN'; rfl)
    | ((apply r_gS (o := default); rfl) <;> (intro h; try simp only [decide_eq_true_eq, decide_eq_false_iff_not, Bool.not_eq_true, Bool.not_eq_false] at h))
    | (apply r_box; ((conv => lhs; simp only [Nat.reduceAdd]) <;> rfl); rfl; rfl; rfl)
    | (apply r_stL; rfl; rfl; rfl; rfl; (first | rfl | (simp only [z_nil, z_add] <;> rfl)); rfl; rfl)
    | (apply r_p; rfl)
    | (apply r_nilK)
    | (apply r_nil)
    | (apply k_V; rfl)
    | (apply k_P; rfl)
    | (apply k_PL; rfl)
    | (apply k_S; rfl)
    | (apply k_SL; rfl)
    | (apply k_A; rfl)
    | (apply k_T; rfl)
    | (apply k_F; rfl)
    | (apply k_D; rfl; rotate_left; rfl)
    | (apply k_nil)
    | (apply e_ret (vs := [.d (.val _)]); rfl)
    | (apply e_ret; rfl)
    | (apply e_ret' (vs := [.d (.val _)]); rfl)
    | (apply e_ret'; rfl)
    | (apply w_seq)
    | (apply w_ops; ((conv => lhs; simp only [Nat.reduceAdd]) <;> rfl))
    | (apply w_condT; rfl)
    | (apply w_condF; rfl)
    | ((apply w_condS; rfl) <;> (intro h; try simp only [decide_eq_true_eq, decide_eq_false_iff_not, Bool.not_eq_true, Bool.not_eq_false] at h))
    | (apply e_thenN)
    | (apply w_block)
    | (apply e_thenR)
    | (apply e_thenX)
    | (apply e_blkN)
    | (apply e_blkR)
    | (apply e_blkE)
    | (apply w_exit)
    | (apply w_ret)
    | (apply w_skip)
    | (apply e_blkE'; rfl))
      exact retSB rfl (by simp)
    · have e : List.replicate (m + 1) false = lenS (L (.node k a b c d mn mx subs)) m := by
        refine lenS_eq (by simp) fun j hj => ?_
        subst h2
        simp only [L_k2]
        constructor
        · intro h; exact absurd h (at_rep _ _)
        · rintro ⟨w, ⟨x, rfl, hx⟩, h⟩; simp at h; omega
      rw [← e]
      refine b49 (by simp) (by simp) (w_init ?_)
      unfold x49
      repeat' (first
    | (apply r_mvV; rfl)
    | (apply r_mvP; rfl)
    | (apply r_mvPL; rfl)
    | (apply r_mvS; rfl)
    | (apply r_mvSL; rfl)
    | (apply r_mvA; rfl)
    | (apply r_mvT; rfl)
    | (apply r_mvF; rfl)
    | (apply r_mvD; rfl)
    | (apply r_faddD; rfl)
    | (apply r_faddL; rfl)
    | (apply r_l; apply ld_kind; assumption; rfl)
    | (apply r_l; apply ld_mn; assumption; rfl)
    | (apply r_l; apply ld_mx; assumption; rfl)
    | (apply r_l; apply ld_subs; assumption; rfl)
    | (apply r_l; apply ld_set; assumption; rfl)
    | (apply r_l; apply ld_node; assumption; rfl)
    | (apply r_l; apply ld_kind'; assumption; rfl)
    | (apply r_l; apply ld_mn'; assumption; rfl)
    | (apply r_l; apply ld_mx'; assumption; rfl)
    | (apply r_l; apply ld_subs'; assumption; rfl)
    | (apply r_l; apply ld_node'; assumption; rfl)
    | (apply r_mksB (m := m + 1); rfl; rfl; ((conv => lhs; simp only [Nat.reduceAdd]) <;> rfl); omega; omega)
    | (apply r_ldL; rfl; rfl; rfl)
    | (apply r_eql; rfl; rfl; (first | (apply decide_eq_true; omega) | (apply decide_eq_false; omega) | rfl))
    | (apply r_lss; rfl; rfl; (first | (apply decide_eq_true; omega) | (apply decide_eq_false; omega) | rfl))
    | (apply r_leq; rfl; rfl; (first | (apply decide_eq_true; omega) | (apply decide_eq_false; omega) | rfl))
    | (apply r_geq; rfl; rfl; (first | (apply decide_eq_true; omega) | (apply decide_eq_false; omega) | rfl))
    | (apply r_add; rfl; rfl; rfl; omega)
    | (apply r_pickT; rfl)
    | (apply r_pickF; rfl)
    | (apply r_lenD; rfl)
    | (apply r_lenL; rfl)
    | (apply r_len0; rfl)
    | (apply r_gT; rfl)
    | (apply r_gF'; rfl; rfl)
    | (apply r_gN'; rfl)
    | ((apply r_gS (o := default); rfl) <;> (intro h; try simp only [decide_eq_true_eq, decide_eq_false_iff_not, Bool.not_eq_true, Bool.not_eq_false] at h))
    | (apply r_box; ((conv => lhs; simp only [Nat.reduceAdd]) <;> rfl); rfl; rfl; rfl)
    | (apply r_stL; rfl; rfl; rfl; rfl; (first | rfl | (simp only [z_nil, z_add] <;> rfl)); rfl; rfl)
    | (apply r_p; rfl)
    | (apply r_nilK)
    | (apply r_nil)
    | (apply k_V; rfl)
    | (apply k_P; rfl)
    | (apply k_PL; rfl)
    | (apply k_S; rfl)
    | (apply k_SL; rfl)
    | (apply k_A; rfl)
    | (apply k_T; rfl)
    | (apply k_F; rfl)
    | (apply k_D; rfl; rotate_left; rfl)
    | (apply k_nil)
    | (apply e_ret (vs := [.d (.val _)]); rfl)
    | (apply e_ret; rfl)
    | (apply e_ret' (vs := [.d (.val _)]); rfl)
    | (apply e_ret'; rfl)
    | (apply w_seq)
    | (apply w_ops; ((conv => lhs; simp only [Nat.reduceAdd]) <;> rfl))
    | (apply w_condT; rfl)
    | (apply w_condF; rfl)
    | ((apply w_condS; rfl) <;> (intro h; try simp only [decide_eq_true_eq, decide_eq_false_iff_not, Bool.not_eq_true, Bool.not_eq_false] at h))
    | (apply e_thenN)
    | (apply w_block)
    | (apply e_thenR)
    | (apply e_thenX)
    | (apply e_blkN)
    | (apply e_blkR)
    | (apply e_blkE)
    | (apply w_exit)
    | (apply w_ret)
    | (apply w_skip)
    | (apply e_blkE'; rfl))
      exact retSB rfl (by simp)
  by_cases h3 : k = 3
  · have e : (List.replicate (m + 1) false).set 0 true = lenS (catL (subs.take 0)) m := by
      refine lenS_eq (by simp) fun j hj => ?_
      rw [at_set j (by simp)]
      simp only [List.take_zero, catL]
      constructor
      · rintro (⟨rfl, _⟩ | ⟨_, h⟩)
        · exact ⟨[], rfl, rfl⟩
        · exact absurd h (at_rep _ _)
      · rintro ⟨w, rfl, h⟩; exact .inl ⟨h.symm, by simp⟩
    refine b49 (by simp) (by simp) (w_init ?_)
    unfold x49
    repeat' (first
    | (apply r_mvV; rfl)
    | (apply r_mvP; rfl)
    | (apply r_mvPL; rfl)
    | (apply r_mvS; rfl)
    | (apply r_mvSL; rfl)
    | (apply r_mvA; rfl)
    | (apply r_mvT; rfl)
    | (apply r_mvF; rfl)
    | (apply r_mvD; rfl)
    | (apply r_faddD; rfl)
    | (apply r_faddL; rfl)
    | (apply r_l; apply ld_kind; assumption; rfl)
    | (apply r_l; apply ld_mn; assumption; rfl)
    | (apply r_l; apply ld_mx; assumption; rfl)
    | (apply r_l; apply ld_subs; assumption; rfl)
    | (apply r_l; apply ld_set; assumption; rfl)
    | (apply r_l; apply ld_node; assumption; rfl)
    | (apply r_l; apply ld_kind'; assumption; rfl)
    | (apply r_l; apply ld_mn'; assumption; rfl)
    | (apply r_l; apply ld_mx'; assumption; rfl)
    | (apply r_l; apply ld_subs'; assumption; rfl)
    | (apply r_l; apply ld_node'; assumption; rfl)
    | (apply r_mksB (m := m + 1); rfl; rfl; ((conv => lhs; simp only [Nat.reduceAdd]) <;> rfl); omega; omega)
    | (apply r_ixL (j := 0); rfl; rfl; omega)
    | (apply r_stB (j := 0); rfl; rfl; rfl; rfl; omega)
    | (apply r_ldL; rfl; rfl; rfl)
    | (apply r_eql; rfl; rfl; (first | (apply decide_eq_true; omega) | (apply decide_eq_false; omega) | rfl))
    | (apply r_lss; rfl; rfl; (first | (apply decide_eq_true; omega) | (apply decide_eq_false; omega) | rfl))
    | (apply r_leq; rfl; rfl; (first | (apply decide_eq_true; omega) | (apply decide_eq_false; omega) | rfl))
    | (apply r_geq; rfl; rfl; (first | (apply decide_eq_true; omega) | (apply decide_eq_false; omega) | rfl))
    | (apply r_add; rfl; rfl; rfl; omega)
    | (apply r_pickT; rfl)
    | (apply r_pickF; rfl)
    | (apply r_lenD; rfl)
    | (apply r_lenL; rfl)
    | (apply r_len0; rfl)
    | (apply r_gT; rfl)
    | (apply r_gF'; rfl; rfl)
    | (apply r_gN'; rfl)
    | ((apply r_gS (o := default); rfl) <;> (intro h; try simp only [decide_eq_true_eq, decide_eq_false_iff_not, Bool.not_eq_true, Bool.not_eq_false] at h))
    | (apply r_box; ((conv => lhs; simp only [Nat.reduceAdd]) <;> rfl); rfl; rfl; rfl)
    | (apply r_stL; rfl; rfl; rfl; rfl; (first | rfl | (simp only [z_nil, z_add] <;> rfl)); rfl; rfl)
    | (apply r_p; rfl)
    | (apply r_nilK)
    | (apply r_nil)
    | (apply k_V; rfl)
    | (apply k_P; rfl)
    | (apply k_PL; rfl)
    | (apply k_S; rfl)
    | (apply k_SL; rfl)
    | (apply k_A; rfl)
    | (apply k_T; rfl)
    | (apply k_F; rfl)
    | (apply k_D; rfl; rotate_left; rfl)
    | (apply k_nil)
    | (apply e_ret (vs := [.d (.val _)]); rfl)
    | (apply e_ret; rfl)
    | (apply e_ret' (vs := [.d (.val _)]); rfl)
    | (apply e_ret'; rfl)
    | (apply w_seq)
    | (apply w_ops; ((conv => lhs; simp only [Nat.reduceAdd]) <;> rfl))
    | (apply w_condT; rfl)
    | (apply w_condF; rfl)
    | ((apply w_condS; rfl) <;> (intro h; try simp only [decide_eq_true_eq, decide_eq_false_iff_not, Bool.not_eq_true, Bool.not_eq_false] at h))
    | (apply e_thenN)
    | (apply w_block)
    | (apply e_thenR)
    | (apply e_thenX)
    | (apply e_blkN)
    | (apply e_blkR)
    | (apply e_blkE)
    | (apply w_exit)
    | (apply w_ret)
    | (apply w_skip)
    | (apply e_blkE'; rfl))
    apply w_loopF (S := fun i : Nat => ⟨(((Fr.nil.put 1 (.i m)).put 2 (.ptrL 1 0)).put 5 (.d (.sl (encB (lenS (catL (subs.take i)) m)) (m + 1)))).put 6 (.i i), rowsOf [(1, [.i k, .d (.val (.int .u64 a)), .d (.val (.int .u64 b)), .d (.val (.int .u64 c)), .d (.val (.int .u64 d)), .i mn, .i mx, .d (.sl (encL subs) subs.length)])], Frz.buts 100 [], 100⟩) (m := fun i => subs.length - i) (I := fun i => i ≤ subs.length) (i0 := 0)
    · exact Nat.zero_le _
    · refine fzB (k := 5) (b := 5) (m := m + 1) (p := (List.replicate (m + 1) false).set 0 true) rfl rfl (by simp) (by omega) ?_
      rw [e]
      refine wkM [] [] rfl ?_ ?_ rfl ?_
      · intro p hp
        simp only [List.mem_cons, List.not_mem_nil, or_false] at hp
        rcases hp with rfl
        exact ⟨by omega, .inr ⟨rfl, _, rfl, .data rfl⟩⟩
      · intro q hq; simp at hq
      · repeat' (first
    | exact FWk.nil
    | (apply FWk.i; rfl; (first | rfl | omega | (simp; done)))
    | (apply FWk.sl; rfl; rfl; rfl; rfl; omega; rfl)
    | (apply FWk.ptr; rfl; rfl; rfl; omega; rfl)
    | (apply FWk.d; rfl; rfl)
    | (apply FWk.a; rfl; rfl; rfl)
    | (apply FWk.slN; rfl; omega; rfl))
    intro i K hi hK
    dsimp only
    rcases Nat.lt_or_ge i subs.length with hlt | hge
    · have hs := NodeAt.sub hlt
      have hg := ih' i hlt
      have hj := join98_good (lenS (catL (subs.take i)) m) (lenS (L subs[i]) m) (lenS_len _ _) (lenS_len _ _) (by omega)
      have ej : joinB (lenS (catL (subs.take i)) m) (lenS (L subs[i]) m) = lenS (catL (subs.take (i + 1))) m := by
        rw [joinB_lenS]
        refine lenS_congr (fun w => ?_) m
        rw [List.take_succ_eq_append_getElem hlt, catL_snoc]
      rw [ej] at hj
      have hna : [nodeA subs[i], .i m].all AV.nrm = true := by rw [List.all_cons, nodeA_nrm]; rfl
      repeat' (first
    | (apply r_mvV; rfl)
    | (apply r_mvP; rfl)
    | (apply r_mvPL; rfl)
    | (apply r_mvS; rfl)
    | (apply r_mvSL; rfl)
    | (apply r_mvA; rfl)
    | (apply r_mvT; rfl)
    | (apply r_mvF; rfl)
    | (apply r_mvD; rfl)
    | (apply r_faddD; rfl)
    | (apply r_faddL; rfl)
    | (apply r_l; apply ld_kind; assumption; rfl)
    | (apply r_l; apply ld_mn; assumption; rfl)
    | (apply r_l; apply ld_mx; assumption; rfl)
    | (apply r_l; apply ld_subs; assumption; rfl)
    | (apply r_l; apply ld_set; assumption; rfl)
    | (apply r_l; apply ld_node; assumption; rfl)
    | (apply r_l; apply ld_kind'; assumption; rfl)
    | (apply r_l; apply ld_mn'; assumption; rfl)
    | (apply r_l; apply ld_mx'; assumption; rfl)
    | (apply r_l; apply ld_subs'; assumption; rfl)
    | (apply r_l; apply ld_node'; assumption; rfl)
    | (apply r_p; apply ix_sub; rfl; rfl; omega)
    | (apply r_callA (ags := [nodeA subs[i], .i m]); rfl; exact hna; exact hg)
    | (apply r_callA; rfl; rfl; exact hj)
    | (apply r_ldL; rfl; rfl; rfl)
    | (apply r_eql; rfl; rfl; (first | (apply decide_eq_true; omega) | (apply decide_eq_false; omega) | rfl))
    | (apply r_lss; rfl; rfl; (first | (apply decide_eq_true; omega) | (apply decide_eq_false; omega) | rfl))
    | (apply r_leq; rfl; rfl; (first | (apply decide_eq_true; omega) | (apply decide_eq_false; omega) | rfl))
    | (apply r_geq; rfl; rfl; (first | (apply decide_eq_true; omega) | (apply decide_eq_false; omega) | rfl))
    | (apply r_add; rfl; rfl; rfl; omega)
    | (apply r_pickT; rfl)
    | (apply r_pickF; rfl)
    | (apply r_lenD; rfl)
    | (apply r_lenL; rfl)
    | (apply r_len0; rfl)
    | (apply r_gT; rfl)
    | (apply r_gF'; rfl; rfl)
    | (apply r_gN'; rfl)
    | ((apply r_gS (o := default); rfl) <;> (intro h; try simp only [decide_eq_true_eq, decide_eq_false_iff_not, Bool.not_eq_true, Bool.not_eq_false] at h))
    | (apply r_box; ((conv => lhs; simp only [Nat.reduceAdd]) <;> rfl); rfl; rfl; rfl)
    | (apply r_stL; rfl; rfl; rfl; rfl; (first | rfl | (simp only [z_nil, z_add] <;> rfl)); rfl; rfl)
    | (apply r_p; rfl)
    | (apply r_nilK)
    | (apply r_nil)
    | (apply k_V; rfl)
    | (apply k_P; rfl)
    | (apply k_PL; rfl)
    | (apply k_S; rfl)
    | (apply k_SL; rfl)
    | (apply k_A; rfl)
    | (apply k_T; rfl)
    | (apply k_F; rfl)
    | (apply k_D; rfl; rotate_left; rfl)
    | (apply k_nil)
    | (apply e_ret (vs := [.d (.val _)]); rfl)
    | (apply e_ret; rfl)
    | (apply e_ret' (vs := [.d (.val _)]); rfl)
    | (apply e_ret'; rfl)
    | (apply w_seq)
    | (apply w_ops; ((conv => lhs; simp only [Nat.reduceAdd]) <;> rfl))
    | (apply w_condT; rfl)
    | (apply w_condF; rfl)
    | ((apply w_condS; rfl) <;> (intro h; try simp only [decide_eq_true_eq, decide_eq_false_iff_not, Bool.not_eq_true, Bool.not_eq_false] at h))
    | (apply e_thenN)
    | (apply w_block)
    | (apply e_thenR)
    | (apply e_thenX)
    | (apply e_blkN)
    | (apply e_blkR)
    | (apply e_blkE)
    | (apply w_exit)
    | (apply w_ret)
    | (apply w_skip)
    | (apply e_blkE'; rfl))
      apply e_thenK
      apply hK (i + 1)
      · omega
      · omega
      · refine Wk.f (wkM [] [] rfl ?_ ?_ rfl ?_)
        · intro p hp
          simp only [List.mem_cons, List.not_mem_nil, or_false] at hp
          rcases hp with rfl
          exact ⟨by omega, .inr ⟨rfl, _, rfl, .data rfl⟩⟩
        · intro q hq; simp at hq
        · repeat' (first
    | exact FWk.nil
    | (apply FWk.i; rfl; (first | rfl | omega | (simp; done)))
    | (apply FWk.sl; rfl; rfl; rfl; rfl; omega; rfl)
    | (apply FWk.ptr; rfl; rfl; rfl; omega; rfl)
    | (apply FWk.d; rfl; rfl)
    | (apply FWk.a; rfl; rfl; rfl)
    | (apply FWk.slN; rfl; omega; rfl))
    · have ei : i = subs.length := by omega
      subst ei
      repeat' (first
    | (apply r_mvV; rfl)
    | (apply r_mvP; rfl)
    | (apply r_mvPL; rfl)
    | (apply r_mvS; rfl)
    | (apply r_mvSL; rfl)
    | (apply r_mvA; rfl)
    | (apply r_mvT; rfl)
    | (apply r_mvF; rfl)
    | (apply r_mvD; rfl)
    | (apply r_faddD; rfl)
    | (apply r_faddL; rfl)
    | (apply r_l; apply ld_kind; assumption; rfl)
    | (apply r_l; apply ld_mn; assumption; rfl)
    | (apply r_l; apply ld_mx; assumption; rfl)
    | (apply r_l; apply ld_subs; assumption; rfl)
    | (apply r_l; apply ld_set; assumption; rfl)
    | (apply r_l; apply ld_node; assumption; rfl)
    | (apply r_l; apply ld_kind'; assumption; rfl)
    | (apply r_l; apply ld_mn'; assumption; rfl)
    | (apply r_l; apply ld_mx'; assumption; rfl)
    | (apply r_l; apply ld_subs'; assumption; rfl)
    | (apply r_l; apply ld_node'; assumption; rfl)
    | (apply r_ldL; rfl; rfl; rfl)
    | (apply r_eql; rfl; rfl; (first | (apply decide_eq_true; omega) | (apply decide_eq_false; omega) | rfl))
    | (apply r_lss; rfl; rfl; (first | (apply decide_eq_true; omega) | (apply decide_eq_false; omega) | rfl))
    | (apply r_leq; rfl; rfl; (first | (apply decide_eq_true; omega) | (apply decide_eq_false; omega) | rfl))
    | (apply r_geq; rfl; rfl; (first | (apply decide_eq_true; omega) | (apply decide_eq_false; omega) | rfl))
    | (apply r_add; rfl; rfl; rfl; omega)
    | (apply r_pickT; rfl)
    | (apply r_pickF; rfl)
    | (apply r_lenD; rfl)
    | (apply r_lenL; rfl)
    | (apply r_len0; rfl)
    | (apply r_gT; rfl)
    | (apply r_gF'; rfl; rfl)
    | (apply r_gN'; rfl)
    | ((apply r_gS (o := default); rfl) <;> (intro h; try simp only [decide_eq_true_eq, decide_eq_false_iff_not, Bool.not_eq_true, Bool.not_eq_false] at h))
    | (apply r_box; ((conv => lhs; simp only [Nat.reduceAdd]) <;> rfl); rfl; rfl; rfl)
    | (apply r_stL; rfl; rfl; rfl; rfl; (first | rfl | (simp only [z_nil, z_add] <;> rfl)); rfl; rfl)
    | (apply r_p; rfl)
    | (apply r_nilK)
    | (apply r_nil)
    | (apply k_V; rfl)
    | (apply k_P; rfl)
    | (apply k_PL; rfl)
    | (apply k_S; rfl)
    | (apply k_SL; rfl)
    | (apply k_A; rfl)
    | (apply k_T; rfl)
    | (apply k_F; rfl)
    | (apply k_D; rfl; rotate_left; rfl)
    | (apply k_nil)
    | (apply e_ret (vs := [.d (.val _)]); rfl)
    | (apply e_ret; rfl)
    | (apply e_ret' (vs := [.d (.val _)]); rfl)
    | (apply e_ret'; rfl)
    | (apply w_seq)
    | (apply w_ops; ((conv => lhs; simp only [Nat.reduceAdd]) <;> rfl))
    | (apply w_condT; rfl)
    | (apply w_condF; rfl)
    | ((apply w_condS; rfl) <;> (intro h; try simp only [decide_eq_true_eq, decide_eq_false_iff_not, Bool.not_eq_true, Bool.not_eq_false] at h))
    | (apply e_thenN)
    | (apply w_block)
    | (apply e_thenR)
    | (apply e_thenX)
    | (apply e_blkN)
    | (apply e_blkR)
    | (apply e_blkE)
    | (apply w_exit)
    | (apply w_ret)
    | (apply w_skip)
    | (apply e_blkE'; rfl))
      refine retSD ?_
      rw [List.take_length]
      refine lenS_congr (fun w => ?_) m
      subst h3
      rw [L_k3]
  by_cases h4 : k = 4
  · have e : List.replicate (m + 1) false = lenS (altL (subs.take 0)) m := by
      refine lenS_eq (by simp) fun j hj => ?_
      simp only [List.take_zero, altL]
      constructor
      · intro h; exact absurd h (at_rep _ _)
      · rintro ⟨w, h, _⟩; exact h.elim
    refine b49 (by simp) (by simp) (w_init ?_)
    unfold x49
    repeat' (first
    | (apply r_mvV; rfl)
    | (apply r_mvP; rfl)
    | (apply r_mvPL; rfl)
    | (apply r_mvS; rfl)
    | (apply r_mvSL; rfl)
    | (apply r_mvA; rfl)
    | (apply r_mvT; rfl)
    | (apply r_mvF; rfl)
    | (apply r_mvD; rfl)
    | (apply r_faddD; rfl)
    | (apply r_faddL; rfl)
    | (apply r_l; apply ld_kind; assumption; rfl)
    | (apply r_l; apply ld_mn; assumption; rfl)
    | (apply r_l; apply ld_mx; assumption; rfl)
    | (apply r_l; apply ld_subs; assumption; rfl)
    | (apply r_l; apply ld_set; assumption; rfl)
    | (apply r_l; apply ld_node; assumption; rfl)
    | (apply r_l; apply ld_kind'; assumption; rfl)
    | (apply r_l; apply ld_mn'; assumption; rfl)
    | (apply r_l; apply ld_mx'; assumption; rfl)
    | (apply r_l; apply ld_subs'; assumption; rfl)
    | (apply r_l; apply ld_node'; assumption; rfl)
    | (apply r_mksB (m := m + 1); rfl; rfl; ((conv => lhs; simp only [Nat.reduceAdd]) <;> rfl); omega; omega)
    | (apply r_ldL; rfl; rfl; rfl)
    | (apply r_eql; rfl; rfl; (first | (apply decide_eq_true; omega) | (apply decide_eq_false; omega) | rfl))
    | (apply r_lss; rfl; rfl; (first | (apply decide_eq_true; omega) | (apply decide_eq_false; omega) | rfl))
    | (apply r_leq; rfl; rfl; (first | (apply decide_eq_true; omega) | (apply decide_eq_false; omega) | rfl))
    | (apply r_geq; rfl; rfl; (first | (apply decide_eq_true; omega) | (apply decide_eq_false; omega) | rfl))
    | (apply r_add; rfl; rfl; rfl; omega)
    | (apply r_pickT; rfl)
    | (apply r_pickF; rfl)
    | (apply r_lenD; rfl)
    | (apply r_lenL; rfl)
    | (apply r_len0; rfl)
    | (apply r_gT; rfl)
    | (apply r_gF'; rfl; rfl)
    | (apply r_gN'; rfl)
    | ((apply r_gS (o := default); rfl) <;> (intro h; try simp only [decide_eq_true_eq, decide_eq_false_iff_not, Bool.not_eq_true, Bool.not_eq_false] at h))
    | (apply r_box; ((conv => lhs; simp only [Nat.reduceAdd]) <;> rfl); rfl; rfl; rfl)
    | (apply r_stL; rfl; rfl; rfl; rfl; (first | rfl | (simp only [z_nil, z_add] <;> rfl)); rfl; rfl)
    | (apply r_p; rfl)
    | (apply r_nilK)
    | (apply r_nil)
    | (apply k_V; rfl)
    | (apply k_P; rfl)
    | (apply k_PL; rfl)
    | (apply k_S; rfl)
    | (apply k_SL; rfl)
    | (apply k_A; rfl)
    | (apply k_T; rfl)
    | (apply k_F; rfl)
    | (apply k_D; rfl; rotate_left; rfl)
    | (apply k_nil)
    | (apply e_ret (vs := [.d (.val _)]); rfl)
    | (apply e_ret; rfl)
    | (apply e_ret' (vs := [.d (.val _)]); rfl)
    | (apply e_ret'; rfl)
    | (apply w_seq)
    | (apply w_ops; ((conv => lhs; simp only [Nat.reduceAdd]) <;> rfl))
    | (apply w_condT; rfl)
    | (apply w_condF; rfl)
    | ((apply w_condS; rfl) <;> (intro h; try simp only [decide_eq_true_eq, decide_eq_false_iff_not, Bool.not_eq_true, Bool.not_eq_false] at h))
    | (apply e_thenN)
    | (apply w_block)
    | (apply e_thenR)
    | (apply e_thenX)
    | (apply e_blkN)
    | (apply e_blkR)
    | (apply e_blkE)
    | (apply w_exit)
    | (apply w_ret)
    | (apply w_skip)
    | (apply e_blkE'; rfl))
    apply w_loopI (S := fun i : Nat => ⟨(((Fr.nil.put 1 (.i m)).put 2 (.ptrL 1 0)).put 5 (.slL 50 0 (m + 1) 1)).put 7 (.i i), rowsOf [(1, [.i k, .d (.val (.int .u64 a)), .d (.val (.int .u64 b)), .d (.val (.int .u64 c)), .d (.val (.int .u64 d)), .i mn, .i mx, .d (.sl (encL subs) subs.length)]), (50, (encB (lenS (altL (subs.take i)) m)).map AV.d)], Frz.buts 100 [50], 100⟩) (m := fun i => subs.length - i) (I := fun i => i ≤ subs.length) (i0 := 0)
    · exact Nat.zero_le _
    · rw [← e]
      refine wkM [(50, 5)] [] rfl ?_ ?_ rfl ?_
      · intro p hp; simp only [List.mem_cons, List.not_mem_nil, or_false] at hp; rcases hp with rfl | rfl <;> first | exact ⟨by omega, .inr ⟨rfl, _, rfl, .data rfl⟩⟩ | exact ⟨by omega, .inr ⟨rfl, _, rfl, .data encB_isD⟩⟩
      · intro q hq; simp only [List.mem_cons, List.not_mem_nil, or_false] at hq; rcases hq with rfl <;> rfl
      · repeat' (first
    | exact FWk.nil
    | (apply FWk.i; rfl; (first | rfl | omega | (simp; done)))
    | (apply FWk.sl; rfl; rfl; rfl; rfl; omega; rfl)
    | (apply FWk.ptr; rfl; rfl; rfl; omega; rfl)
    | (apply FWk.d; rfl; rfl)
    | (apply FWk.a; rfl; rfl; rfl)
    | (apply FWk.slN; rfl; omega; rfl))
    intro i K hi hK
    dsimp only
    rcases Nat.lt_or_ge i subs.length with hlt | hge
    · have hs := NodeAt.sub hlt
      have hg := ih' i hlt
      have hna : [nodeA subs[i], .i m].all AV.nrm = true := by rw [List.all_cons, nodeA_nrm]; rfl
      have hfin : ∀ p2, Ored (lenS (altL (subs.take i)) m) (lenS (L subs[i]) m) p2 (m + 1) → p2 = lenS (altL (subs.take (i + 1))) m := by
        intro p2 h
        refine lenS_eq (h.1.trans (lenS_len _ _)) fun j hj => ?_
        rw [h.2 j, at_lenS, at_lenS, List.take_succ_eq_append_getElem hlt]
        simp only [altL_snoc]
        constructor
        · rintro (⟨_, w, hw, hl⟩ | ⟨_, _, w, hw, hl⟩)
          · exact ⟨w, .inl hw, hl⟩
          · exact ⟨w, .inr hw, hl⟩
        · rintro ⟨w, hw | hw, hl⟩
          · exact .inl ⟨hj, w, hw, hl⟩
          · exact .inr ⟨by omega, hj, w, hw, hl⟩
      have hql := lenS_len (L subs[i]) m
      have hpl := lenS_len (altL (subs.take i)) m
      generalize lenS (L subs[i]) m = q at hg hfin hql
      generalize lenS (altL (subs.take i)) m = p at hfin hpl ⊢
      repeat' (first
    | (apply r_mvV; rfl)
    | (apply r_mvP; rfl)
    | (apply r_mvPL; rfl)
    | (apply r_mvS; rfl)
    | (apply r_mvSL; rfl)
    | (apply r_mvA; rfl)
    | (apply r_mvT; rfl)
    | (apply r_mvF; rfl)
    | (apply r_mvD; rfl)
    | (apply r_faddD; rfl)
    | (apply r_faddL; rfl)
    | (apply r_l; apply ld_kind; assumption; rfl)
    | (apply r_l; apply ld_mn; assumption; rfl)
    | (apply r_l; apply ld_mx; assumption; rfl)
    | (apply r_l; apply ld_subs; assumption; rfl)
    | (apply r_l; apply ld_set; assumption; rfl)
    | (apply r_l; apply ld_node; assumption; rfl)
    | (apply r_l; apply ld_kind'; assumption; rfl)
    | (apply r_l; apply ld_mn'; assumption; rfl)
    | (apply r_l; apply ld_mx'; assumption; rfl)
    | (apply r_l; apply ld_subs'; assumption; rfl)
    | (apply r_l; apply ld_node'; assumption; rfl)
    | (apply r_p; apply ix_sub; rfl; rfl; omega)
    | (apply r_callA (ags := [nodeA subs[i], .i m]); rfl; exact hna; exact hg)
    | (apply r_ldL; rfl; rfl; rfl)
    | (apply r_eql; rfl; rfl; (first | (apply decide_eq_true; omega) | (apply decide_eq_false; omega) | rfl))
    | (apply r_lss; rfl; rfl; (first | (apply decide_eq_true; omega) | (apply decide_eq_false; omega) | rfl))
    | (apply r_leq; rfl; rfl; (first | (apply decide_eq_true; omega) | (apply decide_eq_false; omega) | rfl))
    | (apply r_geq; rfl; rfl; (first | (apply decide_eq_true; omega) | (apply decide_eq_false; omega) | rfl))
    | (apply r_add; rfl; rfl; rfl; omega)
    | (apply r_pickT; rfl)
    | (apply r_pickF; rfl)
    | (apply r_lenD; rfl)
    | (apply r_lenL; rfl)
    | (apply r_len0; rfl)
    | (apply r_gT; rfl)
    | (apply r_gF'; rfl; rfl)
    | (apply r_gN'; rfl)
    | ((apply r_gS (o := default); rfl) <;> (intro h; try simp only [decide_eq_true_eq, decide_eq_false_iff_not, Bool.not_eq_true, Bool.not_eq_false] at h))
    | (apply r_box; ((conv => lhs; simp only [Nat.reduceAdd]) <;> rfl); rfl; rfl; rfl)
    | (apply r_stL; rfl; rfl; rfl; rfl; (first | rfl | (simp only [z_nil, z_add] <;> rfl)); rfl; rfl)
    | (apply r_p; rfl)
    | (apply r_nilK)
    | (apply r_nil)
    | (apply k_V; rfl)
    | (apply k_P; rfl)
    | (apply k_PL; rfl)
    | (apply k_S; rfl)
    | (apply k_SL; rfl)
    | (apply k_A; rfl)
    | (apply k_T; rfl)
    | (apply k_F; rfl)
    | (apply k_D; rfl; rotate_left; rfl)
    | (apply k_nil)
    | (apply e_ret (vs := [.d (.val _)]); rfl)
    | (apply e_ret; rfl)
    | (apply e_ret' (vs := [.d (.val _)]); rfl)
    | (apply e_ret'; rfl)
    | (apply w_seq)
    | (apply w_ops; ((conv => lhs; simp only [Nat.reduceAdd]) <;> rfl))
    | (apply w_condT; rfl)
    | (apply w_condF; rfl)
    | ((apply w_condS; rfl) <;> (intro h; try simp only [decide_eq_true_eq, decide_eq_false_iff_not, Bool.not_eq_true, Bool.not_eq_false] at h))
    | (apply e_thenN)
    | (apply w_block)
    | (apply e_thenR)
    | (apply e_thenX)
    | (apply e_blkN)
    | (apply e_blkR)
    | (apply e_blkE)
    | (apply w_exit)
    | (apply w_ret)
    | (apply w_skip)
    | (apply e_blkE'; rfl))
      apply w_loopI (ι := Nat × List Bool) (S := fun z => ⟨(((((Fr.nil.put 1 (.i m)).put 2 (.ptrL 1 0)).put 5 (.slL 50 0 (m + 1) 1)).put 7 (.i i)).put 8 (.d (.sl (encB q) (m + 1)))).put 9 (.i z.1), rowsOf [(1, [.i k, .d (.val (.int .u64 a)), .d (.val (.int .u64 b)), .d (.val (.int .u64 c)), .d (.val (.int .u64 d)), .i mn, .i mx, .d (.sl (encL subs) subs.length)]), (50, (encB z.2).map AV.d)], Frz.buts 200 [50], 200⟩) (m := fun z => m + 1 - z.1) (I := fun z => z.1 ≤ m + 1 ∧ Ored p q z.2 z.1) (i0 := (0, p))
      · exact ⟨Nat.zero_le _, .zero _ _⟩
      · dsimp only
        refine wkM [] [] rfl ?_ ?_ rfl ?_
        · intro p hp; simp only [List.mem_cons, List.not_mem_nil, or_false] at hp; rcases hp with rfl | rfl <;> first | exact ⟨by omega, .inr ⟨rfl, _, rfl, .data rfl⟩⟩ | exact ⟨by omega, .inr ⟨rfl, _, rfl, .data encB_isD⟩⟩
        · intro q hq; simp only [List.mem_cons, List.not_mem_nil, or_false] at hq; rcases hq with rfl <;> rfl
        · repeat' (first
    | exact FWk.nil
    | (apply FWk.i; rfl; (first | rfl | omega | (simp; done)))
    | (apply FWk.sl; rfl; rfl; rfl; rfl; omega; rfl)
    | (apply FWk.ptr; rfl; rfl; rfl; omega; rfl)
    | (apply FWk.d; rfl; rfl)
    | (apply FWk.a; rfl; rfl; rfl)
    | (apply FWk.slN; rfl; omega; rfl))
      rintro ⟨j, p2⟩ K2 ⟨hj, ho⟩ hK2
      dsimp only at hj ho hK2 ⊢
      have hp2 : p2.length = m + 1 := ho.1.trans hpl
      rcases Nat.lt_or_ge j (m + 1) with hlj | hgj
      · have hgp : p2[j]? = some (p2.getD j false) := by rw [List.getD_eq_getElem?_getD, List.getElem?_eq_getElem (by omega)]; rfl
        have hgq : q[j]? = some (q.getD j false) := by rw [List.getD_eq_getElem?_getD, List.getElem?_eq_getElem (by omega)]; rfl
        have hst := ho.step (by omega)
        have fin : ∀ v fr C Z nx, v = (p2.getD j false || q.getD j false) → Wk ⟨fr, C, Z, nx⟩ ⟨(((((Fr.nil.put 1 (.i m)).put 2 (.ptrL 1 0)).put 5 (.slL 50 0 (m + 1) 1)).put 7 (.i i)).put 8 (.d (.sl (encB q) (m + 1)))).put 9 (.i ((j + 1 : Nat) : Int)), rowsOf [(1, [.i k, .d (.val (.int .u64 a)), .d (.val (.int .u64 b)), .d (.val (.int .u64 c)), .d (.val (.int .u64 d)), .i mn, .i mx, .d (.sl (encL subs) subs.length)]), (50, (encB (p2.set j v)).map AV.d)], Frz.buts 200 [50], 200⟩ → K2 ⟨fr, C, Z, nx⟩ := by
          intro v fr C Z nx hv hw
          subst hv
          exact hK2 (j + 1, _) fr C Z nx ⟨by dsimp only; omega, hst⟩ (by dsimp only; omega) hw
        generalize p2.getD j false = v1 at hgp fin
        generalize q.getD j false = v2 at hgq fin
        cases v1
        all_goals
          repeat' (first
    | (apply r_mvV; rfl)
    | (apply r_mvP; rfl)
    | (apply r_mvPL; rfl)
    | (apply r_mvS; rfl)
    | (apply r_mvSL; rfl)
    | (apply r_mvA; rfl)
    | (apply r_mvT; rfl)
    | (apply r_mvF; rfl)
    | (apply r_mvD; rfl)
    | (apply r_faddD; rfl)
    | (apply r_faddL; rfl)
    | (apply r_ixL (j := j); rfl; rfl; omega)
    | (apply r_ldBL (j := j); rfl; rfl; exact hgp)
    | (apply r_ixB' (j := j); rfl; rfl; exact hlj; exact hql)
    | (apply r_ldB (j := j); rfl; exact hgq)
    | (apply r_stB (j := j); rfl; rfl; rfl; rfl; omega)
    | (apply r_ldL; rfl; rfl; rfl)
    | (apply r_eql; rfl; rfl; (first | (apply decide_eq_true; omega) | (apply decide_eq_false; omega) | rfl))
    | (apply r_lss; rfl; rfl; (first | (apply decide_eq_true; omega) | (apply decide_eq_false; omega) | rfl))
    | (apply r_leq; rfl; rfl; (first | (apply decide_eq_true; omega) | (apply decide_eq_false; omega) | rfl))
    | (apply r_geq; rfl; rfl; (first | (apply decide_eq_true; omega) | (apply decide_eq_false; omega) | rfl))
    | (apply r_add; rfl; rfl; rfl; omega)
    | (apply r_pickT; rfl)
    | (apply r_pickF; rfl)
    | (apply r_lenD; rfl)
    | (apply r_lenL; rfl)
    | (apply r_len0; rfl)
    | (apply r_gT; rfl)
    | (apply r_gF'; rfl; rfl)
    | (apply r_gN'; rfl)
    | ((apply r_gS (o := default); rfl) <;> (intro h; try simp only [decide_eq_true_eq, decide_eq_false_iff_not, Bool.not_eq_true, Bool.not_eq_false] at h))
    | (apply r_box; ((conv => lhs; simp only [Nat.reduceAdd]) <;> rfl); rfl; rfl; rfl)
    | (apply r_stL; rfl; rfl; rfl; rfl; (first | rfl | (simp only [z_nil, z_add] <;> rfl)); rfl; rfl)
    | (apply r_p; rfl)
    | (apply r_nilK)
    | (apply r_nil)
    | (apply k_V; rfl)
    | (apply k_P; rfl)
    | (apply k_PL; rfl)
    | (apply k_S; rfl)
    | (apply k_SL; rfl)
    | (apply k_A; rfl)
    | (apply k_T; rfl)
    | (apply k_F; rfl)
    | (apply k_D; rfl; rotate_left; rfl)
    | (apply k_nil)
    | (apply e_ret (vs := [.d (.val _)]); rfl)
    | (apply e_ret; rfl)
    | (apply e_ret' (vs := [.d (.val _)]); rfl)
    | (apply e_ret'; rfl)
    | (apply w_seq)
    | (apply w_ops; ((conv => lhs; simp only [Nat.reduceAdd]) <;> rfl))
    | (apply w_condT; rfl)
    | (apply w_condF; rfl)
    | ((apply w_condS; rfl) <;> (intro h; try simp only [decide_eq_true_eq, decide_eq_false_iff_not, Bool.not_eq_true, Bool.not_eq_false] at h))
    | (apply e_thenN)
    | (apply w_block)
    | (apply e_thenR)
    | (apply e_thenX)
    | (apply e_blkN)
    | (apply e_blkR)
    | (apply e_blkE)
    | (apply w_exit)
    | (apply w_ret)
    | (apply w_skip)
    | (apply e_blkE'; rfl))
          apply e_thenK
          refine fin _ _ _ _ _ (by first | rfl | simp) ?_
          refine wkM [] [] rfl ?_ ?_ rfl ?_
          · intro p hp; simp only [List.mem_cons, List.not_mem_nil, or_false] at hp; rcases hp with rfl | rfl <;> first | exact ⟨by omega, .inr ⟨rfl, _, rfl, .data rfl⟩⟩ | exact ⟨by omega, .inr ⟨rfl, _, rfl, .data encB_isD⟩⟩
          · intro q hq; simp only [List.mem_cons, List.not_mem_nil, or_false] at hq; rcases hq with rfl <;> rfl
          · repeat' (first
    | exact FWk.nil
    | (apply FWk.i; rfl; (first | rfl | omega | (simp; done)))
    | (apply FWk.sl; rfl; rfl; rfl; rfl; omega; rfl)
    | (apply FWk.ptr; rfl; rfl; rfl; omega; rfl)
    | (apply FWk.d; rfl; rfl)
    | (apply FWk.a; rfl; rfl; rfl)
    | (apply FWk.slN; rfl; omega; rfl))
      · have ej : j = m + 1 := by omega
        subst ej
        have e2 := hfin p2 ho
        repeat' (first
    | (apply r_mvV; rfl)
    | (apply r_mvP; rfl)
    | (apply r_mvPL; rfl)
    | (apply r_mvS; rfl)
    | (apply r_mvSL; rfl)
    | (apply r_mvA; rfl)
    | (apply r_mvT; rfl)
    | (apply r_mvF; rfl)
    | (apply r_mvD; rfl)
    | (apply r_faddD; rfl)
    | (apply r_faddL; rfl)
    | (apply r_ldL; rfl; rfl; rfl)
    | (apply r_eql; rfl; rfl; (first | (apply decide_eq_true; omega) | (apply decide_eq_false; omega) | rfl))
    | (apply r_lss; rfl; rfl; (first | (apply decide_eq_true; omega) | (apply decide_eq_false; omega) | rfl))
    | (apply r_leq; rfl; rfl; (first | (apply decide_eq_true; omega) | (apply decide_eq_false; omega) | rfl))
    | (apply r_geq; rfl; rfl; (first | (apply decide_eq_true; omega) | (apply decide_eq_false; omega) | rfl))
    | (apply r_add; rfl; rfl; rfl; omega)
    | (apply r_pickT; rfl)
    | (apply r_pickF; rfl)
    | (apply r_lenD; rfl)
    | (apply r_lenL; rfl)
    | (apply r_len0; rfl)
    | (apply r_gT; rfl)
    | (apply r_gF'; rfl; rfl)
    | (apply r_gN'; rfl)
    | ((apply r_gS (o := default); rfl) <;> (intro h; try simp only [decide_eq_true_eq, decide_eq_false_iff_not, Bool.not_eq_true, Bool.not_eq_false] at h))
    | (apply r_box; ((conv => lhs; simp only [Nat.reduceAdd]) <;> rfl); rfl; rfl; rfl)
    | (apply r_stL; rfl; rfl; rfl; rfl; (first | rfl | (simp only [z_nil, z_add] <;> rfl)); rfl; rfl)
    | (apply r_p; rfl)
    | (apply r_nilK)
    | (apply r_nil)
    | (apply k_V; rfl)
    | (apply k_P; rfl)
    | (apply k_PL; rfl)
    | (apply k_S; rfl)
    | (apply k_SL; rfl)
    | (apply k_A; rfl)
    | (apply k_T; rfl)
    | (apply k_F; rfl)
    | (apply k_D; rfl; rotate_left; rfl)
    | (apply k_nil)
    | (apply e_ret (vs := [.d (.val _)]); rfl)
    | (apply e_ret; rfl)
    | (apply e_ret' (vs := [.d (.val _)]); rfl)
    | (apply e_ret'; rfl)
    | (apply w_seq)
    | (apply w_ops; ((conv => lhs; simp only [Nat.reduceAdd]) <;> rfl))
    | (apply w_condT; rfl)
    | (apply w_condF; rfl)
    | ((apply w_condS; rfl) <;> (intro h; try simp only [decide_eq_true_eq, decide_eq_false_iff_not, Bool.not_eq_true, Bool.not_eq_false] at h))
    | (apply e_thenN)
    | (apply w_block)
    | (apply e_thenR)
    | (apply e_thenX)
    | (apply e_blkN)
    | (apply e_blkR)
    | (apply e_blkE)
    | (apply w_exit)
    | (apply w_ret)
    | (apply w_skip)
    | (apply e_blkE'; rfl))
        apply e_thenK
        apply hK (i + 1)
        · omega
        · omega
        · rw [← e2]
          refine wkM [] [] rfl ?_ ?_ rfl ?_
          · intro p hp; simp only [List.mem_cons, List.not_mem_nil, or_false] at hp; rcases hp with rfl | rfl <;> first | exact ⟨by omega, .inr ⟨rfl, _, rfl, .data rfl⟩⟩ | exact ⟨by omega, .inr ⟨rfl, _, rfl, .data encB_isD⟩⟩
          · intro q hq; simp only [List.mem_cons, List.not_mem_nil, or_false] at hq; rcases hq with rfl <;> rfl
          · repeat' (first
    | exact FWk.nil
    | (apply FWk.i; rfl; (first | rfl | omega | (simp; done)))
    | (apply FWk.sl; rfl; rfl; rfl; rfl; omega; rfl)
    | (apply FWk.ptr; rfl; rfl; rfl; omega; rfl)
    | (apply FWk.d; rfl; rfl)
    | (apply FWk.a; rfl; rfl; rfl)
    | (apply FWk.slN; rfl; omega; rfl))
    · have ei : i = subs.length := by omega
      subst ei
      repeat' (first
    | (apply r_mvV; rfl)
    | (apply r_mvP; rfl)
    | (apply r_mvPL; rfl)
    | (apply r_mvS; rfl)
    | (apply r_mvSL; rfl)
    | (apply r_mvA; rfl)
    | (apply r_mvT; rfl)
    | (apply r_mvF; rfl)
    | (apply r_mvD; rfl)
    | (apply r_faddD; rfl)
    | (apply r_faddL; rfl)
    | (apply r_l; apply ld_kind; assumption; rfl)
    | (apply r_l; apply ld_mn; assumption; rfl)
    | (apply r_l; apply ld_mx; assumption; rfl)
    | (apply r_l; apply ld_subs; assumption; rfl)
    | (apply r_l; apply ld_set; assumption; rfl)
    | (apply r_l; apply ld_node; assumption; rfl)
    | (apply r_l; apply ld_kind'; assumption; rfl)
    | (apply r_l; apply ld_mn'; assumption; rfl)
    | (apply r_l; apply ld_mx'; assumption; rfl)
    | (apply r_l; apply ld_subs'; assumption; rfl)
    | (apply r_l; apply ld_node'; assumption; rfl)
    | (apply r_ldL; rfl; rfl; rfl)
    | (apply r_eql; rfl; rfl; (first | (apply decide_eq_true; omega) | (apply decide_eq_false; omega) | rfl))
    | (apply r_lss; rfl; rfl; (first | (apply decide_eq_true; omega) | (apply decide_eq_false; omega) | rfl))
    | (apply r_leq; rfl; rfl; (first | (apply decide_eq_true; omega) | (apply decide_eq_false; omega) | rfl))
    | (apply r_geq; rfl; rfl; (first | (apply decide_eq_true; omega) | (apply decide_eq_false; omega) | rfl))
    | (apply r_add; rfl; rfl; rfl; omega)
    | (apply r_pickT; rfl)
    | (apply r_pickF; rfl)
    | (apply r_lenD; rfl)
    | (apply r_lenL; rfl)
    | (apply r_len0; rfl)
    | (apply r_gT; rfl)
    | (apply r_gF'; rfl; rfl)
    | (apply r_gN'; rfl)
    | ((apply r_gS (o := default); rfl) <;> (intro h; try simp only [decide_eq_true_eq, decide_eq_false_iff_not, Bool.not_eq_true, Bool.not_eq_false] at h))
    | (apply r_box; ((conv => lhs; simp only [Nat.reduceAdd]) <;> rfl); rfl; rfl; rfl)
    | (apply r_stL; rfl; rfl; rfl; rfl; (first | rfl | (simp only [z_nil, z_add] <;> rfl)); rfl; rfl)
    | (apply r_p; rfl)
    | (apply r_nilK)
    | (apply r_nil)
    | (apply k_V; rfl)
    | (apply k_P; rfl)
    | (apply k_PL; rfl)
    | (apply k_S; rfl)
    | (apply k_SL; rfl)
    | (apply k_A; rfl)
    | (apply k_T; rfl)
    | (apply k_F; rfl)
    | (apply k_D; rfl; rotate_left; rfl)
    | (apply k_nil)
    | (apply e_ret (vs := [.d (.val _)]); rfl)
    | (apply e_ret; rfl)
    | (apply e_ret' (vs := [.d (.val _)]); rfl)
    | (apply e_ret'; rfl)
    | (apply w_seq)
    | (apply w_ops; ((conv => lhs; simp only [Nat.reduceAdd]) <;> rfl))
    | (apply w_condT; rfl)
    | (apply w_condF; rfl)
    | ((apply w_condS; rfl) <;> (intro h; try simp only [decide_eq_true_eq, decide_eq_false_iff_not, Bool.not_eq_true, Bool.not_eq_false] at h))
    | (apply e_thenN)
    | (apply w_block)
    | (apply e_thenR)
    | (apply e_thenX)
    | (apply e_blkN)
    | (apply e_blkR)
    | (apply e_blkE)
    | (apply w_exit)
    | (apply w_ret)
    | (apply w_skip)
    | (apply e_blkE'; rfl))
      have e2 : lenS (altL (subs.take subs.length)) m = lenS (L (.node k a b c d mn mx subs)) m := by
        rw [List.take_length]
        refine lenS_congr (fun w => ?_) m
        subst h4
        rw [L_k4]
      rw [← e2]
      exact retSB rfl (lenS_len _ _)
  have h5 : k = 5 := by omega
  obtain ⟨u, hu⟩ := hk5 h5
  have hl1 : 0 < subs.length := by rw [hu]; simp
  have hg := ih' 0 hl1
  have hs := NodeAt.sub hl1
  have hu0 : subs[0] = u := by simp [hu]
  rw [hu0] at hg hs
  have hr5 := hR h5
  have eL : ∀ w, L (.node k a b c d mn mx subs) w ↔ ∃ r : Nat, mn ≤ r ∧ (mx < 0 ∨ (r : Int) ≤ mx) ∧ powL (L u) r w := by
    intro w
    subst h5
    rw [L_k5, hu]
    have : ∀ w, fstL [u] w ↔ L u w := fun w => by rw [fstL]
    simp only [powL_congr this]
  have hna : [nodeA u, .i m].all AV.nrm = true := by rw [List.all_cons, nodeA_nrm]; rfl
  clear hu0 hu hk5 ih' hkind
  obtain ⟨mnN, rfl⟩ := Int.eq_ofNat_of_zero_le hr5.1.1
  obtain ⟨last, hlast, hfin⟩ : ∃ last : Nat, last ≤ 1100 ∧ ((last : Int) = if mx < 0 then (mnN : Int) + m else mx) ∧ mnN ≤ last ∧ ∀ j, j ≤ m → ((∃ r : Nat, mnN ≤ r ∧ r < last + 1 ∧ ∃ w, powL (L u) r w ∧ w.length = j) ↔ ∃ w, L (.node k a b c d mnN mx subs) w ∧ w.length = j) := by
    by_cases hmx : mx < 0
    · refine ⟨mnN + m, by omega, by rw [if_pos hmx]; omega, by omega, fun j hj => ?_⟩
      constructor
      · rintro ⟨r, g1, g2, w, g3, g4⟩; exact ⟨w, (eL w).2 ⟨r, by omega, .inl hmx, g3⟩, g4⟩
      · rintro ⟨w, hw, g4⟩
        obtain ⟨r, g1, _, g3⟩ := (eL w).1 hw
        by_cases hr : r ≤ mnN + m
        · exact ⟨r, by omega, by omega, w, g3, g4⟩
        · exact ⟨mnN + m, by omega, by omega, w, powL_cut w _ (by omega) r (by omega) g3, g4⟩
    · obtain ⟨x, rfl⟩ := Int.eq_ofNat_of_zero_le (show 0 ≤ mx by omega)
      refine ⟨x, by omega, by rw [if_neg hmx], by omega, fun j hj => ?_⟩
      constructor
      · rintro ⟨r, g1, g2, w, g3, g4⟩; exact ⟨w, (eL w).2 ⟨r, by omega, by omega, g3⟩, g4⟩
      · rintro ⟨w, hw, g4⟩
        obtain ⟨r, g1, g2, g3⟩ := (eL w).1 hw
        exact ⟨r, by omega, by omega, w, g3, g4⟩
  obtain ⟨hle, hml, hfin⟩ := hfin
  have e : (List.replicate (m + 1) false).set 0 true = lenS (powL (L u) 0) m := by
    refine lenS_eq (by simp) fun j hj => ?_
    rw [at_set j (by simp)]
    simp only [powL]
    constructor
    · rintro (⟨rfl, _⟩ | ⟨_, h⟩)
      · exact ⟨[], rfl, rfl⟩
      · exact absurd h (at_rep _ _)
    · rintro ⟨w, rfl, h⟩; exact .inl ⟨h.symm, by simp⟩
  refine b49 (by simp) (by simp) (w_init ?_)
  unfold x49
  repeat' (first
    | (apply r_mvV; rfl)
    | (apply r_mvP; rfl)
    | (apply r_mvPL; rfl)
    | (apply r_mvS; rfl)
    | (apply r_mvSL; rfl)
    | (apply r_mvA; rfl)
    | (apply r_mvT; rfl)
    | (apply r_mvF; rfl)
    | (apply r_mvD; rfl)
    | (apply r_faddD; rfl)
    | (apply r_faddL; rfl)
    | (apply r_l; apply ld_kind; assumption; rfl)
    | (apply r_l; apply ld_mn; assumption; rfl)
    | (apply r_l; apply ld_mx; assumption; rfl)
    | (apply r_l; apply ld_subs; assumption; rfl)
    | (apply r_l; apply ld_set; assumption; rfl)
    | (apply r_l; apply ld_node; assumption; rfl)
    | (apply r_l; apply ld_kind'; assumption; rfl)
    | (apply r_l; apply ld_mn'; assumption; rfl)
    | (apply r_l; apply ld_mx'; assumption; rfl)
    | (apply r_l; apply ld_subs'; assumption; rfl)
    | (apply r_l; apply ld_node'; assumption; rfl)
    | (apply r_mksB (m := m + 1); rfl; rfl; ((conv => lhs; simp only [Nat.reduceAdd]) <;> rfl); omega; omega)
    | (apply r_ixL (j := 0); rfl; rfl; omega)
    | (apply r_stB (j := 0); rfl; rfl; rfl; rfl; omega)
    | (apply r_p (v := .d (.ptr (encL subs) 0)); exact ix_sub0 rfl rfl hl1)
    | (apply r_l; apply ld_node'; exact hs; rfl)
    | (apply r_callA (ags := [nodeA u, .i m]); rfl; exact hna; exact hg)
    | (apply r_ldL; rfl; rfl; rfl)
    | (apply r_eql; rfl; rfl; (first | (apply decide_eq_true; omega) | (apply decide_eq_false; omega) | rfl))
    | (apply r_lss; rfl; rfl; (first | (apply decide_eq_true; omega) | (apply decide_eq_false; omega) | rfl))
    | (apply r_leq; rfl; rfl; (first | (apply decide_eq_true; omega) | (apply decide_eq_false; omega) | rfl))
    | (apply r_geq; rfl; rfl; (first | (apply decide_eq_true; omega) | (apply decide_eq_false; omega) | rfl))
    | (apply r_add; rfl; rfl; rfl; omega)
    | (apply r_pickT; rfl)
    | (apply r_pickF; rfl)
    | (apply r_lenD; rfl)
    | (apply r_lenL; rfl)
    | (apply r_len0; rfl)
    | (apply r_gT; rfl)
    | (apply r_gF'; rfl; rfl)
    | (apply r_gN'; rfl)
    | ((apply r_gS (o := default); rfl) <;> (intro h; try simp only [decide_eq_true_eq, decide_eq_false_iff_not, Bool.not_eq_true, Bool.not_eq_false] at h))
    | (apply r_box; ((conv => lhs; simp only [Nat.reduceAdd]) <;> rfl); rfl; rfl; rfl)
    | (apply r_stL; rfl; rfl; rfl; rfl; (first | rfl | (simp only [z_nil, z_add] <;> rfl)); rfl; rfl)
    | (apply r_p; rfl)
    | (apply r_nilK)
    | (apply r_nil)
    | (apply k_V; rfl)
    | (apply k_P; rfl)
    | (apply k_PL; rfl)
    | (apply k_S; rfl)
    | (apply k_SL; rfl)
    | (apply k_A; rfl)
    | (apply k_T; rfl)
    | (apply k_F; rfl)
    | (apply k_D; rfl; rotate_left; rfl)
    | (apply k_nil)
    | (apply e_ret (vs := [.d (.val _)]); rfl)
    | (apply e_ret; rfl)
    | (apply e_ret' (vs := [.d (.val _)]); rfl)
    | (apply e_ret'; rfl)
    | (apply w_seq)
    | (apply w_ops; ((conv => lhs; simp only [Nat.reduceAdd]) <;> rfl))
    | (apply w_condT; rfl)
    | (apply w_condF; rfl)
    | ((apply w_condS; rfl) <;> (intro h; try simp only [decide_eq_true_eq, decide_eq_false_iff_not, Bool.not_eq_true, Bool.not_eq_false] at h))
    | (apply e_thenN)
    | (apply w_block)
    | (apply e_thenR)
    | (apply e_thenX)
    | (apply e_blkN)
    | (apply e_blkR)
    | (apply e_blkE)
    | (apply w_exit)
    | (apply w_ret)
    | (apply w_skip)
    | (apply e_blkE'; rfl))
  all_goals
    apply w_loopF (ι := Nat × List Bool) (S := fun z => ⟨((((((Fr.nil.put 1 (.i m)).put 2 (.ptrL 1 0)).put 5 (.slL 50 0 (m + 1) 1)).put 10 (.d (.sl (encB (lenS (L u) m)) (m + 1)))).put 11 (.d (.sl (encB (lenS (powL (L u) z.1) m)) (m + 1)))).put 12 (.i last)).put 13 (.i z.1), rowsOf [(1, [.i k, .d (.val (.int .u64 a)), .d (.val (.int .u64 b)), .d (.val (.int .u64 c)), .d (.val (.int .u64 d)), .i mnN, .i mx, .d (.sl (encL subs) subs.length)]), (50, (encB z.2).map AV.d)], Frz.buts 100 [50], 100⟩) (m := fun z => last + 1 - z.1) (I := fun z => z.1 ≤ last + 1 ∧ z.2.length = m + 1 ∧ ∀ j, j ≤ m → (At z.2 j ↔ ∃ r : Nat, mnN ≤ r ∧ r < z.1 ∧ ∃ w, powL (L u) r w ∧ w.length = j)) (i0 := (0, List.replicate (m + 1) false))
    · refine ⟨Nat.zero_le _, by simp, fun j hj => ⟨fun h => absurd h (at_rep _ _), ?_⟩⟩
      rintro ⟨r, _, h, _⟩
      dsimp only at h
      omega
    · refine fzB (k := 11) (b := 28) (m := m + 1) (p := (List.replicate (m + 1) false).set 0 true) rfl rfl (by simp) (by omega) ?_
      rw [e]
      dsimp only
      refine wkM [(50, 5)] [] rfl ?_ ?_ rfl ?_
      · intro p hp; simp only [List.mem_cons, List.not_mem_nil, or_false] at hp; rcases hp with rfl | rfl <;> first | exact ⟨by omega, .inr ⟨rfl, _, rfl, .data rfl⟩⟩ | exact ⟨by omega, .inr ⟨rfl, _, rfl, .data encB_isD⟩⟩
      · intro q hq; simp only [List.mem_cons, List.not_mem_nil, or_false] at hq; rcases hq with rfl <;> rfl
      · repeat' (first
    | exact FWk.nil
    | (apply FWk.i; rfl; (first | rfl | omega | (simp; done)))
    | (apply FWk.sl; rfl; rfl; rfl; rfl; omega; rfl)
    | (apply FWk.ptr; rfl; rfl; rfl; omega; rfl)
    | (apply FWk.d; rfl; rfl)
    | (apply FWk.a; rfl; rfl; rfl)
    | (apply FWk.slN; rfl; omega; rfl))
    rintro ⟨kk, p⟩ K ⟨hk1, hpl, hp⟩ hK
    dsimp only at hk1 hpl hp hK ⊢
    rcases Nat.lt_or_ge last kk with hgt | hlek
    · have ek : kk = last + 1 := by omega
      subst ek
      have e2 : p = lenS (L (.node k a b c d mnN mx subs)) m := lenS_eq hpl fun j hj => by rw [hp j hj, hfin j hj]
      repeat' (first
    | (apply r_mvV; rfl)
    | (apply r_mvP; rfl)
    | (apply r_mvPL; rfl)
    | (apply r_mvS; rfl)
    | (apply r_mvSL; rfl)
    | (apply r_mvA; rfl)
    | (apply r_mvT; rfl)
    | (apply r_mvF; rfl)
    | (apply r_mvD; rfl)
    | (apply r_faddD; rfl)
    | (apply r_faddL; rfl)
    | (apply r_ldL; rfl; rfl; rfl)
    | (apply r_eql; rfl; rfl; (first | (apply decide_eq_true; omega) | (apply decide_eq_false; omega) | rfl))
    | (apply r_lss; rfl; rfl; (first | (apply decide_eq_true; omega) | (apply decide_eq_false; omega) | rfl))
    | (apply r_leq; rfl; rfl; (first | (apply decide_eq_true; omega) | (apply decide_eq_false; omega) | rfl))
    | (apply r_geq; rfl; rfl; (first | (apply decide_eq_true; omega) | (apply decide_eq_false; omega) | rfl))
    | (apply r_add; rfl; rfl; rfl; omega)
    | (apply r_pickT; rfl)
    | (apply r_pickF; rfl)
    | (apply r_lenD; rfl)
    | (apply r_lenL; rfl)
    | (apply r_len0; rfl)
    | (apply r_gT; rfl)
    | (apply r_gF'; rfl; rfl)
    | (apply r_gN'; rfl)
    | ((apply r_gS (o := default); rfl) <;> (intro h; try simp only [decide_eq_true_eq, decide_eq_false_iff_not, Bool.not_eq_true, Bool.not_eq_false] at h))
    | (apply r_box; ((conv => lhs; simp only [Nat.reduceAdd]) <;> rfl); rfl; rfl; rfl)
    | (apply r_stL; rfl; rfl; rfl; rfl; (first | rfl | (simp only [z_nil, z_add] <;> rfl)); rfl; rfl)
    | (apply r_p; rfl)
    | (apply r_nilK)
    | (apply r_nil)
    | (apply k_V; rfl)
    | (apply k_P; rfl)
    | (apply k_PL; rfl)
    | (apply k_S; rfl)
    | (apply k_SL; rfl)
    | (apply k_A; rfl)
    | (apply k_T; rfl)
    | (apply k_F; rfl)
    | (apply k_D; rfl; rotate_left; rfl)
    | (apply k_nil)
    | (apply e_ret (vs := [.d (.val _)]); rfl)
    | (apply e_ret; rfl)
    | (apply e_ret' (vs := [.d (.val _)]); rfl)
    | (apply e_ret'; rfl)
    | (apply w_seq)
    | (apply w_ops; ((conv => lhs; simp only [Nat.reduceAdd]) <;> rfl))
    | (apply w_condT; rfl)
    | (apply w_condF; rfl)
    | ((apply w_condS; rfl) <;> (intro h; try simp only [decide_eq_true_eq, decide_eq_false_iff_not, Bool.not_eq_true, Bool.not_eq_false] at h))
    | (apply e_thenN)
    | (apply w_block)
    | (apply e_thenR)
    | (apply e_thenX)
    | (apply e_blkN)
    | (apply e_blkR)
    | (apply e_blkE)
    | (apply w_exit)
    | (apply w_ret)
    | (apply w_skip)
    | (apply e_blkE'; rfl))
      rw [← e2]
      exact retSB rfl hpl
    have hj98 := join98_good (lenS (powL (L u) kk) m) (lenS (L u) m) (lenS_len _ _) (lenS_len _ _) (by omega)
    have ej : joinB (lenS (powL (L u) kk) m) (lenS (L u) m) = lenS (powL (L u) (kk + 1)) m := by
      rw [joinB_lenS]
      exact lenS_congr (fun w => (powL_snoc (L u) kk w).symm) m
    rw [ej] at hj98
    by_cases hmk : mnN ≤ kk
    · have hfin2 : ∀ p2, Ored p (lenS (powL (L u) kk) m) p2 (m + 1) → ∀ j, j ≤ m → (At p2 j ↔ ∃ r : Nat, mnN ≤ r ∧ r < kk + 1 ∧ ∃ w, powL (L u) r w ∧ w.length = j) := by
        intro p2 h j hj
        rw [h.2 j, at_lenS, hp j hj]
        constructor
        · rintro (⟨r, g1, g2, g3⟩ | ⟨_, _, g3⟩)
          · exact ⟨r, g1, by omega, g3⟩
          · exact ⟨kk, hmk, by omega, g3⟩
        · rintro ⟨r, g1, g2, g3⟩
          by_cases er : r = kk
          · subst er; exact .inr ⟨by omega, hj, g3⟩
          · exact .inl ⟨r, g1, by omega, g3⟩
      have hql := lenS_len (powL (L u) kk) m
      generalize lenS (powL (L u) kk) m = q at hj98 hfin2 hql ⊢
      repeat' (first
    | (apply r_mvV; rfl)
    | (apply r_mvP; rfl)
    | (apply r_mvPL; rfl)
    | (apply r_mvS; rfl)
    | (apply r_mvSL; rfl)
    | (apply r_mvA; rfl)
    | (apply r_mvT; rfl)
    | (apply r_mvF; rfl)
    | (apply r_mvD; rfl)
    | (apply r_faddD; rfl)
    | (apply r_faddL; rfl)
    | (apply r_l; apply ld_kind; assumption; rfl)
    | (apply r_l; apply ld_mn; assumption; rfl)
    | (apply r_l; apply ld_mx; assumption; rfl)
    | (apply r_l; apply ld_subs; assumption; rfl)
    | (apply r_l; apply ld_set; assumption; rfl)
    | (apply r_l; apply ld_node; assumption; rfl)
    | (apply r_l; apply ld_kind'; assumption; rfl)
    | (apply r_l; apply ld_mn'; assumption; rfl)
    | (apply r_l; apply ld_mx'; assumption; rfl)
    | (apply r_l; apply ld_subs'; assumption; rfl)
    | (apply r_l; apply ld_node'; assumption; rfl)
    | (apply r_ldL; rfl; rfl; rfl)
    | (apply r_eql; rfl; rfl; (first | (apply decide_eq_true; omega) | (apply decide_eq_false; omega) | rfl))
    | (apply r_lss; rfl; rfl; (first | (apply decide_eq_true; omega) | (apply decide_eq_false; omega) | rfl))
    | (apply r_leq; rfl; rfl; (first | (apply decide_eq_true; omega) | (apply decide_eq_false; omega) | rfl))
    | (apply r_geq; rfl; rfl; (first | (apply decide_eq_true; omega) | (apply decide_eq_false; omega) | rfl))
    | (apply r_add; rfl; rfl; rfl; omega)
    | (apply r_pickT; rfl)
    | (apply r_pickF; rfl)
    | (apply r_lenD; rfl)
    | (apply r_lenL; rfl)
    | (apply r_len0; rfl)
    | (apply r_gT; rfl)
    | (apply r_gF'; rfl; rfl)
    | (apply r_gN'; rfl)
    | ((apply r_gS (o := default); rfl) <;> (intro h; try simp only [decide_eq_true_eq, decide_eq_false_iff_not, Bool.not_eq_true, Bool.not_eq_false] at h))
    | (apply r_box; ((conv => lhs; simp only [Nat.reduceAdd]) <;> rfl); rfl; rfl; rfl)
    | (apply r_stL; rfl; rfl; rfl; rfl; (first | rfl | (simp only [z_nil, z_add] <;> rfl)); rfl; rfl)
    | (apply r_p; rfl)
    | (apply r_nilK)
    | (apply r_nil)
    | (apply k_V; rfl)
    | (apply k_P; rfl)
    | (apply k_PL; rfl)
    | (apply k_S; rfl)
    | (apply k_SL; rfl)
    | (apply k_A; rfl)
    | (apply k_T; rfl)
    | (apply k_F; rfl)
    | (apply k_D; rfl; rotate_left; rfl)
    | (apply k_nil)
    | (apply e_ret (vs := [.d (.val _)]); rfl)
    | (apply e_ret; rfl)
    | (apply e_ret' (vs := [.d (.val _)]); rfl)
    | (apply e_ret'; rfl)
    | (apply w_seq)
    | (apply w_ops; ((conv => lhs; simp only [Nat.reduceAdd]) <;> rfl))
    | (apply w_condT; rfl)
    | (apply w_condF; rfl)
    | ((apply w_condS; rfl) <;> (intro h; try simp only [decide_eq_true_eq, decide_eq_false_iff_not, Bool.not_eq_true, Bool.not_eq_false] at h))
    | (apply e_thenN)
    | (apply w_block)
    | (apply e_thenR)
    | (apply e_thenX)
    | (apply e_blkN)
    | (apply e_blkR)
    | (apply e_blkE)
    | (apply w_exit)
    | (apply w_ret)
    | (apply w_skip)
    | (apply e_blkE'; rfl))
      apply w_loopI (ι := Nat × List Bool) (S := fun z => ⟨(((((((Fr.nil.put 1 (.i m)).put 2 (.ptrL 1 0)).put 5 (.slL 50 0 (m + 1) 1)).put 10 (.d (.sl (encB (lenS (L u) m)) (m + 1)))).put 11 (.d (.sl (encB q) (m + 1)))).put 12 (.i last)).put 13 (.i kk)).put 14 (.i z.1), rowsOf [(1, [.i k, .d (.val (.int .u64 a)), .d (.val (.int .u64 b)), .d (.val (.int .u64 c)), .d (.val (.int .u64 d)), .i mnN, .i mx, .d (.sl (encL subs) subs.length)]), (50, (encB z.2).map AV.d)], Frz.buts 200 [50], 200⟩) (m := fun z => m + 1 - z.1) (I := fun z => z.1 ≤ m + 1 ∧ Ored p q z.2 z.1) (i0 := (0, p))
      · exact ⟨Nat.zero_le _, .zero _ _⟩
      · dsimp only
        refine wkM [] [] rfl ?_ ?_ rfl ?_
        · intro p hp; simp only [List.mem_cons, List.not_mem_nil, or_false] at hp; rcases hp with rfl | rfl <;> first | exact ⟨by omega, .inr ⟨rfl, _, rfl, .data rfl⟩⟩ | exact ⟨by omega, .inr ⟨rfl, _, rfl, .data encB_isD⟩⟩
        · intro q hq; simp only [List.mem_cons, List.not_mem_nil, or_false] at hq; rcases hq with rfl <;> rfl
        · repeat' (first
    | exact FWk.nil
    | (apply FWk.i; rfl; (first | rfl | omega | (simp; done)))
    | (apply FWk.sl; rfl; rfl; rfl; rfl; omega; rfl)
    | (apply FWk.ptr; rfl; rfl; rfl; omega; rfl)
    | (apply FWk.d; rfl; rfl)
    | (apply FWk.a; rfl; rfl; rfl)
    | (apply FWk.slN; rfl; omega; rfl))
      rintro ⟨j, p2⟩ K2 ⟨hj, ho⟩ hK2
      dsimp only at hj ho hK2 ⊢
      have hp2 : p2.length = m + 1 := ho.1.trans hpl
      rcases Nat.lt_or_ge j (m + 1) with hlj | hgj
      · have hgp : p2[j]? = some (p2.getD j false) := by rw [List.getD_eq_getElem?_getD, List.getElem?_eq_getElem (by omega)]; rfl
        have hgq : q[j]? = some (q.getD j false) := by rw [List.getD_eq_getElem?_getD, List.getElem?_eq_getElem (by omega)]; rfl
        have hst := ho.step (by omega)
        have fin : ∀ v fr C Z nx, v = (p2.getD j false || q.getD j false) → Wk ⟨fr, C, Z, nx⟩ ⟨(((((((Fr.nil.put 1 (.i m)).put 2 (.ptrL 1 0)).put 5 (.slL 50 0 (m + 1) 1)).put 10 (.d (.sl (encB (lenS (L u) m)) (m + 1)))).put 11 (.d (.sl (encB q) (m + 1)))).put 12 (.i last)).put 13 (.i kk)).put 14 (.i ((j + 1 : Nat) : Int)), rowsOf [(1, [.i k, .d (.val (.int .u64 a)), .d (.val (.int .u64 b)), .d (.val (.int .u64 c)), .d (.val (.int .u64 d)), .i mnN, .i mx, .d (.sl (encL subs) subs.length)]), (50, (encB (p2.set j v)).map AV.d)], Frz.buts 200 [50], 200⟩ → K2 ⟨fr, C, Z, nx⟩ := by
          intro v fr C Z nx hv hw
          subst hv
          exact hK2 (j + 1, _) fr C Z nx ⟨by dsimp only; omega, hst⟩ (by dsimp only; omega) hw
        generalize p2.getD j false = v1 at hgp fin
        generalize q.getD j false = v2 at hgq fin
        cases v1
        all_goals
          repeat' (first
    | (apply r_mvV; rfl)
    | (apply r_mvP; rfl)
    | (apply r_mvPL; rfl)
    | (apply r_mvS; rfl)
    | (apply r_mvSL; rfl)
    | (apply r_mvA; rfl)
    | (apply r_mvT; rfl)
    | (apply r_mvF; rfl)
    | (apply r_mvD; rfl)
    | (apply r_faddD; rfl)
    | (apply r_faddL; rfl)
    | (apply r_ixL (j := j); rfl; rfl; omega)
    | (apply r_ldBL (j := j); rfl; rfl; exact hgp)
    | (apply r_ixB' (j := j); rfl; rfl; exact hlj; exact hql)
    | (apply r_ldB (j := j); rfl; exact hgq)
    | (apply r_stB (j := j); rfl; rfl; rfl; rfl; omega)
    | (apply r_ldL; rfl; rfl; rfl)
    | (apply r_eql; rfl; rfl; (first | (apply decide_eq_true; omega) | (apply decide_eq_false; omega) | rfl))
    | (apply r_lss; rfl; rfl; (first | (apply decide_eq_true; omega) | (apply decide_eq_false; omega) | rfl))
    | (apply r_leq; rfl; rfl; (first | (apply decide_eq_true; omega) | (apply decide_eq_false; omega) | rfl))
    | (apply r_geq; rfl; rfl; (first | (apply decide_eq_true; omega) | (apply decide_eq_false; omega) | rfl))
    | (apply r_add; rfl; rfl; rfl; omega)
    | (apply r_pickT; rfl)
    | (apply r_pickF; rfl)
    | (apply r_lenD; rfl)
    | (apply r_lenL; rfl)
    | (apply r_len0; rfl)
    | (apply r_gT; rfl)
    | (apply r_gF'; rfl; rfl)
    | (apply r_gN'; rfl)
    | ((apply r_gS (o := default); rfl) <;> (intro h; try simp only [decide_eq_true_eq, decide_eq_false_iff_not, Bool.not_eq_true, Bool.not_eq_false] at h))
    | (apply r_box; ((conv => lhs; simp only [Nat.reduceAdd]) <;> rfl); rfl; rfl; rfl)
    | (apply r_stL; rfl; rfl; rfl; rfl; (first | rfl | (simp only [z_nil, z_add] <;> rfl)); rfl; rfl)
    | (apply r_p; rfl)
    | (apply r_nilK)
    | (apply r_nil)
    | (apply k_V; rfl)
    | (apply k_P; rfl)
    | (apply k_PL; rfl)
    | (apply k_S; rfl)
    | (apply k_SL; rfl)
    | (apply k_A; rfl)
    | (apply k_T; rfl)
    | (apply k_F; rfl)
    | (apply k_D; rfl; rotate_left; rfl)
    | (apply k_nil)
    | (apply e_ret (vs := [.d (.val _)]); rfl)
    | (apply e_ret; rfl)
    | (apply e_ret' (vs := [.d (.val _)]); rfl)
    | (apply e_ret'; rfl)
    | (apply w_seq)
    | (apply w_ops; ((conv => lhs; simp only [Nat.reduceAdd]) <;> rfl))
    | (apply w_condT; rfl)
    | (apply w_condF; rfl)
    | ((apply w_condS; rfl) <;> (intro h; try simp only [decide_eq_true_eq, decide_eq_false_iff_not, Bool.not_eq_true, Bool.not_eq_false] at h))
    | (apply e_thenN)
    | (apply w_block)
    | (apply e_thenR)
    | (apply e_thenX)
    | (apply e_blkN)
    | (apply e_blkR)
    | (apply e_blkE)
    | (apply w_exit)
    | (apply w_ret)
    | (apply w_skip)
    | (apply e_blkE'; rfl))
          apply e_thenK
          refine fin _ _ _ _ _ (by first | rfl | simp) ?_
          refine wkM [] [] rfl ?_ ?_ rfl ?_
          · intro p hp; simp only [List.mem_cons, List.not_mem_nil, or_false] at hp; rcases hp with rfl | rfl <;> first | exact ⟨by omega, .inr ⟨rfl, _, rfl, .data rfl⟩⟩ | exact ⟨by omega, .inr ⟨rfl, _, rfl, .data encB_isD⟩⟩
          · intro q hq; simp only [List.mem_cons, List.not_mem_nil, or_false] at hq; rcases hq with rfl <;> rfl
          · repeat' (first
    | exact FWk.nil
    | (apply FWk.i; rfl; (first | rfl | omega | (simp; done)))
    | (apply FWk.sl; rfl; rfl; rfl; rfl; omega; rfl)
    | (apply FWk.ptr; rfl; rfl; rfl; omega; rfl)
    | (apply FWk.d; rfl; rfl)
    | (apply FWk.a; rfl; rfl; rfl)
    | (apply FWk.slN; rfl; omega; rfl))
      · have ej2 : j = m + 1 := by omega
        subst ej2
        have e2 := hfin2 p2 ho
        repeat' (first
    | (apply r_mvV; rfl)
    | (apply r_mvP; rfl)
    | (apply r_mvPL; rfl)
    | (apply r_mvS; rfl)
    | (apply r_mvSL; rfl)
    | (apply r_mvA; rfl)
    | (apply r_mvT; rfl)
    | (apply r_mvF; rfl)
    | (apply r_mvD; rfl)
    | (apply r_faddD; rfl)
    | (apply r_faddL; rfl)
    | (apply r_callA; rfl; rfl; exact hj98)
    | (apply r_ldL; rfl; rfl; rfl)
    | (apply r_eql; rfl; rfl; (first | (apply decide_eq_true; omega) | (apply decide_eq_false; omega) | rfl))
    | (apply r_lss; rfl; rfl; (first | (apply decide_eq_true; omega) | (apply decide_eq_false; omega) | rfl))
    | (apply r_leq; rfl; rfl; (first | (apply decide_eq_true; omega) | (apply decide_eq_false; omega) | rfl))
    | (apply r_geq; rfl; rfl; (first | (apply decide_eq_true; omega) | (apply decide_eq_false; omega) | rfl))
    | (apply r_add; rfl; rfl; rfl; omega)
    | (apply r_pickT; rfl)
    | (apply r_pickF; rfl)
    | (apply r_lenD; rfl)
    | (apply r_lenL; rfl)
    | (apply r_len0; rfl)
    | (apply r_gT; rfl)
    | (apply r_gF'; rfl; rfl)
    | (apply r_gN'; rfl)
    | ((apply r_gS (o := default); rfl) <;> (intro h; try simp only [decide_eq_true_eq, decide_eq_false_iff_not, Bool.not_eq_true, Bool.not_eq_false] at h))
    | (apply r_box; ((conv => lhs; simp only [Nat.reduceAdd]) <;> rfl); rfl; rfl; rfl)
    | (apply r_stL; rfl; rfl; rfl; rfl; (first | rfl | (simp only [z_nil, z_add] <;> rfl)); rfl; rfl)
    | (apply r_p; rfl)
    | (apply r_nilK)
    | (apply r_nil)
    | (apply k_V; rfl)
    | (apply k_P; rfl)
    | (apply k_PL; rfl)
    | (apply k_S; rfl)
    | (apply k_SL; rfl)
    | (apply k_A; rfl)
    | (apply k_T; rfl)
    | (apply k_F; rfl)
    | (apply k_D; rfl; rotate_left; rfl)
    | (apply k_nil)
    | (apply e_ret (vs := [.d (.val _)]); rfl)
    | (apply e_ret; rfl)
    | (apply e_ret' (vs := [.d (.val _)]); rfl)
    | (apply e_ret'; rfl)
    | (apply w_seq)
    | (apply w_ops; ((conv => lhs; simp only [Nat.reduceAdd]) <;> rfl))
    | (apply w_condT; rfl)
    | (apply w_condF; rfl)
    | ((apply w_condS; rfl) <;> (intro h; try simp only [decide_eq_true_eq, decide_eq_false_iff_not, Bool.not_eq_true, Bool.not_eq_false] at h))
    | (apply e_thenN)
    | (apply w_block)
    | (apply e_thenR)
    | (apply e_thenX)
    | (apply e_blkN)
    | (apply e_blkR)
    | (apply e_blkE)
    | (apply w_exit)
    | (apply w_ret)
    | (apply w_skip)
    | (apply e_blkE'; rfl))
        apply e_thenK
        apply hK (kk + 1, p2)
        · exact ⟨by dsimp only; omega, hp2, e2⟩
        · dsimp only; omega
        · dsimp only
          refine Wk.f (wkM [] [] rfl ?_ ?_ rfl ?_)
          · intro p hp; simp only [List.mem_cons, List.not_mem_nil, or_false] at hp; rcases hp with rfl | rfl <;> first | exact ⟨by omega, .inr ⟨rfl, _, rfl, .data rfl⟩⟩ | exact ⟨by omega, .inr ⟨rfl, _, rfl, .data encB_isD⟩⟩
          · intro q hq; simp only [List.mem_cons, List.not_mem_nil, or_false] at hq; rcases hq with rfl <;> rfl
          · repeat' (first
    | exact FWk.nil
    | (apply FWk.i; rfl; (first | rfl | omega | (simp; done)))
    | (apply FWk.sl; rfl; rfl; rfl; rfl; omega; rfl)
    | (apply FWk.ptr; rfl; rfl; rfl; omega; rfl)
    | (apply FWk.d; rfl; rfl)
    | (apply FWk.a; rfl; rfl; rfl)
    | (apply FWk.slN; rfl; omega; rfl))
    · repeat' (first
    | (apply r_mvV; rfl)
    | (apply r_mvP; rfl)
    | (apply r_mvPL; rfl)
    | (apply r_mvS; rfl)
    | (apply r_mvSL; rfl)
    | (apply r_mvA; rfl)
    | (apply r_mvT; rfl)
    | (apply r_mvF; rfl)
    | (apply r_mvD; rfl)
    | (apply r_faddD; rfl)
    | (apply r_faddL; rfl)
    | (apply r_l; apply ld_kind; assumption; rfl)
    | (apply r_l; apply ld_mn; assumption; rfl)
    | (apply r_l; apply ld_mx; assumption; rfl)
    | (apply r_l; apply ld_subs; assumption; rfl)
    | (apply r_l; apply ld_set; assumption; rfl)
    | (apply r_l; apply ld_node; assumption; rfl)
    | (apply r_l; apply ld_kind'; assumption; rfl)
    | (apply r_l; apply ld_mn'; assumption; rfl)
    | (apply r_l; apply ld_mx'; assumption; rfl)
    | (apply r_l; apply ld_subs'; assumption; rfl)
    | (apply r_l; apply ld_node'; assumption; rfl)
    | (apply r_callA; rfl; rfl; exact hj98)
    | (apply r_ldL; rfl; rfl; rfl)
    | (apply r_eql; rfl; rfl; (first | (apply decide_eq_true; omega) | (apply decide_eq_false; omega) | rfl))
    | (apply r_lss; rfl; rfl; (first | (apply decide_eq_true; omega) | (apply decide_eq_false; omega) | rfl))
    | (apply r_leq; rfl; rfl; (first | (apply decide_eq_true; omega) | (apply decide_eq_false; omega) | rfl))
    | (apply r_geq; rfl; rfl; (first | (apply decide_eq_true; omega) | (apply decide_eq_false; omega) | rfl))
    | (apply r_add; rfl; rfl; rfl; omega)
    | (apply r_pickT; rfl)
    | (apply r_pickF; rfl)
    | (apply r_lenD; rfl)
    | (apply r_lenL; rfl)
    | (apply r_len0; rfl)
    | (apply r_gT; rfl)
    | (apply r_gF'; rfl; rfl)
    | (apply r_gN'; rfl)
    | ((apply r_gS (o := default); rfl) <;> (intro h; try simp only [decide_eq_true_eq, decide_eq_false_iff_not, Bool.not_eq_true, Bool.not_eq_false] at h))
    | (apply r_box; ((conv => lhs; simp only [Nat.reduceAdd]) <;> rfl); rfl; rfl; rfl)
    | (apply r_stL; rfl; rfl; rfl; rfl; (first | rfl | (simp only [z_nil, z_add] <;> rfl)); rfl; rfl)
    | (apply r_p; rfl)
    | (apply r_nilK)
    | (apply r_nil)
    | (apply k_V; rfl)
    | (apply k_P; rfl)
    | (apply k_PL; rfl)
    | (apply k_S; rfl)
    | (apply k_SL; rfl)
    | (apply k_A; rfl)
    | (apply k_T; rfl)
    | (apply k_F; rfl)
    | (apply k_D; rfl; rotate_left; rfl)
    | (apply k_nil)
    | (apply e_ret (vs := [.d (.val _)]); rfl)
    | (apply e_ret; rfl)
    | (apply e_ret' (vs := [.d (.val _)]); rfl)
    | (apply e_ret'; rfl)
    | (apply w_seq)
    | (apply w_ops; ((conv => lhs; simp only [Nat.reduceAdd]) <;> rfl))
    | (apply w_condT; rfl)
    | (apply w_condF; rfl)
    | ((apply w_condS; rfl) <;> (intro h; try simp only [decide_eq_true_eq, decide_eq_false_iff_not, Bool.not_eq_true, Bool.not_eq_false] at h))
    | (apply e_thenN)
    | (apply w_block)
    | (apply e_thenR)
    | (apply e_thenX)
    | (apply e_blkN)
    | (apply e_blkR)
    | (apply e_blkE)
    | (apply w_exit)
    | (apply w_ret)
    | (apply w_skip)
    | (apply e_blkE'; rfl))
      apply e_thenK
      apply hK (kk + 1, p)
      · refine ⟨by dsimp only; omega, hpl, fun j hj => ?_⟩
        rw [hp j hj]
        dsimp only
        constructor
        · rintro ⟨r, g1, g2, g3⟩; omega
        · rintro ⟨r, g1, g2, g3⟩; omega
      · dsimp only; omega
      · dsimp only
        refine Wk.f (wkM [] [] rfl ?_ ?_ rfl ?_)
        · intro p hp; simp only [List.mem_cons, List.not_mem_nil, or_false] at hp; rcases hp with rfl | rfl <;> first | exact ⟨by omega, .inr ⟨rfl, _, rfl, .data rfl⟩⟩ | exact ⟨by omega, .inr ⟨rfl, _, rfl, .data encB_isD⟩⟩
        · intro q hq; simp only [List.mem_cons, List.not_mem_nil, or_false] at hq; rcases hq with rfl <;> rfl
        · repeat' (first
    | exact FWk.nil
    | (apply FWk.i; rfl; (first | rfl | omega | (simp; done)))
    | (apply FWk.sl; rfl; rfl; rfl; rfl; omega; rfl)
    | (apply FWk.ptr; rfl; rfl; rfl; omega; rfl)
    | (apply FWk.d; rfl; rfl)
    | (apply FWk.a; rfl; rfl; rfl)
    | (apply FWk.slN; rfl; omega; rfl))
noncomputable def nullS (t : T) : Bool := @decide (L t []) (Classical.propDecidable _)
theorem null72_good (t : T) (hc : t.cnt ≤ 1000000) (hok : okT t) : Good Try.prog 72 [nodeA t] none (.b (nullS t)) none none := by
  have h := len49_good 1000000 t hc (Nat.le_refl _) hok 0 (by omega)
  have h0 : (lenS (L t) 0)[0]? = some (nullS t) := by
    have h1 := at_lenS (L t) 0 0
    have hl := lenS_len (L t) 0
    have h2 : (lenS (L t) 0)[0]? = some ((lenS (L t) 0).getD 0 false) := by rw [List.getD_eq_getElem?_getD, List.getElem?_eq_getElem (by omega)]; rfl
    rw [h2]
    congr 1
    unfold At at h1
    rw [Bool.eq_iff_iff, h1]
    simp only [nullS, decide_eq_true_eq]
    constructor
    · rintro ⟨_, w, hw, hl⟩
      have : w = [] := List.length_eq_zero_iff.1 hl
      subst this; exact hw
    · intro hw; exact ⟨Nat.le_refl _, [], hw, rfl⟩
  have hl := lenS_len (L t) 0
  generalize nullS t = v at h0
  generalize lenS (L t) 0 = q at h h0 hl
  obtain ⟨k, a, b, c, d, mn, mx, subs⟩ := t
  have e0 : nodeA (.node k a b c d mn mx subs) = .agg [.i k, .d (.val (.int .u64 a)), .d (.val (.int .u64 b)), .d (.val (.int .u64 c)), .d (.val (.int .u64 d)), .i mn, .i mx, .d (.sl (encL subs) subs.length)] := rfl
  rw [e0] at h ⊢
  refine b72 (by simp) (by simp) (w_init ?_)
  unfold x72
  repeat' (first
    | (apply r_mvV; rfl)
    | (apply r_mvP; rfl)
    | (apply r_mvPL; rfl)
    | (apply r_mvS; rfl)
    | (apply r_mvSL; rfl)
    | (apply r_mvA; rfl)
    | (apply r_mvT; rfl)
    | (apply r_mvF; rfl)
    | (apply r_mvD; rfl)
    | (apply r_l; apply ld_kind; assumption; rfl)
    | (apply r_l; apply ld_mn; assumption; rfl)
    | (apply r_l; apply ld_mx; assumption; rfl)
    | (apply r_l; apply ld_subs; assumption; rfl)
    | (apply r_l; apply ld_set; assumption; rfl)
    | (apply r_l; apply ld_node; assumption; rfl)
    | (apply r_l; apply ld_kind'; assumption; rfl)
    | (apply r_l; apply ld_mn'; assumption; rfl)
    | (apply r_l; apply ld_mx'; assumption; rfl)
    | (apply r_l; apply ld_subs'; assumption; rfl)
    | (apply r_l; apply ld_node'; assumption; rfl)
    | (apply r_callA; rfl; rfl; exact h)
    | (apply r_ixB' (j := 0); rfl; rfl; omega; exact hl)
    | (apply r_ldB (j := 0); rfl; exact h0)
    | (apply r_ldL; rfl; rfl; rfl)
    | (apply r_box; ((conv => lhs; simp only [Nat.reduceAdd]) <;> rfl); rfl; rfl; rfl)
    | (apply r_p; rfl)
    | (apply r_nilK)
    | (apply r_nil)
    | (apply k_V; rfl)
    | (apply k_P; rfl)
    | (apply k_PL; rfl)
    | (apply k_S; rfl)
    | (apply k_SL; rfl)
    | (apply k_A; rfl)
    | (apply k_T; rfl)
    | (apply k_F; rfl)
    | (apply k_D; rfl; rotate_left; rfl)
    | (apply k_nil)
    | (apply e_ret (vs := [.d (.val _)]); rfl)
    | (apply e_ret; rfl)
    | (apply e_ret' (vs := [.d (.val _)]); rfl)
    | (apply e_ret'; rfl)
    | (apply w_seq)
    | (apply w_ops; ((conv => lhs; simp only [Nat.reduceAdd]) <;> rfl))
    | (apply e_thenN)
    | (apply w_block)
    | (apply e_thenR)
    | (apply e_thenX)
    | (apply e_blkN)
    | (apply e_blkR)
    | (apply e_blkE)
    | (apply w_exit)
    | (apply w_ret)
    | (apply w_skip)
    | (apply e_blkE'; rfl))
  exact retB rfl
end Go.Sv
namespace Go.Sv
open Go
theorem setWs_same {l r : List Nat} (hl : ∀ x ∈ l, x < 256) (hr : ∀ x ∈ r, x < 256) (h : ∀ y, y < 256 → (y ∈ l ↔ y ∈ r)) : setWs l = setWs r := by
  obtain ⟨a1, a2⟩ := setWs_ok hl
  obtain ⟨b1, b2⟩ := setWs_ok hr
  refine words_ext a1 b1 fun y hy => ?_
  rw [Bool.eq_iff_iff, a2 y hy, b2 y hy]
  exact h y hy
theorem firstL_lt (P : List Nat → Prop) : ∀ x ∈ firstL P, x < 256 := fun x h => ((mem_firstL P x).1 h).1
theorem firstL_none {P : List Nat → Prop} (h : ∀ w, ¬ P w) : firstL P = [] := by
  rw [List.eq_nil_iff_forall_not_mem]
  intro x hx
  obtain ⟨_, w, hw⟩ := (mem_firstL P x).1 hx
  exact h _ hw
theorem first_eq {P : List Nat → Prop} {l : List Nat} (hl : ∀ x ∈ l, x < 256) (h : ∀ y, y < 256 → (y ∈ l ↔ ∃ w, P (y :: w))) : setWs l = setWs (firstL P) := by
  refine setWs_same hl (firstL_lt P) fun y hy => ?_
  rw [h y hy, mem_firstL]
  exact ⟨fun h => ⟨hy, h⟩, fun h => h.2⟩
theorem catL_first : ∀ (l : List T), (∀ j (h : j < l.length), ∃ w, L l[j] w) → ∀ y, (∃ w, catL l (y :: w)) ↔ ∃ j, ∃ h : j < l.length, (∀ i (hi : i < l.length), i < j → L l[i] []) ∧ ∃ w, L l[j] (y :: w)
  | [], _, y => by
    constructor
    · rintro ⟨w, h⟩; simp [catL] at h
    · rintro ⟨j, h, _⟩; simp at h
  | t :: l, hw, y => by
    have ih := catL_first l (fun j h => hw (j + 1) (by simpa using h)) y
    constructor
    · rintro ⟨w, u, v, e, hu, hv⟩
      cases u with
      | nil =>
        simp only [List.nil_append] at e
        subst e
        obtain ⟨j, h, h1, h2⟩ := ih.1 ⟨w, hv⟩
        refine ⟨j + 1, by simpa using h, fun i hi hij => ?_, by simpa using h2⟩
        cases i with
        | zero => exact hu
        | succ i => exact h1 i (by simpa using hi) (by omega)
      | cons x u =>
        simp only [List.cons_append, List.cons.injEq] at e
        obtain ⟨rfl, rfl⟩ := e
        exact ⟨0, by simp, fun i _ h => by omega, u, hu⟩
    · rintro ⟨j, h, h1, w, h2⟩
      cases j with
      | zero =>
        have : ∃ v, catL l v := by
          clear ih h1 h h2
          induction l with
          | nil => exact ⟨[], rfl⟩
          | cons t2 l ih2 =>
            obtain ⟨a, ha⟩ := hw 1 (by simp)
            obtain ⟨b, hb⟩ := ih2 (fun j h => by
              cases j with
              | zero => exact hw 0 (by simp)
              | succ j => exact hw (j + 2) (by simpa using h))
            exact ⟨a ++ b, a, b, rfl, ha, hb⟩
        obtain ⟨v, hv⟩ := this
        exact ⟨w ++ v, y :: w, v, rfl, h2, hv⟩
      | succ j =>
        obtain ⟨w', hw'⟩ := ih.2 ⟨j, by simpa using h, fun i hi hij => h1 (i + 1) (by simpa using hi) (by omega), w, by simpa using h2⟩
        exact ⟨w', [], y :: w', rfl, h1 0 (by simp) (by omega), hw'⟩
theorem altL_first (l : List T) (y : Nat) : (∃ w, altL l (y :: w)) ↔ ∃ j, ∃ h : j < l.length, ∃ w, L l[j] (y :: w) := by
  induction l with
  | nil =>
    constructor
    · rintro ⟨w, h⟩; exact h.elim
    · rintro ⟨j, h, _⟩; simp at h
  | cons t l ih =>
    constructor
    · rintro ⟨w, h | h⟩
      · exact ⟨0, by simp, w, h⟩
      · obtain ⟨j, hj, hw⟩ := ih.1 ⟨w, h⟩
        exact ⟨j + 1, by simpa using hj, by simpa using hw⟩
    · rintro ⟨j, hj, w, hw⟩
      cases j with
      | zero => exact ⟨w, .inl hw⟩
      | succ j =>
        obtain ⟨w', h⟩ := ih.2 ⟨j, by simpa using hj, w, by simpa using hw⟩
        exact ⟨w', .inr h⟩
theorem powL_first {P : List Nat → Prop} {y : Nat} : ∀ (r : Nat) (w : List Nat), powL P r (y :: w) → ∃ w', P (y :: w')
  | 0, w, h => by simp [powL] at h
  | r + 1, w, ⟨u, v, e, h1, h2⟩ => by
    cases u with
    | nil =>
      simp only [List.nil_append] at e
      subst e
      exact powL_first r w h2
    | cons x u =>
      simp only [List.cons_append, List.cons.injEq] at e
      obtain ⟨rfl, rfl⟩ := e
      exact ⟨u, h1⟩
theorem powL_some {P : List Nat → Prop} {w : List Nat} (h : P w) : ∀ r : Nat, ∃ v, powL P r v
  | 0 => ⟨[], rfl⟩
  | r + 1 => by
    obtain ⟨v, hv⟩ := powL_some h r
    exact ⟨w ++ v, w, v, rfl, h, hv⟩
theorem rep_first {P : List Nat → Prop} {mn mx : Int} (h0 : 0 ≤ mn) (hm : mx = -1 ∨ mn ≤ mx) (hx : mx ≠ 0) (y : Nat) : (∃ w, ∃ r : Nat, mn ≤ r ∧ (mx < 0 ∨ (r : Int) ≤ mx) ∧ powL P r (y :: w)) ↔ ∃ w, P (y :: w) := by
  constructor
  · rintro ⟨w, r, _, _, h⟩; exact powL_first r w h
  · rintro ⟨w, h⟩
    obtain ⟨m, rfl⟩ := Int.eq_ofNat_of_zero_le h0
    obtain ⟨v, hv⟩ := powL_some h (m - 1)
    refine ⟨w ++ v, (m - 1) + 1, by omega, by omega, y :: w, v, rfl, h, hv⟩
end Go.Sv
