/- A part of the proof of the law ExpandPlain: that it answers true for every input, and that the input reads behind the call as before (no condition). -/
import Derived.Test.YtcnlgmajkclgjaaExpandPlainG1
set_option linter.all false
set_option linter.unusedSectionVars false
set_option linter.unusedVariables false
set_option linter.unusedSimpArgs false
namespace Go.Sv
open Go Go.Proofs
def x3 : XC := (.seq (.ops 2 [
    (0, ⟨(some 3), none, .box (.t 0)⟩),
    (1, ⟨(some 6), none, .mv (.k (.d (.val (.bool false))))⟩)] (some [1, 2, 3])) (.seq (.seq (.ops 8 [
    (0, ⟨(some 9), none, .call 29 [] none false⟩),
    (1, ⟨(some 10), none, .un .not (.t 9)⟩),
    (2, ⟨(some 11), none, .mv (.t 10)⟩),
    (3, ⟨(some 12), (some (11, false)), .load (some 8) (.t 3)⟩),
    (4, ⟨(some 13), (some (11, false)), .mv (.t 1)⟩),
    (5, ⟨(some 14), (some (11, false)), .call 30 [(.t 12), (.t 13)] none false⟩),
    (6, ⟨(some 15), (some (11, false)), .un .not (.t 14)⟩),
    (7, ⟨(some 16), none, .pick (.t 11) (.k (.d (.val (.bool true)))) (.t 15)⟩)] (some [1, 2, 3, 16])) (.cond (.t 16) (.seq (.ops 2 [
    (0, ⟨(some 17), none, .call 29 [] none false⟩),
    (1, ⟨(some 6), none, .mv (.t 17)⟩)] (some [6])) .ret) .skip)) (.seq (.ops 9 [
    (0, ⟨(some 19), none, .load (some 8) (.t 3)⟩),
    (1, ⟨(some 20), none, .mv (.t 1)⟩),
    (2, ⟨(some 21), none, .mv (.t 2)⟩),
    (3, ⟨(some 22), none, .call 31 [(.t 19), (.t 20), (.t 21)] none false⟩),
    (4, ⟨(some 18), none, .mv (.t 22)⟩),
    (5, ⟨(some 23), none, .ext (.t 18) 0⟩),
    (6, ⟨(some 24), none, .ext (.t 18) 1⟩),
    (7, ⟨(some 7), none, .mv (.t 23)⟩),
    (8, ⟨(some 8), none, .mv (.t 24)⟩)] (some [1, 2, 3, 7, 8])) (.seq (.block 0 (.seq (.ops 4 [
    (0, ⟨(some 26), none, .load (some 8) (.t 3)⟩),
    (1, ⟨(some 27), none, .call 32 [(.t 26)] none false⟩),
    (2, ⟨(some 28), none, .un .not (.t 27)⟩),
    (3, ⟨(some 25), none, .mv (.t 28)⟩)] (some [1, 2, 3, 7, 8, 25])) (.cond (.t 25) (.seq (.ops 14 [
    (0, ⟨(some 29), none, .mv (.t 7)⟩),
    (1, ⟨(some 30), none, .lenS (.t 29)⟩),
    (2, ⟨(some 31), none, .arith .eql (.t 30) (.k (.d (.val (.int .i64 0))))⟩),
    (3, ⟨(some 32), none, .mv (.t 31)⟩),
    (4, ⟨(some 33), (some (32, true)), .mv (.t 8)⟩),
    (5, ⟨(some 34), (some (32, true)), .arith .eql (.t 33) (.k (.d (.val (.int .i64 1))))⟩),
    (6, ⟨(some 35), none, .pick (.t 32) (.t 34) (.k (.d (.val (.bool false))))⟩),
    (7, ⟨(some 36), none, .mv (.t 35)⟩),
    (8, ⟨(some 37), (some (36, true)), .load (some 8) (.t 3)⟩),
    (9, ⟨(some 38), (some (36, true)), .mv (.t 1)⟩),
    (10, ⟨(some 39), (some (36, true)), .call 33 [(.t 37), (.t 38)] none false⟩),
    (11, ⟨(some 40), (some (36, true)), .un .not (.t 39)⟩),
    (12, ⟨(some 41), none, .pick (.t 36) (.t 40) (.k (.d (.val (.bool false))))⟩),
    (13, ⟨(some 6), none, .mv (.t 41)⟩)] (some [6])) .ret) (.seq (.ops 9 [
    (0, ⟨(some 43), none, .mv (.t 2)⟩),
    (1, ⟨(some 44), none, .arith .lss (.t 43) (.k (.d (.val (.int .i64 0))))⟩),
    (2, ⟨(some 45), none, .mv (.t 44)⟩),
    (3, ⟨(some 46), (some (45, false)), .mv (.t 2)⟩),
    (4, ⟨(some 47), (some (45, false)), .mv (.t 1)⟩),
    (5, ⟨(some 48), (some (45, false)), .lenT (.t 47)⟩),
    (6, ⟨(some 49), (some (45, false)), .arith .gtr (.t 46) (.t 48)⟩),
    (7, ⟨(some 50), none, .pick (.t 45) (.k (.d (.val (.bool true)))) (.t 49)⟩),
    (8, ⟨(some 42), none, .mv (.t 50)⟩)] (some [1, 2, 3, 7, 8, 42])) (.cond (.t 42) (.seq (.ops 15 [
    (0, ⟨(some 51), none, .mv (.t 7)⟩),
    (1, ⟨(some 52), none, .lenS (.t 51)⟩),
    (2, ⟨(some 53), none, .arith .eql (.t 52) (.k (.d (.val (.int .i64 0))))⟩),
    (3, ⟨(some 54), none, .mv (.t 53)⟩),
    (4, ⟨(some 55), (some (54, true)), .mv (.t 8)⟩),
    (5, ⟨(some 56), (some (54, true)), .arith .eql (.t 55) (.k (.d (.val (.int .i64 2))))⟩),
    (6, ⟨(some 57), none, .pick (.t 54) (.t 56) (.k (.d (.val (.bool false))))⟩),
    (7, ⟨(some 58), none, .mv (.t 57)⟩),
    (8, ⟨(some 59), (some (58, true)), .load (some 8) (.t 3)⟩),
    (9, ⟨(some 60), (some (58, true)), .mv (.t 1)⟩),
    (10, ⟨(some 61), (some (58, true)), .mv (.t 2)⟩),
    (11, ⟨(some 62), (some (58, true)), .call 34 [(.t 59), (.t 60), (.t 61)] none false⟩),
    (12, ⟨(some 63), (some (58, true)), .arith .eql (.t 62) (.k (.d (.val (.int .i64 (-1)))))⟩),
    (13, ⟨(some 64), none, .pick (.t 58) (.t 63) (.k (.d (.val (.bool false))))⟩),
    (14, ⟨(some 6), none, .mv (.t 64)⟩)] (some [6])) .ret) .skip))))) (.seq (.ops 22 [
    (0, ⟨(some 65), none, .mv (.t 8)⟩),
    (1, ⟨(some 66), none, .arith .eql (.t 65) (.k (.d (.val (.int .i64 0))))⟩),
    (2, ⟨(some 67), none, .mv (.t 66)⟩),
    (3, ⟨(some 68), (some (67, true)), .mv (.t 7)⟩),
    (4, ⟨(some 69), (some (67, true)), .load (some 8) (.t 3)⟩),
    (5, ⟨(some 70), (some (67, true)), .mv (.t 1)⟩),
    (6, ⟨(some 71), (some (67, true)), .mv (.t 2)⟩),
    (7, ⟨(some 72), (some (67, true)), .call 36 [(.t 69), (.t 70), (.t 71)] none false⟩),
    (8, ⟨(some 73), (some (67, true)), .call 35 [(.t 68), (.t 72)] none false⟩),
    (9, ⟨(some 74), none, .pick (.t 67) (.t 73) (.k (.d (.val (.bool false))))⟩),
    (10, ⟨(some 75), none, .mv (.t 74)⟩),
    (11, ⟨(some 76), (some (75, true)), .load (some 8) (.t 3)⟩),
    (12, ⟨(some 77), (some (75, true)), .mv (.t 1)⟩),
    (13, ⟨(some 78), (some (75, true)), .mv (.t 2)⟩),
    (14, ⟨(some 79), (some (75, true)), .call 34 [(.t 76), (.t 77), (.t 78)] none false⟩),
    (15, ⟨(some 80), (some (75, true)), .load (some 8) (.t 3)⟩),
    (16, ⟨(some 81), (some (75, true)), .mv (.t 1)⟩),
    (17, ⟨(some 82), (some (75, true)), .mv (.t 2)⟩),
    (18, ⟨(some 83), (some (75, true)), .call 37 [(.t 80), (.t 81), (.t 82)] none false⟩),
    (19, ⟨(some 84), (some (75, true)), .arith .eql (.t 79) (.t 83)⟩),
    (20, ⟨(some 85), none, .pick (.t 75) (.t 84) (.k (.d (.val (.bool false))))⟩),
    (21, ⟨(some 6), none, .mv (.t 85)⟩)] (some [6])) .ret)))))
def md3 : FuncId → Option Nat × Bool
  | _ => (none, false)
def od3 : Nat → List (List Nat) × List Nat × Option (List Nat)
  | 0 => ([], [], some [1, 2, 3])
  | 1 => ([], [], some [1, 2, 3, 16])
  | 2 => ([], [], some [6])
  | 3 => ([], [], some [1, 2, 3, 7, 8])
  | 4 => ([], [], some [1, 2, 3, 7, 8, 25])
  | 5 => ([], [], some [6])
  | 6 => ([], [], some [1, 2, 3, 7, 8, 42])
  | 7 => ([], [], some [6])
  | 8 => ([[], [0], [0, 1], [0, 1, 2], [0, 1, 2], [0, 1, 2], [0, 1, 2], [0, 1, 2, 4, 5, 6], [0, 1, 2, 3, 4, 5, 6, 7], [0, 1, 2, 3, 4, 5, 6, 7, 8], [0, 1, 2, 3, 4, 5, 6, 7, 8, 9], [0, 1, 2, 3, 4, 5, 6, 7, 8, 9, 10], [0, 1, 2, 3, 4, 5, 6, 7, 8, 9, 10], [0, 1, 2, 3, 4, 5, 6, 7, 8, 9, 10], [0, 1, 2, 3, 4, 5, 6, 7, 8, 9, 10, 11, 12, 13], [0, 1, 2, 3, 4, 5, 6, 7, 8, 9, 10], [0, 1, 2, 3, 4, 5, 6, 7, 8, 9, 10], [0, 1, 2, 3, 4, 5, 6, 7, 8, 9, 10], [0, 1, 2, 3, 4, 5, 6, 7, 8, 9, 10, 11, 12, 13, 14, 15, 16, 17], [0, 1, 2, 3, 4, 5, 6, 7, 8, 9, 10, 11, 12, 13, 14, 15, 16, 17, 18], [0, 1, 2, 3, 4, 5, 6, 7, 8, 9, 10, 11, 12, 13, 14, 15, 16, 17, 18, 19], [0, 1, 2, 3, 4, 5, 6, 7, 8, 9, 10, 11, 12, 13, 14, 15, 16, 17, 18, 19, 20]], [0, 1, 2, 3, 4, 5, 6, 7, 8, 9, 10, 11, 12, 13, 14, 15, 16, 17, 18, 19, 20, 21], some [6])
  | _ => ([], [], none)
theorem b3 {ags : List AV} {row : Option (List DV)} {r : AV} {row' nw : Option (List DV)} (hal : ags.length ≤ 86) (hrow : row'.isSome = true → row.isSome = true) (h : xwp Try.prog x3 (retK [.tmp 6] row.isSome r row' nw) (St.init ags row)) : Good Try.prog 3 ags row r row' nw :=
  good_of_body' (md := md3) (od := od3) Try.f3 (by kernel_rfl) (by kernel_rfl) (by kernel_rfl) (by kernel_rfl) (by kernel_rfl) hal hrow h

set_option maxRecDepth 100000
set_option maxHeartbeats 4000000
attribute [local irreducible] W E R KP thenK blockK retK Good xwp aRun
def few11 (s : ByteArray) (t : T) : Bool := decide (sizeT t 601 ≤ 200) && (decide (s.size ≤ 40) && (!rightT t || decide (wideT t ≤ 3000)))
theorem few_cnt {t : T} (h : sizeT t 601 ≤ 200) : t.cnt ≤ 200 := by
  have := sizeT_cnt t 601 (by omega)
  omega
theorem few30_good (s : ByteArray) (hs : s.size ≤ 9223372036854775807) (t : T) (ht : inT t) : Good Try.prog 30 [nodeA t, .d (.val (.string s))] none (.b (few11 s t)) none none := by
  have h45 := few_good t
  by_cases hf : sizeT t 601 ≤ 200
  case neg =>
    have ev : few11 s t = false := by simp [few11, hf]
    rw [ev]
    rw [show decide (sizeT t 601 ≤ 200) = false by simp [hf]] at h45
    clear ht ev hf
    obtain ⟨k, a, b, c, d, mn, mx, subs⟩ := t
    have e0 : nodeA (.node k a b c d mn mx subs) = .agg [.i k, .d (.val (.int .u64 a)), .d (.val (.int .u64 b)), .d (.val (.int .u64 c)), .d (.val (.int .u64 d)), .i mn, .i mx, .d (.sl (encL subs) subs.length)] := rfl
    rw [e0] at h45 ⊢
    refine b30 (by simp) (by simp) (w_init ?_)
    unfold x30
    repeat' (first
    | (apply r_mvV; rfl)
    | (apply r_mvP; rfl)
    | (apply r_mvPL; rfl)
    | (apply r_mvS; rfl)
    | (apply r_mvSL; rfl)
    | (apply r_mvA; rfl)
    | (apply r_mvT; rfl)
    | (apply r_mvF; rfl)
    | (apply r_mvD; rfl)
    | (apply r_l; apply ld_kind; assumption; rfl)
    | (apply r_l; apply ld_mn; assumption; rfl)
    | (apply r_l; apply ld_mx; assumption; rfl)
    | (apply r_l; apply ld_subs; assumption; rfl)
    | (apply r_l; apply ld_set; assumption; rfl)
    | (apply r_l; apply ld_node; assumption; rfl)
    | (apply r_l; apply ld_kind'; assumption; rfl)
    | (apply r_l; apply ld_mn'; assumption; rfl)
    | (apply r_l; apply ld_mx'; assumption; rfl)
    | (apply r_l; apply ld_subs'; assumption; rfl)
    | (apply r_l; apply ld_node'; assumption; rfl)
    | (apply r_callA; rfl; rfl; exact h45)
    | (apply r_ldL; rfl; rfl; rfl)
    | (apply r_leq; rfl; rfl; (first | (apply decide_eq_true; omega) | (apply decide_eq_false; omega) | rfl))
    | (apply r_not; rfl; rfl)
    | (apply r_pickT; rfl)
    | (apply r_pickF; rfl)
    | (apply r_lenT; rfl)
    | (apply r_gT; rfl)
    | (apply r_gF'; rfl; rfl)
    | (apply r_gN'; rfl)
    | ((apply r_gS (o := default); rfl) <;> (intro h; try simp only [decide_eq_true_eq, decide_eq_false_iff_not, Bool.not_eq_true, Bool.not_eq_false] at h))
    | (apply r_box; ((conv => lhs; simp only [Nat.reduceAdd]) <;> rfl); rfl; rfl; rfl)
    | (apply r_nilK)
    | (apply r_nil)
    | (apply k_V; rfl)
    | (apply k_P; rfl)
    | (apply k_PL; rfl)
    | (apply k_S; rfl)
    | (apply k_SL; rfl)
    | (apply k_A; rfl)
    | (apply k_T; rfl)
    | (apply k_F; rfl)
    | (apply k_D; rfl; rotate_left; rfl)
    | (apply k_nil)
    | (apply e_ret (vs := [.d (.val _)]); rfl)
    | (apply e_ret; rfl)
    | (apply e_ret' (vs := [.d (.val _)]); rfl)
    | (apply e_ret'; rfl)
    | (apply w_seq)
    | (apply w_ops; ((conv => lhs; simp only [Nat.reduceAdd]) <;> rfl))
    | (apply e_thenN)
    | (apply w_block)
    | (apply e_thenR)
    | (apply e_thenX)
    | (apply e_blkN)
    | (apply e_blkR)
    | (apply e_blkE)
    | (apply w_exit)
    | (apply w_ret)
    | (apply w_skip)
    | (apply e_blkE'; rfl))
    exact retB rfl
  have hc := few_cnt hf
  have h32 := right8_good t (by omega)
  rw [show decide (sizeT t 601 ≤ 200) = true by simp [hf]] at h45
  by_cases h40 : s.size ≤ 40
  case neg =>
    have ev : few11 s t = false := by simp [few11, h40]
    rw [ev]
    clear ht ev hf hc h32
    obtain ⟨k, a, b, c, d, mn, mx, subs⟩ := t
    have e0 : nodeA (.node k a b c d mn mx subs) = .agg [.i k, .d (.val (.int .u64 a)), .d (.val (.int .u64 b)), .d (.val (.int .u64 c)), .d (.val (.int .u64 d)), .i mn, .i mx, .d (.sl (encL subs) subs.length)] := rfl
    rw [e0] at h45 ⊢
    refine b30 (by simp) (by simp) (w_init ?_)
    unfold x30
    repeat' (first
    | (apply r_mvV; rfl)
    | (apply r_mvP; rfl)
    | (apply r_mvPL; rfl)
    | (apply r_mvS; rfl)
    | (apply r_mvSL; rfl)
    | (apply r_mvA; rfl)
    | (apply r_mvT; rfl)
    | (apply r_mvF; rfl)
    | (apply r_mvD; rfl)
    | (apply r_l; apply ld_kind; assumption; rfl)
    | (apply r_l; apply ld_mn; assumption; rfl)
    | (apply r_l; apply ld_mx; assumption; rfl)
    | (apply r_l; apply ld_subs; assumption; rfl)
    | (apply r_l; apply ld_set; assumption; rfl)
    | (apply r_l; apply ld_node; assumption; rfl)
    | (apply r_l; apply ld_kind'; assumption; rfl)
    | (apply r_l; apply ld_mn'; assumption; rfl)
    | (apply r_l; apply ld_mx'; assumption; rfl)
    | (apply r_l; apply ld_subs'; assumption; rfl)
    | (apply r_l; apply ld_node'; assumption; rfl)
    | (apply r_callA; rfl; rfl; exact h45)
    | (apply r_ldL; rfl; rfl; rfl)
    | (apply r_leq; rfl; rfl; (first | (apply decide_eq_true; omega) | (apply decide_eq_false; omega) | rfl))
    | (apply r_not; rfl; rfl)
    | (apply r_pickT; rfl)
    | (apply r_pickF; rfl)
    | (apply r_lenT; rfl)
    | (apply r_gT; rfl)
    | (apply r_gF'; rfl; rfl)
    | (apply r_gN'; rfl)
    | ((apply r_gS (o := default); rfl) <;> (intro h; try simp only [decide_eq_true_eq, decide_eq_false_iff_not, Bool.not_eq_true, Bool.not_eq_false] at h))
    | (apply r_box; ((conv => lhs; simp only [Nat.reduceAdd]) <;> rfl); rfl; rfl; rfl)
    | (apply r_nilK)
    | (apply r_nil)
    | (apply k_V; rfl)
    | (apply k_P; rfl)
    | (apply k_PL; rfl)
    | (apply k_S; rfl)
    | (apply k_SL; rfl)
    | (apply k_A; rfl)
    | (apply k_T; rfl)
    | (apply k_F; rfl)
    | (apply k_D; rfl; rotate_left; rfl)
    | (apply k_nil)
    | (apply e_ret (vs := [.d (.val _)]); rfl)
    | (apply e_ret; rfl)
    | (apply e_ret' (vs := [.d (.val _)]); rfl)
    | (apply e_ret'; rfl)
    | (apply w_seq)
    | (apply w_ops; ((conv => lhs; simp only [Nat.reduceAdd]) <;> rfl))
    | (apply e_thenN)
    | (apply w_block)
    | (apply e_thenR)
    | (apply e_thenX)
    | (apply e_blkN)
    | (apply e_blkR)
    | (apply e_blkE)
    | (apply w_exit)
    | (apply w_ret)
    | (apply w_skip)
    | (apply e_blkE'; rfl))
    exact retB rfl
  by_cases hr : rightT t = true
  case neg =>
    have hr : rightT t = false := by simpa using hr
    have ev : few11 s t = true := by simp [few11, hf, h40, hr]
    rw [ev]
    rw [hr] at h32
    clear ht ev hf hc hr
    obtain ⟨k, a, b, c, d, mn, mx, subs⟩ := t
    have e0 : nodeA (.node k a b c d mn mx subs) = .agg [.i k, .d (.val (.int .u64 a)), .d (.val (.int .u64 b)), .d (.val (.int .u64 c)), .d (.val (.int .u64 d)), .i mn, .i mx, .d (.sl (encL subs) subs.length)] := rfl
    rw [e0] at h45 h32 ⊢
    refine b30 (by simp) (by simp) (w_init ?_)
    unfold x30
    repeat' (first
    | (apply r_mvV; rfl)
    | (apply r_mvP; rfl)
    | (apply r_mvPL; rfl)
    | (apply r_mvS; rfl)
    | (apply r_mvSL; rfl)
    | (apply r_mvA; rfl)
    | (apply r_mvT; rfl)
    | (apply r_mvF; rfl)
    | (apply r_mvD; rfl)
    | (apply r_l; apply ld_kind; assumption; rfl)
    | (apply r_l; apply ld_mn; assumption; rfl)
    | (apply r_l; apply ld_mx; assumption; rfl)
    | (apply r_l; apply ld_subs; assumption; rfl)
    | (apply r_l; apply ld_set; assumption; rfl)
    | (apply r_l; apply ld_node; assumption; rfl)
    | (apply r_l; apply ld_kind'; assumption; rfl)
    | (apply r_l; apply ld_mn'; assumption; rfl)
    | (apply r_l; apply ld_mx'; assumption; rfl)
    | (apply r_l; apply ld_subs'; assumption; rfl)
    | (apply r_l; apply ld_node'; assumption; rfl)
    | (apply r_callA; rfl; rfl; exact h45)
    | (apply r_callA; rfl; rfl; exact h32)
    | (apply r_ldL; rfl; rfl; rfl)
    | (apply r_leq; rfl; rfl; (first | (apply decide_eq_true; omega) | (apply decide_eq_false; omega) | rfl))
    | (apply r_not; rfl; rfl)
    | (apply r_pickT; rfl)
    | (apply r_pickF; rfl)
    | (apply r_lenT; rfl)
    | (apply r_gT; rfl)
    | (apply r_gF'; rfl; rfl)
    | (apply r_gN'; rfl)
    | ((apply r_gS (o := default); rfl) <;> (intro h; try simp only [decide_eq_true_eq, decide_eq_false_iff_not, Bool.not_eq_true, Bool.not_eq_false] at h))
    | (apply r_box; ((conv => lhs; simp only [Nat.reduceAdd]) <;> rfl); rfl; rfl; rfl)
    | (apply r_nilK)
    | (apply r_nil)
    | (apply k_V; rfl)
    | (apply k_P; rfl)
    | (apply k_PL; rfl)
    | (apply k_S; rfl)
    | (apply k_SL; rfl)
    | (apply k_A; rfl)
    | (apply k_T; rfl)
    | (apply k_F; rfl)
    | (apply k_D; rfl; rotate_left; rfl)
    | (apply k_nil)
    | (apply e_ret (vs := [.d (.val _)]); rfl)
    | (apply e_ret; rfl)
    | (apply e_ret' (vs := [.d (.val _)]); rfl)
    | (apply e_ret'; rfl)
    | (apply w_seq)
    | (apply w_ops; ((conv => lhs; simp only [Nat.reduceAdd]) <;> rfl))
    | (apply e_thenN)
    | (apply w_block)
    | (apply e_thenR)
    | (apply e_thenX)
    | (apply e_blkN)
    | (apply e_blkR)
    | (apply e_blkE)
    | (apply w_exit)
    | (apply w_ret)
    | (apply w_skip)
    | (apply e_blkE'; rfl))
    exact retB rfl
  have hok := ok_of_right ht hr
  have h38 := wide_good 1000000 t (by omega) (by omega) hok
  have ev : few11 s t = decide (wideT t ≤ 3000) := by simp [few11, hf, h40, hr]
  rw [ev]
  rw [hr] at h32
  have hw := wideT_in t hok
  generalize wideT t = wt at h38 hw ⊢
  clear ht ev hf hc hr hok
  obtain ⟨k, a, b, c, d, mn, mx, subs⟩ := t
  have e0 : nodeA (.node k a b c d mn mx subs) = .agg [.i k, .d (.val (.int .u64 a)), .d (.val (.int .u64 b)), .d (.val (.int .u64 c)), .d (.val (.int .u64 d)), .i mn, .i mx, .d (.sl (encL subs) subs.length)] := rfl
  rw [e0] at h45 h32 h38 ⊢
  refine b30 (by simp) (by simp) (w_init ?_)
  unfold x30
  repeat' (first
    | (apply r_mvV; rfl)
    | (apply r_mvP; rfl)
    | (apply r_mvPL; rfl)
    | (apply r_mvS; rfl)
    | (apply r_mvSL; rfl)
    | (apply r_mvA; rfl)
    | (apply r_mvT; rfl)
    | (apply r_mvF; rfl)
    | (apply r_mvD; rfl)
    | (apply r_l; apply ld_kind; assumption; rfl)
    | (apply r_l; apply ld_mn; assumption; rfl)
    | (apply r_l; apply ld_mx; assumption; rfl)
    | (apply r_l; apply ld_subs; assumption; rfl)
    | (apply r_l; apply ld_set; assumption; rfl)
    | (apply r_l; apply ld_node; assumption; rfl)
    | (apply r_l; apply ld_kind'; assumption; rfl)
    | (apply r_l; apply ld_mn'; assumption; rfl)
    | (apply r_l; apply ld_mx'; assumption; rfl)
    | (apply r_l; apply ld_subs'; assumption; rfl)
    | (apply r_l; apply ld_node'; assumption; rfl)
    | (apply r_callA; rfl; rfl; exact h45)
    | (apply r_callA; rfl; rfl; exact h32)
    | (apply r_callA; rfl; rfl; exact h38)
    | (apply r_ldL; rfl; rfl; rfl)
    | (apply r_leq; rfl; rfl; (first | (apply decide_eq_true; omega) | (apply decide_eq_false; omega) | rfl))
    | (apply r_not; rfl; rfl)
    | (apply r_pickT; rfl)
    | (apply r_pickF; rfl)
    | (apply r_lenT; rfl)
    | (apply r_gT; rfl)
    | (apply r_gF'; rfl; rfl)
    | (apply r_gN'; rfl)
    | ((apply r_gS (o := default); rfl) <;> (intro h; try simp only [decide_eq_true_eq, decide_eq_false_iff_not, Bool.not_eq_true, Bool.not_eq_false] at h))
    | (apply r_box; ((conv => lhs; simp only [Nat.reduceAdd]) <;> rfl); rfl; rfl; rfl)
    | (apply r_nilK)
    | (apply r_nil)
    | (apply k_V; rfl)
    | (apply k_P; rfl)
    | (apply k_PL; rfl)
    | (apply k_S; rfl)
    | (apply k_SL; rfl)
    | (apply k_A; rfl)
    | (apply k_T; rfl)
    | (apply k_F; rfl)
    | (apply k_D; rfl; rotate_left; rfl)
    | (apply k_nil)
    | (apply e_ret (vs := [.d (.val _)]); rfl)
    | (apply e_ret; rfl)
    | (apply e_ret' (vs := [.d (.val _)]); rfl)
    | (apply e_ret'; rfl)
    | (apply w_seq)
    | (apply w_ops; ((conv => lhs; simp only [Nat.reduceAdd]) <;> rfl))
    | (apply e_thenN)
    | (apply w_block)
    | (apply e_thenR)
    | (apply e_thenX)
    | (apply e_blkN)
    | (apply e_blkR)
    | (apply e_blkE)
    | (apply w_exit)
    | (apply w_ret)
    | (apply w_skip)
    | (apply e_blkE'; rfl))
  all_goals exact retB rfl
theorem all_ref (s : ByteArray) (t : T) (hf : fitsT t 12 = true) (hok : okT t) (j : Nat) (hj : j ≤ s.size) : allG s t j = rallG s t j := by
  have : 0 ≤ ((j : Nat) : Int) ∧ ((j : Nat) : Int) ≤ s.size := by omega
  simp only [allG, hf, this, and_self, if_true, Int.toNat_natCast, rallG]
  rw [step_ref s t hok (by simp)]
theorem law3 (t : T) (s : ByteArray) (n : Int) (ht : inT t) (hs : s.size ≤ 9223372036854775807) (hn : inW n) : Good Try.prog 3 [nodeA t, .d (.val (.string s)), .i n] none (.b true) none none := by
  have haw := awake11_good
  have h30 := few30_good s hs t ht
  have hna : [nodeA t].all AV.nrm = true := by rw [List.all_cons, nodeA_nrm]; rfl
  unfold inW at hn
  by_cases hf : few11 s t = true
  case neg =>
    have hf : few11 s t = false := by simpa using hf
    rw [hf] at h30
    clear ht hf
    obtain ⟨k, a, b, c, d, mn, mx, subs⟩ := t
    have e0 : nodeA (.node k a b c d mn mx subs) = .agg [.i k, .d (.val (.int .u64 a)), .d (.val (.int .u64 b)), .d (.val (.int .u64 c)), .d (.val (.int .u64 d)), .i mn, .i mx, .d (.sl (encL subs) subs.length)] := rfl
    rw [e0] at h30 ⊢
    refine b3 (by simp) (by simp) (w_init ?_)
    unfold x3
    repeat' (first
    | (apply r_mvV; rfl)
    | (apply r_mvP; rfl)
    | (apply r_mvPL; rfl)
    | (apply r_mvS; rfl)
    | (apply r_mvSL; rfl)
    | (apply r_mvA; rfl)
    | (apply r_mvT; rfl)
    | (apply r_mvF; rfl)
    | (apply r_mvD; rfl)
    | (apply r_l; apply ld_kind; assumption; rfl)
    | (apply r_l; apply ld_mn; assumption; rfl)
    | (apply r_l; apply ld_mx; assumption; rfl)
    | (apply r_l; apply ld_subs; assumption; rfl)
    | (apply r_l; apply ld_set; assumption; rfl)
    | (apply r_l; apply ld_node; assumption; rfl)
    | (apply r_l; apply ld_kind'; assumption; rfl)
    | (apply r_l; apply ld_mn'; assumption; rfl)
    | (apply r_l; apply ld_mx'; assumption; rfl)
    | (apply r_l; apply ld_subs'; assumption; rfl)
    | (apply r_l; apply ld_node'; assumption; rfl)
    | (apply r_callA; rfl; rfl; exact haw)
    | (apply r_callA; rfl; rfl; exact h30)
    | (apply r_ldL; rfl; rfl; rfl)
    | (apply r_eql; rfl; rfl; (first | (apply decide_eq_true; omega) | (apply decide_eq_false; omega) | rfl))
    | (apply r_lss; rfl; rfl; (first | (apply decide_eq_true; omega) | (apply decide_eq_false; omega) | rfl))
    | (apply r_gtr; rfl; rfl; (first | (apply decide_eq_true; omega) | (apply decide_eq_false; omega) | rfl))
    | (apply r_not; rfl; rfl)
    | (apply r_pickT; rfl)
    | (apply r_pickF; rfl)
    | (apply r_lenD; rfl)
    | (apply r_lenL; rfl)
    | (apply r_len0; rfl)
    | (apply r_lenT; rfl)
    | (apply r_ext; rfl; rfl)
    | (apply r_gT; rfl)
    | (apply r_gF'; rfl; rfl)
    | (apply r_gN'; rfl)
    | ((apply r_gS (o := default); rfl) <;> (intro h; try simp only [decide_eq_true_eq, decide_eq_false_iff_not, Bool.not_eq_true, Bool.not_eq_false] at h))
    | (apply r_box; ((conv => lhs; simp only [Nat.reduceAdd]) <;> rfl); rfl; rfl; rfl)
    | (apply r_nilK)
    | (apply r_nil)
    | (apply k_V; rfl)
    | (apply k_P; rfl)
    | (apply k_PL; rfl)
    | (apply k_S; rfl)
    | (apply k_SL; rfl)
    | (apply k_A; rfl)
    | (apply k_T; rfl)
    | (apply k_F; rfl)
    | (apply k_D; rfl; rotate_left; rfl)
    | (apply k_nil)
    | (apply e_ret (vs := [.d (.val _)]); rfl)
    | (apply e_ret; rfl)
    | (apply e_ret' (vs := [.d (.val _)]); rfl)
    | (apply e_ret'; rfl)
    | (apply w_seq)
    | (apply w_ops; ((conv => lhs; simp only [Nat.reduceAdd]) <;> rfl))
    | (apply w_condT; rfl)
    | (apply w_condF; rfl)
    | ((apply w_condS; rfl) <;> (intro h; try simp only [decide_eq_true_eq, decide_eq_false_iff_not, Bool.not_eq_true, Bool.not_eq_false] at h))
    | (apply e_thenN)
    | (apply w_block)
    | (apply e_thenR)
    | (apply e_thenX)
    | (apply e_blkN)
    | (apply e_blkR)
    | (apply e_blkE)
    | (apply w_exit)
    | (apply w_ret)
    | (apply w_skip)
    | (apply e_blkE'; rfl))
    exact retB rfl
  rw [hf] at h30
  simp only [few11, Bool.and_eq_true, decide_eq_true_eq] at hf
  obtain ⟨hf1, hf2, _⟩ := hf
  have hc := few_cnt hf1
  have h32 := right8_good t (by omega)
  have hok12 : fitsT t 12 = true → okT t := fun h => ok_of_right ht (by rw [right_fits]; exact h)
  have h31 := all_good s (by omega) t (by omega) hok12 n
  have h33 := match_good s (by omega) t (by omega) hok12
  have h34 := longest_good s (by omega) t (by omega) hok12 n
  by_cases hr : rightT t = true
  case neg =>
    have hr : rightT t = false := by simpa using hr
    have hfi : fitsT t 12 = false := by rw [← right_fits]; exact hr
    have hg : ∀ m, allG s t m = [] := fun m => by simp [allG, hfi]
    have he : allE s t n = 1 := by simp [allE, hfi]
    have hm : decide (lastG (allG s t 0) = s.size) = false := by
      rw [hg]; simp [lastG]
    rw [hr] at h32
    rw [hg, he] at h31
    rw [hm] at h33
    clear ht hok12 hr hfi hg he hm h34 hc hf1
    obtain ⟨k, a, b, c, d, mn, mx, subs⟩ := t
    have e0 : nodeA (.node k a b c d mn mx subs) = .agg [.i k, .d (.val (.int .u64 a)), .d (.val (.int .u64 b)), .d (.val (.int .u64 c)), .d (.val (.int .u64 d)), .i mn, .i mx, .d (.sl (encL subs) subs.length)] := rfl
    rw [e0] at h30 h31 h32 h33 ⊢
    refine b3 (by simp) (by simp) (w_init ?_)
    unfold x3
    repeat' (first
    | (apply r_mvV; rfl)
    | (apply r_mvP; rfl)
    | (apply r_mvPL; rfl)
    | (apply r_mvS; rfl)
    | (apply r_mvSL; rfl)
    | (apply r_mvA; rfl)
    | (apply r_mvT; rfl)
    | (apply r_mvF; rfl)
    | (apply r_mvD; rfl)
    | (apply r_l; apply ld_kind; assumption; rfl)
    | (apply r_l; apply ld_mn; assumption; rfl)
    | (apply r_l; apply ld_mx; assumption; rfl)
    | (apply r_l; apply ld_subs; assumption; rfl)
    | (apply r_l; apply ld_set; assumption; rfl)
    | (apply r_l; apply ld_node; assumption; rfl)
    | (apply r_l; apply ld_kind'; assumption; rfl)
    | (apply r_l; apply ld_mn'; assumption; rfl)
    | (apply r_l; apply ld_mx'; assumption; rfl)
    | (apply r_l; apply ld_subs'; assumption; rfl)
    | (apply r_l; apply ld_node'; assumption; rfl)
    | (apply r_callA; rfl; rfl; exact haw)
    | (apply r_callA; rfl; rfl; exact h30)
    | (apply r_callA; rfl; rfl; exact h31)
    | (apply r_callA; rfl; rfl; exact h32)
    | (apply r_callA; rfl; rfl; exact h33)
    | (apply r_ldL; rfl; rfl; rfl)
    | (apply r_eql; rfl; rfl; (first | (apply decide_eq_true; omega) | (apply decide_eq_false; omega) | rfl))
    | (apply r_lss; rfl; rfl; (first | (apply decide_eq_true; omega) | (apply decide_eq_false; omega) | rfl))
    | (apply r_gtr; rfl; rfl; (first | (apply decide_eq_true; omega) | (apply decide_eq_false; omega) | rfl))
    | (apply r_not; rfl; rfl)
    | (apply r_pickT; rfl)
    | (apply r_pickF; rfl)
    | (apply r_lenD; rfl)
    | (apply r_lenL; rfl)
    | (apply r_len0; rfl)
    | (apply r_lenT; rfl)
    | (apply r_ext; rfl; rfl)
    | (apply r_gT; rfl)
    | (apply r_gF'; rfl; rfl)
    | (apply r_gN'; rfl)
    | ((apply r_gS (o := default); rfl) <;> (intro h; try simp only [decide_eq_true_eq, decide_eq_false_iff_not, Bool.not_eq_true, Bool.not_eq_false] at h))
    | (apply r_box; ((conv => lhs; simp only [Nat.reduceAdd]) <;> rfl); rfl; rfl; rfl)
    | (apply r_nilK)
    | (apply r_nil)
    | (apply k_V; rfl)
    | (apply k_P; rfl)
    | (apply k_PL; rfl)
    | (apply k_S; rfl)
    | (apply k_SL; rfl)
    | (apply k_A; rfl)
    | (apply k_T; rfl)
    | (apply k_F; rfl)
    | (apply k_D; rfl; rotate_left; rfl)
    | (apply k_nil)
    | (apply e_ret (vs := [.d (.val _)]); rfl)
    | (apply e_ret; rfl)
    | (apply e_ret' (vs := [.d (.val _)]); rfl)
    | (apply e_ret'; rfl)
    | (apply w_seq)
    | (apply w_ops; ((conv => lhs; simp only [Nat.reduceAdd]) <;> rfl))
    | (apply w_condT; rfl)
    | (apply w_condF; rfl)
    | ((apply w_condS; rfl) <;> (intro h; try simp only [decide_eq_true_eq, decide_eq_false_iff_not, Bool.not_eq_true, Bool.not_eq_false] at h))
    | (apply e_thenN)
    | (apply w_block)
    | (apply e_thenR)
    | (apply e_thenX)
    | (apply e_blkN)
    | (apply e_blkR)
    | (apply e_blkE)
    | (apply w_exit)
    | (apply w_ret)
    | (apply w_skip)
    | (apply e_blkE'; rfl))
    exact retB rfl
  have hfi : fitsT t 12 = true := by rw [← right_fits]; exact hr
  rw [hr] at h32
  by_cases hfr : 0 ≤ n ∧ n ≤ s.size
  case neg =>
    have hg : allG s t n = [] := by simp only [allG, hfr, and_false, if_false]
    have he : allE s t n = 2 := by simp only [allE, hfi, hfr, if_true, if_false]
    have hlast : lastG ([] : List Int) = -1 := rfl
    rw [hg, he] at h31
    rw [hg, hlast] at h34
    clear ht hok12 hr hfi hg he h33 hc hf1
    obtain ⟨k, a, b, c, d, mn, mx, subs⟩ := t
    have e0 : nodeA (.node k a b c d mn mx subs) = .agg [.i k, .d (.val (.int .u64 a)), .d (.val (.int .u64 b)), .d (.val (.int .u64 c)), .d (.val (.int .u64 d)), .i mn, .i mx, .d (.sl (encL subs) subs.length)] := rfl
    rw [e0] at h30 h31 h32 h34 ⊢
    refine b3 (by simp) (by simp) (w_init ?_)
    unfold x3
    repeat' (first
    | (apply r_mvV; rfl)
    | (apply r_mvP; rfl)
    | (apply r_mvPL; rfl)
    | (apply r_mvS; rfl)
    | (apply r_mvSL; rfl)
    | (apply r_mvA; rfl)
    | (apply r_mvT; rfl)
    | (apply r_mvF; rfl)
    | (apply r_mvD; rfl)
    | (apply r_l; apply ld_kind; assumption; rfl)
    | (apply r_l; apply ld_mn; assumption; rfl)
    | (apply r_l; apply ld_mx; assumption; rfl)
    | (apply r_l; apply ld_subs; assumption; rfl)
    | (apply r_l; apply ld_set; assumption; rfl)
    | (apply r_l; apply ld_node; assumption; rfl)
    | (apply r_l; apply ld_kind'; assumption; rfl)
    | (apply r_l; apply ld_mn'; assumption; rfl)
    | (apply r_l; apply ld_mx'; assumption; rfl)
    | (apply r_l; apply ld_subs'; assumption; rfl)
    | (apply r_l; apply ld_node'; assumption; rfl)
    | (apply r_callA; rfl; rfl; exact haw)
    | (apply r_callA; rfl; rfl; exact h30)
    | (apply r_callA; rfl; rfl; exact h31)
    | (apply r_callA; rfl; rfl; exact h32)
    | (apply r_callA; rfl; rfl; exact h34)
    | (apply r_ldL; rfl; rfl; rfl)
    | (apply r_eql; rfl; rfl; (first | (apply decide_eq_true; omega) | (apply decide_eq_false; omega) | rfl))
    | (apply r_lss; rfl; rfl; (first | (apply decide_eq_true; omega) | (apply decide_eq_false; omega) | rfl))
    | (apply r_gtr; rfl; rfl; (first | (apply decide_eq_true; omega) | (apply decide_eq_false; omega) | rfl))
    | (apply r_not; rfl; rfl)
    | (apply r_pickT; rfl)
    | (apply r_pickF; rfl)
    | (apply r_lenD; rfl)
    | (apply r_lenL; rfl)
    | (apply r_len0; rfl)
    | (apply r_lenT; rfl)
    | (apply r_ext; rfl; rfl)
    | (apply r_gT; rfl)
    | (apply r_gF'; rfl; rfl)
    | (apply r_gN'; rfl)
    | ((apply r_gS (o := default); rfl) <;> (intro h; try simp only [decide_eq_true_eq, decide_eq_false_iff_not, Bool.not_eq_true, Bool.not_eq_false] at h))
    | (apply r_box; ((conv => lhs; simp only [Nat.reduceAdd]) <;> rfl); rfl; rfl; rfl)
    | (apply r_nilK)
    | (apply r_nil)
    | (apply k_V; rfl)
    | (apply k_P; rfl)
    | (apply k_PL; rfl)
    | (apply k_S; rfl)
    | (apply k_SL; rfl)
    | (apply k_A; rfl)
    | (apply k_T; rfl)
    | (apply k_F; rfl)
    | (apply k_D; rfl; rotate_left; rfl)
    | (apply k_nil)
    | (apply e_ret (vs := [.d (.val _)]); rfl)
    | (apply e_ret; rfl)
    | (apply e_ret' (vs := [.d (.val _)]); rfl)
    | (apply e_ret'; rfl)
    | (apply w_seq)
    | (apply w_ops; ((conv => lhs; simp only [Nat.reduceAdd]) <;> rfl))
    | (apply w_condT; rfl)
    | (apply w_condF; rfl)
    | ((apply w_condS; rfl) <;> (intro h; try simp only [decide_eq_true_eq, decide_eq_false_iff_not, Bool.not_eq_true, Bool.not_eq_false] at h))
    | (apply e_thenN)
    | (apply w_block)
    | (apply e_thenR)
    | (apply e_thenX)
    | (apply e_blkN)
    | (apply e_blkR)
    | (apply e_blkE)
    | (apply w_exit)
    | (apply w_ret)
    | (apply w_skip)
    | (apply e_blkE'; rfl))
    all_goals exact retB rfl
  obtain ⟨j, rfl⟩ := Int.eq_ofNat_of_zero_le hfr.1
  have hok := hok12 hfi
  have hj : j ≤ s.size := by omega
  have h36 := all36_good s (by omega) t (by omega) hok j hj
  have h37 := longest37_good s (by omega) t (by omega) hok j hj
  have heq := all_ref s t hfi hok j hj
  have he : allE s t (j : Nat) = 0 := by simp only [allE, hfi, hfr, and_self, if_true]
  rw [heq, he] at h31
  rw [heq] at h34
  have hL : (rallG s t j).length ≤ 1000001 := Nat.le_trans (idxTo_len _ _) (by omega)
  have h35 := same_good (rallG s t j) (rallG s t j) hL
  rw [show decide (rallG s t j = rallG s t j) = true by simp] at h35
  generalize rallG s t j = LL at h31 h34 h35 h36 h37 hL
  clear ht hok12 hr hfi heq he h33 hc hf1 hok
  obtain ⟨k, a, b, c, d, mn, mx, subs⟩ := t
  have e0 : nodeA (.node k a b c d mn mx subs) = .agg [.i k, .d (.val (.int .u64 a)), .d (.val (.int .u64 b)), .d (.val (.int .u64 c)), .d (.val (.int .u64 d)), .i mn, .i mx, .d (.sl (encL subs) subs.length)] := rfl
  rw [e0] at h30 h31 h32 h34 h36 h37 ⊢
  refine b3 (by simp) (by simp) (w_init ?_)
  unfold x3
  repeat' (first
    | (apply r_mvV; rfl)
    | (apply r_mvP; rfl)
    | (apply r_mvPL; rfl)
    | (apply r_mvS; rfl)
    | (apply r_mvSL; rfl)
    | (apply r_mvA; rfl)
    | (apply r_mvT; rfl)
    | (apply r_mvF; rfl)
    | (apply r_mvD; rfl)
    | (apply r_l; apply ld_kind; assumption; rfl)
    | (apply r_l; apply ld_mn; assumption; rfl)
    | (apply r_l; apply ld_mx; assumption; rfl)
    | (apply r_l; apply ld_subs; assumption; rfl)
    | (apply r_l; apply ld_set; assumption; rfl)
    | (apply r_l; apply ld_node; assumption; rfl)
    | (apply r_l; apply ld_kind'; assumption; rfl)
    | (apply r_l; apply ld_mn'; assumption; rfl)
    | (apply r_l; apply ld_mx'; assumption; rfl)
    | (apply r_l; apply ld_subs'; assumption; rfl)
    | (apply r_l; apply ld_node'; assumption; rfl)
    | (apply r_callA; rfl; rfl; exact haw)
    | (apply r_callA; rfl; rfl; exact h30)
    | (apply r_callA; rfl; rfl; exact h31)
    | (apply r_callA; rfl; rfl; exact h32)
    | (apply r_callA; rfl; rfl; exact h34)
    | (apply r_callA; rfl; rfl; exact h35)
    | (apply r_callA; rfl; rfl; exact h36)
    | (apply r_callA; rfl; rfl; exact h37)
    | (apply r_ldL; rfl; rfl; rfl)
    | (apply r_eql; rfl; rfl; (first | (apply decide_eq_true; omega) | (apply decide_eq_false; omega) | rfl))
    | (apply r_lss; rfl; rfl; (first | (apply decide_eq_true; omega) | (apply decide_eq_false; omega) | rfl))
    | (apply r_gtr; rfl; rfl; (first | (apply decide_eq_true; omega) | (apply decide_eq_false; omega) | rfl))
    | (apply r_not; rfl; rfl)
    | (apply r_pickT; rfl)
    | (apply r_pickF; rfl)
    | (apply r_lenD; rfl)
    | (apply r_lenL; rfl)
    | (apply r_len0; rfl)
    | (apply r_lenT; rfl)
    | (apply r_ext; rfl; rfl)
    | (apply r_gT; rfl)
    | (apply r_gF'; rfl; rfl)
    | (apply r_gN'; rfl)
    | ((apply r_gS (o := default); rfl) <;> (intro h; try simp only [decide_eq_true_eq, decide_eq_false_iff_not, Bool.not_eq_true, Bool.not_eq_false] at h))
    | (apply r_box; ((conv => lhs; simp only [Nat.reduceAdd]) <;> rfl); rfl; rfl; rfl)
    | (apply r_nilK)
    | (apply r_nil)
    | (apply k_V; rfl)
    | (apply k_P; rfl)
    | (apply k_PL; rfl)
    | (apply k_S; rfl)
    | (apply k_SL; rfl)
    | (apply k_A; rfl)
    | (apply k_T; rfl)
    | (apply k_F; rfl)
    | (apply k_D; rfl; rotate_left; rfl)
    | (apply k_nil)
    | (apply e_ret (vs := [.d (.val _)]); rfl)
    | (apply e_ret; rfl)
    | (apply e_ret' (vs := [.d (.val _)]); rfl)
    | (apply e_ret'; rfl)
    | (apply w_seq)
    | (apply w_ops; ((conv => lhs; simp only [Nat.reduceAdd]) <;> rfl))
    | (apply w_condT; rfl)
    | (apply w_condF; rfl)
    | ((apply w_condS; rfl) <;> (intro h; try simp only [decide_eq_true_eq, decide_eq_false_iff_not, Bool.not_eq_true, Bool.not_eq_false] at h))
    | (apply e_thenN)
    | (apply w_block)
    | (apply e_thenR)
    | (apply e_thenX)
    | (apply e_blkN)
    | (apply e_blkR)
    | (apply e_blkE)
    | (apply w_exit)
    | (apply w_ret)
    | (apply w_skip)
    | (apply e_blkE'; rfl))
  all_goals exact retB rfl
end Go.Sv
namespace Go.Sv
open Go Go.Proofs
def x17 : XC := (.seq (.ops 2 [
    (0, ⟨(some 1), none, .box (.t 0)⟩),
    (1, ⟨(some 2), none, .mv (.k (.d (.val (.bool false))))⟩)] (some [1])) (.seq (.seq (.ops 12 [
    (0, ⟨(some 8), none, .call 56 [] none false⟩),
    (1, ⟨(some 9), none, .un .not (.t 8)⟩),
    (2, ⟨(some 10), none, .mv (.t 9)⟩),
    (3, ⟨(some 11), (some (10, false)), .load (some 8) (.t 1)⟩),
    (4, ⟨(some 12), (some (10, false)), .call 45 [(.t 11)] none false⟩),
    (5, ⟨(some 13), (some (10, false)), .un .not (.t 12)⟩),
    (6, ⟨(some 14), none, .pick (.t 10) (.k (.d (.val (.bool true)))) (.t 13)⟩),
    (7, ⟨(some 15), none, .mv (.t 14)⟩),
    (8, ⟨(some 16), (some (15, false)), .load (some 8) (.t 1)⟩),
    (9, ⟨(some 17), (some (15, false)), .call 32 [(.t 16)] none false⟩),
    (10, ⟨(some 18), (some (15, false)), .un .not (.t 17)⟩),
    (11, ⟨(some 19), none, .pick (.t 15) (.k (.d (.val (.bool true)))) (.t 18)⟩)] (some [1, 19])) (.cond (.t 19) (.seq (.ops 2 [
    (0, ⟨(some 20), none, .call 56 [] none false⟩),
    (1, ⟨(some 2), none, .mv (.t 20)⟩)] (some [2])) .ret) .skip)) (.seq (.ops 3 [
    (0, ⟨(some 21), none, .load (some 8) (.t 1)⟩),
    (1, ⟨(some 22), none, .call 38 [(.t 21)] none false⟩),
    (2, ⟨(some 3), none, .mv (.t 22)⟩)] (some [1, 3])) (.seq (.ops 9 [
    (0, ⟨(some 24), none, .load (some 8) (.t 1)⟩),
    (1, ⟨(some 25), none, .mv (.t 3)⟩),
    (2, ⟨(some 26), none, .call 57 [(.t 24), (.t 25)] none false⟩),
    (3, ⟨(some 23), none, .mv (.t 26)⟩),
    (4, ⟨(some 27), none, .ext (.t 23) 0⟩),
    (5, ⟨(some 28), none, .ext (.t 23) 1⟩),
    (6, ⟨(some 4), none, .alloc [(.int .i64 0), (.int .u64 0), (.int .u64 0), (.int .u64 0), (.int .u64 0), (.int .i64 0), (.int .i64 0), (.slice none 0 0)]⟩),
    (7, ⟨none, none, .store 8 (.t 4) (.t 27)⟩),
    (8, ⟨(some 5), none, .mv (.t 28)⟩)] (some [1, 3, 5])) (.seq (.ops 10 [
    (0, ⟨(some 30), none, .load (some 8) (.t 1)⟩),
    (1, ⟨(some 31), none, .mv (.t 3)⟩),
    (2, ⟨(some 32), none, .arith .sub (.t 31) (.k (.d (.val (.int .i64 1))))⟩),
    (3, ⟨(some 33), none, .call 57 [(.t 30), (.t 32)] none false⟩),
    (4, ⟨(some 29), none, .mv (.t 33)⟩),
    (5, ⟨(some 34), none, .ext (.t 29) 0⟩),
    (6, ⟨(some 35), none, .ext (.t 29) 1⟩),
    (7, ⟨(some 6), none, .alloc [(.int .i64 0), (.int .u64 0), (.int .u64 0), (.int .u64 0), (.int .u64 0), (.int .i64 0), (.int .i64 0), (.slice none 0 0)]⟩),
    (8, ⟨none, none, .store 8 (.t 6) (.t 34)⟩),
    (9, ⟨(some 7), none, .mv (.t 35)⟩)] (some [3, 5, 7])) (.seq (.ops 18 [
    (0, ⟨(some 36), none, .mv (.t 5)⟩),
    (1, ⟨(some 37), none, .arith .eql (.t 36) (.k (.d (.val (.int .i64 0))))⟩),
    (2, ⟨(some 38), none, .mv (.t 3)⟩),
    (3, ⟨(some 39), none, .arith .leq (.t 38) (.k (.d (.val (.int .i64 400))))⟩),
    (4, ⟨(some 40), none, .beq false (.t 37) (.t 39)⟩),
    (5, ⟨(some 41), none, .mv (.t 40)⟩),
    (6, ⟨(some 42), (some (41, true)), .mv (.t 7)⟩),
    (7, ⟨(some 43), (some (41, true)), .arith .eql (.t 42) (.k (.d (.val (.int .i64 11))))⟩),
    (8, ⟨(some 44), none, .pick (.t 41) (.t 43) (.k (.d (.val (.bool false))))⟩),
    (9, ⟨(some 45), none, .mv (.t 44)⟩),
    (10, ⟨(some 46), (some (45, true)), .mv (.t 5)⟩),
    (11, ⟨(some 47), (some (45, true)), .arith .eql (.t 46) (.k (.d (.val (.int .i64 0))))⟩),
    (12, ⟨(some 48), (some (45, true)), .mv (.t 47)⟩),
    (13, ⟨(some 49), (some (48, false)), .mv (.t 5)⟩),
    (14, ⟨(some 50), (some (48, false)), .arith .eql (.t 49) (.k (.d (.val (.int .i64 11))))⟩),
    (15, ⟨(some 51), (some (45, true)), .pick (.t 48) (.k (.d (.val (.bool true)))) (.t 50)⟩),
    (16, ⟨(some 52), none, .pick (.t 45) (.t 51) (.k (.d (.val (.bool false))))⟩),
    (17, ⟨(some 2), none, .mv (.t 52)⟩)] (some [2])) .ret))))))
def md17 : FuncId → Option Nat × Bool
  | _ => (none, false)
def od17 : Nat → List (List Nat) × List Nat × Option (List Nat)
  | 0 => ([], [], some [1])
  | 1 => ([], [], some [1, 19])
  | 2 => ([], [], some [2])
  | 3 => ([], [], some [1, 3])
  | 4 => ([], [], some [1, 3, 5])
  | 5 => ([], [], some [3, 5, 7])
  | 6 => ([], [], some [2])
  | _ => ([], [], none)
theorem b17 {ags : List AV} {row : Option (List DV)} {r : AV} {row' nw : Option (List DV)} (hal : ags.length ≤ 53) (hrow : row'.isSome = true → row.isSome = true) (h : xwp Try.prog x17 (retK [.tmp 2] row.isSome r row' nw) (St.init ags row)) : Good Try.prog 17 ags row r row' nw :=
  good_of_body' (md := md17) (od := od17) Try.f17 (by kernel_rfl) (by kernel_rfl) (by kernel_rfl) (by kernel_rfl) (by kernel_rfl) hal hrow h

set_option maxRecDepth 100000
set_option maxHeartbeats 4000000
attribute [local irreducible] W E R KP thenK blockK retK Good xwp aRun
def zT : T := .node 0 0 0 0 0 0 0 []
def eE (t : T) (n : Int) : Int := if fitsT t 12 = true then (if min n 400 < wideT t then 11 else 0) else 1
def eN (t : T) (n : Int) : T := if eE t n = 0 then xT t else zT
theorem xPlain_good (t : T) (hc : t.cnt ≤ 1000000) (hok : fitsT t 12 = true → okT t) (n : Int) : Good Try.prog 57 [nodeA t, .i n] none (.tup [nodeA (eN t n), .i (eE t n)]) none none := by
  have hright := right_good t hc
  have hw := mWide_good t hc hok
  rcases Bool.eq_false_or_eq_true (fitsT t 12) with hR | hR
  case inr =>
    have e1 : eE t n = 1 := by simp [eE, hR]
    have e2 : eN t n = zT := by simp [eN, e1]
    rw [e1, e2]
    rw [hR] at hright
    clear e1 e2 hw hok hc hR
    obtain ⟨k, a, b, c, d, mn, mx, subs⟩ := t
    have e0 : nodeA (.node k a b c d mn mx subs) = .agg [.i k, .d (.val (.int .u64 a)), .d (.val (.int .u64 b)), .d (.val (.int .u64 c)), .d (.val (.int .u64 d)), .i mn, .i mx, .d (.sl (encL subs) subs.length)] := rfl
    rw [e0] at hright ⊢
    refine b57 (by simp) (by simp) (w_init ?_)
    unfold x57
    repeat' (first
    | (apply r_mvV; rfl)
    | (apply r_mvP; rfl)
    | (apply r_mvPL; rfl)
    | (apply r_mvS; rfl)
    | (apply r_mvSL; rfl)
    | (apply r_mvA; rfl)
    | (apply r_mvT; rfl)
    | (apply r_mvF; rfl)
    | (apply r_mvD; rfl)
    | (apply r_l; apply ld_kind; assumption; rfl)
    | (apply r_l; apply ld_mn; assumption; rfl)
    | (apply r_l; apply ld_mx; assumption; rfl)
    | (apply r_l; apply ld_subs; assumption; rfl)
    | (apply r_l; apply ld_set; assumption; rfl)
    | (apply r_l; apply ld_node; assumption; rfl)
    | (apply r_l; apply ld_kind'; assumption; rfl)
    | (apply r_l; apply ld_mn'; assumption; rfl)
    | (apply r_l; apply ld_mx'; assumption; rfl)
    | (apply r_l; apply ld_subs'; assumption; rfl)
    | (apply r_l; apply ld_node'; assumption; rfl)
    | (apply r_callA; rfl; rfl; exact hright)
    | (apply r_ldL; rfl; rfl; rfl)
    | (apply r_gtr; rfl; rfl; (first | (apply decide_eq_true; omega) | (apply decide_eq_false; omega) | rfl))
    | (apply r_min2; rfl; rfl; rfl)
    | (apply r_not; rfl; rfl)
    | (apply r_alloc; ((conv => lhs; simp only [Nat.reduceAdd]) <;> rfl); rfl)
    | (apply r_box; ((conv => lhs; simp only [Nat.reduceAdd]) <;> rfl); rfl; rfl; rfl)
    | (apply r_stL; rfl; rfl; rfl; rfl; (first | rfl | (simp only [z_nil, z_add] <;> rfl)); rfl; rfl)
    | (apply r_p; rfl)
    | (apply r_nilK)
    | (apply r_nil)
    | (apply k_V; rfl)
    | (apply k_P; rfl)
    | (apply k_PL; rfl)
    | (apply k_S; rfl)
    | (apply k_SL; rfl)
    | (apply k_A; rfl)
    | (apply k_T; rfl)
    | (apply k_F; rfl)
    | (apply k_D; rfl; rotate_left; rfl)
    | (apply k_nil)
    | (apply e_ret (vs := [.d (.val _)]); rfl)
    | (apply e_ret; rfl)
    | (apply e_ret' (vs := [.d (.val _)]); rfl)
    | (apply e_ret'; rfl)
    | (apply w_seq)
    | (apply w_ops; ((conv => lhs; simp only [Nat.reduceAdd]) <;> rfl))
    | (apply w_condT; rfl)
    | (apply w_condF; rfl)
    | ((apply w_condS; rfl) <;> (intro h; try simp only [decide_eq_true_eq, decide_eq_false_iff_not, Bool.not_eq_true, Bool.not_eq_false] at h))
    | (apply e_thenN)
    | (apply w_block)
    | (apply e_thenR)
    | (apply e_thenX)
    | (apply e_blkN)
    | (apply e_blkR)
    | (apply e_blkE)
    | (apply w_exit)
    | (apply w_ret)
    | (apply w_skip)
    | (apply e_blkE'; rfl))
    exact .data _ rfl
  rw [hR] at hright
  rw [if_pos hR] at hw
  by_cases hb : min n 400 < wideT t
  · have e1 : eE t n = 11 := by simp only [eE, hR, hb, if_true]
    have e2 : eN t n = zT := by simp [eN, e1]
    rw [e1, e2]
    clear e1 e2 hok hc hR
    generalize wideT t = w at hw hb
    obtain ⟨k, a, b, c, d, mn, mx, subs⟩ := t
    have e0 : nodeA (.node k a b c d mn mx subs) = .agg [.i k, .d (.val (.int .u64 a)), .d (.val (.int .u64 b)), .d (.val (.int .u64 c)), .d (.val (.int .u64 d)), .i mn, .i mx, .d (.sl (encL subs) subs.length)] := rfl
    rw [e0] at hright hw ⊢
    refine b57 (by simp) (by simp) (w_init ?_)
    unfold x57
    repeat' (first
    | (apply r_mvV; rfl)
    | (apply r_mvP; rfl)
    | (apply r_mvPL; rfl)
    | (apply r_mvS; rfl)
    | (apply r_mvSL; rfl)
    | (apply r_mvA; rfl)
    | (apply r_mvT; rfl)
    | (apply r_mvF; rfl)
    | (apply r_mvD; rfl)
    | (apply r_l; apply ld_kind; assumption; rfl)
    | (apply r_l; apply ld_mn; assumption; rfl)
    | (apply r_l; apply ld_mx; assumption; rfl)
    | (apply r_l; apply ld_subs; assumption; rfl)
    | (apply r_l; apply ld_set; assumption; rfl)
    | (apply r_l; apply ld_node; assumption; rfl)
    | (apply r_l; apply ld_kind'; assumption; rfl)
    | (apply r_l; apply ld_mn'; assumption; rfl)
    | (apply r_l; apply ld_mx'; assumption; rfl)
    | (apply r_l; apply ld_subs'; assumption; rfl)
    | (apply r_l; apply ld_node'; assumption; rfl)
    | (apply r_callA; rfl; rfl; exact hright)
    | (apply r_callA; rfl; rfl; exact hw)
    | (apply r_ldL; rfl; rfl; rfl)
    | (apply r_gtr; rfl; rfl; (first | (apply decide_eq_true; omega) | (apply decide_eq_false; omega) | rfl))
    | (apply r_min2; rfl; rfl; rfl)
    | (apply r_not; rfl; rfl)
    | (apply r_alloc; ((conv => lhs; simp only [Nat.reduceAdd]) <;> rfl); rfl)
    | (apply r_box; ((conv => lhs; simp only [Nat.reduceAdd]) <;> rfl); rfl; rfl; rfl)
    | (apply r_stL; rfl; rfl; rfl; rfl; (first | rfl | (simp only [z_nil, z_add] <;> rfl)); rfl; rfl)
    | (apply r_p; rfl)
    | (apply r_nilK)
    | (apply r_nil)
    | (apply k_V; rfl)
    | (apply k_P; rfl)
    | (apply k_PL; rfl)
    | (apply k_S; rfl)
    | (apply k_SL; rfl)
    | (apply k_A; rfl)
    | (apply k_T; rfl)
    | (apply k_F; rfl)
    | (apply k_D; rfl; rotate_left; rfl)
    | (apply k_nil)
    | (apply e_ret (vs := [.d (.val _)]); rfl)
    | (apply e_ret; rfl)
    | (apply e_ret' (vs := [.d (.val _)]); rfl)
    | (apply e_ret'; rfl)
    | (apply w_seq)
    | (apply w_ops; ((conv => lhs; simp only [Nat.reduceAdd]) <;> rfl))
    | (apply w_condT; rfl)
    | (apply w_condF; rfl)
    | ((apply w_condS; rfl) <;> (intro h; try simp only [decide_eq_true_eq, decide_eq_false_iff_not, Bool.not_eq_true, Bool.not_eq_false] at h))
    | (apply e_thenN)
    | (apply w_block)
    | (apply e_thenR)
    | (apply e_thenX)
    | (apply e_blkN)
    | (apply e_blkR)
    | (apply e_blkE)
    | (apply w_exit)
    | (apply w_ret)
    | (apply w_skip)
    | (apply e_blkE'; rfl))
    exact .data _ rfl
  · have e1 : eE t n = 0 := by simp only [eE, hR, hb, if_true, if_false]
    have e2 : eN t n = xT t := by simp only [eN, e1, if_true]
    rw [e1, e2]
    have hx := xplain_good 1000000 t hc (Nat.le_refl _) (hok hR)
    clear e1 e2 hok hc hR
    generalize wideT t = w at hw hb
    generalize xT t = u at hx
    obtain ⟨k2, a2, b2, c2, d2, mn2, mx2, subs2⟩ := u
    obtain ⟨k, a, b, c, d, mn, mx, subs⟩ := t
    have e0 : nodeA (.node k a b c d mn mx subs) = .agg [.i k, .d (.val (.int .u64 a)), .d (.val (.int .u64 b)), .d (.val (.int .u64 c)), .d (.val (.int .u64 d)), .i mn, .i mx, .d (.sl (encL subs) subs.length)] := rfl
    rw [e0] at hright hw hx ⊢
    refine b57 (by simp) (by simp) (w_init ?_)
    unfold x57
    repeat' (first
    | (apply r_mvV; rfl)
    | (apply r_mvP; rfl)
    | (apply r_mvPL; rfl)
    | (apply r_mvS; rfl)
    | (apply r_mvSL; rfl)
    | (apply r_mvA; rfl)
    | (apply r_mvT; rfl)
    | (apply r_mvF; rfl)
    | (apply r_mvD; rfl)
    | (apply r_l; apply ld_kind; assumption; rfl)
    | (apply r_l; apply ld_mn; assumption; rfl)
    | (apply r_l; apply ld_mx; assumption; rfl)
    | (apply r_l; apply ld_subs; assumption; rfl)
    | (apply r_l; apply ld_set; assumption; rfl)
    | (apply r_l; apply ld_node; assumption; rfl)
    | (apply r_l; apply ld_kind'; assumption; rfl)
    | (apply r_l; apply ld_mn'; assumption; rfl)
    | (apply r_l; apply ld_mx'; assumption; rfl)
    | (apply r_l; apply ld_subs'; assumption; rfl)
    | (apply r_l; apply ld_node'; assumption; rfl)
    | (apply r_callA; rfl; rfl; exact hright)
    | (apply r_callA; rfl; rfl; exact hw)
    | (apply r_callA; rfl; rfl; exact hx)
    | (apply r_ldL; rfl; rfl; rfl)
    | (apply r_gtr; rfl; rfl; (first | (apply decide_eq_true; omega) | (apply decide_eq_false; omega) | rfl))
    | (apply r_min2; rfl; rfl; rfl)
    | (apply r_not; rfl; rfl)
    | (apply r_alloc; ((conv => lhs; simp only [Nat.reduceAdd]) <;> rfl); rfl)
    | (apply r_box; ((conv => lhs; simp only [Nat.reduceAdd]) <;> rfl); rfl; rfl; rfl)
    | (apply r_stL; rfl; rfl; rfl; rfl; (first | rfl | (simp only [z_nil, z_add] <;> rfl)); rfl; rfl)
    | (apply r_p; rfl)
    | (apply r_nilK)
    | (apply r_nil)
    | (apply k_V; rfl)
    | (apply k_P; rfl)
    | (apply k_PL; rfl)
    | (apply k_S; rfl)
    | (apply k_SL; rfl)
    | (apply k_A; rfl)
    | (apply k_T; rfl)
    | (apply k_F; rfl)
    | (apply k_D; rfl; rotate_left; rfl)
    | (apply k_nil)
    | (apply e_ret (vs := [.d (.val _)]); rfl)
    | (apply e_ret; rfl)
    | (apply e_ret' (vs := [.d (.val _)]); rfl)
    | (apply e_ret'; rfl)
    | (apply w_seq)
    | (apply w_ops; ((conv => lhs; simp only [Nat.reduceAdd]) <;> rfl))
    | (apply w_condT; rfl)
    | (apply w_condF; rfl)
    | ((apply w_condS; rfl) <;> (intro h; try simp only [decide_eq_true_eq, decide_eq_false_iff_not, Bool.not_eq_true, Bool.not_eq_false] at h))
    | (apply e_thenN)
    | (apply w_block)
    | (apply e_thenR)
    | (apply e_thenX)
    | (apply e_blkN)
    | (apply e_blkR)
    | (apply e_blkE)
    | (apply w_exit)
    | (apply w_ret)
    | (apply w_skip)
    | (apply e_blkE'; rfl))
    exact .data _ rfl
theorem law17 (t : T) (ht : inT t) : Good Try.prog 17 [nodeA t] none (.b true) none none := by
  have haw := awake13_good
  have h45 := few_good t
  by_cases hf : sizeT t 601 ≤ 200
  case neg =>
    rw [show decide (sizeT t 601 ≤ 200) = false by simp [hf]] at h45
    clear ht hf
    obtain ⟨k, a, b, c, d, mn, mx, subs⟩ := t
    have e0 : nodeA (.node k a b c d mn mx subs) = .agg [.i k, .d (.val (.int .u64 a)), .d (.val (.int .u64 b)), .d (.val (.int .u64 c)), .d (.val (.int .u64 d)), .i mn, .i mx, .d (.sl (encL subs) subs.length)] := rfl
    rw [e0] at h45 ⊢
    refine b17 (by simp) (by simp) (w_init ?_)
    unfold x17
    repeat' (first
    | (apply r_mvV; rfl)
    | (apply r_mvP; rfl)
    | (apply r_mvPL; rfl)
    | (apply r_mvS; rfl)
    | (apply r_mvSL; rfl)
    | (apply r_mvA; rfl)
    | (apply r_mvT; rfl)
    | (apply r_mvF; rfl)
    | (apply r_mvD; rfl)
    | (apply r_l; apply ld_kind; assumption; rfl)
    | (apply r_l; apply ld_mn; assumption; rfl)
    | (apply r_l; apply ld_mx; assumption; rfl)
    | (apply r_l; apply ld_subs; assumption; rfl)
    | (apply r_l; apply ld_set; assumption; rfl)
    | (apply r_l; apply ld_node; assumption; rfl)
    | (apply r_l; apply ld_kind'; assumption; rfl)
    | (apply r_l; apply ld_mn'; assumption; rfl)
    | (apply r_l; apply ld_mx'; assumption; rfl)
    | (apply r_l; apply ld_subs'; assumption; rfl)
    | (apply r_l; apply ld_node'; assumption; rfl)
    | (apply r_callA (ags := []); rfl; rfl; exact haw)
    | (apply r_callA; rfl; rfl; exact h45)
    | (apply r_ldL; rfl; rfl; rfl)
    | (apply r_eql; rfl; rfl; (first | (apply decide_eq_true; omega) | (apply decide_eq_false; omega) | rfl))
    | (apply r_leq; rfl; rfl; (first | (apply decide_eq_true; omega) | (apply decide_eq_false; omega) | rfl))
    | (apply r_sub; rfl; rfl; rfl; omega)
    | (apply r_not; rfl; rfl)
    | (apply r_beq; rfl; rfl; rfl)
    | (apply r_pickT; rfl)
    | (apply r_pickF; rfl)
    | (apply r_ext; rfl; rfl)
    | (apply r_gT; rfl)
    | (apply r_gF'; rfl; rfl)
    | (apply r_gN'; rfl)
    | ((apply r_gS (o := default); rfl) <;> (intro h; try simp only [decide_eq_true_eq, decide_eq_false_iff_not, Bool.not_eq_true, Bool.not_eq_false] at h))
    | (apply r_alloc; ((conv => lhs; simp only [Nat.reduceAdd]) <;> rfl); rfl)
    | (apply r_box; ((conv => lhs; simp only [Nat.reduceAdd]) <;> rfl); rfl; rfl; rfl)
    | (apply r_stL; rfl; rfl; rfl; rfl; (first | rfl | (simp only [z_nil, z_add] <;> rfl)); rfl; rfl)
    | (apply r_nilK)
    | (apply r_nil)
    | (apply k_V; rfl)
    | (apply k_P; rfl)
    | (apply k_PL; rfl)
    | (apply k_S; rfl)
    | (apply k_SL; rfl)
    | (apply k_A; rfl)
    | (apply k_T; rfl)
    | (apply k_F; rfl)
    | (apply k_D; rfl; rotate_left; rfl)
    | (apply k_nil)
    | (apply e_ret (vs := [.d (.val _)]); rfl)
    | (apply e_ret; rfl)
    | (apply e_ret' (vs := [.d (.val _)]); rfl)
    | (apply e_ret'; rfl)
    | (apply w_seq)
    | (apply w_ops; ((conv => lhs; simp only [Nat.reduceAdd]) <;> rfl))
    | (apply w_condT; rfl)
    | (apply w_condF; rfl)
    | ((apply w_condS; rfl) <;> (intro h; try simp only [decide_eq_true_eq, decide_eq_false_iff_not, Bool.not_eq_true, Bool.not_eq_false] at h))
    | (apply e_thenN)
    | (apply w_block)
    | (apply e_thenR)
    | (apply e_thenX)
    | (apply e_blkN)
    | (apply e_blkR)
    | (apply e_blkE)
    | (apply w_exit)
    | (apply w_ret)
    | (apply w_skip)
    | (apply e_blkE'; rfl))
    exact retB rfl
  have hc := few_cnt hf
  have h32 := right8_good t (by omega)
  rw [show decide (sizeT t 601 ≤ 200) = true by simp [hf]] at h45
  by_cases hr : rightT t = true
  case neg =>
    have hr : rightT t = false := by simpa using hr
    rw [hr] at h32
    clear ht hf hc hr
    obtain ⟨k, a, b, c, d, mn, mx, subs⟩ := t
    have e0 : nodeA (.node k a b c d mn mx subs) = .agg [.i k, .d (.val (.int .u64 a)), .d (.val (.int .u64 b)), .d (.val (.int .u64 c)), .d (.val (.int .u64 d)), .i mn, .i mx, .d (.sl (encL subs) subs.length)] := rfl
    rw [e0] at h45 h32 ⊢
    refine b17 (by simp) (by simp) (w_init ?_)
    unfold x17
    repeat' (first
    | (apply r_mvV; rfl)
    | (apply r_mvP; rfl)
    | (apply r_mvPL; rfl)
    | (apply r_mvS; rfl)
    | (apply r_mvSL; rfl)
    | (apply r_mvA; rfl)
    | (apply r_mvT; rfl)
    | (apply r_mvF; rfl)
    | (apply r_mvD; rfl)
    | (apply r_l; apply ld_kind; assumption; rfl)
    | (apply r_l; apply ld_mn; assumption; rfl)
    | (apply r_l; apply ld_mx; assumption; rfl)
    | (apply r_l; apply ld_subs; assumption; rfl)
    | (apply r_l; apply ld_set; assumption; rfl)
    | (apply r_l; apply ld_node; assumption; rfl)
    | (apply r_l; apply ld_kind'; assumption; rfl)
    | (apply r_l; apply ld_mn'; assumption; rfl)
    | (apply r_l; apply ld_mx'; assumption; rfl)
    | (apply r_l; apply ld_subs'; assumption; rfl)
    | (apply r_l; apply ld_node'; assumption; rfl)
    | (apply r_callA (ags := []); rfl; rfl; exact haw)
    | (apply r_callA; rfl; rfl; exact h45)
    | (apply r_callA; rfl; rfl; exact h32)
    | (apply r_ldL; rfl; rfl; rfl)
    | (apply r_eql; rfl; rfl; (first | (apply decide_eq_true; omega) | (apply decide_eq_false; omega) | rfl))
    | (apply r_leq; rfl; rfl; (first | (apply decide_eq_true; omega) | (apply decide_eq_false; omega) | rfl))
    | (apply r_sub; rfl; rfl; rfl; omega)
    | (apply r_not; rfl; rfl)
    | (apply r_beq; rfl; rfl; rfl)
    | (apply r_pickT; rfl)
    | (apply r_pickF; rfl)
    | (apply r_ext; rfl; rfl)
    | (apply r_gT; rfl)
    | (apply r_gF'; rfl; rfl)
    | (apply r_gN'; rfl)
    | ((apply r_gS (o := default); rfl) <;> (intro h; try simp only [decide_eq_true_eq, decide_eq_false_iff_not, Bool.not_eq_true, Bool.not_eq_false] at h))
    | (apply r_alloc; ((conv => lhs; simp only [Nat.reduceAdd]) <;> rfl); rfl)
    | (apply r_box; ((conv => lhs; simp only [Nat.reduceAdd]) <;> rfl); rfl; rfl; rfl)
    | (apply r_stL; rfl; rfl; rfl; rfl; (first | rfl | (simp only [z_nil, z_add] <;> rfl)); rfl; rfl)
    | (apply r_nilK)
    | (apply r_nil)
    | (apply k_V; rfl)
    | (apply k_P; rfl)
    | (apply k_PL; rfl)
    | (apply k_S; rfl)
    | (apply k_SL; rfl)
    | (apply k_A; rfl)
    | (apply k_T; rfl)
    | (apply k_F; rfl)
    | (apply k_D; rfl; rotate_left; rfl)
    | (apply k_nil)
    | (apply e_ret (vs := [.d (.val _)]); rfl)
    | (apply e_ret; rfl)
    | (apply e_ret' (vs := [.d (.val _)]); rfl)
    | (apply e_ret'; rfl)
    | (apply w_seq)
    | (apply w_ops; ((conv => lhs; simp only [Nat.reduceAdd]) <;> rfl))
    | (apply w_condT; rfl)
    | (apply w_condF; rfl)
    | ((apply w_condS; rfl) <;> (intro h; try simp only [decide_eq_true_eq, decide_eq_false_iff_not, Bool.not_eq_true, Bool.not_eq_false] at h))
    | (apply e_thenN)
    | (apply w_block)
    | (apply e_thenR)
    | (apply e_thenX)
    | (apply e_blkN)
    | (apply e_blkR)
    | (apply e_blkE)
    | (apply w_exit)
    | (apply w_ret)
    | (apply w_skip)
    | (apply e_blkE'; rfl))
    exact retB rfl
  rw [hr] at h32
  have hfi : fitsT t 12 = true := by rw [← right_fits]; exact hr
  have hok : okT t := ok_of_right ht hr
  have h38 := wide_good 1000000 t (by omega) (by omega) hok
  have hwi := wideT_in t hok
  have hp1 := xPlain_good t (by omega) (fun _ => hok) (wideT t)
  have hp2 := xPlain_good t (by omega) (fun _ => hok) (wideT t - 1)
  have e2 : eE t (wideT t - 1) = 11 := by simp only [eE, hfi, if_true]; rw [if_pos (by omega)]
  have e1 : eE t (wideT t) = if wideT t ≤ 400 then 0 else 11 := by
    simp only [eE, hfi, if_true]
    by_cases h : wideT t ≤ 400
    · rw [if_pos h, if_neg (by omega)]
    · rw [if_neg h, if_pos (by omega)]
  rw [e2] at hp2
  rw [e1] at hp1
  generalize eN t (wideT t) = u1 at hp1
  generalize eN t (wideT t - 1) = u2 at hp2
  clear e1 e2 ht hf hc hr hfi hok
  generalize wideT t = w at h38 hwi hp1 hp2
  obtain ⟨k1, a1, b1, c1, d1, mn1, mx1, subs1⟩ := u1
  obtain ⟨k2, a2, b2, c2, d2, mn2, mx2, subs2⟩ := u2
  by_cases hw : w ≤ 400
  · rw [if_pos hw] at hp1
    obtain ⟨k, a, b, c, d, mn, mx, subs⟩ := t
    have e0 : nodeA (.node k a b c d mn mx subs) = .agg [.i k, .d (.val (.int .u64 a)), .d (.val (.int .u64 b)), .d (.val (.int .u64 c)), .d (.val (.int .u64 d)), .i mn, .i mx, .d (.sl (encL subs) subs.length)] := rfl
    rw [e0] at h45 h32 h38 hp1 hp2 ⊢
    refine b17 (by simp) (by simp) (w_init ?_)
    unfold x17
    repeat' (first
    | (apply r_mvV; rfl)
    | (apply r_mvP; rfl)
    | (apply r_mvPL; rfl)
    | (apply r_mvS; rfl)
    | (apply r_mvSL; rfl)
    | (apply r_mvA; rfl)
    | (apply r_mvT; rfl)
    | (apply r_mvF; rfl)
    | (apply r_mvD; rfl)
    | (apply r_l; apply ld_kind; assumption; rfl)
    | (apply r_l; apply ld_mn; assumption; rfl)
    | (apply r_l; apply ld_mx; assumption; rfl)
    | (apply r_l; apply ld_subs; assumption; rfl)
    | (apply r_l; apply ld_set; assumption; rfl)
    | (apply r_l; apply ld_node; assumption; rfl)
    | (apply r_l; apply ld_kind'; assumption; rfl)
    | (apply r_l; apply ld_mn'; assumption; rfl)
    | (apply r_l; apply ld_mx'; assumption; rfl)
    | (apply r_l; apply ld_subs'; assumption; rfl)
    | (apply r_l; apply ld_node'; assumption; rfl)
    | (apply r_callA (ags := []); rfl; rfl; exact haw)
    | (apply r_callA; rfl; rfl; exact h45)
    | (apply r_callA; rfl; rfl; exact h32)
    | (apply r_callA; rfl; rfl; exact h38)
    | (apply r_callA; rfl; rfl; exact hp1)
    | (apply r_callA; rfl; rfl; exact hp2)
    | (apply r_ldL; rfl; rfl; rfl)
    | (apply r_eql; rfl; rfl; (first | (apply decide_eq_true; omega) | (apply decide_eq_false; omega) | rfl))
    | (apply r_leq; rfl; rfl; (first | (apply decide_eq_true; omega) | (apply decide_eq_false; omega) | rfl))
    | (apply r_sub; rfl; rfl; rfl; omega)
    | (apply r_not; rfl; rfl)
    | (apply r_beq; rfl; rfl; rfl)
    | (apply r_pickT; rfl)
    | (apply r_pickF; rfl)
    | (apply r_ext; rfl; rfl)
    | (apply r_gT; rfl)
    | (apply r_gF'; rfl; rfl)
    | (apply r_gN'; rfl)
    | ((apply r_gS (o := default); rfl) <;> (intro h; try simp only [decide_eq_true_eq, decide_eq_false_iff_not, Bool.not_eq_true, Bool.not_eq_false] at h))
    | (apply r_alloc; ((conv => lhs; simp only [Nat.reduceAdd]) <;> rfl); rfl)
    | (apply r_box; ((conv => lhs; simp only [Nat.reduceAdd]) <;> rfl); rfl; rfl; rfl)
    | (apply r_stL; rfl; rfl; rfl; rfl; (first | rfl | (simp only [z_nil, z_add] <;> rfl)); rfl; rfl)
    | (apply r_nilK)
    | (apply r_nil)
    | (apply k_V; rfl)
    | (apply k_P; rfl)
    | (apply k_PL; rfl)
    | (apply k_S; rfl)
    | (apply k_SL; rfl)
    | (apply k_A; rfl)
    | (apply k_T; rfl)
    | (apply k_F; rfl)
    | (apply k_D; rfl; rotate_left; rfl)
    | (apply k_nil)
    | (apply e_ret (vs := [.d (.val _)]); rfl)
    | (apply e_ret; rfl)
    | (apply e_ret' (vs := [.d (.val _)]); rfl)
    | (apply e_ret'; rfl)
    | (apply w_seq)
    | (apply w_ops; ((conv => lhs; simp only [Nat.reduceAdd]) <;> rfl))
    | (apply w_condT; rfl)
    | (apply w_condF; rfl)
    | ((apply w_condS; rfl) <;> (intro h; try simp only [decide_eq_true_eq, decide_eq_false_iff_not, Bool.not_eq_true, Bool.not_eq_false] at h))
    | (apply e_thenN)
    | (apply w_block)
    | (apply e_thenR)
    | (apply e_thenX)
    | (apply e_blkN)
    | (apply e_blkR)
    | (apply e_blkE)
    | (apply w_exit)
    | (apply w_ret)
    | (apply w_skip)
    | (apply e_blkE'; rfl))
    all_goals exact retB rfl
  · rw [if_neg hw] at hp1
    obtain ⟨k, a, b, c, d, mn, mx, subs⟩ := t
    have e0 : nodeA (.node k a b c d mn mx subs) = .agg [.i k, .d (.val (.int .u64 a)), .d (.val (.int .u64 b)), .d (.val (.int .u64 c)), .d (.val (.int .u64 d)), .i mn, .i mx, .d (.sl (encL subs) subs.length)] := rfl
    rw [e0] at h45 h32 h38 hp1 hp2 ⊢
    refine b17 (by simp) (by simp) (w_init ?_)
    unfold x17
    repeat' (first
    | (apply r_mvV; rfl)
    | (apply r_mvP; rfl)
    | (apply r_mvPL; rfl)
    | (apply r_mvS; rfl)
    | (apply r_mvSL; rfl)
    | (apply r_mvA; rfl)
    | (apply r_mvT; rfl)
    | (apply r_mvF; rfl)
    | (apply r_mvD; rfl)
    | (apply r_l; apply ld_kind; assumption; rfl)
    | (apply r_l; apply ld_mn; assumption; rfl)
    | (apply r_l; apply ld_mx; assumption; rfl)
    | (apply r_l; apply ld_subs; assumption; rfl)
    | (apply r_l; apply ld_set; assumption; rfl)
    | (apply r_l; apply ld_node; assumption; rfl)
    | (apply r_l; apply ld_kind'; assumption; rfl)
    | (apply r_l; apply ld_mn'; assumption; rfl)
    | (apply r_l; apply ld_mx'; assumption; rfl)
    | (apply r_l; apply ld_subs'; assumption; rfl)
    | (apply r_l; apply ld_node'; assumption; rfl)
    | (apply r_callA (ags := []); rfl; rfl; exact haw)
    | (apply r_callA; rfl; rfl; exact h45)
    | (apply r_callA; rfl; rfl; exact h32)
    | (apply r_callA; rfl; rfl; exact h38)
    | (apply r_callA; rfl; rfl; exact hp1)
    | (apply r_callA; rfl; rfl; exact hp2)
    | (apply r_ldL; rfl; rfl; rfl)
    | (apply r_eql; rfl; rfl; (first | (apply decide_eq_true; omega) | (apply decide_eq_false; omega) | rfl))
    | (apply r_leq; rfl; rfl; (first | (apply decide_eq_true; omega) | (apply decide_eq_false; omega) | rfl))
    | (apply r_sub; rfl; rfl; rfl; omega)
    | (apply r_not; rfl; rfl)
    | (apply r_beq; rfl; rfl; rfl)
    | (apply r_pickT; rfl)
    | (apply r_pickF; rfl)
    | (apply r_ext; rfl; rfl)
    | (apply r_gT; rfl)
    | (apply r_gF'; rfl; rfl)
    | (apply r_gN'; rfl)
    | ((apply r_gS (o := default); rfl) <;> (intro h; try simp only [decide_eq_true_eq, decide_eq_false_iff_not, Bool.not_eq_true, Bool.not_eq_false] at h))
    | (apply r_alloc; ((conv => lhs; simp only [Nat.reduceAdd]) <;> rfl); rfl)
    | (apply r_box; ((conv => lhs; simp only [Nat.reduceAdd]) <;> rfl); rfl; rfl; rfl)
    | (apply r_stL; rfl; rfl; rfl; rfl; (first | rfl | (simp only [z_nil, z_add] <;> rfl)); rfl; rfl)
    | (apply r_nilK)
    | (apply r_nil)
    | (apply k_V; rfl)
    | (apply k_P; rfl)
    | (apply k_PL; rfl)
    | (apply k_S; rfl)
    | (apply k_SL; rfl)
    | (apply k_A; rfl)
    | (apply k_T; rfl)
    | (apply k_F; rfl)
    | (apply k_D; rfl; rotate_left; rfl)
    | (apply k_nil)
    | (apply e_ret (vs := [.d (.val _)]); rfl)
    | (apply e_ret; rfl)
    | (apply e_ret' (vs := [.d (.val _)]); rfl)
    | (apply e_ret'; rfl)
    | (apply w_seq)
    | (apply w_ops; ((conv => lhs; simp only [Nat.reduceAdd]) <;> rfl))
    | (apply w_condT; rfl)
    | (apply w_condF; rfl)
    | ((apply w_condS; rfl) <;> (intro h; try simp only [decide_eq_true_eq, decide_eq_false_iff_not, Bool.not_eq_true, Bool.not_eq_false] at h))
    | (apply e_thenN)
    | (apply w_block)
    | (apply e_thenR)
    | (apply e_thenX)
    | (apply e_blkN)
    | (apply e_blkR)
    | (apply e_blkE)
    | (apply w_exit)
    | (apply w_ret)
    | (apply w_skip)
    | (apply e_blkE'; rfl))
    all_goals exact retB rfl
end Go.Sv
namespace Go.Sv
open Go Go.Proofs
def x16 : XC := (.seq (.ops 2 [
    (0, ⟨(some 1), none, .box (.t 0)⟩),
    (1, ⟨(some 2), none, .mv (.k (.d (.val (.bool false))))⟩)] (some [1])) (.seq (.seq (.ops 7 [
    (0, ⟨(some 6), none, .call 56 [] none false⟩),
    (1, ⟨(some 7), none, .un .not (.t 6)⟩),
    (2, ⟨(some 8), none, .mv (.t 7)⟩),
    (3, ⟨(some 9), (some (8, false)), .load (some 8) (.t 1)⟩),
    (4, ⟨(some 10), (some (8, false)), .call 45 [(.t 9)] none false⟩),
    (5, ⟨(some 11), (some (8, false)), .un .not (.t 10)⟩),
    (6, ⟨(some 12), none, .pick (.t 8) (.k (.d (.val (.bool true)))) (.t 11)⟩)] (some [1, 12])) (.cond (.t 12) (.seq (.ops 2 [
    (0, ⟨(some 13), none, .call 56 [] none false⟩),
    (1, ⟨(some 2), none, .mv (.t 13)⟩)] (some [2])) .ret) .skip)) (.seq (.ops 3 [
    (0, ⟨(some 14), none, .load (some 8) (.t 1)⟩),
    (1, ⟨(some 15), none, .call 59 [(.t 14)] none false⟩),
    (2, ⟨(some 3), none, .mv (.t 15)⟩)] (some [1, 3])) (.seq (.seq (.ops 4 [
    (0, ⟨(some 16), none, .load (some 8) (.t 1)⟩),
    (1, ⟨(some 17), none, .call 60 [(.t 16)] none false⟩),
    (2, ⟨(some 18), none, .mv (.t 3)⟩),
    (3, ⟨(some 19), none, .beq true (.t 17) (.t 18)⟩)] (some [1, 3, 19])) (.cond (.t 19) (.seq (.ops 1 [
    (0, ⟨(some 2), none, .mv (.k (.d (.val (.bool false))))⟩)] (some [2])) .ret) .skip)) (.seq (.ops 8 [
    (0, ⟨(some 21), none, .load (some 8) (.t 1)⟩),
    (1, ⟨(some 22), none, .call 57 [(.t 21), (.k (.d (.val (.int .i64 400))))] none false⟩),
    (2, ⟨(some 20), none, .mv (.t 22)⟩),
    (3, ⟨(some 23), none, .ext (.t 20) 0⟩),
    (4, ⟨(some 24), none, .ext (.t 20) 1⟩),
    (5, ⟨(some 4), none, .alloc [(.int .i64 0), (.int .u64 0), (.int .u64 0), (.int .u64 0), (.int .u64 0), (.int .i64 0), (.int .i64 0), (.slice none 0 0)]⟩),
    (6, ⟨none, none, .store 8 (.t 4) (.t 23)⟩),
    (7, ⟨(some 5), none, .mv (.t 24)⟩)] (some [1, 3, 4, 5])) (.seq (.ops 12 [
    (0, ⟨(some 25), none, .mv (.t 3)⟩),
    (1, ⟨(some 26), none, .un .not (.t 25)⟩),
    (2, ⟨(some 27), none, .mv (.t 26)⟩),
    (3, ⟨(some 28), (some (27, false)), .mv (.t 5)⟩),
    (4, ⟨(some 29), (some (27, false)), .arith .neq (.t 28) (.k (.d (.val (.int .i64 0))))⟩),
    (5, ⟨(some 30), none, .pick (.t 27) (.k (.d (.val (.bool true)))) (.t 29)⟩),
    (6, ⟨(some 31), none, .mv (.t 30)⟩),
    (7, ⟨(some 32), (some (31, false)), .load (some 8) (.t 4)⟩),
    (8, ⟨(some 33), (some (31, false)), .load (some 8) (.t 1)⟩),
    (9, ⟨(some 34), (some (31, false)), .call 47 [(.t 32), (.t 33)] none false⟩),
    (10, ⟨(some 35), none, .pick (.t 31) (.k (.d (.val (.bool true)))) (.t 34)⟩),
    (11, ⟨(some 2), none, .mv (.t 35)⟩)] (some [2])) .ret))))))
def md16 : FuncId → Option Nat × Bool
  | _ => (none, false)
def od16 : Nat → List (List Nat) × List Nat × Option (List Nat)
  | 0 => ([], [], some [1])
  | 1 => ([], [], some [1, 12])
  | 2 => ([], [], some [2])
  | 3 => ([], [], some [1, 3])
  | 4 => ([], [], some [1, 3, 19])
  | 5 => ([], [], some [2])
  | 6 => ([], [], some [1, 3, 4, 5])
  | 7 => ([], [], some [2])
  | _ => ([], [], none)
theorem b16 {ags : List AV} {row : Option (List DV)} {r : AV} {row' nw : Option (List DV)} (hal : ags.length ≤ 36) (hrow : row'.isSome = true → row.isSome = true) (h : xwp Try.prog x16 (retK [.tmp 2] row.isSome r row' nw) (St.init ags row)) : Good Try.prog 16 ags row r row' nw :=
  good_of_body' (md := md16) (od := od16) Try.f16 (by kernel_rfl) (by kernel_rfl) (by kernel_rfl) (by kernel_rfl) (by kernel_rfl) hal hrow h

section
variable {P : Program} {Q : Cont} {fr : Fr} {C : Heap} {Z : Frz} {nx : Nat} {base n d0 : Nat} {l : List (Nat × XO)} {kp : Option (List Nat)} {x y : X}
theorem r_callv {f : FuncId} {g : X} {xs : List X} {ags : List AV} {r : AV} (hf : g.ev fr = .d (.fn f [])) (ha : xs.map (X.ev fr) = ags) (hn : ags.all AV.nrm = true) (hg : Good P f ags none r none none)
    (k : R P l base kp Q nx (fr.put d0 r) C Z) : R P ((n, ⟨some d0, none, .callv g xs⟩) :: l) base kp Q nx fr C Z := by
  refine ⟨r, C, Z, .inl ⟨rfl, f, [], .inr ⟨[], hf, rfl⟩, ?_⟩, k⟩
  subst ha
  refine ⟨_, [], r, none, by rw [List.append_nil]; exact convAs_nrm _ hn, hg, rfl, fun h => (by cases h), rfl, rfl, ?_⟩
  simp [Frz.add_nil]
end
def firstN : List T → Nat → Int
  | [], _ => -1
  | t :: l, i => if isP t = true then firstN l (i + 1) else i
theorem firstN_drop (l : List T) (i : Nat) (h : i < l.length) : firstN (l.drop i) i = if isP l[i] = true then firstN (l.drop (i + 1)) (i + 1) else (i : Int) := by
  rw [List.drop_eq_getElem_cons h, firstN]
theorem firstN_isPL : ∀ (l : List T) (i : Nat), decide (0 ≤ firstN l i) = !isPL l
  | [], _ => by simp [firstN, isPL]
  | t :: l, i => by
    rw [firstN, isPL]
    rcases Bool.eq_false_or_eq_true (isP t) with h | h
    · rw [if_pos h, firstN_isPL l (i + 1), h, Bool.true_and]
    · rw [if_neg (by simp [h]), h]; simp
set_option maxRecDepth 100000
set_option maxHeartbeats 4000000
attribute [local irreducible] W E R KP thenK blockK retK Good xwp aRun
theorem p117_of (t : T) (h : Good Try.prog 60 [nodeA t] none (.b (isP t)) none none) : Good Try.prog 117 [nodeA t] none (.b (!isP t)) none none := by
  generalize isP t = q at h
  obtain ⟨k, a, b, c, d, mn, mx, subs⟩ := t
  have e0 : nodeA (.node k a b c d mn mx subs) = .agg [.i k, .d (.val (.int .u64 a)), .d (.val (.int .u64 b)), .d (.val (.int .u64 c)), .d (.val (.int .u64 d)), .i mn, .i mx, .d (.sl (encL subs) subs.length)] := rfl
  rw [e0] at h ⊢
  refine b117 (by simp) (by simp) (w_init ?_)
  unfold x117
  repeat' (first
    | (apply r_mvV; rfl)
    | (apply r_mvP; rfl)
    | (apply r_mvPL; rfl)
    | (apply r_mvS; rfl)
    | (apply r_mvSL; rfl)
    | (apply r_mvA; rfl)
    | (apply r_mvT; rfl)
    | (apply r_mvF; rfl)
    | (apply r_mvD; rfl)
    | (apply r_l; apply ld_kind; assumption; rfl)
    | (apply r_l; apply ld_mn; assumption; rfl)
    | (apply r_l; apply ld_mx; assumption; rfl)
    | (apply r_l; apply ld_subs; assumption; rfl)
    | (apply r_l; apply ld_set; assumption; rfl)
    | (apply r_l; apply ld_node; assumption; rfl)
    | (apply r_l; apply ld_kind'; assumption; rfl)
    | (apply r_l; apply ld_mn'; assumption; rfl)
    | (apply r_l; apply ld_mx'; assumption; rfl)
    | (apply r_l; apply ld_subs'; assumption; rfl)
    | (apply r_l; apply ld_node'; assumption; rfl)
    | (apply r_callA; rfl; rfl; exact h)
    | (apply r_ldL; rfl; rfl; rfl)
    | (apply r_not; rfl; rfl)
    | (apply r_box; ((conv => lhs; simp only [Nat.reduceAdd]) <;> rfl); rfl; rfl; rfl)
    | (apply r_nilK)
    | (apply r_nil)
    | (apply k_V; rfl)
    | (apply k_P; rfl)
    | (apply k_PL; rfl)
    | (apply k_S; rfl)
    | (apply k_SL; rfl)
    | (apply k_A; rfl)
    | (apply k_T; rfl)
    | (apply k_F; rfl)
    | (apply k_D; rfl; rotate_left; rfl)
    | (apply k_nil)
    | (apply e_ret (vs := [.d (.val _)]); rfl)
    | (apply e_ret; rfl)
    | (apply e_ret' (vs := [.d (.val _)]); rfl)
    | (apply e_ret'; rfl)
    | (apply w_seq)
    | (apply w_ops; ((conv => lhs; simp only [Nat.reduceAdd]) <;> rfl))
    | (apply e_thenN)
    | (apply w_block)
    | (apply e_thenR)
    | (apply e_thenX)
    | (apply e_blkN)
    | (apply e_blkR)
    | (apply e_blkE)
    | (apply w_exit)
    | (apply w_ret)
    | (apply w_skip)
    | (apply e_blkE'; rfl))
  exact retB rfl
theorem p145_of (l : List T) (hl : l.length ≤ 1000000) (h : ∀ i (hi : i < l.length), Good Try.prog 117 [nodeA l[i]] none (.b (!isP l[i])) none none) : Good Try.prog 145 [.d (.sl (encL l) l.length), .d (.fn 117 [])] none (.i (firstN l 0)) none none := by
  refine b145 (by simp) (by simp) (w_init ?_)
  unfold x145
  repeat' (first
    | (apply r_mvV; rfl)
    | (apply r_mvP; rfl)
    | (apply r_mvPL; rfl)
    | (apply r_mvS; rfl)
    | (apply r_mvSL; rfl)
    | (apply r_mvA; rfl)
    | (apply r_mvT; rfl)
    | (apply r_mvF; rfl)
    | (apply r_mvD; rfl)
    | (apply k_E (v := .d (.fn 117 [])); rfl)
    | (apply r_ldL; rfl; rfl; rfl)
    | (apply r_lss; rfl; rfl; (first | (apply decide_eq_true; omega) | (apply decide_eq_false; omega) | rfl))
    | (apply r_add; rfl; rfl; rfl; omega)
    | (apply r_lenD; rfl)
    | (apply r_lenL; rfl)
    | (apply r_len0; rfl)
    | (apply r_p; rfl)
    | (apply r_nilK)
    | (apply r_nil)
    | (apply k_V; rfl)
    | (apply k_P; rfl)
    | (apply k_PL; rfl)
    | (apply k_S; rfl)
    | (apply k_SL; rfl)
    | (apply k_A; rfl)
    | (apply k_T; rfl)
    | (apply k_F; rfl)
    | (apply k_D; rfl; rotate_left; rfl)
    | (apply k_nil)
    | (apply e_ret (vs := [.d (.val _)]); rfl)
    | (apply e_ret; rfl)
    | (apply e_ret' (vs := [.d (.val _)]); rfl)
    | (apply e_ret'; rfl)
    | (apply w_seq)
    | (apply w_ops; ((conv => lhs; simp only [Nat.reduceAdd]) <;> rfl))
    | (apply w_condT; rfl)
    | (apply w_condF; rfl)
    | ((apply w_condS; rfl) <;> (intro h; try simp only [decide_eq_true_eq, decide_eq_false_iff_not, Bool.not_eq_true, Bool.not_eq_false] at h))
    | (apply e_thenN)
    | (apply w_block)
    | (apply e_thenR)
    | (apply e_thenX)
    | (apply e_blkN)
    | (apply e_blkR)
    | (apply e_blkE)
    | (apply w_exit)
    | (apply w_ret)
    | (apply w_skip)
    | (apply e_blkE'; rfl))
  apply w_loopI (S := fun i : Nat => ⟨(((Fr.nil.put 0 (.d (.sl (encL l) l.length))).put 1 (.d (.fn 117 []))).put 7 (.i l.length)).put 8 (.i i), Heap.nil, Frz.lo 100, 100⟩) (m := fun i => l.length - i) (I := fun i => i ≤ l.length ∧ firstN l 0 = firstN (l.drop i) i) (i0 := 0)
  · exact ⟨Nat.zero_le _, rfl⟩
  · refine wk0 (by omega) ?_
    repeat' (first
    | exact FWk.nil
    | (apply FWk.i; rfl; (first | rfl | omega | (simp; done)))
    | (apply FWk.sl; rfl; rfl; rfl; rfl; omega; rfl)
    | (apply FWk.ptr; rfl; rfl; rfl; omega; rfl)
    | (apply FWk.d; rfl; rfl)
    | (apply FWk.a; rfl; rfl; rfl)
    | (apply FWk.slN; rfl; omega; rfl))
  rintro i K ⟨hi, hp⟩ hK
  dsimp only
  rcases Nat.lt_or_ge i l.length with hlt | hge
  · have hs := NodeAt.sub hlt
    have hg := h i hlt
    have hd := firstN_drop l i hlt
    have hna : [nodeA l[i]].all AV.nrm = true := by rw [List.all_cons, nodeA_nrm]; rfl
    rcases Bool.eq_false_or_eq_true (isP l[i]) with hq | hq
    · rw [hq] at hg
      rw [if_pos hq] at hd
      repeat' (first
    | (apply r_mvV; rfl)
    | (apply r_mvP; rfl)
    | (apply r_mvPL; rfl)
    | (apply r_mvS; rfl)
    | (apply r_mvSL; rfl)
    | (apply r_mvA; rfl)
    | (apply r_mvT; rfl)
    | (apply r_mvF; rfl)
    | (apply r_mvD; rfl)
    | (apply k_E (v := .d (.fn 117 [])); rfl)
    | (apply r_p; apply ix_sub; rfl; rfl; omega)
    | (apply r_l; apply ld_node'; exact hs; rfl)
    | (apply r_callv (ags := [nodeA l[i]]); rfl; rfl; exact hna; exact hg)
    | (apply r_ldL; rfl; rfl; rfl)
    | (apply r_lss; rfl; rfl; (first | (apply decide_eq_true; omega) | (apply decide_eq_false; omega) | rfl))
    | (apply r_add; rfl; rfl; rfl; omega)
    | (apply r_lenD; rfl)
    | (apply r_lenL; rfl)
    | (apply r_len0; rfl)
    | (apply r_p; rfl)
    | (apply r_nilK)
    | (apply r_nil)
    | (apply k_V; rfl)
    | (apply k_P; rfl)
    | (apply k_PL; rfl)
    | (apply k_S; rfl)
    | (apply k_SL; rfl)
    | (apply k_A; rfl)
    | (apply k_T; rfl)
    | (apply k_F; rfl)
    | (apply k_D; rfl; rotate_left; rfl)
    | (apply k_nil)
    | (apply e_ret (vs := [.d (.val _)]); rfl)
    | (apply e_ret; rfl)
    | (apply e_ret' (vs := [.d (.val _)]); rfl)
    | (apply e_ret'; rfl)
    | (apply w_seq)
    | (apply w_ops; ((conv => lhs; simp only [Nat.reduceAdd]) <;> rfl))
    | (apply w_condT; rfl)
    | (apply w_condF; rfl)
    | ((apply w_condS; rfl) <;> (intro h; try simp only [decide_eq_true_eq, decide_eq_false_iff_not, Bool.not_eq_true, Bool.not_eq_false] at h))
    | (apply e_thenN)
    | (apply w_block)
    | (apply e_thenR)
    | (apply e_thenX)
    | (apply e_blkN)
    | (apply e_blkR)
    | (apply e_blkE)
    | (apply w_exit)
    | (apply w_ret)
    | (apply w_skip)
    | (apply e_blkE'; rfl))
      apply e_thenK
      apply hK (i + 1)
      · exact ⟨by omega, by rw [hp, hd]⟩
      · omega
      · refine wk0 (by omega) ?_
        repeat' (first
    | exact FWk.nil
    | (apply FWk.i; rfl; (first | rfl | omega | (simp; done)))
    | (apply FWk.sl; rfl; rfl; rfl; rfl; omega; rfl)
    | (apply FWk.ptr; rfl; rfl; rfl; omega; rfl)
    | (apply FWk.d; rfl; rfl)
    | (apply FWk.a; rfl; rfl; rfl)
    | (apply FWk.slN; rfl; omega; rfl))
    · rw [hq] at hg
      rw [if_neg (by simp [hq])] at hd
      repeat' (first
    | (apply r_mvV; rfl)
    | (apply r_mvP; rfl)
    | (apply r_mvPL; rfl)
    | (apply r_mvS; rfl)
    | (apply r_mvSL; rfl)
    | (apply r_mvA; rfl)
    | (apply r_mvT; rfl)
    | (apply r_mvF; rfl)
    | (apply r_mvD; rfl)
    | (apply k_E (v := .d (.fn 117 [])); rfl)
    | (apply r_p; apply ix_sub; rfl; rfl; omega)
    | (apply r_l; apply ld_node'; exact hs; rfl)
    | (apply r_callv (ags := [nodeA l[i]]); rfl; rfl; exact hna; exact hg)
    | (apply r_ldL; rfl; rfl; rfl)
    | (apply r_lss; rfl; rfl; (first | (apply decide_eq_true; omega) | (apply decide_eq_false; omega) | rfl))
    | (apply r_add; rfl; rfl; rfl; omega)
    | (apply r_lenD; rfl)
    | (apply r_lenL; rfl)
    | (apply r_len0; rfl)
    | (apply r_p; rfl)
    | (apply r_nilK)
    | (apply r_nil)
    | (apply k_V; rfl)
    | (apply k_P; rfl)
    | (apply k_PL; rfl)
    | (apply k_S; rfl)
    | (apply k_SL; rfl)
    | (apply k_A; rfl)
    | (apply k_T; rfl)
    | (apply k_F; rfl)
    | (apply k_D; rfl; rotate_left; rfl)
    | (apply k_nil)
    | (apply e_ret (vs := [.d (.val _)]); rfl)
    | (apply e_ret; rfl)
    | (apply e_ret' (vs := [.d (.val _)]); rfl)
    | (apply e_ret'; rfl)
    | (apply w_seq)
    | (apply w_ops; ((conv => lhs; simp only [Nat.reduceAdd]) <;> rfl))
    | (apply w_condT; rfl)
    | (apply w_condF; rfl)
    | ((apply w_condS; rfl) <;> (intro h; try simp only [decide_eq_true_eq, decide_eq_false_iff_not, Bool.not_eq_true, Bool.not_eq_false] at h))
    | (apply e_thenN)
    | (apply w_block)
    | (apply e_thenR)
    | (apply e_thenX)
    | (apply e_blkN)
    | (apply e_blkR)
    | (apply e_blkE)
    | (apply w_exit)
    | (apply w_ret)
    | (apply w_skip)
    | (apply e_blkE'; rfl))
      exact retI (by rw [hp, hd])
  · have e : firstN l 0 = -1 := by rw [hp, List.drop_of_length_le hge, firstN]
    repeat' (first
    | (apply r_mvV; rfl)
    | (apply r_mvP; rfl)
    | (apply r_mvPL; rfl)
    | (apply r_mvS; rfl)
    | (apply r_mvSL; rfl)
    | (apply r_mvA; rfl)
    | (apply r_mvT; rfl)
    | (apply r_mvF; rfl)
    | (apply r_mvD; rfl)
    | (apply k_E (v := .d (.fn 117 [])); rfl)
    | (apply r_ldL; rfl; rfl; rfl)
    | (apply r_lss; rfl; rfl; (first | (apply decide_eq_true; omega) | (apply decide_eq_false; omega) | rfl))
    | (apply r_add; rfl; rfl; rfl; omega)
    | (apply r_lenD; rfl)
    | (apply r_lenL; rfl)
    | (apply r_len0; rfl)
    | (apply r_p; rfl)
    | (apply r_nilK)
    | (apply r_nil)
    | (apply k_V; rfl)
    | (apply k_P; rfl)
    | (apply k_PL; rfl)
    | (apply k_S; rfl)
    | (apply k_SL; rfl)
    | (apply k_A; rfl)
    | (apply k_T; rfl)
    | (apply k_F; rfl)
    | (apply k_D; rfl; rotate_left; rfl)
    | (apply k_nil)
    | (apply e_ret (vs := [.d (.val _)]); rfl)
    | (apply e_ret; rfl)
    | (apply e_ret' (vs := [.d (.val _)]); rfl)
    | (apply e_ret'; rfl)
    | (apply w_seq)
    | (apply w_ops; ((conv => lhs; simp only [Nat.reduceAdd]) <;> rfl))
    | (apply w_condT; rfl)
    | (apply w_condF; rfl)
    | ((apply w_condS; rfl) <;> (intro h; try simp only [decide_eq_true_eq, decide_eq_false_iff_not, Bool.not_eq_true, Bool.not_eq_false] at h))
    | (apply e_thenN)
    | (apply w_block)
    | (apply e_thenR)
    | (apply e_thenX)
    | (apply e_blkN)
    | (apply e_blkR)
    | (apply e_blkE)
    | (apply w_exit)
    | (apply w_ret)
    | (apply w_skip)
    | (apply e_blkE'; rfl))
    exact retI e.symm
theorem p104_of (l : List T) (h : Good Try.prog 145 [.d (.sl (encL l) l.length), .d (.fn 117 [])] none (.i (firstN l 0)) none none) : Good Try.prog 104 [.d (.sl (encL l) l.length), .d (.fn 117 [])] none (.b (!isPL l)) none none := by
  have hq := firstN_isPL l 0
  generalize firstN l 0 = q at h hq
  refine b104 (by simp) (by simp) (w_init ?_)
  unfold x104
  repeat' (first
    | (apply r_mvV; rfl)
    | (apply r_mvP; rfl)
    | (apply r_mvPL; rfl)
    | (apply r_mvS; rfl)
    | (apply r_mvSL; rfl)
    | (apply r_mvA; rfl)
    | (apply r_mvT; rfl)
    | (apply r_mvF; rfl)
    | (apply r_mvD; rfl)
    | (apply k_E (v := .d (.fn 117 [])); rfl)
    | (apply r_mv (v := .d (.fn 117 [])); rfl)
    | (apply r_call (bs := [.d (.sl (encL l) l.length), .d (.fn 117 [])]) (us := []); rfl; rfl; exact h; rfl)
    | (apply r_geq; rfl; rfl; (first | (apply decide_eq_true; omega) | (apply decide_eq_false; omega) | rfl))
    | (apply r_nilK)
    | (apply r_nil)
    | (apply k_V; rfl)
    | (apply k_P; rfl)
    | (apply k_PL; rfl)
    | (apply k_S; rfl)
    | (apply k_SL; rfl)
    | (apply k_A; rfl)
    | (apply k_T; rfl)
    | (apply k_F; rfl)
    | (apply k_D; rfl; rotate_left; rfl)
    | (apply k_nil)
    | (apply e_ret (vs := [.d (.val _)]); rfl)
    | (apply e_ret; rfl)
    | (apply e_ret' (vs := [.d (.val _)]); rfl)
    | (apply e_ret'; rfl)
    | (apply w_seq)
    | (apply w_ops; ((conv => lhs; simp only [Nat.reduceAdd]) <;> rfl))
    | (apply e_thenN)
    | (apply w_block)
    | (apply e_thenR)
    | (apply e_thenX)
    | (apply e_blkN)
    | (apply e_blkR)
    | (apply e_blkE)
    | (apply w_exit)
    | (apply w_ret)
    | (apply w_skip)
    | (apply e_blkE'; rfl))
  all_goals exact retB hq
theorem p60_good : ∀ (n : Nat) (t : T), t.cnt ≤ n → n ≤ 1000000 → Good Try.prog 60 [nodeA t] none (.b (isP t)) none none := by
  intro n
  induction n with
  | zero => intro t ht; have := cnt_pos t; omega
  | succ n ih =>
  intro t ht hc
  obtain ⟨k, a, b, c, d, mn, mx, subs⟩ := t
  have hlen : subs.length ≤ 1000000 := by
    have := cntL_len subs
    simp only [T.cnt] at ht
    omega
  have h104 := p104_of subs (p145_of subs hlen fun i hi => p117_of _ (ih _ (by
    have := cntL_get subs i hi
    simp only [T.cnt] at ht
    omega) (by omega)))
  have hb := bare116_good (NodeAt.self (.node k a b c d mn mx subs))
  have e0 : nodeA (.node k a b c d mn mx subs) = .agg [.i k, .d (.val (.int .u64 a)), .d (.val (.int .u64 b)), .d (.val (.int .u64 c)), .d (.val (.int .u64 d)), .i mn, .i mx, .d (.sl (encL subs) subs.length)] := rfl
  rw [isP, e0]
  generalize isPL subs = p at h104
  generalize bareT (.node k a b c d mn mx subs) = q at hb
  clear ih ht
  refine b60 (by simp) (by simp) (w_init ?_)
  unfold x60
  cases q <;> cases p
  all_goals
    repeat' (first
    | (apply r_mvV; rfl)
    | (apply r_mvP; rfl)
    | (apply r_mvPL; rfl)
    | (apply r_mvS; rfl)
    | (apply r_mvSL; rfl)
    | (apply r_mvA; rfl)
    | (apply r_mvT; rfl)
    | (apply r_mvF; rfl)
    | (apply r_mvD; rfl)
    | (apply r_faddD; rfl)
    | (apply r_faddL; rfl)
    | (apply r_l; apply ld_kind; assumption; rfl)
    | (apply r_l; apply ld_mn; assumption; rfl)
    | (apply r_l; apply ld_mx; assumption; rfl)
    | (apply r_l; apply ld_subs; assumption; rfl)
    | (apply r_l; apply ld_set; assumption; rfl)
    | (apply r_l; apply ld_node; assumption; rfl)
    | (apply r_l; apply ld_kind'; assumption; rfl)
    | (apply r_l; apply ld_mn'; assumption; rfl)
    | (apply r_l; apply ld_mx'; assumption; rfl)
    | (apply r_l; apply ld_subs'; assumption; rfl)
    | (apply r_l; apply ld_node'; assumption; rfl)
    | (apply r_call (bs := [.d (.ptr (encN (.node k a b c d mn mx subs)) 0)]) (us := [1]); rfl; rfl; exact hb; rfl)
    | (apply r_call (bs := [.d (.sl (encL subs) subs.length), .d (.fn 117 [])]) (us := []); rfl; rfl; exact h104; rfl)
    | (apply r_ldL; rfl; rfl; rfl)
    | (apply r_not; rfl; rfl)
    | (apply r_pickT; rfl)
    | (apply r_pickF; rfl)
    | (apply r_gT; rfl)
    | (apply r_gF'; rfl; rfl)
    | (apply r_gN'; rfl)
    | ((apply r_gS (o := default); rfl) <;> (intro h; try simp only [decide_eq_true_eq, decide_eq_false_iff_not, Bool.not_eq_true, Bool.not_eq_false] at h))
    | (apply r_box; ((conv => lhs; simp only [Nat.reduceAdd]) <;> rfl); rfl; rfl; rfl)
    | (apply r_nilK)
    | (apply r_nil)
    | (apply k_V; rfl)
    | (apply k_P; rfl)
    | (apply k_PL; rfl)
    | (apply k_S; rfl)
    | (apply k_SL; rfl)
    | (apply k_A; rfl)
    | (apply k_T; rfl)
    | (apply k_F; rfl)
    | (apply k_D; rfl; rotate_left; rfl)
    | (apply k_nil)
    | (apply e_ret (vs := [.d (.val _)]); rfl)
    | (apply e_ret; rfl)
    | (apply e_ret' (vs := [.d (.val _)]); rfl)
    | (apply e_ret'; rfl)
    | (apply w_seq)
    | (apply w_ops; ((conv => lhs; simp only [Nat.reduceAdd]) <;> rfl))
    | (apply e_thenN)
    | (apply w_block)
    | (apply e_thenR)
    | (apply e_thenX)
    | (apply e_blkN)
    | (apply e_blkR)
    | (apply e_blkE)
    | (apply w_exit)
    | (apply w_ret)
    | (apply w_skip)
    | (apply e_blkE'; rfl))
    exact retB rfl
end Go.Sv
namespace Go.Sv
open Go Go.Proofs
mutual
theorem xT_id : ∀ t : T, isP t = true → xT t = t
  | .node k a b c d mn mx subs, h => by
    rw [isP, Bool.and_eq_true] at h
    have hx := xL_id subs h.1
    have h2 := h.2
    rw [xT]
    by_cases h5 : k = 5
    · rw [if_pos h5, hx]
      subst h5
      simp [bareT, isZero] at h2
      obtain ⟨⟨hz, hm⟩, hl⟩ := h2
      match subs, hl with
      | [u], _ =>
        simp_all [repT, repRow, starN]
    · rw [if_neg h5]
      by_cases h34 : k = 3 ∨ k = 4
      · rw [if_pos h34, hx]
        rcases h34 with rfl | rfl <;> (simp [bareT, isZero] at h2; simp_all)
      · rw [if_neg h34]
theorem xL_id : ∀ l : List T, isPL l = true → xL l = l
  | [], _ => rfl
  | t :: l, h => by
    rw [isPL, Bool.and_eq_true] at h
    rw [xL, xT_id t h.1, xL_id l h.2]
end
set_option maxRecDepth 100000
set_option maxHeartbeats 4000000
attribute [local irreducible] W E R KP thenK blockK retK Good xwp aRun
theorem law16 (t : T) (ht : inT t) : Good Try.prog 16 [nodeA t] none (.b true) none none := by
  have haw := awake13_good
  have h45 := few_good t
  by_cases hf : sizeT t 601 ≤ 200
  case neg =>
    rw [show decide (sizeT t 601 ≤ 200) = false by simp [hf]] at h45
    clear ht hf
    obtain ⟨k, a, b, c, d, mn, mx, subs⟩ := t
    have e0 : nodeA (.node k a b c d mn mx subs) = .agg [.i k, .d (.val (.int .u64 a)), .d (.val (.int .u64 b)), .d (.val (.int .u64 c)), .d (.val (.int .u64 d)), .i mn, .i mx, .d (.sl (encL subs) subs.length)] := rfl
    rw [e0] at h45 ⊢
    refine b16 (by simp) (by simp) (w_init ?_)
    unfold x16
    repeat' (first
    | (apply r_mvV; rfl)
    | (apply r_mvP; rfl)
    | (apply r_mvPL; rfl)
    | (apply r_mvS; rfl)
    | (apply r_mvSL; rfl)
    | (apply r_mvA; rfl)
    | (apply r_mvT; rfl)
    | (apply r_mvF; rfl)
    | (apply r_mvD; rfl)
    | (apply r_l; apply ld_kind; assumption; rfl)
    | (apply r_l; apply ld_mn; assumption; rfl)
    | (apply r_l; apply ld_mx; assumption; rfl)
    | (apply r_l; apply ld_subs; assumption; rfl)
    | (apply r_l; apply ld_set; assumption; rfl)
    | (apply r_l; apply ld_node; assumption; rfl)
    | (apply r_l; apply ld_kind'; assumption; rfl)
    | (apply r_l; apply ld_mn'; assumption; rfl)
    | (apply r_l; apply ld_mx'; assumption; rfl)
    | (apply r_l; apply ld_subs'; assumption; rfl)
    | (apply r_l; apply ld_node'; assumption; rfl)
    | (apply r_callA (ags := []); rfl; rfl; exact haw)
    | (apply r_callA; rfl; rfl; exact h45)
    | (apply r_ldL; rfl; rfl; rfl)
    | (apply r_neq; rfl; rfl; (first | (apply decide_eq_true; omega) | (apply decide_eq_false; omega) | rfl))
    | (apply r_not; rfl; rfl)
    | (apply r_bne; rfl; rfl; rfl)
    | (apply r_pickT; rfl)
    | (apply r_pickF; rfl)
    | (apply r_ext; rfl; rfl)
    | (apply r_gT; rfl)
    | (apply r_gF'; rfl; rfl)
    | (apply r_gN'; rfl)
    | ((apply r_gS (o := default); rfl) <;> (intro h; try simp only [decide_eq_true_eq, decide_eq_false_iff_not, Bool.not_eq_true, Bool.not_eq_false] at h))
    | (apply r_alloc; ((conv => lhs; simp only [Nat.reduceAdd]) <;> rfl); rfl)
    | (apply r_box; ((conv => lhs; simp only [Nat.reduceAdd]) <;> rfl); rfl; rfl; rfl)
    | (apply r_stL; rfl; rfl; rfl; rfl; (first | rfl | (simp only [z_nil, z_add] <;> rfl)); rfl; rfl)
    | (apply r_nilK)
    | (apply r_nil)
    | (apply k_V; rfl)
    | (apply k_P; rfl)
    | (apply k_PL; rfl)
    | (apply k_S; rfl)
    | (apply k_SL; rfl)
    | (apply k_A; rfl)
    | (apply k_T; rfl)
    | (apply k_F; rfl)
    | (apply k_D; rfl; rotate_left; rfl)
    | (apply k_nil)
    | (apply e_ret (vs := [.d (.val _)]); rfl)
    | (apply e_ret; rfl)
    | (apply e_ret' (vs := [.d (.val _)]); rfl)
    | (apply e_ret'; rfl)
    | (apply w_seq)
    | (apply w_ops; ((conv => lhs; simp only [Nat.reduceAdd]) <;> rfl))
    | (apply w_condT; rfl)
    | (apply w_condF; rfl)
    | ((apply w_condS; rfl) <;> (intro h; try simp only [decide_eq_true_eq, decide_eq_false_iff_not, Bool.not_eq_true, Bool.not_eq_false] at h))
    | (apply e_thenN)
    | (apply w_block)
    | (apply e_thenR)
    | (apply e_thenX)
    | (apply e_blkN)
    | (apply e_blkR)
    | (apply e_blkE)
    | (apply w_exit)
    | (apply w_ret)
    | (apply w_skip)
    | (apply e_blkE'; rfl))
    exact retB rfl
  have hc := few_cnt hf
  rw [show decide (sizeT t 601 ≤ 200) = true by simp [hf]] at h45
  have h59 := isP59_good 1000000 t (by omega) (by omega)
  have h60 := p60_good 1000000 t (by omega) (by omega)
  have h57 := xPlain_good t (by omega) (fun h => ok_of_right ht (by rw [right_fits]; exact h)) 400
  have h47 := same47_good 1000000 t (by omega) (by omega)
  rcases Bool.eq_false_or_eq_true (isP t) with hp | hp
  · have hid := xT_id t hp
    rw [hp] at h59 h60
    by_cases he : eE t 400 = 0
    · have e2 : eN t 400 = t := by simp only [eN, he, if_true, hid]
      rw [he, e2] at h57
      clear ht hf hc hp hid he e2
      obtain ⟨k, a, b, c, d, mn, mx, subs⟩ := t
      have e0 : nodeA (.node k a b c d mn mx subs) = .agg [.i k, .d (.val (.int .u64 a)), .d (.val (.int .u64 b)), .d (.val (.int .u64 c)), .d (.val (.int .u64 d)), .i mn, .i mx, .d (.sl (encL subs) subs.length)] := rfl
      rw [e0] at h45 h59 h60 h57 h47 ⊢
      refine b16 (by simp) (by simp) (w_init ?_)
      unfold x16
      repeat' (first
    | (apply r_mvV; rfl)
    | (apply r_mvP; rfl)
    | (apply r_mvPL; rfl)
    | (apply r_mvS; rfl)
    | (apply r_mvSL; rfl)
    | (apply r_mvA; rfl)
    | (apply r_mvT; rfl)
    | (apply r_mvF; rfl)
    | (apply r_mvD; rfl)
    | (apply r_l; apply ld_kind; assumption; rfl)
    | (apply r_l; apply ld_mn; assumption; rfl)
    | (apply r_l; apply ld_mx; assumption; rfl)
    | (apply r_l; apply ld_subs; assumption; rfl)
    | (apply r_l; apply ld_set; assumption; rfl)
    | (apply r_l; apply ld_node; assumption; rfl)
    | (apply r_l; apply ld_kind'; assumption; rfl)
    | (apply r_l; apply ld_mn'; assumption; rfl)
    | (apply r_l; apply ld_mx'; assumption; rfl)
    | (apply r_l; apply ld_subs'; assumption; rfl)
    | (apply r_l; apply ld_node'; assumption; rfl)
    | (apply r_callA (ags := []); rfl; rfl; exact haw)
    | (apply r_callA; rfl; rfl; exact h45)
    | (apply r_callA; rfl; rfl; exact h59)
    | (apply r_callA; rfl; rfl; exact h60)
    | (apply r_callA; rfl; rfl; exact h57)
    | (apply r_callA; rfl; rfl; exact h47)
    | (apply r_ldL; rfl; rfl; rfl)
    | (apply r_neq; rfl; rfl; (first | (apply decide_eq_true; omega) | (apply decide_eq_false; omega) | rfl))
    | (apply r_not; rfl; rfl)
    | (apply r_bne; rfl; rfl; rfl)
    | (apply r_pickT; rfl)
    | (apply r_pickF; rfl)
    | (apply r_ext; rfl; rfl)
    | (apply r_gT; rfl)
    | (apply r_gF'; rfl; rfl)
    | (apply r_gN'; rfl)
    | ((apply r_gS (o := default); rfl) <;> (intro h; try simp only [decide_eq_true_eq, decide_eq_false_iff_not, Bool.not_eq_true, Bool.not_eq_false] at h))
    | (apply r_alloc; ((conv => lhs; simp only [Nat.reduceAdd]) <;> rfl); rfl)
    | (apply r_box; ((conv => lhs; simp only [Nat.reduceAdd]) <;> rfl); rfl; rfl; rfl)
    | (apply r_stL; rfl; rfl; rfl; rfl; (first | rfl | (simp only [z_nil, z_add] <;> rfl)); rfl; rfl)
    | (apply r_nilK)
    | (apply r_nil)
    | (apply k_V; rfl)
    | (apply k_P; rfl)
    | (apply k_PL; rfl)
    | (apply k_S; rfl)
    | (apply k_SL; rfl)
    | (apply k_A; rfl)
    | (apply k_T; rfl)
    | (apply k_F; rfl)
    | (apply k_D; rfl; rotate_left; rfl)
    | (apply k_nil)
    | (apply e_ret (vs := [.d (.val _)]); rfl)
    | (apply e_ret; rfl)
    | (apply e_ret' (vs := [.d (.val _)]); rfl)
    | (apply e_ret'; rfl)
    | (apply w_seq)
    | (apply w_ops; ((conv => lhs; simp only [Nat.reduceAdd]) <;> rfl))
    | (apply w_condT; rfl)
    | (apply w_condF; rfl)
    | ((apply w_condS; rfl) <;> (intro h; try simp only [decide_eq_true_eq, decide_eq_false_iff_not, Bool.not_eq_true, Bool.not_eq_false] at h))
    | (apply e_thenN)
    | (apply w_block)
    | (apply e_thenR)
    | (apply e_thenX)
    | (apply e_blkN)
    | (apply e_blkR)
    | (apply e_blkE)
    | (apply w_exit)
    | (apply w_ret)
    | (apply w_skip)
    | (apply e_blkE'; rfl))
      all_goals exact retB rfl
    · generalize eE t 400 = ev at h57 he
      generalize eN t 400 = u at h57
      clear ht hf hc hp hid
      obtain ⟨k2, a2, b2, c2, d2, mn2, mx2, subs2⟩ := u
      obtain ⟨k, a, b, c, d, mn, mx, subs⟩ := t
      have e0 : nodeA (.node k a b c d mn mx subs) = .agg [.i k, .d (.val (.int .u64 a)), .d (.val (.int .u64 b)), .d (.val (.int .u64 c)), .d (.val (.int .u64 d)), .i mn, .i mx, .d (.sl (encL subs) subs.length)] := rfl
      rw [e0] at h45 h59 h60 h57 ⊢
      refine b16 (by simp) (by simp) (w_init ?_)
      unfold x16
      repeat' (first
    | (apply r_mvV; rfl)
    | (apply r_mvP; rfl)
    | (apply r_mvPL; rfl)
    | (apply r_mvS; rfl)
    | (apply r_mvSL; rfl)
    | (apply r_mvA; rfl)
    | (apply r_mvT; rfl)
    | (apply r_mvF; rfl)
    | (apply r_mvD; rfl)
    | (apply r_l; apply ld_kind; assumption; rfl)
    | (apply r_l; apply ld_mn; assumption; rfl)
    | (apply r_l; apply ld_mx; assumption; rfl)
    | (apply r_l; apply ld_subs; assumption; rfl)
    | (apply r_l; apply ld_set; assumption; rfl)
    | (apply r_l; apply ld_node; assumption; rfl)
    | (apply r_l; apply ld_kind'; assumption; rfl)
    | (apply r_l; apply ld_mn'; assumption; rfl)
    | (apply r_l; apply ld_mx'; assumption; rfl)
    | (apply r_l; apply ld_subs'; assumption; rfl)
    | (apply r_l; apply ld_node'; assumption; rfl)
    | (apply r_callA (ags := []); rfl; rfl; exact haw)
    | (apply r_callA; rfl; rfl; exact h45)
    | (apply r_callA; rfl; rfl; exact h59)
    | (apply r_callA; rfl; rfl; exact h60)
    | (apply r_callA; rfl; rfl; exact h57)
    | (apply r_ldL; rfl; rfl; rfl)
    | (apply r_neq; rfl; rfl; (first | (apply decide_eq_true; omega) | (apply decide_eq_false; omega) | rfl))
    | (apply r_not; rfl; rfl)
    | (apply r_bne; rfl; rfl; rfl)
    | (apply r_pickT; rfl)
    | (apply r_pickF; rfl)
    | (apply r_ext; rfl; rfl)
    | (apply r_gT; rfl)
    | (apply r_gF'; rfl; rfl)
    | (apply r_gN'; rfl)
    | ((apply r_gS (o := default); rfl) <;> (intro h; try simp only [decide_eq_true_eq, decide_eq_false_iff_not, Bool.not_eq_true, Bool.not_eq_false] at h))
    | (apply r_alloc; ((conv => lhs; simp only [Nat.reduceAdd]) <;> rfl); rfl)
    | (apply r_box; ((conv => lhs; simp only [Nat.reduceAdd]) <;> rfl); rfl; rfl; rfl)
    | (apply r_stL; rfl; rfl; rfl; rfl; (first | rfl | (simp only [z_nil, z_add] <;> rfl)); rfl; rfl)
    | (apply r_nilK)
    | (apply r_nil)
    | (apply k_V; rfl)
    | (apply k_P; rfl)
    | (apply k_PL; rfl)
    | (apply k_S; rfl)
    | (apply k_SL; rfl)
    | (apply k_A; rfl)
    | (apply k_T; rfl)
    | (apply k_F; rfl)
    | (apply k_D; rfl; rotate_left; rfl)
    | (apply k_nil)
    | (apply e_ret (vs := [.d (.val _)]); rfl)
    | (apply e_ret; rfl)
    | (apply e_ret' (vs := [.d (.val _)]); rfl)
    | (apply e_ret'; rfl)
    | (apply w_seq)
    | (apply w_ops; ((conv => lhs; simp only [Nat.reduceAdd]) <;> rfl))
    | (apply w_condT; rfl)
    | (apply w_condF; rfl)
    | ((apply w_condS; rfl) <;> (intro h; try simp only [decide_eq_true_eq, decide_eq_false_iff_not, Bool.not_eq_true, Bool.not_eq_false] at h))
    | (apply e_thenN)
    | (apply w_block)
    | (apply e_thenR)
    | (apply e_thenX)
    | (apply e_blkN)
    | (apply e_blkR)
    | (apply e_blkE)
    | (apply w_exit)
    | (apply w_ret)
    | (apply w_skip)
    | (apply e_blkE'; rfl))
      all_goals exact retB rfl
  · rw [hp] at h59 h60
    generalize eE t 400 = ev at h57
    generalize eN t 400 = u at h57
    clear ht hf hc hp h47
    obtain ⟨k2, a2, b2, c2, d2, mn2, mx2, subs2⟩ := u
    obtain ⟨k, a, b, c, d, mn, mx, subs⟩ := t
    have e0 : nodeA (.node k a b c d mn mx subs) = .agg [.i k, .d (.val (.int .u64 a)), .d (.val (.int .u64 b)), .d (.val (.int .u64 c)), .d (.val (.int .u64 d)), .i mn, .i mx, .d (.sl (encL subs) subs.length)] := rfl
    rw [e0] at h45 h59 h60 h57 ⊢
    refine b16 (by simp) (by simp) (w_init ?_)
    unfold x16
    repeat' (first
    | (apply r_mvV; rfl)
    | (apply r_mvP; rfl)
    | (apply r_mvPL; rfl)
    | (apply r_mvS; rfl)
    | (apply r_mvSL; rfl)
    | (apply r_mvA; rfl)
    | (apply r_mvT; rfl)
    | (apply r_mvF; rfl)
    | (apply r_mvD; rfl)
    | (apply r_l; apply ld_kind; assumption; rfl)
    | (apply r_l; apply ld_mn; assumption; rfl)
    | (apply r_l; apply ld_mx; assumption; rfl)
    | (apply r_l; apply ld_subs; assumption; rfl)
    | (apply r_l; apply ld_set; assumption; rfl)
    | (apply r_l; apply ld_node; assumption; rfl)
    | (apply r_l; apply ld_kind'; assumption; rfl)
    | (apply r_l; apply ld_mn'; assumption; rfl)
    | (apply r_l; apply ld_mx'; assumption; rfl)
    | (apply r_l; apply ld_subs'; assumption; rfl)
    | (apply r_l; apply ld_node'; assumption; rfl)
    | (apply r_callA (ags := []); rfl; rfl; exact haw)
    | (apply r_callA; rfl; rfl; exact h45)
    | (apply r_callA; rfl; rfl; exact h59)
    | (apply r_callA; rfl; rfl; exact h60)
    | (apply r_callA; rfl; rfl; exact h57)
    | (apply r_ldL; rfl; rfl; rfl)
    | (apply r_neq; rfl; rfl; (first | (apply decide_eq_true; omega) | (apply decide_eq_false; omega) | rfl))
    | (apply r_not; rfl; rfl)
    | (apply r_bne; rfl; rfl; rfl)
    | (apply r_pickT; rfl)
    | (apply r_pickF; rfl)
    | (apply r_ext; rfl; rfl)
    | (apply r_gT; rfl)
    | (apply r_gF'; rfl; rfl)
    | (apply r_gN'; rfl)
    | ((apply r_gS (o := default); rfl) <;> (intro h; try simp only [decide_eq_true_eq, decide_eq_false_iff_not, Bool.not_eq_true, Bool.not_eq_false] at h))
    | (apply r_alloc; ((conv => lhs; simp only [Nat.reduceAdd]) <;> rfl); rfl)
    | (apply r_box; ((conv => lhs; simp only [Nat.reduceAdd]) <;> rfl); rfl; rfl; rfl)
    | (apply r_stL; rfl; rfl; rfl; rfl; (first | rfl | (simp only [z_nil, z_add] <;> rfl)); rfl; rfl)
    | (apply r_nilK)
    | (apply r_nil)
    | (apply k_V; rfl)
    | (apply k_P; rfl)
    | (apply k_PL; rfl)
    | (apply k_S; rfl)
    | (apply k_SL; rfl)
    | (apply k_A; rfl)
    | (apply k_T; rfl)
    | (apply k_F; rfl)
    | (apply k_D; rfl; rotate_left; rfl)
    | (apply k_nil)
    | (apply e_ret (vs := [.d (.val _)]); rfl)
    | (apply e_ret; rfl)
    | (apply e_ret' (vs := [.d (.val _)]); rfl)
    | (apply e_ret'; rfl)
    | (apply w_seq)
    | (apply w_ops; ((conv => lhs; simp only [Nat.reduceAdd]) <;> rfl))
    | (apply w_condT; rfl)
    | (apply w_condF; rfl)
    | ((apply w_condS; rfl) <;> (intro h; try simp only [decide_eq_true_eq, decide_eq_false_iff_not, Bool.not_eq_true, Bool.not_eq_false] at h))
    | (apply e_thenN)
    | (apply w_block)
    | (apply e_thenR)
    | (apply e_thenX)
    | (apply e_blkN)
    | (apply e_blkR)
    | (apply e_blkE)
    | (apply w_exit)
    | (apply w_ret)
    | (apply w_skip)
    | (apply e_blkE'; rfl))
    all_goals exact retB rfl
end Go.Sv
