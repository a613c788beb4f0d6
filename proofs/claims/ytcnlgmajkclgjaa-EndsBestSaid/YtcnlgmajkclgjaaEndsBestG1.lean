/- A part of the proof of the law EndsBest: that it answers true for every input, and that the input reads behind the call as before (no condition). -/
import Derived.Test.YtcnlgmajkclgjaaC3
set_option linter.all false
set_option linter.unusedSectionVars false
set_option linter.unusedVariables false
set_option linter.unusedSimpArgs false
namespace Go.Sv
open Go Go.Proofs
set_option maxRecDepth 100000
theorem awake11_ev : evF tabA (spP 100) 100 40 29 [] none = some (.b true, none, none) := by kernel_rfl
theorem awake11_good : Good Try.prog 29 [] none (.b true) none none := evF_sound tabA_ok (spP_ok 100) 40 29 [] none _ _ _ awake11_ev
end Go.Sv
namespace Go.Sv
open Go Go.Proofs
def x3 : XC := (.seq (.ops 2 [
    (0, ⟨(some 3), none, .box (.t 0)⟩),
    (1, ⟨(some 6), none, .mv (.k (.d (.val (.bool false))))⟩)] (some [1, 2, 3])) (.seq (.seq (.ops 8 [
    (0, ⟨(some 9), none, .call 29 [] none false⟩),
    (1, ⟨(some 10), none, .un .not (.t 9)⟩),
    (2, ⟨(some 11), none, .mv (.t 10)⟩),
    (3, ⟨(some 12), (some (11, false)), .load (some 8) (.t 3)⟩),
    (4, ⟨(some 13), (some (11, false)), .mv (.t 1)⟩),
    (5, ⟨(some 14), (some (11, false)), .call 30 [(.t 12), (.t 13)] none false⟩),
    (6, ⟨(some 15), (some (11, false)), .un .not (.t 14)⟩),
    (7, ⟨(some 16), none, .pick (.t 11) (.k (.d (.val (.bool true)))) (.t 15)⟩)] (some [1, 2, 3, 16])) (.cond (.t 16) (.seq (.ops 2 [
    (0, ⟨(some 17), none, .call 29 [] none false⟩),
    (1, ⟨(some 6), none, .mv (.t 17)⟩)] (some [6])) .ret) .skip)) (.seq (.ops 9 [
    (0, ⟨(some 19), none, .load (some 8) (.t 3)⟩),
    (1, ⟨(some 20), none, .mv (.t 1)⟩),
    (2, ⟨(some 21), none, .mv (.t 2)⟩),
    (3, ⟨(some 22), none, .call 31 [(.t 19), (.t 20), (.t 21)] none false⟩),
    (4, ⟨(some 18), none, .mv (.t 22)⟩),
    (5, ⟨(some 23), none, .ext (.t 18) 0⟩),
    (6, ⟨(some 24), none, .ext (.t 18) 1⟩),
    (7, ⟨(some 7), none, .mv (.t 23)⟩),
    (8, ⟨(some 8), none, .mv (.t 24)⟩)] (some [1, 2, 3, 7, 8])) (.seq (.block 0 (.seq (.ops 4 [
    (0, ⟨(some 26), none, .load (some 8) (.t 3)⟩),
    (1, ⟨(some 27), none, .call 32 [(.t 26)] none false⟩),
    (2, ⟨(some 28), none, .un .not (.t 27)⟩),
    (3, ⟨(some 25), none, .mv (.t 28)⟩)] (some [1, 2, 3, 7, 8, 25])) (.cond (.t 25) (.seq (.ops 14 [
    (0, ⟨(some 29), none, .mv (.t 7)⟩),
    (1, ⟨(some 30), none, .lenS (.t 29)⟩),
    (2, ⟨(some 31), none, .arith .eql (.t 30) (.k (.d (.val (.int .i64 0))))⟩),
    (3, ⟨(some 32), none, .mv (.t 31)⟩),
    (4, ⟨(some 33), (some (32, true)), .mv (.t 8)⟩),
    (5, ⟨(some 34), (some (32, true)), .arith .eql (.t 33) (.k (.d (.val (.int .i64 1))))⟩),
    (6, ⟨(some 35), none, .pick (.t 32) (.t 34) (.k (.d (.val (.bool false))))⟩),
    (7, ⟨(some 36), none, .mv (.t 35)⟩),
    (8, ⟨(some 37), (some (36, true)), .load (some 8) (.t 3)⟩),
    (9, ⟨(some 38), (some (36, true)), .mv (.t 1)⟩),
    (10, ⟨(some 39), (some (36, true)), .call 33 [(.t 37), (.t 38)] none false⟩),
    (11, ⟨(some 40), (some (36, true)), .un .not (.t 39)⟩),
    (12, ⟨(some 41), none, .pick (.t 36) (.t 40) (.k (.d (.val (.bool false))))⟩),
    (13, ⟨(some 6), none, .mv (.t 41)⟩)] (some [6])) .ret) (.seq (.ops 9 [
    (0, ⟨(some 43), none, .mv (.t 2)⟩),
    (1, ⟨(some 44), none, .arith .lss (.t 43) (.k (.d (.val (.int .i64 0))))⟩),
    (2, ⟨(some 45), none, .mv (.t 44)⟩),
    (3, ⟨(some 46), (some (45, false)), .mv (.t 2)⟩),
    (4, ⟨(some 47), (some (45, false)), .mv (.t 1)⟩),
    (5, ⟨(some 48), (some (45, false)), .lenT (.t 47)⟩),
    (6, ⟨(some 49), (some (45, false)), .arith .gtr (.t 46) (.t 48)⟩),
    (7, ⟨(some 50), none, .pick (.t 45) (.k (.d (.val (.bool true)))) (.t 49)⟩),
    (8, ⟨(some 42), none, .mv (.t 50)⟩)] (some [1, 2, 3, 7, 8, 42])) (.cond (.t 42) (.seq (.ops 15 [
    (0, ⟨(some 51), none, .mv (.t 7)⟩),
    (1, ⟨(some 52), none, .lenS (.t 51)⟩),
    (2, ⟨(some 53), none, .arith .eql (.t 52) (.k (.d (.val (.int .i64 0))))⟩),
    (3, ⟨(some 54), none, .mv (.t 53)⟩),
    (4, ⟨(some 55), (some (54, true)), .mv (.t 8)⟩),
    (5, ⟨(some 56), (some (54, true)), .arith .eql (.t 55) (.k (.d (.val (.int .i64 2))))⟩),
    (6, ⟨(some 57), none, .pick (.t 54) (.t 56) (.k (.d (.val (.bool false))))⟩),
    (7, ⟨(some 58), none, .mv (.t 57)⟩),
    (8, ⟨(some 59), (some (58, true)), .load (some 8) (.t 3)⟩),
    (9, ⟨(some 60), (some (58, true)), .mv (.t 1)⟩),
    (10, ⟨(some 61), (some (58, true)), .mv (.t 2)⟩),
    (11, ⟨(some 62), (some (58, true)), .call 34 [(.t 59), (.t 60), (.t 61)] none false⟩),
    (12, ⟨(some 63), (some (58, true)), .arith .eql (.t 62) (.k (.d (.val (.int .i64 (-1)))))⟩),
    (13, ⟨(some 64), none, .pick (.t 58) (.t 63) (.k (.d (.val (.bool false))))⟩),
    (14, ⟨(some 6), none, .mv (.t 64)⟩)] (some [6])) .ret) .skip))))) (.seq (.ops 22 [
    (0, ⟨(some 65), none, .mv (.t 8)⟩),
    (1, ⟨(some 66), none, .arith .eql (.t 65) (.k (.d (.val (.int .i64 0))))⟩),
    (2, ⟨(some 67), none, .mv (.t 66)⟩),
    (3, ⟨(some 68), (some (67, true)), .mv (.t 7)⟩),
    (4, ⟨(some 69), (some (67, true)), .load (some 8) (.t 3)⟩),
    (5, ⟨(some 70), (some (67, true)), .mv (.t 1)⟩),
    (6, ⟨(some 71), (some (67, true)), .mv (.t 2)⟩),
    (7, ⟨(some 72), (some (67, true)), .call 36 [(.t 69), (.t 70), (.t 71)] none false⟩),
    (8, ⟨(some 73), (some (67, true)), .call 35 [(.t 68), (.t 72)] none false⟩),
    (9, ⟨(some 74), none, .pick (.t 67) (.t 73) (.k (.d (.val (.bool false))))⟩),
    (10, ⟨(some 75), none, .mv (.t 74)⟩),
    (11, ⟨(some 76), (some (75, true)), .load (some 8) (.t 3)⟩),
    (12, ⟨(some 77), (some (75, true)), .mv (.t 1)⟩),
    (13, ⟨(some 78), (some (75, true)), .mv (.t 2)⟩),
    (14, ⟨(some 79), (some (75, true)), .call 34 [(.t 76), (.t 77), (.t 78)] none false⟩),
    (15, ⟨(some 80), (some (75, true)), .load (some 8) (.t 3)⟩),
    (16, ⟨(some 81), (some (75, true)), .mv (.t 1)⟩),
    (17, ⟨(some 82), (some (75, true)), .mv (.t 2)⟩),
    (18, ⟨(some 83), (some (75, true)), .call 37 [(.t 80), (.t 81), (.t 82)] none false⟩),
    (19, ⟨(some 84), (some (75, true)), .arith .eql (.t 79) (.t 83)⟩),
    (20, ⟨(some 85), none, .pick (.t 75) (.t 84) (.k (.d (.val (.bool false))))⟩),
    (21, ⟨(some 6), none, .mv (.t 85)⟩)] (some [6])) .ret)))))
def md3 : FuncId → Option Nat × Bool
  | _ => (none, false)
def od3 : Nat → List (List Nat) × List Nat × Option (List Nat)
  | 0 => ([], [], some [1, 2, 3])
  | 1 => ([], [], some [1, 2, 3, 16])
  | 2 => ([], [], some [6])
  | 3 => ([], [], some [1, 2, 3, 7, 8])
  | 4 => ([], [], some [1, 2, 3, 7, 8, 25])
  | 5 => ([], [], some [6])
  | 6 => ([], [], some [1, 2, 3, 7, 8, 42])
  | 7 => ([], [], some [6])
  | 8 => ([[], [0], [0, 1], [0, 1, 2], [0, 1, 2], [0, 1, 2], [0, 1, 2], [0, 1, 2, 4, 5, 6], [0, 1, 2, 3, 4, 5, 6, 7], [0, 1, 2, 3, 4, 5, 6, 7, 8], [0, 1, 2, 3, 4, 5, 6, 7, 8, 9], [0, 1, 2, 3, 4, 5, 6, 7, 8, 9, 10], [0, 1, 2, 3, 4, 5, 6, 7, 8, 9, 10], [0, 1, 2, 3, 4, 5, 6, 7, 8, 9, 10], [0, 1, 2, 3, 4, 5, 6, 7, 8, 9, 10, 11, 12, 13], [0, 1, 2, 3, 4, 5, 6, 7, 8, 9, 10], [0, 1, 2, 3, 4, 5, 6, 7, 8, 9, 10], [0, 1, 2, 3, 4, 5, 6, 7, 8, 9, 10], [0, 1, 2, 3, 4, 5, 6, 7, 8, 9, 10, 11, 12, 13, 14, 15, 16, 17], [0, 1, 2, 3, 4, 5, 6, 7, 8, 9, 10, 11, 12, 13, 14, 15, 16, 17, 18], [0, 1, 2, 3, 4, 5, 6, 7, 8, 9, 10, 11, 12, 13, 14, 15, 16, 17, 18, 19], [0, 1, 2, 3, 4, 5, 6, 7, 8, 9, 10, 11, 12, 13, 14, 15, 16, 17, 18, 19, 20]], [0, 1, 2, 3, 4, 5, 6, 7, 8, 9, 10, 11, 12, 13, 14, 15, 16, 17, 18, 19, 20, 21], some [6])
  | _ => ([], [], none)
theorem b3 {ags : List AV} {row : Option (List DV)} {r : AV} {row' nw : Option (List DV)} (hal : ags.length ≤ 86) (hrow : row'.isSome = true → row.isSome = true) (h : xwp Try.prog x3 (retK [.tmp 6] row.isSome r row' nw) (St.init ags row)) : Good Try.prog 3 ags row r row' nw :=
  good_of_body' (md := md3) (od := od3) Try.f3 (by kernel_rfl) (by kernel_rfl) (by kernel_rfl) (by kernel_rfl) (by kernel_rfl) hal hrow h

set_option maxRecDepth 100000
set_option maxHeartbeats 4000000
attribute [local irreducible] W E R KP thenK blockK retK Good xwp aRun
def few11 (s : ByteArray) (t : T) : Bool := decide (sizeT t 601 ≤ 200) && (decide (s.size ≤ 40) && (!rightT t || decide (wideT t ≤ 3000)))
theorem few_cnt {t : T} (h : sizeT t 601 ≤ 200) : t.cnt ≤ 200 := by
  have := sizeT_cnt t 601 (by omega)
  omega
theorem few30_good (s : ByteArray) (hs : s.size ≤ 9223372036854775807) (t : T) (ht : inT t) : Good Try.prog 30 [nodeA t, .d (.val (.string s))] none (.b (few11 s t)) none none := by
  have h45 := few_good t
  by_cases hf : sizeT t 601 ≤ 200
  case neg =>
    have ev : few11 s t = false := by simp [few11, hf]
    rw [ev]
    rw [show decide (sizeT t 601 ≤ 200) = false by simp [hf]] at h45
    clear ht ev hf
    obtain ⟨k, a, b, c, d, mn, mx, subs⟩ := t
    have e0 : nodeA (.node k a b c d mn mx subs) = .agg [.i k, .d (.val (.int .u64 a)), .d (.val (.int .u64 b)), .d (.val (.int .u64 c)), .d (.val (.int .u64 d)), .i mn, .i mx, .d (.sl (encL subs) subs.length)] := rfl
    rw [e0] at h45 ⊢
    refine b30 (by simp) (by simp) (w_init ?_)
    unfold x30
    repeat' (first
    | (apply r_mvV; rfl)
    | (apply r_mvP; rfl)
    | (apply r_mvPL; rfl)
    | (apply r_mvS; rfl)
    | (apply r_mvSL; rfl)
    | (apply r_mvA; rfl)
    | (apply r_mvT; rfl)
    | (apply r_mvF; rfl)
    | (apply r_mvD; rfl)
    | (apply r_ldL; rfl; rfl; rfl)
    | (apply r_l; apply ld_kind; assumption; rfl)
    | (apply r_l; apply ld_mn; assumption; rfl)
    | (apply r_l; apply ld_mx; assumption; rfl)
    | (apply r_l; apply ld_subs; assumption; rfl)
    | (apply r_l; apply ld_set; assumption; rfl)
    | (apply r_l; apply ld_node; assumption; rfl)
    | (apply r_l; apply ld_kind'; assumption; rfl)
    | (apply r_l; apply ld_mn'; assumption; rfl)
    | (apply r_l; apply ld_mx'; assumption; rfl)
    | (apply r_l; apply ld_subs'; assumption; rfl)
    | (apply r_l; apply ld_node'; assumption; rfl)
    | (apply r_callA; rfl; rfl; exact h45)
    | (apply r_leq; rfl; rfl; (first | (apply decide_eq_true; omega) | (apply decide_eq_false; omega) | rfl))
    | (apply r_not; rfl; rfl)
    | (apply r_pickT; rfl)
    | (apply r_pickF; rfl)
    | (apply r_lenT; rfl)
    | (apply r_gT; rfl)
    | (apply r_gF'; rfl; rfl)
    | (apply r_gN'; rfl)
    | ((apply r_gS (o := default); rfl) <;> (intro h; try simp only [decide_eq_true_eq, decide_eq_false_iff_not, Bool.not_eq_true, Bool.not_eq_false] at h))
    | (apply r_box; ((conv => lhs; simp only [Nat.reduceAdd]) <;> rfl); rfl; rfl; rfl)
    | (apply r_nilK)
    | (apply r_nil)
    | (apply k_V; rfl)
    | (apply k_P; rfl)
    | (apply k_PL; rfl)
    | (apply k_S; rfl)
    | (apply k_SL; rfl)
    | (apply k_A; rfl)
    | (apply k_T; rfl)
    | (apply k_F; rfl)
    | (apply k_D; rfl; rotate_left; rfl)
    | (apply k_nil)
    | (apply e_ret (vs := [.d (.val _)]); rfl)
    | (apply e_ret; rfl)
    | (apply e_ret' (vs := [.d (.val _)]); rfl)
    | (apply e_ret'; rfl)
    | (apply w_seq)
    | (apply w_ops; ((conv => lhs; simp only [Nat.reduceAdd]) <;> rfl))
    | (apply e_thenN)
    | (apply w_block)
    | (apply e_thenR)
    | (apply e_thenX)
    | (apply e_blkN)
    | (apply e_blkR)
    | (apply e_blkE)
    | (apply w_exit)
    | (apply w_ret)
    | (apply w_skip)
    | (apply e_blkE'; rfl))
    exact retB rfl
  have hc := few_cnt hf
  have h32 := right8_good t (by omega)
  rw [show decide (sizeT t 601 ≤ 200) = true by simp [hf]] at h45
  by_cases h40 : s.size ≤ 40
  case neg =>
    have ev : few11 s t = false := by simp [few11, h40]
    rw [ev]
    clear ht ev hf hc h32
    obtain ⟨k, a, b, c, d, mn, mx, subs⟩ := t
    have e0 : nodeA (.node k a b c d mn mx subs) = .agg [.i k, .d (.val (.int .u64 a)), .d (.val (.int .u64 b)), .d (.val (.int .u64 c)), .d (.val (.int .u64 d)), .i mn, .i mx, .d (.sl (encL subs) subs.length)] := rfl
    rw [e0] at h45 ⊢
    refine b30 (by simp) (by simp) (w_init ?_)
    unfold x30
    repeat' (first
    | (apply r_mvV; rfl)
    | (apply r_mvP; rfl)
    | (apply r_mvPL; rfl)
    | (apply r_mvS; rfl)
    | (apply r_mvSL; rfl)
    | (apply r_mvA; rfl)
    | (apply r_mvT; rfl)
    | (apply r_mvF; rfl)
    | (apply r_mvD; rfl)
    | (apply r_ldL; rfl; rfl; rfl)
    | (apply r_l; apply ld_kind; assumption; rfl)
    | (apply r_l; apply ld_mn; assumption; rfl)
    | (apply r_l; apply ld_mx; assumption; rfl)
    | (apply r_l; apply ld_subs; assumption; rfl)
    | (apply r_l; apply ld_set; assumption; rfl)
    | (apply r_l; apply ld_node; assumption; rfl)
    | (apply r_l; apply ld_kind'; assumption; rfl)
    | (apply r_l; apply ld_mn'; assumption; rfl)
    | (apply r_l; apply ld_mx'; assumption; rfl)
    | (apply r_l; apply ld_subs'; assumption; rfl)
    | (apply r_l; apply ld_node'; assumption; rfl)
    | (apply r_callA; rfl; rfl; exact h45)
    | (apply r_leq; rfl; rfl; (first | (apply decide_eq_true; omega) | (apply decide_eq_false; omega) | rfl))
    | (apply r_not; rfl; rfl)
    | (apply r_pickT; rfl)
    | (apply r_pickF; rfl)
    | (apply r_lenT; rfl)
    | (apply r_gT; rfl)
    | (apply r_gF'; rfl; rfl)
    | (apply r_gN'; rfl)
    | ((apply r_gS (o := default); rfl) <;> (intro h; try simp only [decide_eq_true_eq, decide_eq_false_iff_not, Bool.not_eq_true, Bool.not_eq_false] at h))
    | (apply r_box; ((conv => lhs; simp only [Nat.reduceAdd]) <;> rfl); rfl; rfl; rfl)
    | (apply r_nilK)
    | (apply r_nil)
    | (apply k_V; rfl)
    | (apply k_P; rfl)
    | (apply k_PL; rfl)
    | (apply k_S; rfl)
    | (apply k_SL; rfl)
    | (apply k_A; rfl)
    | (apply k_T; rfl)
    | (apply k_F; rfl)
    | (apply k_D; rfl; rotate_left; rfl)
    | (apply k_nil)
    | (apply e_ret (vs := [.d (.val _)]); rfl)
    | (apply e_ret; rfl)
    | (apply e_ret' (vs := [.d (.val _)]); rfl)
    | (apply e_ret'; rfl)
    | (apply w_seq)
    | (apply w_ops; ((conv => lhs; simp only [Nat.reduceAdd]) <;> rfl))
    | (apply e_thenN)
    | (apply w_block)
    | (apply e_thenR)
    | (apply e_thenX)
    | (apply e_blkN)
    | (apply e_blkR)
    | (apply e_blkE)
    | (apply w_exit)
    | (apply w_ret)
    | (apply w_skip)
    | (apply e_blkE'; rfl))
    exact retB rfl
  by_cases hr : rightT t = true
  case neg =>
    have hr : rightT t = false := by simpa using hr
    have ev : few11 s t = true := by simp [few11, hf, h40, hr]
    rw [ev]
    rw [hr] at h32
    clear ht ev hf hc hr
    obtain ⟨k, a, b, c, d, mn, mx, subs⟩ := t
    have e0 : nodeA (.node k a b c d mn mx subs) = .agg [.i k, .d (.val (.int .u64 a)), .d (.val (.int .u64 b)), .d (.val (.int .u64 c)), .d (.val (.int .u64 d)), .i mn, .i mx, .d (.sl (encL subs) subs.length)] := rfl
    rw [e0] at h45 h32 ⊢
    refine b30 (by simp) (by simp) (w_init ?_)
    unfold x30
    repeat' (first
    | (apply r_mvV; rfl)
    | (apply r_mvP; rfl)
    | (apply r_mvPL; rfl)
    | (apply r_mvS; rfl)
    | (apply r_mvSL; rfl)
    | (apply r_mvA; rfl)
    | (apply r_mvT; rfl)
    | (apply r_mvF; rfl)
    | (apply r_mvD; rfl)
    | (apply r_ldL; rfl; rfl; rfl)
    | (apply r_l; apply ld_kind; assumption; rfl)
    | (apply r_l; apply ld_mn; assumption; rfl)
    | (apply r_l; apply ld_mx; assumption; rfl)
    | (apply r_l; apply ld_subs; assumption; rfl)
    | (apply r_l; apply ld_set; assumption; rfl)
    | (apply r_l; apply ld_node; assumption; rfl)
    | (apply r_l; apply ld_kind'; assumption; rfl)
    | (apply r_l; apply ld_mn'; assumption; rfl)
    | (apply r_l; apply ld_mx'; assumption; rfl)
    | (apply r_l; apply ld_subs'; assumption; rfl)
    | (apply r_l; apply ld_node'; assumption; rfl)
    | (apply r_callA; rfl; rfl; exact h45)
    | (apply r_callA; rfl; rfl; exact h32)
    | (apply r_leq; rfl; rfl; (first | (apply decide_eq_true; omega) | (apply decide_eq_false; omega) | rfl))
    | (apply r_not; rfl; rfl)
    | (apply r_pickT; rfl)
    | (apply r_pickF; rfl)
    | (apply r_lenT; rfl)
    | (apply r_gT; rfl)
    | (apply r_gF'; rfl; rfl)
    | (apply r_gN'; rfl)
    | ((apply r_gS (o := default); rfl) <;> (intro h; try simp only [decide_eq_true_eq, decide_eq_false_iff_not, Bool.not_eq_true, Bool.not_eq_false] at h))
    | (apply r_box; ((conv => lhs; simp only [Nat.reduceAdd]) <;> rfl); rfl; rfl; rfl)
    | (apply r_nilK)
    | (apply r_nil)
    | (apply k_V; rfl)
    | (apply k_P; rfl)
    | (apply k_PL; rfl)
    | (apply k_S; rfl)
    | (apply k_SL; rfl)
    | (apply k_A; rfl)
    | (apply k_T; rfl)
    | (apply k_F; rfl)
    | (apply k_D; rfl; rotate_left; rfl)
    | (apply k_nil)
    | (apply e_ret (vs := [.d (.val _)]); rfl)
    | (apply e_ret; rfl)
    | (apply e_ret' (vs := [.d (.val _)]); rfl)
    | (apply e_ret'; rfl)
    | (apply w_seq)
    | (apply w_ops; ((conv => lhs; simp only [Nat.reduceAdd]) <;> rfl))
    | (apply e_thenN)
    | (apply w_block)
    | (apply e_thenR)
    | (apply e_thenX)
    | (apply e_blkN)
    | (apply e_blkR)
    | (apply e_blkE)
    | (apply w_exit)
    | (apply w_ret)
    | (apply w_skip)
    | (apply e_blkE'; rfl))
    exact retB rfl
  have hok := ok_of_right ht hr
  have h38 := wide_good 1000000 t (by omega) (by omega) hok
  have ev : few11 s t = decide (wideT t ≤ 3000) := by simp [few11, hf, h40, hr]
  rw [ev]
  rw [hr] at h32
  have hw := wideT_in t hok
  generalize wideT t = wt at h38 hw ⊢
  clear ht ev hf hc hr hok
  obtain ⟨k, a, b, c, d, mn, mx, subs⟩ := t
  have e0 : nodeA (.node k a b c d mn mx subs) = .agg [.i k, .d (.val (.int .u64 a)), .d (.val (.int .u64 b)), .d (.val (.int .u64 c)), .d (.val (.int .u64 d)), .i mn, .i mx, .d (.sl (encL subs) subs.length)] := rfl
  rw [e0] at h45 h32 h38 ⊢
  refine b30 (by simp) (by simp) (w_init ?_)
  unfold x30
  repeat' (first
    | (apply r_mvV; rfl)
    | (apply r_mvP; rfl)
    | (apply r_mvPL; rfl)
    | (apply r_mvS; rfl)
    | (apply r_mvSL; rfl)
    | (apply r_mvA; rfl)
    | (apply r_mvT; rfl)
    | (apply r_mvF; rfl)
    | (apply r_mvD; rfl)
    | (apply r_ldL; rfl; rfl; rfl)
    | (apply r_l; apply ld_kind; assumption; rfl)
    | (apply r_l; apply ld_mn; assumption; rfl)
    | (apply r_l; apply ld_mx; assumption; rfl)
    | (apply r_l; apply ld_subs; assumption; rfl)
    | (apply r_l; apply ld_set; assumption; rfl)
    | (apply r_l; apply ld_node; assumption; rfl)
    | (apply r_l; apply ld_kind'; assumption; rfl)
    | (apply r_l; apply ld_mn'; assumption; rfl)
    | (apply r_l; apply ld_mx'; assumption; rfl)
    | (apply r_l; apply ld_subs'; assumption; rfl)
    | (apply r_l; apply ld_node'; assumption; rfl)
    | (apply r_callA; rfl; rfl; exact h45)
    | (apply r_callA; rfl; rfl; exact h32)
    | (apply r_callA; rfl; rfl; exact h38)
    | (apply r_leq; rfl; rfl; (first | (apply decide_eq_true; omega) | (apply decide_eq_false; omega) | rfl))
    | (apply r_not; rfl; rfl)
    | (apply r_pickT; rfl)
    | (apply r_pickF; rfl)
    | (apply r_lenT; rfl)
    | (apply r_gT; rfl)
    | (apply r_gF'; rfl; rfl)
    | (apply r_gN'; rfl)
    | ((apply r_gS (o := default); rfl) <;> (intro h; try simp only [decide_eq_true_eq, decide_eq_false_iff_not, Bool.not_eq_true, Bool.not_eq_false] at h))
    | (apply r_box; ((conv => lhs; simp only [Nat.reduceAdd]) <;> rfl); rfl; rfl; rfl)
    | (apply r_nilK)
    | (apply r_nil)
    | (apply k_V; rfl)
    | (apply k_P; rfl)
    | (apply k_PL; rfl)
    | (apply k_S; rfl)
    | (apply k_SL; rfl)
    | (apply k_A; rfl)
    | (apply k_T; rfl)
    | (apply k_F; rfl)
    | (apply k_D; rfl; rotate_left; rfl)
    | (apply k_nil)
    | (apply e_ret (vs := [.d (.val _)]); rfl)
    | (apply e_ret; rfl)
    | (apply e_ret' (vs := [.d (.val _)]); rfl)
    | (apply e_ret'; rfl)
    | (apply w_seq)
    | (apply w_ops; ((conv => lhs; simp only [Nat.reduceAdd]) <;> rfl))
    | (apply e_thenN)
    | (apply w_block)
    | (apply e_thenR)
    | (apply e_thenX)
    | (apply e_blkN)
    | (apply e_blkR)
    | (apply e_blkE)
    | (apply w_exit)
    | (apply w_ret)
    | (apply w_skip)
    | (apply e_blkE'; rfl))
  all_goals exact retB rfl
theorem all_ref (s : ByteArray) (t : T) (hf : fitsT t 12 = true) (hok : okT t) (j : Nat) (hj : j ≤ s.size) : allG s t j = rallG s t j := by
  have : 0 ≤ ((j : Nat) : Int) ∧ ((j : Nat) : Int) ≤ s.size := by omega
  simp only [allG, hf, this, and_self, if_true, Int.toNat_natCast, rallG]
  rw [step_ref s t hok (by simp)]
theorem law3 (t : T) (s : ByteArray) (n : Int) (ht : inT t) (hs : s.size ≤ 9223372036854775807) (hn : inW n) : Good Try.prog 3 [nodeA t, .d (.val (.string s)), .i n] none (.b true) none none := by
  have haw := awake11_good
  have h30 := few30_good s hs t ht
  have hna : [nodeA t].all AV.nrm = true := by rw [List.all_cons, nodeA_nrm]; rfl
  unfold inW at hn
  by_cases hf : few11 s t = true
  case neg =>
    have hf : few11 s t = false := by simpa using hf
    rw [hf] at h30
    clear ht hf
    obtain ⟨k, a, b, c, d, mn, mx, subs⟩ := t
    have e0 : nodeA (.node k a b c d mn mx subs) = .agg [.i k, .d (.val (.int .u64 a)), .d (.val (.int .u64 b)), .d (.val (.int .u64 c)), .d (.val (.int .u64 d)), .i mn, .i mx, .d (.sl (encL subs) subs.length)] := rfl
    rw [e0] at h30 ⊢
    refine b3 (by simp) (by simp) (w_init ?_)
    unfold x3
    repeat' (first
    | (apply r_mvV; rfl)
    | (apply r_mvP; rfl)
    | (apply r_mvPL; rfl)
    | (apply r_mvS; rfl)
    | (apply r_mvSL; rfl)
    | (apply r_mvA; rfl)
    | (apply r_mvT; rfl)
    | (apply r_mvF; rfl)
    | (apply r_mvD; rfl)
    | (apply r_ldL; rfl; rfl; rfl)
    | (apply r_l; apply ld_kind; assumption; rfl)
    | (apply r_l; apply ld_mn; assumption; rfl)
    | (apply r_l; apply ld_mx; assumption; rfl)
    | (apply r_l; apply ld_subs; assumption; rfl)
    | (apply r_l; apply ld_set; assumption; rfl)
    | (apply r_l; apply ld_node; assumption; rfl)
    | (apply r_l; apply ld_kind'; assumption; rfl)
    | (apply r_l; apply ld_mn'; assumption; rfl)
    | (apply r_l; apply ld_mx'; assumption; rfl)
    | (apply r_l; apply ld_subs'; assumption; rfl)
    | (apply r_l; apply ld_node'; assumption; rfl)
    | (apply r_callA; rfl; rfl; exact haw)
    | (apply r_callA; rfl; rfl; exact h30)
    | (apply r_eql; rfl; rfl; (first | (apply decide_eq_true; omega) | (apply decide_eq_false; omega) | rfl))
    | (apply r_lss; rfl; rfl; (first | (apply decide_eq_true; omega) | (apply decide_eq_false; omega) | rfl))
    | (apply r_gtr; rfl; rfl; (first | (apply decide_eq_true; omega) | (apply decide_eq_false; omega) | rfl))
    | (apply r_not; rfl; rfl)
    | (apply r_pickT; rfl)
    | (apply r_pickF; rfl)
    | (apply r_lenD; rfl)
    | (apply r_lenL; rfl)
    | (apply r_len0; rfl)
    | (apply r_lenT; rfl)
    | (apply r_ext; rfl; rfl)
    | (apply r_gT; rfl)
    | (apply r_gF'; rfl; rfl)
    | (apply r_gN'; rfl)
    | ((apply r_gS (o := default); rfl) <;> (intro h; try simp only [decide_eq_true_eq, decide_eq_false_iff_not, Bool.not_eq_true, Bool.not_eq_false] at h))
    | (apply r_box; ((conv => lhs; simp only [Nat.reduceAdd]) <;> rfl); rfl; rfl; rfl)
    | (apply r_nilK)
    | (apply r_nil)
    | (apply k_V; rfl)
    | (apply k_P; rfl)
    | (apply k_PL; rfl)
    | (apply k_S; rfl)
    | (apply k_SL; rfl)
    | (apply k_A; rfl)
    | (apply k_T; rfl)
    | (apply k_F; rfl)
    | (apply k_D; rfl; rotate_left; rfl)
    | (apply k_nil)
    | (apply e_ret (vs := [.d (.val _)]); rfl)
    | (apply e_ret; rfl)
    | (apply e_ret' (vs := [.d (.val _)]); rfl)
    | (apply e_ret'; rfl)
    | (apply w_seq)
    | (apply w_ops; ((conv => lhs; simp only [Nat.reduceAdd]) <;> rfl))
    | (apply w_condT; rfl)
    | (apply w_condF; rfl)
    | ((apply w_condS; rfl) <;> (intro h; try simp only [decide_eq_true_eq, decide_eq_false_iff_not, Bool.not_eq_true, Bool.not_eq_false] at h))
    | (apply e_thenN)
    | (apply w_block)
    | (apply e_thenR)
    | (apply e_thenX)
    | (apply e_blkN)
    | (apply e_blkR)
    | (apply e_blkE)
    | (apply w_exit)
    | (apply w_ret)
    | (apply w_skip)
    | (apply e_blkE'; rfl))
    exact retB rfl
  rw [hf] at h30
  simp only [few11, Bool.and_eq_true, decide_eq_true_eq] at hf
  obtain ⟨hf1, hf2, _⟩ := hf
  have hc := few_cnt hf1
  have h32 := right8_good t (by omega)
  have hok12 : fitsT t 12 = true → okT t := fun h => ok_of_right ht (by rw [right_fits]; exact h)
  have h31 := all_good s (by omega) t (by omega) hok12 n
  have h33 := match_good s (by omega) t (by omega) hok12
  have h34 := longest_good s (by omega) t (by omega) hok12 n
  by_cases hr : rightT t = true
  case neg =>
    have hr : rightT t = false := by simpa using hr
    have hfi : fitsT t 12 = false := by rw [← right_fits]; exact hr
    have hg : ∀ m, allG s t m = [] := fun m => by simp [allG, hfi]
    have he : allE s t n = 1 := by simp [allE, hfi]
    have hm : decide (lastG (allG s t 0) = s.size) = false := by
      rw [hg]; simp [lastG]
    rw [hr] at h32
    rw [hg, he] at h31
    rw [hm] at h33
    clear ht hok12 hr hfi hg he hm h34 hc hf1
    obtain ⟨k, a, b, c, d, mn, mx, subs⟩ := t
    have e0 : nodeA (.node k a b c d mn mx subs) = .agg [.i k, .d (.val (.int .u64 a)), .d (.val (.int .u64 b)), .d (.val (.int .u64 c)), .d (.val (.int .u64 d)), .i mn, .i mx, .d (.sl (encL subs) subs.length)] := rfl
    rw [e0] at h30 h31 h32 h33 ⊢
    refine b3 (by simp) (by simp) (w_init ?_)
    unfold x3
    repeat' (first
    | (apply r_mvV; rfl)
    | (apply r_mvP; rfl)
    | (apply r_mvPL; rfl)
    | (apply r_mvS; rfl)
    | (apply r_mvSL; rfl)
    | (apply r_mvA; rfl)
    | (apply r_mvT; rfl)
    | (apply r_mvF; rfl)
    | (apply r_mvD; rfl)
    | (apply r_ldL; rfl; rfl; rfl)
    | (apply r_l; apply ld_kind; assumption; rfl)
    | (apply r_l; apply ld_mn; assumption; rfl)
    | (apply r_l; apply ld_mx; assumption; rfl)
    | (apply r_l; apply ld_subs; assumption; rfl)
    | (apply r_l; apply ld_set; assumption; rfl)
    | (apply r_l; apply ld_node; assumption; rfl)
    | (apply r_l; apply ld_kind'; assumption; rfl)
    | (apply r_l; apply ld_mn'; assumption; rfl)
    | (apply r_l; apply ld_mx'; assumption; rfl)
    | (apply r_l; apply ld_subs'; assumption; rfl)
    | (apply r_l; apply ld_node'; assumption; rfl)
    | (apply r_callA; rfl; rfl; exact haw)
    | (apply r_callA; rfl; rfl; exact h30)
    | (apply r_callA; rfl; rfl; exact h31)
    | (apply r_callA; rfl; rfl; exact h32)
    | (apply r_callA; rfl; rfl; exact h33)
    | (apply r_eql; rfl; rfl; (first | (apply decide_eq_true; omega) | (apply decide_eq_false; omega) | rfl))
    | (apply r_lss; rfl; rfl; (first | (apply decide_eq_true; omega) | (apply decide_eq_false; omega) | rfl))
    | (apply r_gtr; rfl; rfl; (first | (apply decide_eq_true; omega) | (apply decide_eq_false; omega) | rfl))
    | (apply r_not; rfl; rfl)
    | (apply r_pickT; rfl)
    | (apply r_pickF; rfl)
    | (apply r_lenD; rfl)
    | (apply r_lenL; rfl)
    | (apply r_len0; rfl)
    | (apply r_lenT; rfl)
    | (apply r_ext; rfl; rfl)
    | (apply r_gT; rfl)
    | (apply r_gF'; rfl; rfl)
    | (apply r_gN'; rfl)
    | ((apply r_gS (o := default); rfl) <;> (intro h; try simp only [decide_eq_true_eq, decide_eq_false_iff_not, Bool.not_eq_true, Bool.not_eq_false] at h))
    | (apply r_box; ((conv => lhs; simp only [Nat.reduceAdd]) <;> rfl); rfl; rfl; rfl)
    | (apply r_nilK)
    | (apply r_nil)
    | (apply k_V; rfl)
    | (apply k_P; rfl)
    | (apply k_PL; rfl)
    | (apply k_S; rfl)
    | (apply k_SL; rfl)
    | (apply k_A; rfl)
    | (apply k_T; rfl)
    | (apply k_F; rfl)
    | (apply k_D; rfl; rotate_left; rfl)
    | (apply k_nil)
    | (apply e_ret (vs := [.d (.val _)]); rfl)
    | (apply e_ret; rfl)
    | (apply e_ret' (vs := [.d (.val _)]); rfl)
    | (apply e_ret'; rfl)
    | (apply w_seq)
    | (apply w_ops; ((conv => lhs; simp only [Nat.reduceAdd]) <;> rfl))
    | (apply w_condT; rfl)
    | (apply w_condF; rfl)
    | ((apply w_condS; rfl) <;> (intro h; try simp only [decide_eq_true_eq, decide_eq_false_iff_not, Bool.not_eq_true, Bool.not_eq_false] at h))
    | (apply e_thenN)
    | (apply w_block)
    | (apply e_thenR)
    | (apply e_thenX)
    | (apply e_blkN)
    | (apply e_blkR)
    | (apply e_blkE)
    | (apply w_exit)
    | (apply w_ret)
    | (apply w_skip)
    | (apply e_blkE'; rfl))
    exact retB rfl
  have hfi : fitsT t 12 = true := by rw [← right_fits]; exact hr
  rw [hr] at h32
  by_cases hfr : 0 ≤ n ∧ n ≤ s.size
  case neg =>
    have hg : allG s t n = [] := by simp only [allG, hfr, and_false, if_false]
    have he : allE s t n = 2 := by simp only [allE, hfi, hfr, if_true, if_false]
    have hlast : lastG ([] : List Int) = -1 := rfl
    rw [hg, he] at h31
    rw [hg, hlast] at h34
    clear ht hok12 hr hfi hg he h33 hc hf1
    obtain ⟨k, a, b, c, d, mn, mx, subs⟩ := t
    have e0 : nodeA (.node k a b c d mn mx subs) = .agg [.i k, .d (.val (.int .u64 a)), .d (.val (.int .u64 b)), .d (.val (.int .u64 c)), .d (.val (.int .u64 d)), .i mn, .i mx, .d (.sl (encL subs) subs.length)] := rfl
    rw [e0] at h30 h31 h32 h34 ⊢
    refine b3 (by simp) (by simp) (w_init ?_)
    unfold x3
    repeat' (first
    | (apply r_mvV; rfl)
    | (apply r_mvP; rfl)
    | (apply r_mvPL; rfl)
    | (apply r_mvS; rfl)
    | (apply r_mvSL; rfl)
    | (apply r_mvA; rfl)
    | (apply r_mvT; rfl)
    | (apply r_mvF; rfl)
    | (apply r_mvD; rfl)
    | (apply r_ldL; rfl; rfl; rfl)
    | (apply r_l; apply ld_kind; assumption; rfl)
    | (apply r_l; apply ld_mn; assumption; rfl)
    | (apply r_l; apply ld_mx; assumption; rfl)
    | (apply r_l; apply ld_subs; assumption; rfl)
    | (apply r_l; apply ld_set; assumption; rfl)
    | (apply r_l; apply ld_node; assumption; rfl)
    | (apply r_l; apply ld_kind'; assumption; rfl)
    | (apply r_l; apply ld_mn'; assumption; rfl)
    | (apply r_l; apply ld_mx'; assumption; rfl)
    | (apply r_l; apply ld_subs'; assumption; rfl)
    | (apply r_l; apply ld_node'; assumption; rfl)
    | (apply r_callA; rfl; rfl; exact haw)
    | (apply r_callA; rfl; rfl; exact h30)
    | (apply r_callA; rfl; rfl; exact h31)
    | (apply r_callA; rfl; rfl; exact h32)
    | (apply r_callA; rfl; rfl; exact h34)
    | (apply r_eql; rfl; rfl; (first | (apply decide_eq_true; omega) | (apply decide_eq_false; omega) | rfl))
    | (apply r_lss; rfl; rfl; (first | (apply decide_eq_true; omega) | (apply decide_eq_false; omega) | rfl))
    | (apply r_gtr; rfl; rfl; (first | (apply decide_eq_true; omega) | (apply decide_eq_false; omega) | rfl))
    | (apply r_not; rfl; rfl)
    | (apply r_pickT; rfl)
    | (apply r_pickF; rfl)
    | (apply r_lenD; rfl)
    | (apply r_lenL; rfl)
    | (apply r_len0; rfl)
    | (apply r_lenT; rfl)
    | (apply r_ext; rfl; rfl)
    | (apply r_gT; rfl)
    | (apply r_gF'; rfl; rfl)
    | (apply r_gN'; rfl)
    | ((apply r_gS (o := default); rfl) <;> (intro h; try simp only [decide_eq_true_eq, decide_eq_false_iff_not, Bool.not_eq_true, Bool.not_eq_false] at h))
    | (apply r_box; ((conv => lhs; simp only [Nat.reduceAdd]) <;> rfl); rfl; rfl; rfl)
    | (apply r_nilK)
    | (apply r_nil)
    | (apply k_V; rfl)
    | (apply k_P; rfl)
    | (apply k_PL; rfl)
    | (apply k_S; rfl)
    | (apply k_SL; rfl)
    | (apply k_A; rfl)
    | (apply k_T; rfl)
    | (apply k_F; rfl)
    | (apply k_D; rfl; rotate_left; rfl)
    | (apply k_nil)
    | (apply e_ret (vs := [.d (.val _)]); rfl)
    | (apply e_ret; rfl)
    | (apply e_ret' (vs := [.d (.val _)]); rfl)
    | (apply e_ret'; rfl)
    | (apply w_seq)
    | (apply w_ops; ((conv => lhs; simp only [Nat.reduceAdd]) <;> rfl))
    | (apply w_condT; rfl)
    | (apply w_condF; rfl)
    | ((apply w_condS; rfl) <;> (intro h; try simp only [decide_eq_true_eq, decide_eq_false_iff_not, Bool.not_eq_true, Bool.not_eq_false] at h))
    | (apply e_thenN)
    | (apply w_block)
    | (apply e_thenR)
    | (apply e_thenX)
    | (apply e_blkN)
    | (apply e_blkR)
    | (apply e_blkE)
    | (apply w_exit)
    | (apply w_ret)
    | (apply w_skip)
    | (apply e_blkE'; rfl))
    all_goals exact retB rfl
  obtain ⟨j, rfl⟩ := Int.eq_ofNat_of_zero_le hfr.1
  have hok := hok12 hfi
  have hj : j ≤ s.size := by omega
  have h36 := all36_good s (by omega) t (by omega) hok j hj
  have h37 := longest37_good s (by omega) t (by omega) hok j hj
  have heq := all_ref s t hfi hok j hj
  have he : allE s t (j : Nat) = 0 := by simp only [allE, hfi, hfr, and_self, if_true]
  rw [heq, he] at h31
  rw [heq] at h34
  have hL : (rallG s t j).length ≤ 1000001 := Nat.le_trans (idxTo_len _ _) (by omega)
  have h35 := same_good (rallG s t j) (rallG s t j) hL
  rw [show decide (rallG s t j = rallG s t j) = true by simp] at h35
  generalize rallG s t j = LL at h31 h34 h35 h36 h37 hL
  clear ht hok12 hr hfi heq he h33 hc hf1 hok
  obtain ⟨k, a, b, c, d, mn, mx, subs⟩ := t
  have e0 : nodeA (.node k a b c d mn mx subs) = .agg [.i k, .d (.val (.int .u64 a)), .d (.val (.int .u64 b)), .d (.val (.int .u64 c)), .d (.val (.int .u64 d)), .i mn, .i mx, .d (.sl (encL subs) subs.length)] := rfl
  rw [e0] at h30 h31 h32 h34 h36 h37 ⊢
  refine b3 (by simp) (by simp) (w_init ?_)
  unfold x3
  repeat' (first
    | (apply r_mvV; rfl)
    | (apply r_mvP; rfl)
    | (apply r_mvPL; rfl)
    | (apply r_mvS; rfl)
    | (apply r_mvSL; rfl)
    | (apply r_mvA; rfl)
    | (apply r_mvT; rfl)
    | (apply r_mvF; rfl)
    | (apply r_mvD; rfl)
    | (apply r_ldL; rfl; rfl; rfl)
    | (apply r_l; apply ld_kind; assumption; rfl)
    | (apply r_l; apply ld_mn; assumption; rfl)
    | (apply r_l; apply ld_mx; assumption; rfl)
    | (apply r_l; apply ld_subs; assumption; rfl)
    | (apply r_l; apply ld_set; assumption; rfl)
    | (apply r_l; apply ld_node; assumption; rfl)
    | (apply r_l; apply ld_kind'; assumption; rfl)
    | (apply r_l; apply ld_mn'; assumption; rfl)
    | (apply r_l; apply ld_mx'; assumption; rfl)
    | (apply r_l; apply ld_subs'; assumption; rfl)
    | (apply r_l; apply ld_node'; assumption; rfl)
    | (apply r_callA; rfl; rfl; exact haw)
    | (apply r_callA; rfl; rfl; exact h30)
    | (apply r_callA; rfl; rfl; exact h31)
    | (apply r_callA; rfl; rfl; exact h32)
    | (apply r_callA; rfl; rfl; exact h34)
    | (apply r_callA; rfl; rfl; exact h35)
    | (apply r_callA; rfl; rfl; exact h36)
    | (apply r_callA; rfl; rfl; exact h37)
    | (apply r_eql; rfl; rfl; (first | (apply decide_eq_true; omega) | (apply decide_eq_false; omega) | rfl))
    | (apply r_lss; rfl; rfl; (first | (apply decide_eq_true; omega) | (apply decide_eq_false; omega) | rfl))
    | (apply r_gtr; rfl; rfl; (first | (apply decide_eq_true; omega) | (apply decide_eq_false; omega) | rfl))
    | (apply r_not; rfl; rfl)
    | (apply r_pickT; rfl)
    | (apply r_pickF; rfl)
    | (apply r_lenD; rfl)
    | (apply r_lenL; rfl)
    | (apply r_len0; rfl)
    | (apply r_lenT; rfl)
    | (apply r_ext; rfl; rfl)
    | (apply r_gT; rfl)
    | (apply r_gF'; rfl; rfl)
    | (apply r_gN'; rfl)
    | ((apply r_gS (o := default); rfl) <;> (intro h; try simp only [decide_eq_true_eq, decide_eq_false_iff_not, Bool.not_eq_true, Bool.not_eq_false] at h))
    | (apply r_box; ((conv => lhs; simp only [Nat.reduceAdd]) <;> rfl); rfl; rfl; rfl)
    | (apply r_nilK)
    | (apply r_nil)
    | (apply k_V; rfl)
    | (apply k_P; rfl)
    | (apply k_PL; rfl)
    | (apply k_S; rfl)
    | (apply k_SL; rfl)
    | (apply k_A; rfl)
    | (apply k_T; rfl)
    | (apply k_F; rfl)
    | (apply k_D; rfl; rotate_left; rfl)
    | (apply k_nil)
    | (apply e_ret (vs := [.d (.val _)]); rfl)
    | (apply e_ret; rfl)
    | (apply e_ret' (vs := [.d (.val _)]); rfl)
    | (apply e_ret'; rfl)
    | (apply w_seq)
    | (apply w_ops; ((conv => lhs; simp only [Nat.reduceAdd]) <;> rfl))
    | (apply w_condT; rfl)
    | (apply w_condF; rfl)
    | ((apply w_condS; rfl) <;> (intro h; try simp only [decide_eq_true_eq, decide_eq_false_iff_not, Bool.not_eq_true, Bool.not_eq_false] at h))
    | (apply e_thenN)
    | (apply w_block)
    | (apply e_thenR)
    | (apply e_thenX)
    | (apply e_blkN)
    | (apply e_blkR)
    | (apply e_blkE)
    | (apply w_exit)
    | (apply w_ret)
    | (apply w_skip)
    | (apply e_blkE'; rfl))
  all_goals exact retB rfl
end Go.Sv
namespace Go.Sv
open Go Go.Proofs
def x7 : XC := (.seq (.ops 2 [
    (0, ⟨(some 4), none, .box (.t 0)⟩),
    (1, ⟨(some 8), none, .mv (.k (.d (.val (.bool false))))⟩)] (some [1, 2, 3, 4])) (.seq (.seq (.ops 25 [
    (0, ⟨(some 15), none, .call 29 [] none false⟩),
    (1, ⟨(some 16), none, .un .not (.t 15)⟩),
    (2, ⟨(some 17), none, .mv (.t 16)⟩),
    (3, ⟨(some 18), (some (17, false)), .load (some 8) (.t 4)⟩),
    (4, ⟨(some 19), (some (17, false)), .mv (.t 1)⟩),
    (5, ⟨(some 20), (some (17, false)), .mv (.t 2)⟩),
    (6, ⟨(some 21), (some (17, false)), .arith .add (.t 19) (.t 20)⟩),
    (7, ⟨(some 22), (some (17, false)), .call 30 [(.t 18), (.t 21)] none false⟩),
    (8, ⟨(some 23), (some (17, false)), .un .not (.t 22)⟩),
    (9, ⟨(some 24), none, .pick (.t 17) (.k (.d (.val (.bool true)))) (.t 23)⟩),
    (10, ⟨(some 25), none, .mv (.t 24)⟩),
    (11, ⟨(some 26), (some (25, false)), .load (some 8) (.t 4)⟩),
    (12, ⟨(some 27), (some (25, false)), .call 32 [(.t 26)] none false⟩),
    (13, ⟨(some 28), (some (25, false)), .un .not (.t 27)⟩),
    (14, ⟨(some 29), none, .pick (.t 25) (.k (.d (.val (.bool true)))) (.t 28)⟩),
    (15, ⟨(some 30), none, .mv (.t 29)⟩),
    (16, ⟨(some 31), (some (30, false)), .mv (.t 3)⟩),
    (17, ⟨(some 32), (some (30, false)), .arith .lss (.t 31) (.k (.d (.val (.int .i64 0))))⟩),
    (18, ⟨(some 33), none, .pick (.t 30) (.k (.d (.val (.bool true)))) (.t 32)⟩),
    (19, ⟨(some 34), none, .mv (.t 33)⟩),
    (20, ⟨(some 35), (some (34, false)), .mv (.t 3)⟩),
    (21, ⟨(some 36), (some (34, false)), .mv (.t 1)⟩),
    (22, ⟨(some 37), (some (34, false)), .lenT (.t 36)⟩),
    (23, ⟨(some 38), (some (34, false)), .arith .gtr (.t 35) (.t 37)⟩),
    (24, ⟨(some 39), none, .pick (.t 34) (.k (.d (.val (.bool true)))) (.t 38)⟩)] (some [1, 2, 3, 4, 39])) (.cond (.t 39) (.seq (.ops 2 [
    (0, ⟨(some 40), none, .call 29 [] none false⟩),
    (1, ⟨(some 8), none, .mv (.t 40)⟩)] (some [8])) .ret) .skip)) (.seq (.ops 9 [
    (0, ⟨(some 42), none, .load (some 8) (.t 4)⟩),
    (1, ⟨(some 43), none, .mv (.t 1)⟩),
    (2, ⟨(some 44), none, .mv (.t 3)⟩),
    (3, ⟨(some 45), none, .call 31 [(.t 42), (.t 43), (.t 44)] none false⟩),
    (4, ⟨(some 41), none, .mv (.t 45)⟩),
    (5, ⟨(some 46), none, .ext (.t 41) 0⟩),
    (6, ⟨(some 47), none, .ext (.t 41) 1⟩),
    (7, ⟨(some 9), none, .mv (.t 46)⟩),
    (8, ⟨(some 10), none, .mv (.t 47)⟩)] (some [1, 2, 3, 4, 9, 10])) (.seq (.ops 11 [
    (0, ⟨(some 49), none, .load (some 8) (.t 4)⟩),
    (1, ⟨(some 50), none, .mv (.t 1)⟩),
    (2, ⟨(some 51), none, .mv (.t 2)⟩),
    (3, ⟨(some 52), none, .arith .add (.t 50) (.t 51)⟩),
    (4, ⟨(some 53), none, .mv (.t 3)⟩),
    (5, ⟨(some 54), none, .call 31 [(.t 49), (.t 52), (.t 53)] none false⟩),
    (6, ⟨(some 48), none, .mv (.t 54)⟩),
    (7, ⟨(some 55), none, .ext (.t 48) 0⟩),
    (8, ⟨(some 56), none, .ext (.t 48) 1⟩),
    (9, ⟨(some 11), none, .mv (.t 55)⟩),
    (10, ⟨(some 12), none, .mv (.t 56)⟩)] (some [1, 9, 10, 11, 12])) (.seq (.seq (.ops 22 [
    (0, ⟨(some 57), none, .mv (.t 10)⟩),
    (1, ⟨(some 58), none, .arith .neq (.t 57) (.k (.d (.val (.int .i64 0))))⟩),
    (2, ⟨(some 59), none, .mv (.t 58)⟩),
    (3, ⟨(some 60), (some (59, false)), .mv (.t 12)⟩),
    (4, ⟨(some 61), (some (59, false)), .arith .neq (.t 60) (.k (.d (.val (.int .i64 0))))⟩),
    (5, ⟨(some 62), none, .pick (.t 59) (.k (.d (.val (.bool true)))) (.t 61)⟩),
    (6, ⟨(some 63), none, .mv (.t 62)⟩),
    (7, ⟨(some 64), (some (63, false)), .mv (.t 11)⟩),
    (8, ⟨(some 65), (some (63, false)), .lenS (.t 64)⟩),
    (9, ⟨(some 66), (some (63, false)), .mv (.t 9)⟩),
    (10, ⟨(some 67), (some (63, false)), .lenS (.t 66)⟩),
    (11, ⟨(some 68), (some (63, false)), .arith .lss (.t 65) (.t 67)⟩),
    (12, ⟨(some 69), none, .pick (.t 63) (.k (.d (.val (.bool true)))) (.t 68)⟩),
    (13, ⟨(some 70), none, .mv (.t 69)⟩),
    (14, ⟨(some 71), (some (70, false)), .mv (.t 9)⟩),
    (15, ⟨(some 72), (some (70, false)), .mv (.t 11)⟩),
    (16, ⟨(some 73), (some (70, false)), .mv (.t 9)⟩),
    (17, ⟨(some 74), (some (70, false)), .lenS (.t 73)⟩),
    (18, ⟨(some 75), (some (70, false)), .slS 1 (.t 72) none (some (.t 74))⟩),
    (19, ⟨(some 76), (some (70, false)), .call 35 [(.t 71), (.t 75)] none false⟩),
    (20, ⟨(some 77), (some (70, false)), .un .not (.t 76)⟩),
    (21, ⟨(some 78), none, .pick (.t 70) (.k (.d (.val (.bool true)))) (.t 77)⟩)] (some [1, 9, 11, 78])) (.cond (.t 78) (.seq (.ops 1 [
    (0, ⟨(some 8), none, .mv (.k (.d (.val (.bool false))))⟩)] (some [8])) .ret) .skip)) (.seq (.seq (.ops 6 [
    (0, ⟨(some 79), none, .mv (.t 11)⟩),
    (1, ⟨(some 80), none, .mv (.t 9)⟩),
    (2, ⟨(some 81), none, .lenS (.t 80)⟩),
    (3, ⟨(some 82), none, .slS 1 (.t 79) (some (.t 81)) none⟩),
    (4, ⟨(some 83), none, .lenS (.t 82)⟩),
    (5, ⟨(some 84), none, .mv (.k (.d (.val (.int .i64 0))))⟩)] (some [1, 82, 83, 84])) (.block 0 (.loop (.seq (.ops 1 [
    (0, ⟨(some 85), none, .arith .lss (.t 84) (.t 83)⟩)] (some [1, 82, 83, 84, 85])) (.seq (.cond (.t 85) .skip (.exit 0)) (.seq (.block 1 (.seq (.ops 3 [
    (0, ⟨(some 86), none, .idxS 1 (.t 82) (.t 84)⟩),
    (1, ⟨(some 87), none, .load none (.t 86)⟩),
    (2, ⟨(some 14), none, .mv (.t 87)⟩)] (some [1, 14, 82, 83, 84])) (.seq (.ops 4 [
    (0, ⟨(some 88), none, .mv (.t 14)⟩),
    (1, ⟨(some 89), none, .mv (.t 1)⟩),
    (2, ⟨(some 90), none, .lenT (.t 89)⟩),
    (3, ⟨(some 91), none, .arith .leq (.t 88) (.t 90)⟩)] (some [1, 82, 83, 84, 91])) (.cond (.t 91) (.seq (.ops 1 [
    (0, ⟨(some 8), none, .mv (.k (.d (.val (.bool false))))⟩)] (some [8])) .ret) .skip)))) (.ops 2 [
    (0, ⟨(some 92), none, .arith .add (.t 84) (.k (.d (.val (.int .i64 1))))⟩),
    (1, ⟨(some 84), none, .mv (.t 92)⟩)] (some [1, 82, 83, 84])))))))) (.seq (.ops 1 [
    (0, ⟨(some 8), none, .mv (.k (.d (.val (.bool true))))⟩)] (some [8])) .ret)))))))
def md7 : FuncId → Option Nat × Bool
  | _ => (none, false)
def od7 : Nat → List (List Nat) × List Nat × Option (List Nat)
  | 0 => ([], [], some [1, 2, 3, 4])
  | 1 => ([], [], some [1, 2, 3, 4, 39])
  | 2 => ([], [], some [8])
  | 3 => ([], [], some [1, 2, 3, 4, 9, 10])
  | 4 => ([], [], some [1, 9, 10, 11, 12])
  | 5 => ([], [], some [1, 9, 11, 78])
  | 6 => ([], [], some [8])
  | 7 => ([], [], some [1, 82, 83, 84])
  | 8 => ([], [], some [1, 82, 83, 84, 85])
  | 9 => ([], [], some [1, 14, 82, 83, 84])
  | 10 => ([], [], some [1, 82, 83, 84, 91])
  | 11 => ([], [], some [8])
  | 12 => ([], [], some [1, 82, 83, 84])
  | 13 => ([], [], some [8])
  | _ => ([], [], none)
theorem b7 {ags : List AV} {row : Option (List DV)} {r : AV} {row' nw : Option (List DV)} (hal : ags.length ≤ 93) (hrow : row'.isSome = true → row.isSome = true) (h : xwp Try.prog x7 (retK [.tmp 8] row.isSome r row' nw) (St.init ags row)) : Good Try.prog 7 ags row r row' nw :=
  good_of_body' (md := md7) (od := od7) Try.f7 (by kernel_rfl) (by kernel_rfl) (by kernel_rfl) (by kernel_rfl) (by kernel_rfl) hal hrow h

section
variable {P : Program} {Q : Cont} {fr : Fr} {C : Heap} {Z Z' : Frz} {nx : Nat} {base n d : Nat} {l : List (Nat × XO)} {kp : Option (List Nat)} {x i y s : X}
theorem r_addS {a b : ByteArray} (hx : x.ev fr = .d (.val (.string a))) (hy : y.ev fr = .d (.val (.string b))) (h : a.size + b.size ≤ 9223372036854775807) (k : R P l base kp Q nx (fr.put d (.d (.val (.string (a ++ b))))) C Z) : R P ((n, ⟨some d, none, .arith .add x y⟩) :: l) base kp Q nx fr C Z := by
  refine r_p ?_ k
  have h' : ((a.size + b.size : Nat) : Int) ≤ 9223372036854775807 := by omega
  simp only [xp, hx, hy, arith, h', if_true, Option.map_some]
theorem r_slI {L : List Int} {e : Int} {m k0 : Nat} (hx : x.ev fr = .d (.sl (encI L) k0)) (hi : i.ev fr = .i e) (hm : e = (m : Nat)) (hk : L.length = k0) (hle : m ≤ k0) (k : R P l base kp Q nx (fr.put d (.d (.sl (encI (L.take m)) m))) C Z) : R P ((n, ⟨some d, none, .slS 1 x none (some i)⟩) :: l) base kp Q nx fr C Z := by
  subst hm hk
  refine r_p ?_ k
  have h1 : (encI L).length = L.length * 1 := by rw [encI_len]; omega
  simp only [xp, hx, h1, hiOf, loOf, hi, intUpto]
  rw [if_pos (by simp), if_pos (by omega)]
  simp only [Int.toNat_natCast, Option.bind_some, Option.map_some, Nat.zero_mul, List.drop_zero, Nat.sub_zero, Nat.mul_one]
  split
  · rename_i e; subst e; simp [encI]
  · simp [encI, List.map_take]
theorem r_slIlo {L : List Int} {e : Int} {m k0 k1 : Nat} (hx : x.ev fr = .d (.sl (encI L) k0)) (hi : i.ev fr = .i e) (hm : e = (m : Nat)) (hk : L.length = k0) (hle : m ≤ k0) (h1 : k0 - m = k1) (k : R P l base kp Q nx (fr.put d (.d (.sl (encI (L.drop m)) k1))) C Z) : R P ((n, ⟨some d, none, .slS 1 x (some i) none⟩) :: l) base kp Q nx fr C Z := by
  subst hm hk h1
  refine r_p ?_ k
  have h1 : (encI L).length = L.length * 1 := by rw [encI_len]; omega
  simp only [xp, hx, h1, hiOf, loOf, hi, intUpto]
  rw [if_pos (by simp), Option.bind_some, if_pos (by omega)]
  simp only [Int.toNat_natCast, Option.map_some, Nat.mul_one]
  split
  · rename_i e; rw [← e]; simp [encI]
  · simp only [encI, List.map_drop]
    rw [List.take_of_length_le (by simp)]
end
theorem idxTo_more (q : List Bool) (m : Nat) : ∀ k, ∃ r, idxTo q (m + k) = idxTo q m ++ r ∧ ∀ x ∈ r, (m : Int) ≤ x
  | 0 => ⟨[], by simp, by simp⟩
  | k + 1 => by
    obtain ⟨r, h1, h2⟩ := idxTo_more q m k
    rw [← Nat.add_assoc, idxTo]
    split
    · refine ⟨r ++ [((m + k : Nat) : Int)], by rw [h1, List.append_assoc], fun x hx => ?_⟩
      rcases List.mem_append.1 hx with hx | hx
      · exact h2 x hx
      · simp at hx; omega
    · exact ⟨r, h1, h2⟩
theorem idxTo_congr {q q' : List Bool} : ∀ (m : Nat), (∀ i, i < m → (At q i ↔ At q' i)) → idxTo q m = idxTo q' m
  | 0, _ => rfl
  | m + 1, h => by
    have ih := idxTo_congr m fun i hi => h i (by omega)
    have hm := h m (by omega)
    unfold At at hm
    simp only [idxTo, ih]
    by_cases h1 : q.getD m false = true
    · rw [if_pos h1, if_pos (hm.1 h1)]
    · rw [if_neg h1, if_neg (fun h2 => h1 (hm.2 h2))]
theorem byteN_app (s m : ByteArray) (i : Nat) (h : i < s.size) : byteN (s ++ m) i = byteN s i := by
  have e : (s ++ m).data = s.data ++ m.data := by simp
  have h' : i < s.data.size := h
  simp only [byteN, e, Array.getD_eq_getD_getElem?]
  rw [Array.getElem?_append_left h']
theorem size_app (s m : ByteArray) : (s ++ m).size = s.size + m.size := ByteArray.size_append
theorem word_more (s m : ByteArray) (i j : Nat) (h : j ≤ s.size) : word (s ++ m) i j = word s i j := by
  unfold word
  refine List.map_congr_left fun k hk => ?_
  have := List.mem_range'.1 hk
  obtain ⟨a, h1, h2⟩ := this
  exact byteN_app s m k (by omega)
theorem at_ends (s : ByteArray) (t : T) (hok : okT t) (j : Nat) (hj : j ≤ s.size) (k : Nat) : At (stepG s t ((List.replicate (s.size + 1) false).set j true)) k ↔ j ≤ k ∧ k ≤ s.size ∧ L t (word s j k) := by
  have hl : ((List.replicate (s.size + 1) false).set j true).length = s.size + 1 := by simp
  rw [(stepG_goes s t hok _ hl).2 k]
  constructor
  · rintro ⟨i, h1, h2, h3, h4⟩
    rw [at_set i (by simp; omega)] at h2
    rcases h2 with ⟨rfl, _⟩ | ⟨_, h⟩
    · exact ⟨h1, h3, h4⟩
    · exact absurd h (at_rep _ _)
  · rintro ⟨h1, h2, h3⟩
    exact ⟨j, h1, (at_set j (by simp; omega)).2 (.inl ⟨rfl, rfl⟩), h2, h3⟩
theorem allG_eq {s : ByteArray} {t : T} (hf : fitsT t 12 = true) {j : Nat} (hj : j ≤ s.size) : allG s t j = idxTo (stepG s t ((List.replicate (s.size + 1) false).set j true)) (s.size + 1) := by
  have : 0 ≤ ((j : Nat) : Int) ∧ ((j : Nat) : Int) ≤ s.size := by omega
  simp only [allG, hf, this, and_self, if_true, Int.toNat_natCast]
theorem longer (s m : ByteArray) (t : T) (hf : fitsT t 12 = true) (hok : okT t) (j : Nat) (hj : j ≤ s.size) : ∃ r, allG (s ++ m) t j = allG s t j ++ r ∧ ∀ x ∈ r, ((s.size : Nat) : Int) < x := by
  rw [allG_eq hf hj, allG_eq (s := s ++ m) hf (by rw [size_app]; omega)]
  obtain ⟨r, h1, h2⟩ := idxTo_more (stepG (s ++ m) t ((List.replicate ((s ++ m).size + 1) false).set j true)) (s.size + 1) m.size
  refine ⟨r, ?_, fun x hx => by have := h2 x hx; omega⟩
  have e1 : s.size + 1 + m.size = (s ++ m).size + 1 := by rw [size_app]; omega
  rw [e1] at h1
  rw [h1]
  congr 1
  refine idxTo_congr _ fun i hi => ?_
  rw [at_ends (s ++ m) t hok j (by rw [size_app]; omega) i, at_ends s t hok j hj i]
  rw [size_app, word_more s m j i (by omega)]
  constructor
  · rintro ⟨a, _, c⟩; exact ⟨a, by omega, c⟩
  · rintro ⟨a, b, c⟩; exact ⟨a, by omega, c⟩
set_option maxRecDepth 100000
set_option maxHeartbeats 4000000
attribute [local irreducible] W E R KP thenK blockK retK Good xwp aRun
theorem law7 (t : T) (s m : ByteArray) (n : Int) (ht : inT t) (hs : s.size ≤ 140737488355328) (hm : m.size ≤ 140737488355328) (hn : inW n) : Good Try.prog 7 [nodeA t, .d (.val (.string s)), .d (.val (.string m)), .i n] none (.b true) none none := by
  have haw := awake11_good
  have hsz := size_app s m
  have h30 := few30_good (s ++ m) (by omega) t ht
  unfold inW at hn
  by_cases hf : few11 (s ++ m) t = true
  case neg =>
    have hf : few11 (s ++ m) t = false := by simpa using hf
    rw [hf] at h30
    clear ht hf
    obtain ⟨k, a, b, c, d, mn, mx, subs⟩ := t
    have e0 : nodeA (.node k a b c d mn mx subs) = .agg [.i k, .d (.val (.int .u64 a)), .d (.val (.int .u64 b)), .d (.val (.int .u64 c)), .d (.val (.int .u64 d)), .i mn, .i mx, .d (.sl (encL subs) subs.length)] := rfl
    rw [e0] at h30 ⊢
    refine b7 (by simp) (by simp) (w_init ?_)
    unfold x7
    repeat' (first
    | (apply r_mvV; rfl)
    | (apply r_mvP; rfl)
    | (apply r_mvPL; rfl)
    | (apply r_mvS; rfl)
    | (apply r_mvSL; rfl)
    | (apply r_mvA; rfl)
    | (apply r_mvT; rfl)
    | (apply r_mvF; rfl)
    | (apply r_mvD; rfl)
    | (apply r_ldL; rfl; rfl; rfl)
    | (apply r_l; apply ld_kind; assumption; rfl)
    | (apply r_l; apply ld_mn; assumption; rfl)
    | (apply r_l; apply ld_mx; assumption; rfl)
    | (apply r_l; apply ld_subs; assumption; rfl)
    | (apply r_l; apply ld_set; assumption; rfl)
    | (apply r_l; apply ld_node; assumption; rfl)
    | (apply r_l; apply ld_kind'; assumption; rfl)
    | (apply r_l; apply ld_mn'; assumption; rfl)
    | (apply r_l; apply ld_mx'; assumption; rfl)
    | (apply r_l; apply ld_subs'; assumption; rfl)
    | (apply r_l; apply ld_node'; assumption; rfl)
    | (apply r_callA; rfl; rfl; exact haw)
    | (apply r_callA; rfl; rfl; exact h30)
    | (apply r_addS; rfl; rfl; omega)
    | (apply r_neq; rfl; rfl; (first | (apply decide_eq_true; omega) | (apply decide_eq_false; omega) | rfl))
    | (apply r_lss; rfl; rfl; (first | (apply decide_eq_true; omega) | (apply decide_eq_false; omega) | rfl))
    | (apply r_leq; rfl; rfl; (first | (apply decide_eq_true; omega) | (apply decide_eq_false; omega) | rfl))
    | (apply r_gtr; rfl; rfl; (first | (apply decide_eq_true; omega) | (apply decide_eq_false; omega) | rfl))
    | (apply r_add; rfl; rfl; rfl; omega)
    | (apply r_not; rfl; rfl)
    | (apply r_pickT; rfl)
    | (apply r_pickF; rfl)
    | (apply r_lenD; rfl)
    | (apply r_lenL; rfl)
    | (apply r_len0; rfl)
    | (apply r_lenT; rfl)
    | (apply r_ext; rfl; rfl)
    | (apply r_gT; rfl)
    | (apply r_gF'; rfl; rfl)
    | (apply r_gN'; rfl)
    | ((apply r_gS (o := default); rfl) <;> (intro h; try simp only [decide_eq_true_eq, decide_eq_false_iff_not, Bool.not_eq_true, Bool.not_eq_false] at h))
    | (apply r_box; ((conv => lhs; simp only [Nat.reduceAdd]) <;> rfl); rfl; rfl; rfl)
    | (apply r_p; rfl)
    | (apply r_nilK)
    | (apply r_nil)
    | (apply k_V; rfl)
    | (apply k_P; rfl)
    | (apply k_PL; rfl)
    | (apply k_S; rfl)
    | (apply k_SL; rfl)
    | (apply k_A; rfl)
    | (apply k_T; rfl)
    | (apply k_F; rfl)
    | (apply k_D; rfl; rotate_left; rfl)
    | (apply k_nil)
    | (apply e_ret (vs := [.d (.val _)]); rfl)
    | (apply e_ret; rfl)
    | (apply e_ret' (vs := [.d (.val _)]); rfl)
    | (apply e_ret'; rfl)
    | (apply w_seq)
    | (apply w_ops; ((conv => lhs; simp only [Nat.reduceAdd]) <;> rfl))
    | (apply w_condT; rfl)
    | (apply w_condF; rfl)
    | ((apply w_condS; rfl) <;> (intro h; try simp only [decide_eq_true_eq, decide_eq_false_iff_not, Bool.not_eq_true, Bool.not_eq_false] at h))
    | (apply e_thenN)
    | (apply w_block)
    | (apply e_thenR)
    | (apply e_thenX)
    | (apply e_blkN)
    | (apply e_blkR)
    | (apply e_blkE)
    | (apply w_exit)
    | (apply w_ret)
    | (apply w_skip)
    | (apply e_blkE'; rfl))
    exact retB rfl
  rw [hf] at h30
  simp only [few11, Bool.and_eq_true, decide_eq_true_eq] at hf
  obtain ⟨hf1, hf2, _⟩ := hf
  have hc := few_cnt hf1
  have h32 := right8_good t (by omega)
  by_cases hr : rightT t = true
  case neg =>
    have hr : rightT t = false := by simpa using hr
    rw [hr] at h32
    clear ht hr
    obtain ⟨k, a, b, c, d, mn, mx, subs⟩ := t
    have e0 : nodeA (.node k a b c d mn mx subs) = .agg [.i k, .d (.val (.int .u64 a)), .d (.val (.int .u64 b)), .d (.val (.int .u64 c)), .d (.val (.int .u64 d)), .i mn, .i mx, .d (.sl (encL subs) subs.length)] := rfl
    rw [e0] at h30 h32 ⊢
    refine b7 (by simp) (by simp) (w_init ?_)
    unfold x7
    repeat' (first
    | (apply r_mvV; rfl)
    | (apply r_mvP; rfl)
    | (apply r_mvPL; rfl)
    | (apply r_mvS; rfl)
    | (apply r_mvSL; rfl)
    | (apply r_mvA; rfl)
    | (apply r_mvT; rfl)
    | (apply r_mvF; rfl)
    | (apply r_mvD; rfl)
    | (apply r_ldL; rfl; rfl; rfl)
    | (apply r_l; apply ld_kind; assumption; rfl)
    | (apply r_l; apply ld_mn; assumption; rfl)
    | (apply r_l; apply ld_mx; assumption; rfl)
    | (apply r_l; apply ld_subs; assumption; rfl)
    | (apply r_l; apply ld_set; assumption; rfl)
    | (apply r_l; apply ld_node; assumption; rfl)
    | (apply r_l; apply ld_kind'; assumption; rfl)
    | (apply r_l; apply ld_mn'; assumption; rfl)
    | (apply r_l; apply ld_mx'; assumption; rfl)
    | (apply r_l; apply ld_subs'; assumption; rfl)
    | (apply r_l; apply ld_node'; assumption; rfl)
    | (apply r_callA; rfl; rfl; exact haw)
    | (apply r_callA; rfl; rfl; exact h30)
    | (apply r_callA; rfl; rfl; exact h32)
    | (apply r_addS; rfl; rfl; omega)
    | (apply r_neq; rfl; rfl; (first | (apply decide_eq_true; omega) | (apply decide_eq_false; omega) | rfl))
    | (apply r_lss; rfl; rfl; (first | (apply decide_eq_true; omega) | (apply decide_eq_false; omega) | rfl))
    | (apply r_leq; rfl; rfl; (first | (apply decide_eq_true; omega) | (apply decide_eq_false; omega) | rfl))
    | (apply r_gtr; rfl; rfl; (first | (apply decide_eq_true; omega) | (apply decide_eq_false; omega) | rfl))
    | (apply r_add; rfl; rfl; rfl; omega)
    | (apply r_not; rfl; rfl)
    | (apply r_pickT; rfl)
    | (apply r_pickF; rfl)
    | (apply r_lenD; rfl)
    | (apply r_lenL; rfl)
    | (apply r_len0; rfl)
    | (apply r_lenT; rfl)
    | (apply r_ext; rfl; rfl)
    | (apply r_gT; rfl)
    | (apply r_gF'; rfl; rfl)
    | (apply r_gN'; rfl)
    | ((apply r_gS (o := default); rfl) <;> (intro h; try simp only [decide_eq_true_eq, decide_eq_false_iff_not, Bool.not_eq_true, Bool.not_eq_false] at h))
    | (apply r_box; ((conv => lhs; simp only [Nat.reduceAdd]) <;> rfl); rfl; rfl; rfl)
    | (apply r_p; rfl)
    | (apply r_nilK)
    | (apply r_nil)
    | (apply k_V; rfl)
    | (apply k_P; rfl)
    | (apply k_PL; rfl)
    | (apply k_S; rfl)
    | (apply k_SL; rfl)
    | (apply k_A; rfl)
    | (apply k_T; rfl)
    | (apply k_F; rfl)
    | (apply k_D; rfl; rotate_left; rfl)
    | (apply k_nil)
    | (apply e_ret (vs := [.d (.val _)]); rfl)
    | (apply e_ret; rfl)
    | (apply e_ret' (vs := [.d (.val _)]); rfl)
    | (apply e_ret'; rfl)
    | (apply w_seq)
    | (apply w_ops; ((conv => lhs; simp only [Nat.reduceAdd]) <;> rfl))
    | (apply w_condT; rfl)
    | (apply w_condF; rfl)
    | ((apply w_condS; rfl) <;> (intro h; try simp only [decide_eq_true_eq, decide_eq_false_iff_not, Bool.not_eq_true, Bool.not_eq_false] at h))
    | (apply e_thenN)
    | (apply w_block)
    | (apply e_thenR)
    | (apply e_thenX)
    | (apply e_blkN)
    | (apply e_blkR)
    | (apply e_blkE)
    | (apply w_exit)
    | (apply w_ret)
    | (apply w_skip)
    | (apply e_blkE'; rfl))
    exact retB rfl
  have hfi : fitsT t 12 = true := by rw [← right_fits]; exact hr
  have hok : okT t := ok_of_right ht hr
  rw [hr] at h32
  by_cases hfr : 0 ≤ n ∧ n ≤ s.size
  case neg =>
    clear ht hr hfi hok
    obtain ⟨k, a, b, c, d, mn, mx, subs⟩ := t
    have e0 : nodeA (.node k a b c d mn mx subs) = .agg [.i k, .d (.val (.int .u64 a)), .d (.val (.int .u64 b)), .d (.val (.int .u64 c)), .d (.val (.int .u64 d)), .i mn, .i mx, .d (.sl (encL subs) subs.length)] := rfl
    rw [e0] at h30 h32 ⊢
    refine b7 (by simp) (by simp) (w_init ?_)
    unfold x7
    by_cases hneg : n < 0
    · repeat' (first
    | (apply r_mvV; rfl)
    | (apply r_mvP; rfl)
    | (apply r_mvPL; rfl)
    | (apply r_mvS; rfl)
    | (apply r_mvSL; rfl)
    | (apply r_mvA; rfl)
    | (apply r_mvT; rfl)
    | (apply r_mvF; rfl)
    | (apply r_mvD; rfl)
    | (apply r_ldL; rfl; rfl; rfl)
    | (apply r_l; apply ld_kind; assumption; rfl)
    | (apply r_l; apply ld_mn; assumption; rfl)
    | (apply r_l; apply ld_mx; assumption; rfl)
    | (apply r_l; apply ld_subs; assumption; rfl)
    | (apply r_l; apply ld_set; assumption; rfl)
    | (apply r_l; apply ld_node; assumption; rfl)
    | (apply r_l; apply ld_kind'; assumption; rfl)
    | (apply r_l; apply ld_mn'; assumption; rfl)
    | (apply r_l; apply ld_mx'; assumption; rfl)
    | (apply r_l; apply ld_subs'; assumption; rfl)
    | (apply r_l; apply ld_node'; assumption; rfl)
    | (apply r_callA; rfl; rfl; exact haw)
    | (apply r_callA; rfl; rfl; exact h30)
    | (apply r_callA; rfl; rfl; exact h32)
    | (apply r_addS; rfl; rfl; omega)
    | (apply r_neq; rfl; rfl; (first | (apply decide_eq_true; omega) | (apply decide_eq_false; omega) | rfl))
    | (apply r_lss; rfl; rfl; (first | (apply decide_eq_true; omega) | (apply decide_eq_false; omega) | rfl))
    | (apply r_leq; rfl; rfl; (first | (apply decide_eq_true; omega) | (apply decide_eq_false; omega) | rfl))
    | (apply r_gtr; rfl; rfl; (first | (apply decide_eq_true; omega) | (apply decide_eq_false; omega) | rfl))
    | (apply r_add; rfl; rfl; rfl; omega)
    | (apply r_not; rfl; rfl)
    | (apply r_pickT; rfl)
    | (apply r_pickF; rfl)
    | (apply r_lenD; rfl)
    | (apply r_lenL; rfl)
    | (apply r_len0; rfl)
    | (apply r_lenT; rfl)
    | (apply r_ext; rfl; rfl)
    | (apply r_gT; rfl)
    | (apply r_gF'; rfl; rfl)
    | (apply r_gN'; rfl)
    | ((apply r_gS (o := default); rfl) <;> (intro h; try simp only [decide_eq_true_eq, decide_eq_false_iff_not, Bool.not_eq_true, Bool.not_eq_false] at h))
    | (apply r_box; ((conv => lhs; simp only [Nat.reduceAdd]) <;> rfl); rfl; rfl; rfl)
    | (apply r_p; rfl)
    | (apply r_nilK)
    | (apply r_nil)
    | (apply k_V; rfl)
    | (apply k_P; rfl)
    | (apply k_PL; rfl)
    | (apply k_S; rfl)
    | (apply k_SL; rfl)
    | (apply k_A; rfl)
    | (apply k_T; rfl)
    | (apply k_F; rfl)
    | (apply k_D; rfl; rotate_left; rfl)
    | (apply k_nil)
    | (apply e_ret (vs := [.d (.val _)]); rfl)
    | (apply e_ret; rfl)
    | (apply e_ret' (vs := [.d (.val _)]); rfl)
    | (apply e_ret'; rfl)
    | (apply w_seq)
    | (apply w_ops; ((conv => lhs; simp only [Nat.reduceAdd]) <;> rfl))
    | (apply w_condT; rfl)
    | (apply w_condF; rfl)
    | ((apply w_condS; rfl) <;> (intro h; try simp only [decide_eq_true_eq, decide_eq_false_iff_not, Bool.not_eq_true, Bool.not_eq_false] at h))
    | (apply e_thenN)
    | (apply w_block)
    | (apply e_thenR)
    | (apply e_thenX)
    | (apply e_blkN)
    | (apply e_blkR)
    | (apply e_blkE)
    | (apply w_exit)
    | (apply w_ret)
    | (apply w_skip)
    | (apply e_blkE'; rfl))
      exact retB rfl
    · repeat' (first
    | (apply r_mvV; rfl)
    | (apply r_mvP; rfl)
    | (apply r_mvPL; rfl)
    | (apply r_mvS; rfl)
    | (apply r_mvSL; rfl)
    | (apply r_mvA; rfl)
    | (apply r_mvT; rfl)
    | (apply r_mvF; rfl)
    | (apply r_mvD; rfl)
    | (apply r_ldL; rfl; rfl; rfl)
    | (apply r_l; apply ld_kind; assumption; rfl)
    | (apply r_l; apply ld_mn; assumption; rfl)
    | (apply r_l; apply ld_mx; assumption; rfl)
    | (apply r_l; apply ld_subs; assumption; rfl)
    | (apply r_l; apply ld_set; assumption; rfl)
    | (apply r_l; apply ld_node; assumption; rfl)
    | (apply r_l; apply ld_kind'; assumption; rfl)
    | (apply r_l; apply ld_mn'; assumption; rfl)
    | (apply r_l; apply ld_mx'; assumption; rfl)
    | (apply r_l; apply ld_subs'; assumption; rfl)
    | (apply r_l; apply ld_node'; assumption; rfl)
    | (apply r_callA; rfl; rfl; exact haw)
    | (apply r_callA; rfl; rfl; exact h30)
    | (apply r_callA; rfl; rfl; exact h32)
    | (apply r_addS; rfl; rfl; omega)
    | (apply r_neq; rfl; rfl; (first | (apply decide_eq_true; omega) | (apply decide_eq_false; omega) | rfl))
    | (apply r_lss; rfl; rfl; (first | (apply decide_eq_true; omega) | (apply decide_eq_false; omega) | rfl))
    | (apply r_leq; rfl; rfl; (first | (apply decide_eq_true; omega) | (apply decide_eq_false; omega) | rfl))
    | (apply r_gtr; rfl; rfl; (first | (apply decide_eq_true; omega) | (apply decide_eq_false; omega) | rfl))
    | (apply r_add; rfl; rfl; rfl; omega)
    | (apply r_not; rfl; rfl)
    | (apply r_pickT; rfl)
    | (apply r_pickF; rfl)
    | (apply r_lenD; rfl)
    | (apply r_lenL; rfl)
    | (apply r_len0; rfl)
    | (apply r_lenT; rfl)
    | (apply r_ext; rfl; rfl)
    | (apply r_gT; rfl)
    | (apply r_gF'; rfl; rfl)
    | (apply r_gN'; rfl)
    | ((apply r_gS (o := default); rfl) <;> (intro h; try simp only [decide_eq_true_eq, decide_eq_false_iff_not, Bool.not_eq_true, Bool.not_eq_false] at h))
    | (apply r_box; ((conv => lhs; simp only [Nat.reduceAdd]) <;> rfl); rfl; rfl; rfl)
    | (apply r_p; rfl)
    | (apply r_nilK)
    | (apply r_nil)
    | (apply k_V; rfl)
    | (apply k_P; rfl)
    | (apply k_PL; rfl)
    | (apply k_S; rfl)
    | (apply k_SL; rfl)
    | (apply k_A; rfl)
    | (apply k_T; rfl)
    | (apply k_F; rfl)
    | (apply k_D; rfl; rotate_left; rfl)
    | (apply k_nil)
    | (apply e_ret (vs := [.d (.val _)]); rfl)
    | (apply e_ret; rfl)
    | (apply e_ret' (vs := [.d (.val _)]); rfl)
    | (apply e_ret'; rfl)
    | (apply w_seq)
    | (apply w_ops; ((conv => lhs; simp only [Nat.reduceAdd]) <;> rfl))
    | (apply w_condT; rfl)
    | (apply w_condF; rfl)
    | ((apply w_condS; rfl) <;> (intro h; try simp only [decide_eq_true_eq, decide_eq_false_iff_not, Bool.not_eq_true, Bool.not_eq_false] at h))
    | (apply e_thenN)
    | (apply w_block)
    | (apply e_thenR)
    | (apply e_thenX)
    | (apply e_blkN)
    | (apply e_blkR)
    | (apply e_blkE)
    | (apply w_exit)
    | (apply w_ret)
    | (apply w_skip)
    | (apply e_blkE'; rfl))
      exact retB rfl
  obtain ⟨j, rfl⟩ := Int.eq_ofNat_of_zero_le hfr.1
  have hj : j ≤ s.size := by omega
  have h31 := all_good s (by omega) t (by omega) (fun _ => hok) j
  have h31' := all_good (s ++ m) (by omega) t (by omega) (fun _ => hok) j
  have he : allE s t (j : Nat) = 0 := by simp only [allE, hfi, hfr, and_self, if_true]
  have he' : allE (s ++ m) t (j : Nat) = 0 := by
    have : 0 ≤ ((j : Nat) : Int) ∧ ((j : Nat) : Int) ≤ (s ++ m).size := by omega
    simp only [allE, hfi, this, and_self, if_true]
  obtain ⟨r, hl1, hl2⟩ := longer s m t hfi hok j hj
  have hL : (allG s t j).length ≤ 1000001 := by rw [allG_eq hfi hj]; exact Nat.le_trans (idxTo_len _ _) (by omega)
  have hL2 : (allG (s ++ m) t j).length ≤ 1000001 := by rw [allG_eq hfi (by omega)]; exact Nat.le_trans (idxTo_len _ _) (by omega)
  rw [he] at h31
  rw [he'] at h31'
  rw [hl1] at h31' hL2
  generalize allG s t j = LL at h31 h31' hL hL2
  have h35 := same_good LL LL hL
  rw [show decide (LL = LL) = true by simp] at h35
  have htk : (LL ++ r).take LL.length = LL := by simp
  have hdr : (LL ++ r).drop LL.length = r := by simp
  have hlen2 : (LL ++ r).length = LL.length + r.length := by simp
  clear ht hr hfi hok he he' hl1
  obtain ⟨k, a, b, c, d, mn, mx, subs⟩ := t
  have e0 : nodeA (.node k a b c d mn mx subs) = .agg [.i k, .d (.val (.int .u64 a)), .d (.val (.int .u64 b)), .d (.val (.int .u64 c)), .d (.val (.int .u64 d)), .i mn, .i mx, .d (.sl (encL subs) subs.length)] := rfl
  rw [e0] at h30 h31 h31' h32 ⊢
  refine b7 (by simp) (by simp) (w_init ?_)
  unfold x7
  repeat' (first
    | (apply r_mvV; rfl)
    | (apply r_mvP; rfl)
    | (apply r_mvPL; rfl)
    | (apply r_mvS; rfl)
    | (apply r_mvSL; rfl)
    | (apply r_mvA; rfl)
    | (apply r_mvT; rfl)
    | (apply r_mvF; rfl)
    | (apply r_mvD; rfl)
    | (apply r_ldL; rfl; rfl; rfl)
    | (apply r_l; apply ld_kind; assumption; rfl)
    | (apply r_l; apply ld_mn; assumption; rfl)
    | (apply r_l; apply ld_mx; assumption; rfl)
    | (apply r_l; apply ld_subs; assumption; rfl)
    | (apply r_l; apply ld_set; assumption; rfl)
    | (apply r_l; apply ld_node; assumption; rfl)
    | (apply r_l; apply ld_kind'; assumption; rfl)
    | (apply r_l; apply ld_mn'; assumption; rfl)
    | (apply r_l; apply ld_mx'; assumption; rfl)
    | (apply r_l; apply ld_subs'; assumption; rfl)
    | (apply r_l; apply ld_node'; assumption; rfl)
    | (apply r_callA; rfl; rfl; exact haw)
    | (apply r_callA; rfl; rfl; exact h30)
    | (apply r_callA; rfl; rfl; exact h31)
    | (apply r_callA; rfl; rfl; exact h31')
    | (apply r_callA; rfl; rfl; exact h32)
    | (apply r_addS; rfl; rfl; omega)
    | (apply r_slI (m := LL.length); rfl; rfl; rfl; rfl; omega; rw [htk])
    | (apply r_callA; rfl; rfl; exact h35)
    | (apply r_slIlo (m := LL.length) (k1 := r.length); rfl; rfl; rfl; rfl; omega; omega; rw [hdr])
    | (apply r_neq; rfl; rfl; (first | (apply decide_eq_true; omega) | (apply decide_eq_false; omega) | rfl))
    | (apply r_lss; rfl; rfl; (first | (apply decide_eq_true; omega) | (apply decide_eq_false; omega) | rfl))
    | (apply r_leq; rfl; rfl; (first | (apply decide_eq_true; omega) | (apply decide_eq_false; omega) | rfl))
    | (apply r_gtr; rfl; rfl; (first | (apply decide_eq_true; omega) | (apply decide_eq_false; omega) | rfl))
    | (apply r_add; rfl; rfl; rfl; omega)
    | (apply r_not; rfl; rfl)
    | (apply r_pickT; rfl)
    | (apply r_pickF; rfl)
    | (apply r_lenD; rfl)
    | (apply r_lenL; rfl)
    | (apply r_len0; rfl)
    | (apply r_lenT; rfl)
    | (apply r_ext; rfl; rfl)
    | (apply r_gT; rfl)
    | (apply r_gF'; rfl; rfl)
    | (apply r_gN'; rfl)
    | ((apply r_gS (o := default); rfl) <;> (intro h; try simp only [decide_eq_true_eq, decide_eq_false_iff_not, Bool.not_eq_true, Bool.not_eq_false] at h))
    | (apply r_box; ((conv => lhs; simp only [Nat.reduceAdd]) <;> rfl); rfl; rfl; rfl)
    | (apply r_p; rfl)
    | (apply r_nilK)
    | (apply r_nil)
    | (apply k_V; rfl)
    | (apply k_P; rfl)
    | (apply k_PL; rfl)
    | (apply k_S; rfl)
    | (apply k_SL; rfl)
    | (apply k_A; rfl)
    | (apply k_T; rfl)
    | (apply k_F; rfl)
    | (apply k_D; rfl; rotate_left; rfl)
    | (apply k_nil)
    | (apply e_ret (vs := [.d (.val _)]); rfl)
    | (apply e_ret; rfl)
    | (apply e_ret' (vs := [.d (.val _)]); rfl)
    | (apply e_ret'; rfl)
    | (apply w_seq)
    | (apply w_ops; ((conv => lhs; simp only [Nat.reduceAdd]) <;> rfl))
    | (apply w_condT; rfl)
    | (apply w_condF; rfl)
    | ((apply w_condS; rfl) <;> (intro h; try simp only [decide_eq_true_eq, decide_eq_false_iff_not, Bool.not_eq_true, Bool.not_eq_false] at h))
    | (apply e_thenN)
    | (apply w_block)
    | (apply e_thenR)
    | (apply e_thenX)
    | (apply e_blkN)
    | (apply e_blkR)
    | (apply e_blkE)
    | (apply w_exit)
    | (apply w_ret)
    | (apply w_skip)
    | (apply e_blkE'; rfl))
  apply w_loopI (S := fun i : Nat => ⟨(((Fr.nil.put 1 (.d (.val (.string s)))).put 82 (.d (.sl (encI r) r.length))).put 83 (.i r.length)).put 84 (.i i), Heap.nil, Frz.lo 200, 200⟩) (m := fun i => r.length - i) (I := fun i => i ≤ r.length) (i0 := 0)
  · exact Nat.zero_le _
  · refine wk0 (by omega) ?_
    repeat' (first
    | exact FWk.nil
    | (apply FWk.i; rfl; (first | rfl | omega | (simp; done)))
    | (apply FWk.sl; rfl; rfl; rfl; rfl; omega; rfl)
    | (apply FWk.ptr; rfl; rfl; rfl; omega; rfl)
    | (apply FWk.d; rfl; rfl)
    | (apply FWk.a; rfl; rfl; rfl)
    | (apply FWk.slN; rfl; omega; rfl))
  intro i K hi hK
  dsimp only
  rcases Nat.lt_or_ge i r.length with hlt | hge
  · have hg := List.getElem?_eq_getElem hlt
    have hgt := hl2 _ (List.getElem_mem hlt)
    repeat' (first
    | (apply r_mvV; rfl)
    | (apply r_mvP; rfl)
    | (apply r_mvPL; rfl)
    | (apply r_mvS; rfl)
    | (apply r_mvSL; rfl)
    | (apply r_mvA; rfl)
    | (apply r_mvT; rfl)
    | (apply r_mvF; rfl)
    | (apply r_mvD; rfl)
    | (apply r_ldL; rfl; rfl; rfl)
    | (apply r_ixI (j := i); rfl; rfl; rfl; rfl; omega)
    | (apply r_ldI; rfl; exact hg)
    | (apply r_neq; rfl; rfl; (first | (apply decide_eq_true; omega) | (apply decide_eq_false; omega) | rfl))
    | (apply r_lss; rfl; rfl; (first | (apply decide_eq_true; omega) | (apply decide_eq_false; omega) | rfl))
    | (apply r_leq; rfl; rfl; (first | (apply decide_eq_true; omega) | (apply decide_eq_false; omega) | rfl))
    | (apply r_gtr; rfl; rfl; (first | (apply decide_eq_true; omega) | (apply decide_eq_false; omega) | rfl))
    | (apply r_add; rfl; rfl; rfl; omega)
    | (apply r_not; rfl; rfl)
    | (apply r_pickT; rfl)
    | (apply r_pickF; rfl)
    | (apply r_lenD; rfl)
    | (apply r_lenL; rfl)
    | (apply r_len0; rfl)
    | (apply r_lenT; rfl)
    | (apply r_ext; rfl; rfl)
    | (apply r_gT; rfl)
    | (apply r_gF'; rfl; rfl)
    | (apply r_gN'; rfl)
    | ((apply r_gS (o := default); rfl) <;> (intro h; try simp only [decide_eq_true_eq, decide_eq_false_iff_not, Bool.not_eq_true, Bool.not_eq_false] at h))
    | (apply r_box; ((conv => lhs; simp only [Nat.reduceAdd]) <;> rfl); rfl; rfl; rfl)
    | (apply r_p; rfl)
    | (apply r_nilK)
    | (apply r_nil)
    | (apply k_V; rfl)
    | (apply k_P; rfl)
    | (apply k_PL; rfl)
    | (apply k_S; rfl)
    | (apply k_SL; rfl)
    | (apply k_A; rfl)
    | (apply k_T; rfl)
    | (apply k_F; rfl)
    | (apply k_D; rfl; rotate_left; rfl)
    | (apply k_nil)
    | (apply e_ret (vs := [.d (.val _)]); rfl)
    | (apply e_ret; rfl)
    | (apply e_ret' (vs := [.d (.val _)]); rfl)
    | (apply e_ret'; rfl)
    | (apply w_seq)
    | (apply w_ops; ((conv => lhs; simp only [Nat.reduceAdd]) <;> rfl))
    | (apply w_condT; rfl)
    | (apply w_condF; rfl)
    | ((apply w_condS; rfl) <;> (intro h; try simp only [decide_eq_true_eq, decide_eq_false_iff_not, Bool.not_eq_true, Bool.not_eq_false] at h))
    | (apply e_thenN)
    | (apply w_block)
    | (apply e_thenR)
    | (apply e_thenX)
    | (apply e_blkN)
    | (apply e_blkR)
    | (apply e_blkE)
    | (apply w_exit)
    | (apply w_ret)
    | (apply w_skip)
    | (apply e_blkE'; rfl))
    apply e_thenK
    apply hK (i + 1)
    · omega
    · omega
    · refine wk0 (by omega) ?_
      repeat' (first
    | exact FWk.nil
    | (apply FWk.i; rfl; (first | rfl | omega | (simp; done)))
    | (apply FWk.sl; rfl; rfl; rfl; rfl; omega; rfl)
    | (apply FWk.ptr; rfl; rfl; rfl; omega; rfl)
    | (apply FWk.d; rfl; rfl)
    | (apply FWk.a; rfl; rfl; rfl)
    | (apply FWk.slN; rfl; omega; rfl))
  · repeat' (first
    | (apply r_mvV; rfl)
    | (apply r_mvP; rfl)
    | (apply r_mvPL; rfl)
    | (apply r_mvS; rfl)
    | (apply r_mvSL; rfl)
    | (apply r_mvA; rfl)
    | (apply r_mvT; rfl)
    | (apply r_mvF; rfl)
    | (apply r_mvD; rfl)
    | (apply r_ldL; rfl; rfl; rfl)
    | (apply r_neq; rfl; rfl; (first | (apply decide_eq_true; omega) | (apply decide_eq_false; omega) | rfl))
    | (apply r_lss; rfl; rfl; (first | (apply decide_eq_true; omega) | (apply decide_eq_false; omega) | rfl))
    | (apply r_leq; rfl; rfl; (first | (apply decide_eq_true; omega) | (apply decide_eq_false; omega) | rfl))
    | (apply r_gtr; rfl; rfl; (first | (apply decide_eq_true; omega) | (apply decide_eq_false; omega) | rfl))
    | (apply r_add; rfl; rfl; rfl; omega)
    | (apply r_not; rfl; rfl)
    | (apply r_pickT; rfl)
    | (apply r_pickF; rfl)
    | (apply r_lenD; rfl)
    | (apply r_lenL; rfl)
    | (apply r_len0; rfl)
    | (apply r_lenT; rfl)
    | (apply r_ext; rfl; rfl)
    | (apply r_gT; rfl)
    | (apply r_gF'; rfl; rfl)
    | (apply r_gN'; rfl)
    | ((apply r_gS (o := default); rfl) <;> (intro h; try simp only [decide_eq_true_eq, decide_eq_false_iff_not, Bool.not_eq_true, Bool.not_eq_false] at h))
    | (apply r_box; ((conv => lhs; simp only [Nat.reduceAdd]) <;> rfl); rfl; rfl; rfl)
    | (apply r_p; rfl)
    | (apply r_nilK)
    | (apply r_nil)
    | (apply k_V; rfl)
    | (apply k_P; rfl)
    | (apply k_PL; rfl)
    | (apply k_S; rfl)
    | (apply k_SL; rfl)
    | (apply k_A; rfl)
    | (apply k_T; rfl)
    | (apply k_F; rfl)
    | (apply k_D; rfl; rotate_left; rfl)
    | (apply k_nil)
    | (apply e_ret (vs := [.d (.val _)]); rfl)
    | (apply e_ret; rfl)
    | (apply e_ret' (vs := [.d (.val _)]); rfl)
    | (apply e_ret'; rfl)
    | (apply w_seq)
    | (apply w_ops; ((conv => lhs; simp only [Nat.reduceAdd]) <;> rfl))
    | (apply w_condT; rfl)
    | (apply w_condF; rfl)
    | ((apply w_condS; rfl) <;> (intro h; try simp only [decide_eq_true_eq, decide_eq_false_iff_not, Bool.not_eq_true, Bool.not_eq_false] at h))
    | (apply e_thenN)
    | (apply w_block)
    | (apply e_thenR)
    | (apply e_thenX)
    | (apply e_blkN)
    | (apply e_blkR)
    | (apply e_blkE)
    | (apply w_exit)
    | (apply w_ret)
    | (apply w_skip)
    | (apply e_blkE'; rfl))
    exact retB rfl
end Go.Sv
namespace Go.Sv
open Go Go.Proofs
def x41 : XC := (.seq (.ops 1 [
    (0, ⟨(some 2), none, .mv (.k (.d (.val (.bool false))))⟩)] (some [0])) (.seq (.seq (.ops 1 [
    (0, ⟨(some 3), none, .mv (.k (.d (.val (.int .i64 0))))⟩)] (some [0, 3])) (.block 0 (.loop (.seq (.seq (.ops 4 [
    (0, ⟨(some 4), none, .mv (.t 3)⟩),
    (1, ⟨(some 5), none, .mv (.t 0)⟩),
    (2, ⟨(some 6), none, .lenS (.t 5)⟩),
    (3, ⟨(some 7), none, .arith .lss (.t 4) (.t 6)⟩)] (some [0, 3, 7])) (.cond (.t 7) .skip (.exit 0))) (.seq (.block 1 (.seq (.ops 16 [
    (0, ⟨(some 10), none, .mv (.t 0)⟩),
    (1, ⟨(some 11), none, .mv (.t 3)⟩),
    (2, ⟨(some 12), none, .idxS 9 (.t 10) (.t 11)⟩),
    (3, ⟨(some 13), none, .fadd 1 (.t 12)⟩),
    (4, ⟨(some 14), none, .load (some 8) (.t 13)⟩),
    (5, ⟨(some 15), none, .call 45 [(.t 14)] none false⟩),
    (6, ⟨(some 16), none, .un .not (.t 15)⟩),
    (7, ⟨(some 17), none, .mv (.t 16)⟩),
    (8, ⟨(some 18), (some (17, false)), .mv (.t 0)⟩),
    (9, ⟨(some 19), (some (17, false)), .mv (.t 3)⟩),
    (10, ⟨(some 20), (some (17, false)), .idxS 9 (.t 18) (.t 19)⟩),
    (11, ⟨(some 21), (some (17, false)), .fadd 0 (.t 20)⟩),
    (12, ⟨(some 22), (some (17, false)), .load none (.t 21)⟩),
    (13, ⟨(some 23), (some (17, false)), .lenT (.t 22)⟩),
    (14, ⟨(some 24), (some (17, false)), .arith .gtr (.t 23) (.k (.d (.val (.int .i64 300))))⟩),
    (15, ⟨(some 25), none, .pick (.t 17) (.k (.d (.val (.bool true)))) (.t 24)⟩)] (some [0, 3, 25])) (.cond (.t 25) (.seq (.ops 1 [
    (0, ⟨(some 2), none, .mv (.k (.d (.val (.bool false))))⟩)] (some [2])) .ret) .skip))) (.ops 3 [
    (0, ⟨(some 8), none, .mv (.t 3)⟩),
    (1, ⟨(some 9), none, .arith .add (.t 8) (.k (.d (.val (.int .i64 1))))⟩),
    (2, ⟨(some 3), none, .mv (.t 9)⟩)] (some [0, 3]))))))) (.seq (.ops 4 [
    (0, ⟨(some 26), none, .mv (.t 0)⟩),
    (1, ⟨(some 27), none, .lenS (.t 26)⟩),
    (2, ⟨(some 28), none, .arith .leq (.t 27) (.k (.d (.val (.int .i64 20))))⟩),
    (3, ⟨(some 2), none, .mv (.t 28)⟩)] (some [2])) .ret)))
def md41 : FuncId → Option Nat × Bool
  | _ => (none, false)
def od41 : Nat → List (List Nat) × List Nat × Option (List Nat)
  | 0 => ([], [], some [0])
  | 1 => ([], [], some [0, 3])
  | 2 => ([], [], some [0, 3, 7])
  | 3 => ([], [], some [0, 3])
  | 4 => ([], [], some [0, 3, 25])
  | 5 => ([], [], some [2])
  | 6 => ([], [], some [2])
  | _ => ([], [], none)
theorem b41 {ags : List AV} {row : Option (List DV)} {r : AV} {row' nw : Option (List DV)} (hal : ags.length ≤ 29) (hrow : row'.isSome = true → row.isSome = true) (h : xwp Try.prog x41 (retK [.tmp 2] row.isSome r row' nw) (St.init ags row)) : Good Try.prog 41 ags row r row' nw :=
  good_of_body' (md := md41) (od := od41) Try.f41 (by kernel_rfl) (by kernel_rfl) (by kernel_rfl) (by kernel_rfl) (by kernel_rfl) hal hrow h

def x43 : XC := (.seq (.ops 3 [
    (0, ⟨(some 6), none, .mv (.k (.d (.val (.int .i64 0))))⟩),
    (1, ⟨(some 7), none, .mv (.k (.d (.val (.int .i64 0))))⟩),
    (2, ⟨(some 8), none, .mv (.k (.d (.val (.bool false))))⟩)] (some [0, 1, 2])) (.seq (.ops 2 [
    (0, ⟨(some 9), none, .mv (.k (.d (.val (.int .i64 (-1)))))⟩),
    (1, ⟨(some 10), none, .mv (.k (.d (.val (.int .i64 (-1)))))⟩)] (some [0, 1, 2, 9, 10])) (.seq (.seq (.ops 8 [
    (0, ⟨(some 13), none, .mv (.t 2)⟩),
    (1, ⟨(some 14), none, .arith .lss (.t 13) (.k (.d (.val (.int .i64 0))))⟩),
    (2, ⟨(some 15), none, .mv (.t 14)⟩),
    (3, ⟨(some 16), (some (15, false)), .mv (.t 2)⟩),
    (4, ⟨(some 17), (some (15, false)), .mv (.t 1)⟩),
    (5, ⟨(some 18), (some (15, false)), .lenT (.t 17)⟩),
    (6, ⟨(some 19), (some (15, false)), .arith .gtr (.t 16) (.t 18)⟩),
    (7, ⟨(some 20), none, .pick (.t 15) (.k (.d (.val (.bool true)))) (.t 19)⟩)] (some [0, 1, 2, 9, 10, 20])) (.cond (.t 20) (.seq (.ops 3 [
    (0, ⟨(some 6), none, .mv (.k (.d (.val (.int .i64 (-1)))))⟩),
    (1, ⟨(some 7), none, .mv (.k (.d (.val (.int .i64 (-1)))))⟩),
    (2, ⟨(some 8), none, .mv (.k (.d (.val (.bool false))))⟩)] (some [6, 7, 8])) .ret) .skip)) (.seq (.seq (.ops 1 [
    (0, ⟨(some 11), none, .mv (.k (.d (.val (.int .i64 0))))⟩)] (some [0, 1, 2, 9, 10, 11])) (.block 0 (.loop (.seq (.seq (.ops 4 [
    (0, ⟨(some 21), none, .mv (.t 11)⟩),
    (1, ⟨(some 22), none, .mv (.t 0)⟩),
    (2, ⟨(some 23), none, .lenS (.t 22)⟩),
    (3, ⟨(some 24), none, .arith .lss (.t 21) (.t 23)⟩)] (some [0, 1, 2, 9, 10, 11, 24])) (.cond (.t 24) .skip (.exit 0))) (.seq (.block 1 (.seq (.seq (.ops 7 [
    (0, ⟨(some 27), none, .mv (.t 0)⟩),
    (1, ⟨(some 28), none, .mv (.t 11)⟩),
    (2, ⟨(some 29), none, .idxS 9 (.t 27) (.t 28)⟩),
    (3, ⟨(some 30), none, .fadd 1 (.t 29)⟩),
    (4, ⟨(some 31), none, .load (some 8) (.t 30)⟩),
    (5, ⟨(some 32), none, .call 32 [(.t 31)] none false⟩),
    (6, ⟨(some 33), none, .un .not (.t 32)⟩)] (some [0, 1, 2, 9, 10, 11, 33])) (.cond (.t 33) (.exit 1) .skip)) (.seq (.ops 9 [
    (0, ⟨(some 34), none, .mv (.t 0)⟩),
    (1, ⟨(some 35), none, .mv (.t 11)⟩),
    (2, ⟨(some 36), none, .idxS 9 (.t 34) (.t 35)⟩),
    (3, ⟨(some 37), none, .fadd 1 (.t 36)⟩),
    (4, ⟨(some 38), none, .load (some 8) (.t 37)⟩),
    (5, ⟨(some 39), none, .mv (.t 1)⟩),
    (6, ⟨(some 40), none, .mv (.t 2)⟩),
    (7, ⟨(some 41), none, .call 37 [(.t 38), (.t 39), (.t 40)] none false⟩),
    (8, ⟨(some 12), none, .mv (.t 41)⟩)] (some [0, 1, 2, 9, 10, 11, 12])) (.seq (.ops 8 [
    (0, ⟨(some 42), none, .mv (.t 12)⟩),
    (1, ⟨(some 43), none, .mv (.t 2)⟩),
    (2, ⟨(some 44), none, .arith .gtr (.t 42) (.t 43)⟩),
    (3, ⟨(some 45), none, .mv (.t 44)⟩),
    (4, ⟨(some 46), (some (45, true)), .mv (.t 12)⟩),
    (5, ⟨(some 47), (some (45, true)), .mv (.t 10)⟩),
    (6, ⟨(some 48), (some (45, true)), .arith .gtr (.t 46) (.t 47)⟩),
    (7, ⟨(some 49), none, .pick (.t 45) (.t 48) (.k (.d (.val (.bool false))))⟩)] (some [0, 1, 2, 9, 10, 11, 12, 49])) (.cond (.t 49) (.ops 4 [
    (0, ⟨(some 50), none, .mv (.t 11)⟩),
    (1, ⟨(some 51), none, .mv (.t 12)⟩),
    (2, ⟨(some 9), none, .mv (.t 50)⟩),
    (3, ⟨(some 10), none, .mv (.t 51)⟩)] (some [0, 1, 2, 9, 10, 11])) .skip))))) (.ops 3 [
    (0, ⟨(some 25), none, .mv (.t 11)⟩),
    (1, ⟨(some 26), none, .arith .add (.t 25) (.k (.d (.val (.int .i64 1))))⟩),
    (2, ⟨(some 11), none, .mv (.t 26)⟩)] (some [0, 1, 2, 9, 10, 11]))))))) (.seq (.ops 7 [
    (0, ⟨(some 52), none, .mv (.t 9)⟩),
    (1, ⟨(some 53), none, .mv (.t 10)⟩),
    (2, ⟨(some 54), none, .mv (.t 9)⟩),
    (3, ⟨(some 55), none, .arith .geq (.t 54) (.k (.d (.val (.int .i64 0))))⟩),
    (4, ⟨(some 6), none, .mv (.t 52)⟩),
    (5, ⟨(some 7), none, .mv (.t 53)⟩),
    (6, ⟨(some 8), none, .mv (.t 55)⟩)] (some [6, 7, 8])) .ret)))))
def md43 : FuncId → Option Nat × Bool
  | _ => (none, false)
def od43 : Nat → List (List Nat) × List Nat × Option (List Nat)
  | 0 => ([], [], some [0, 1, 2])
  | 1 => ([], [], some [0, 1, 2, 9, 10])
  | 2 => ([], [], some [0, 1, 2, 9, 10, 20])
  | 3 => ([], [], some [6, 7, 8])
  | 4 => ([], [], some [0, 1, 2, 9, 10, 11])
  | 5 => ([], [], some [0, 1, 2, 9, 10, 11, 24])
  | 6 => ([], [], some [0, 1, 2, 9, 10, 11])
  | 7 => ([], [], some [0, 1, 2, 9, 10, 11, 33])
  | 8 => ([], [], some [0, 1, 2, 9, 10, 11, 12])
  | 9 => ([], [], some [0, 1, 2, 9, 10, 11, 12, 49])
  | 10 => ([], [], some [0, 1, 2, 9, 10, 11])
  | 11 => ([], [], some [6, 7, 8])
  | _ => ([], [], none)
theorem b43 {ags : List AV} {row : Option (List DV)} {r : AV} {row' nw : Option (List DV)} (hal : ags.length ≤ 56) (hrow : row'.isSome = true → row.isSome = true) (h : xwp Try.prog x43 (retK [.tmp 6, .tmp 7, .tmp 8] row.isSome r row' nw) (St.init ags row)) : Good Try.prog 43 ags row r row' nw :=
  good_of_body' (md := md43) (od := od43) Try.f43 (by kernel_rfl) (by kernel_rfl) (by kernel_rfl) (by kernel_rfl) (by kernel_rfl) hal hrow h

def x6 : XC := (.seq (.ops 1 [
    (0, ⟨(some 8), none, .mv (.k (.d (.val (.bool false))))⟩)] (some [0, 1, 2, 3])) (.seq (.seq (.ops 15 [
    (0, ⟨(some 20), none, .call 29 [] none false⟩),
    (1, ⟨(some 21), none, .un .not (.t 20)⟩),
    (2, ⟨(some 22), none, .mv (.t 21)⟩),
    (3, ⟨(some 23), (some (22, false)), .mv (.t 0)⟩),
    (4, ⟨(some 24), (some (22, false)), .call 41 [(.t 23)] none false⟩),
    (5, ⟨(some 25), (some (22, false)), .un .not (.t 24)⟩),
    (6, ⟨(some 26), none, .pick (.t 22) (.k (.d (.val (.bool true)))) (.t 25)⟩),
    (7, ⟨(some 27), none, .mv (.t 26)⟩),
    (8, ⟨(some 28), (some (27, false)), .mv (.t 1)⟩),
    (9, ⟨(some 29), (some (27, false)), .lenT (.t 28)⟩),
    (10, ⟨(some 30), (some (27, false)), .mv (.t 2)⟩),
    (11, ⟨(some 31), (some (27, false)), .lenT (.t 30)⟩),
    (12, ⟨(some 32), (some (27, false)), .arith .add (.t 29) (.t 31)⟩),
    (13, ⟨(some 33), (some (27, false)), .arith .gtr (.t 32) (.k (.d (.val (.int .i64 40))))⟩),
    (14, ⟨(some 34), none, .pick (.t 27) (.k (.d (.val (.bool true)))) (.t 33)⟩)] (some [0, 1, 2, 3, 34])) (.cond (.t 34) (.seq (.ops 2 [
    (0, ⟨(some 35), none, .call 29 [] none false⟩),
    (1, ⟨(some 8), none, .mv (.t 35)⟩)] (some [8])) .ret) .skip)) (.seq (.seq (.ops 3 [
    (0, ⟨(some 36), none, .mv (.t 0)⟩),
    (1, ⟨(some 37), none, .lenS (.t 36)⟩),
    (2, ⟨(some 38), none, .mv (.k (.d (.val (.int .i64 0))))⟩)] (some [0, 1, 2, 3, 36, 37, 38])) (.block 0 (.loop (.seq (.ops 1 [
    (0, ⟨(some 39), none, .arith .lss (.t 38) (.t 37)⟩)] (some [0, 1, 2, 3, 36, 37, 38, 39])) (.seq (.cond (.t 39) .skip (.exit 0)) (.seq (.block 1 (.seq (.ops 4 [
    (0, ⟨(some 40), none, .idxS 9 (.t 36) (.t 38)⟩),
    (1, ⟨(some 41), none, .load (some 9) (.t 40)⟩),
    (2, ⟨(some 10), none, .alloc [(.string ⟨#[]⟩), (.int .i64 0), (.int .u64 0), (.int .u64 0), (.int .u64 0), (.int .u64 0), (.int .i64 0), (.int .i64 0), (.slice none 0 0)]⟩),
    (3, ⟨none, none, .store 9 (.t 10) (.t 41)⟩)] (some [0, 1, 2, 3, 10, 36, 37, 38])) (.seq (.ops 5 [
    (0, ⟨(some 42), none, .fadd 1 (.t 10)⟩),
    (1, ⟨(some 43), none, .load (some 8) (.t 42)⟩),
    (2, ⟨(some 44), none, .mv (.t 1)⟩),
    (3, ⟨(some 45), none, .call 30 [(.t 43), (.t 44)] none false⟩),
    (4, ⟨(some 46), none, .un .not (.t 45)⟩)] (some [0, 1, 2, 3, 36, 37, 38, 46])) (.cond (.t 46) (.seq (.ops 1 [
    (0, ⟨(some 8), none, .mv (.k (.d (.val (.bool true))))⟩)] (some [8])) .ret) .skip)))) (.ops 2 [
    (0, ⟨(some 47), none, .arith .add (.t 38) (.k (.d (.val (.int .i64 1))))⟩),
    (1, ⟨(some 38), none, .mv (.t 47)⟩)] (some [0, 1, 2, 3, 36, 37, 38])))))))) (.seq (.ops 11 [
    (0, ⟨(some 49), none, .mv (.t 0)⟩),
    (1, ⟨(some 50), none, .mv (.t 1)⟩),
    (2, ⟨(some 51), none, .mv (.t 3)⟩),
    (3, ⟨(some 52), none, .call 42 [(.t 49), (.t 50), (.t 51)] none false⟩),
    (4, ⟨(some 48), none, .mv (.t 52)⟩),
    (5, ⟨(some 53), none, .ext (.t 48) 0⟩),
    (6, ⟨(some 54), none, .ext (.t 48) 1⟩),
    (7, ⟨(some 55), none, .ext (.t 48) 2⟩),
    (8, ⟨(some 11), none, .mv (.t 53)⟩),
    (9, ⟨(some 12), none, .mv (.t 54)⟩),
    (10, ⟨(some 13), none, .mv (.t 55)⟩)] (some [0, 1, 2, 3, 11, 12, 13])) (.seq (.ops 11 [
    (0, ⟨(some 57), none, .mv (.t 0)⟩),
    (1, ⟨(some 58), none, .mv (.t 1)⟩),
    (2, ⟨(some 59), none, .mv (.t 3)⟩),
    (3, ⟨(some 60), none, .call 43 [(.t 57), (.t 58), (.t 59)] none false⟩),
    (4, ⟨(some 56), none, .mv (.t 60)⟩),
    (5, ⟨(some 61), none, .ext (.t 56) 0⟩),
    (6, ⟨(some 62), none, .ext (.t 56) 1⟩),
    (7, ⟨(some 63), none, .ext (.t 56) 2⟩),
    (8, ⟨(some 14), none, .mv (.t 61)⟩),
    (9, ⟨(some 15), none, .mv (.t 62)⟩),
    (10, ⟨(some 16), none, .mv (.t 63)⟩)] (some [0, 1, 2, 3, 11, 12, 13, 14, 15, 16])) (.seq (.ops 13 [
    (0, ⟨(some 65), none, .mv (.t 0)⟩),
    (1, ⟨(some 66), none, .mv (.t 1)⟩),
    (2, ⟨(some 67), none, .mv (.t 2)⟩),
    (3, ⟨(some 68), none, .arith .add (.t 66) (.t 67)⟩),
    (4, ⟨(some 69), none, .mv (.t 3)⟩),
    (5, ⟨(some 70), none, .call 42 [(.t 65), (.t 68), (.t 69)] none false⟩),
    (6, ⟨(some 64), none, .mv (.t 70)⟩),
    (7, ⟨(some 71), none, .ext (.t 64) 0⟩),
    (8, ⟨(some 72), none, .ext (.t 64) 1⟩),
    (9, ⟨(some 73), none, .ext (.t 64) 2⟩),
    (10, ⟨(some 17), none, .mv (.t 71)⟩),
    (11, ⟨(some 18), none, .mv (.t 72)⟩),
    (12, ⟨(some 19), none, .mv (.t 73)⟩)] (some [1, 3, 11, 12, 13, 14, 15, 16, 18])) (.seq (.ops 29 [
    (0, ⟨(some 74), none, .mv (.t 11)⟩),
    (1, ⟨(some 75), none, .mv (.t 14)⟩),
    (2, ⟨(some 76), none, .arith .eql (.t 74) (.t 75)⟩),
    (3, ⟨(some 77), none, .mv (.t 76)⟩),
    (4, ⟨(some 78), (some (77, true)), .mv (.t 12)⟩),
    (5, ⟨(some 79), (some (77, true)), .mv (.t 15)⟩),
    (6, ⟨(some 80), (some (77, true)), .arith .eql (.t 78) (.t 79)⟩),
    (7, ⟨(some 81), none, .pick (.t 77) (.t 80) (.k (.d (.val (.bool false))))⟩),
    (8, ⟨(some 82), none, .mv (.t 81)⟩),
    (9, ⟨(some 83), (some (82, true)), .mv (.t 13)⟩),
    (10, ⟨(some 84), (some (82, true)), .mv (.t 16)⟩),
    (11, ⟨(some 85), (some (82, true)), .beq false (.t 83) (.t 84)⟩),
    (12, ⟨(some 86), none, .pick (.t 82) (.t 85) (.k (.d (.val (.bool false))))⟩),
    (13, ⟨(some 87), none, .mv (.t 86)⟩),
    (14, ⟨(some 88), (some (87, true)), .mv (.t 3)⟩),
    (15, ⟨(some 89), (some (87, true)), .arith .lss (.t 88) (.k (.d (.val (.int .i64 0))))⟩),
    (16, ⟨(some 90), (some (87, true)), .mv (.t 89)⟩),
    (17, ⟨(some 91), (some (90, false)), .mv (.t 3)⟩),
    (18, ⟨(some 92), (some (90, false)), .mv (.t 1)⟩),
    (19, ⟨(some 93), (some (90, false)), .lenT (.t 92)⟩),
    (20, ⟨(some 94), (some (90, false)), .arith .gtr (.t 91) (.t 93)⟩),
    (21, ⟨(some 95), (some (87, true)), .pick (.t 90) (.k (.d (.val (.bool true)))) (.t 94)⟩),
    (22, ⟨(some 96), (some (87, true)), .mv (.t 95)⟩),
    (23, ⟨(some 97), (some (96, false)), .mv (.t 18)⟩),
    (24, ⟨(some 98), (some (96, false)), .mv (.t 12)⟩),
    (25, ⟨(some 99), (some (96, false)), .arith .geq (.t 97) (.t 98)⟩),
    (26, ⟨(some 100), (some (87, true)), .pick (.t 96) (.k (.d (.val (.bool true)))) (.t 99)⟩),
    (27, ⟨(some 101), none, .pick (.t 87) (.t 100) (.k (.d (.val (.bool false))))⟩),
    (28, ⟨(some 8), none, .mv (.t 101)⟩)] (some [8])) .ret)))))))
def md6 : FuncId → Option Nat × Bool
  | _ => (none, false)
def od6 : Nat → List (List Nat) × List Nat × Option (List Nat)
  | 0 => ([], [], some [0, 1, 2, 3])
  | 1 => ([], [], some [0, 1, 2, 3, 34])
  | 2 => ([], [], some [8])
  | 3 => ([], [], some [0, 1, 2, 3, 36, 37, 38])
  | 4 => ([], [], some [0, 1, 2, 3, 36, 37, 38, 39])
  | 5 => ([], [], some [0, 1, 2, 3, 10, 36, 37, 38])
  | 6 => ([], [], some [0, 1, 2, 3, 36, 37, 38, 46])
  | 7 => ([], [], some [8])
  | 8 => ([], [], some [0, 1, 2, 3, 36, 37, 38])
  | 9 => ([], [], some [0, 1, 2, 3, 11, 12, 13])
  | 10 => ([], [], some [0, 1, 2, 3, 11, 12, 13, 14, 15, 16])
  | 11 => ([], [], some [1, 3, 11, 12, 13, 14, 15, 16, 18])
  | 12 => ([], [], some [8])
  | _ => ([], [], none)
theorem b6 {ags : List AV} {row : Option (List DV)} {r : AV} {row' nw : Option (List DV)} (hal : ags.length ≤ 102) (hrow : row'.isSome = true → row.isSome = true) (h : xwp Try.prog x6 (retK [.tmp 8] row.isSome r row' nw) (St.init ags row)) : Good Try.prog 6 ags row r row' nw :=
  good_of_body' (md := md6) (od := od6) Try.f6 (by kernel_rfl) (by kernel_rfl) (by kernel_rfl) (by kernel_rfl) (by kernel_rfl) hal hrow h

abbrev RL := List (ByteArray × T)
def encR : RL → List DV
  | [] => []
  | r :: l => .val (.string r.1) :: (encN r.2 ++ encR l)
theorem encR_len : ∀ l : RL, (encR l).length = l.length * 9
  | [] => rfl
  | r :: l => by simp [encR, encN_len, encR_len l]; omega
def RuleAt (cs : List DV) (off : Nat) (r : ByteArray × T) : Prop := (cs.drop off).take 9 = .val (.string r.1) :: encN r.2
theorem RuleAt.sub : ∀ {l : RL} {i : Nat} (h : i < l.length), RuleAt (encR l) (i * 9) l[i]
  | r :: l, 0, _ => by
    unfold RuleAt
    simp only [Nat.zero_mul, List.drop_zero, encR, List.getElem_cons_zero, List.take_succ_cons]
    rw [List.take_append_of_le_length (by rw [encN_len]; exact Nat.le_refl _), List.take_of_length_le (by rw [encN_len]; exact Nat.le_refl _)]
  | r :: l, i + 1, h => by
    have ih := RuleAt.sub (l := l) (i := i) (by simpa using h)
    unfold RuleAt at ih ⊢
    have e : (encR (r :: l)).drop ((i + 1) * 9) = (encR l).drop (i * 9) := by
      rw [show (i + 1) * 9 = (i * 9 + 8) + 1 by omega]
      simp only [encR, List.drop_succ_cons]
      rw [List.drop_append, encN_len, List.drop_of_length_le (by rw [encN_len]; omega), List.nil_append, show i * 9 + 8 - 8 = i * 9 by omega]
    rw [e]; simpa using ih
theorem RuleAt.node {cs : List DV} {off : Nat} {r : ByteArray × T} (h : RuleAt cs off r) : NodeAt cs (off + 1) r.2 := by
  unfold RuleAt at h
  unfold NodeAt
  have := congrArg (List.drop 1) h
  rw [List.drop_take, List.drop_drop] at this
  simpa using this
section
variable {P : Program} {Q : Cont} {fr : Fr} {C : Heap} {Z Z' : Frz} {nx : Nat} {base n d : Nat} {l : List (Nat × XO)} {kp : Option (List Nat)} {x i y s : X}
theorem ix_rule {L : RL} {j : Nat} (hx : x.ev fr = .d (.sl (encR L) L.length)) (hi : i.ev fr = .i j) (hj : j < L.length) : xp fr (.idxS 9 x i) = some (.d (.ptr (encR L) (j * 9))) := by
  have hne : encR L ≠ [] := fun h => by
    have := congrArg List.length h
    rw [encR_len] at this; simp at this; omega
  simp [xp, hx, hi, hne, intIn, hj]
theorem ld_rule {cs : List DV} {off : Nat} {r : ByteArray × T} (h : RuleAt cs off r) (hx : x.ev fr = .d (.ptr cs off)) : xl fr C (.load (some 9) x) = some (.agg (.d (.val (.string r.1)) :: (encN r.2).map AV.d)) := by
  have hl : off + 9 ≤ cs.length := by
    have := congrArg List.length h
    rw [List.length_cons, encN_len, List.length_take, List.length_drop] at this
    omega
  simp only [xl, hx, rowOf, subA, Option.bind_some, List.length_map]
  rw [if_pos (by omega), ← List.map_drop, ← List.map_take, h]
  rfl
theorem ld_rname {cs : List DV} {off : Nat} {r : ByteArray × T} (h : RuleAt cs off r) (hx : x.ev fr = .d (.ptr cs (off + 0))) : xl fr C (.load none x) = some (.d (.val (.string r.1))) := by
  have h0 : cs[off]? = some (.val (.string r.1)) := by
    have := congrArg (fun l => l[0]?) h
    simp only [List.getElem?_take, List.getElem?_drop, List.getElem?_cons_zero] at this
    simpa using this
  simp [xl, hx, rowOf, subA, h0]
end
set_option maxRecDepth 100000
set_option maxHeartbeats 4000000
attribute [local irreducible] W E R KP thenK blockK retK Good xwp aRun
def fewP (r : ByteArray × T) : Bool := decide (sizeT r.2 601 ≤ 200) && decide (r.1.size ≤ 300)
def fewR (l : RL) : Bool := l.all fewP && decide (l.length ≤ 20)
theorem all_take (p : ByteArray × T → Bool) (l : RL) (i : Nat) (h : i < l.length) : (l.take (i + 1)).all p = ((l.take i).all p && p l[i]) := by
  rw [List.take_succ_eq_append_getElem h, List.all_append, List.all_cons, List.all_nil, Bool.and_true]
theorem all_false (p : ByteArray × T → Bool) (l : RL) (i : Nat) (h : i < l.length) (hp : p l[i] = false) : l.all p = false := by
  rw [Bool.eq_false_iff]
  intro ha
  have := List.all_eq_true.1 ha _ (List.getElem_mem h)
  rw [hp] at this; cases this
theorem few41_good (L : RL) (hL : L.length ≤ 9223372036854775807) (hs : ∀ r ∈ L, r.1.size ≤ 9223372036854775807) : Good Try.prog 41 [.d (.sl (encR L) L.length)] none (.b (fewR L)) none none := by
  refine b41 (by simp) (by simp) (w_init ?_)
  unfold x41
  repeat' (first
    | (apply r_mvV; rfl)
    | (apply r_mvP; rfl)
    | (apply r_mvPL; rfl)
    | (apply r_mvS; rfl)
    | (apply r_mvSL; rfl)
    | (apply r_mvA; rfl)
    | (apply r_mvT; rfl)
    | (apply r_mvF; rfl)
    | (apply r_mvD; rfl)
    | (apply r_faddD; rfl)
    | (apply r_faddL; rfl)
    | (apply r_l; apply ld_kind; assumption; rfl)
    | (apply r_l; apply ld_mn; assumption; rfl)
    | (apply r_l; apply ld_mx; assumption; rfl)
    | (apply r_l; apply ld_subs; assumption; rfl)
    | (apply r_l; apply ld_set; assumption; rfl)
    | (apply r_l; apply ld_node; assumption; rfl)
    | (apply r_l; apply ld_kind'; assumption; rfl)
    | (apply r_l; apply ld_mn'; assumption; rfl)
    | (apply r_l; apply ld_mx'; assumption; rfl)
    | (apply r_l; apply ld_subs'; assumption; rfl)
    | (apply r_l; apply ld_node'; assumption; rfl)
    | (apply r_ldL; rfl; rfl; rfl)
    | (apply r_lss; rfl; rfl; (first | (apply decide_eq_true; omega) | (apply decide_eq_false; omega) | rfl))
    | (apply r_leq; rfl; rfl; (first | (apply decide_eq_true; omega) | (apply decide_eq_false; omega) | rfl))
    | (apply r_gtr; rfl; rfl; (first | (apply decide_eq_true; omega) | (apply decide_eq_false; omega) | rfl))
    | (apply r_add; rfl; rfl; rfl; omega)
    | (apply r_not; rfl; rfl)
    | (apply r_pickT; rfl)
    | (apply r_pickF; rfl)
    | (apply r_lenD; rfl)
    | (apply r_lenL; rfl)
    | (apply r_len0; rfl)
    | (apply r_lenT; rfl)
    | (apply r_gT; rfl)
    | (apply r_gF'; rfl; rfl)
    | (apply r_gN'; rfl)
    | ((apply r_gS (o := default); rfl) <;> (intro h; try simp only [decide_eq_true_eq, decide_eq_false_iff_not, Bool.not_eq_true, Bool.not_eq_false] at h))
    | (apply r_p; rfl)
    | (apply r_nilK)
    | (apply r_nil)
    | (apply k_V; rfl)
    | (apply k_P; rfl)
    | (apply k_PL; rfl)
    | (apply k_S; rfl)
    | (apply k_SL; rfl)
    | (apply k_A; rfl)
    | (apply k_T; rfl)
    | (apply k_F; rfl)
    | (apply k_D; rfl; rotate_left; rfl)
    | (apply k_nil)
    | (apply e_ret (vs := [.d (.val _)]); rfl)
    | (apply e_ret; rfl)
    | (apply e_ret' (vs := [.d (.val _)]); rfl)
    | (apply e_ret'; rfl)
    | (apply w_seq)
    | (apply w_ops; ((conv => lhs; simp only [Nat.reduceAdd]) <;> rfl))
    | (apply w_condT; rfl)
    | (apply w_condF; rfl)
    | ((apply w_condS; rfl) <;> (intro h; try simp only [decide_eq_true_eq, decide_eq_false_iff_not, Bool.not_eq_true, Bool.not_eq_false] at h))
    | (apply e_thenN)
    | (apply w_block)
    | (apply e_thenR)
    | (apply e_thenX)
    | (apply e_blkN)
    | (apply e_blkR)
    | (apply e_blkE)
    | (apply w_exit)
    | (apply w_ret)
    | (apply w_skip)
    | (apply e_blkE'; rfl))
  apply w_loopI (S := fun i : Nat => ⟨(Fr.nil.put 0 (.d (.sl (encR L) L.length))).put 3 (.i i), Heap.nil, Frz.lo 100, 100⟩) (m := fun i => L.length - i) (I := fun i => i ≤ L.length ∧ (L.take i).all fewP = true) (i0 := 0)
  · exact ⟨Nat.zero_le _, rfl⟩
  · refine wk0 (by omega) ?_
    repeat' (first
    | exact FWk.nil
    | (apply FWk.i; rfl; (first | rfl | omega | (simp; done)))
    | (apply FWk.sl; rfl; rfl; rfl; rfl; omega; rfl)
    | (apply FWk.ptr; rfl; rfl; rfl; omega; rfl)
    | (apply FWk.d; rfl; rfl)
    | (apply FWk.a; rfl; rfl; rfl)
    | (apply FWk.slN; rfl; omega; rfl))
  rintro i K ⟨hi, ha⟩ hK
  dsimp only
  rcases Nat.lt_or_ge i L.length with hlt | hge
  · have hr := RuleAt.sub hlt
    have hn := hr.node
    have hsz := hs _ (List.getElem_mem hlt)
    have h45 := few_good L[i].2
    have hna : [nodeA L[i].2].all AV.nrm = true := by rw [List.all_cons, nodeA_nrm]; rfl
    have hat := all_take fewP L i hlt
    by_cases h1 : sizeT L[i].2 601 ≤ 200
    · rw [show decide (sizeT L[i].2 601 ≤ 200) = true by simp [h1]] at h45
      by_cases h2 : L[i].1.size ≤ 300
      · repeat' (first
    | (apply r_mvV; rfl)
    | (apply r_mvP; rfl)
    | (apply r_mvPL; rfl)
    | (apply r_mvS; rfl)
    | (apply r_mvSL; rfl)
    | (apply r_mvA; rfl)
    | (apply r_mvT; rfl)
    | (apply r_mvF; rfl)
    | (apply r_mvD; rfl)
    | (apply r_faddD; rfl)
    | (apply r_faddL; rfl)
    | (apply r_l; apply ld_kind; assumption; rfl)
    | (apply r_l; apply ld_mn; assumption; rfl)
    | (apply r_l; apply ld_mx; assumption; rfl)
    | (apply r_l; apply ld_subs; assumption; rfl)
    | (apply r_l; apply ld_set; assumption; rfl)
    | (apply r_l; apply ld_node; assumption; rfl)
    | (apply r_l; apply ld_kind'; assumption; rfl)
    | (apply r_l; apply ld_mn'; assumption; rfl)
    | (apply r_l; apply ld_mx'; assumption; rfl)
    | (apply r_l; apply ld_subs'; assumption; rfl)
    | (apply r_l; apply ld_node'; assumption; rfl)
    | (apply r_p; apply ix_rule; rfl; rfl; omega)
    | (apply r_l; apply ld_rname; exact hr; rfl)
    | (apply r_callA (ags := [nodeA L[i].2]); rfl; exact hna; exact h45)
    | (apply r_ldL; rfl; rfl; rfl)
    | (apply r_lss; rfl; rfl; (first | (apply decide_eq_true; omega) | (apply decide_eq_false; omega) | rfl))
    | (apply r_leq; rfl; rfl; (first | (apply decide_eq_true; omega) | (apply decide_eq_false; omega) | rfl))
    | (apply r_gtr; rfl; rfl; (first | (apply decide_eq_true; omega) | (apply decide_eq_false; omega) | rfl))
    | (apply r_add; rfl; rfl; rfl; omega)
    | (apply r_not; rfl; rfl)
    | (apply r_pickT; rfl)
    | (apply r_pickF; rfl)
    | (apply r_lenD; rfl)
    | (apply r_lenL; rfl)
    | (apply r_len0; rfl)
    | (apply r_lenT; rfl)
    | (apply r_gT; rfl)
    | (apply r_gF'; rfl; rfl)
    | (apply r_gN'; rfl)
    | ((apply r_gS (o := default); rfl) <;> (intro h; try simp only [decide_eq_true_eq, decide_eq_false_iff_not, Bool.not_eq_true, Bool.not_eq_false] at h))
    | (apply r_p; rfl)
    | (apply r_nilK)
    | (apply r_nil)
    | (apply k_V; rfl)
    | (apply k_P; rfl)
    | (apply k_PL; rfl)
    | (apply k_S; rfl)
    | (apply k_SL; rfl)
    | (apply k_A; rfl)
    | (apply k_T; rfl)
    | (apply k_F; rfl)
    | (apply k_D; rfl; rotate_left; rfl)
    | (apply k_nil)
    | (apply e_ret (vs := [.d (.val _)]); rfl)
    | (apply e_ret; rfl)
    | (apply e_ret' (vs := [.d (.val _)]); rfl)
    | (apply e_ret'; rfl)
    | (apply w_seq)
    | (apply w_ops; ((conv => lhs; simp only [Nat.reduceAdd]) <;> rfl))
    | (apply w_condT; rfl)
    | (apply w_condF; rfl)
    | ((apply w_condS; rfl) <;> (intro h; try simp only [decide_eq_true_eq, decide_eq_false_iff_not, Bool.not_eq_true, Bool.not_eq_false] at h))
    | (apply e_thenN)
    | (apply w_block)
    | (apply e_thenR)
    | (apply e_thenX)
    | (apply e_blkN)
    | (apply e_blkR)
    | (apply e_blkE)
    | (apply w_exit)
    | (apply w_ret)
    | (apply w_skip)
    | (apply e_blkE'; rfl))
        apply e_thenK
        apply hK (i + 1)
        · exact ⟨by omega, by rw [hat, ha]; simp [fewP, h1, h2]⟩
        · omega
        · refine wk0 (by omega) ?_
          repeat' (first
    | exact FWk.nil
    | (apply FWk.i; rfl; (first | rfl | omega | (simp; done)))
    | (apply FWk.sl; rfl; rfl; rfl; rfl; omega; rfl)
    | (apply FWk.ptr; rfl; rfl; rfl; omega; rfl)
    | (apply FWk.d; rfl; rfl)
    | (apply FWk.a; rfl; rfl; rfl)
    | (apply FWk.slN; rfl; omega; rfl))
      · repeat' (first
    | (apply r_mvV; rfl)
    | (apply r_mvP; rfl)
    | (apply r_mvPL; rfl)
    | (apply r_mvS; rfl)
    | (apply r_mvSL; rfl)
    | (apply r_mvA; rfl)
    | (apply r_mvT; rfl)
    | (apply r_mvF; rfl)
    | (apply r_mvD; rfl)
    | (apply r_faddD; rfl)
    | (apply r_faddL; rfl)
    | (apply r_l; apply ld_kind; assumption; rfl)
    | (apply r_l; apply ld_mn; assumption; rfl)
    | (apply r_l; apply ld_mx; assumption; rfl)
    | (apply r_l; apply ld_subs; assumption; rfl)
    | (apply r_l; apply ld_set; assumption; rfl)
    | (apply r_l; apply ld_node; assumption; rfl)
    | (apply r_l; apply ld_kind'; assumption; rfl)
    | (apply r_l; apply ld_mn'; assumption; rfl)
    | (apply r_l; apply ld_mx'; assumption; rfl)
    | (apply r_l; apply ld_subs'; assumption; rfl)
    | (apply r_l; apply ld_node'; assumption; rfl)
    | (apply r_p; apply ix_rule; rfl; rfl; omega)
    | (apply r_l; apply ld_rname; exact hr; rfl)
    | (apply r_callA (ags := [nodeA L[i].2]); rfl; exact hna; exact h45)
    | (apply r_ldL; rfl; rfl; rfl)
    | (apply r_lss; rfl; rfl; (first | (apply decide_eq_true; omega) | (apply decide_eq_false; omega) | rfl))
    | (apply r_leq; rfl; rfl; (first | (apply decide_eq_true; omega) | (apply decide_eq_false; omega) | rfl))
    | (apply r_gtr; rfl; rfl; (first | (apply decide_eq_true; omega) | (apply decide_eq_false; omega) | rfl))
    | (apply r_add; rfl; rfl; rfl; omega)
    | (apply r_not; rfl; rfl)
    | (apply r_pickT; rfl)
    | (apply r_pickF; rfl)
    | (apply r_lenD; rfl)
    | (apply r_lenL; rfl)
    | (apply r_len0; rfl)
    | (apply r_lenT; rfl)
    | (apply r_gT; rfl)
    | (apply r_gF'; rfl; rfl)
    | (apply r_gN'; rfl)
    | ((apply r_gS (o := default); rfl) <;> (intro h; try simp only [decide_eq_true_eq, decide_eq_false_iff_not, Bool.not_eq_true, Bool.not_eq_false] at h))
    | (apply r_p; rfl)
    | (apply r_nilK)
    | (apply r_nil)
    | (apply k_V; rfl)
    | (apply k_P; rfl)
    | (apply k_PL; rfl)
    | (apply k_S; rfl)
    | (apply k_SL; rfl)
    | (apply k_A; rfl)
    | (apply k_T; rfl)
    | (apply k_F; rfl)
    | (apply k_D; rfl; rotate_left; rfl)
    | (apply k_nil)
    | (apply e_ret (vs := [.d (.val _)]); rfl)
    | (apply e_ret; rfl)
    | (apply e_ret' (vs := [.d (.val _)]); rfl)
    | (apply e_ret'; rfl)
    | (apply w_seq)
    | (apply w_ops; ((conv => lhs; simp only [Nat.reduceAdd]) <;> rfl))
    | (apply w_condT; rfl)
    | (apply w_condF; rfl)
    | ((apply w_condS; rfl) <;> (intro h; try simp only [decide_eq_true_eq, decide_eq_false_iff_not, Bool.not_eq_true, Bool.not_eq_false] at h))
    | (apply e_thenN)
    | (apply w_block)
    | (apply e_thenR)
    | (apply e_thenX)
    | (apply e_blkN)
    | (apply e_blkR)
    | (apply e_blkE)
    | (apply w_exit)
    | (apply w_ret)
    | (apply w_skip)
    | (apply e_blkE'; rfl))
        refine retB ?_
        rw [fewR, all_false fewP L i hlt (by simp [fewP, h2])]; rfl
    · rw [show decide (sizeT L[i].2 601 ≤ 200) = false by simp [h1]] at h45
      repeat' (first
    | (apply r_mvV; rfl)
    | (apply r_mvP; rfl)
    | (apply r_mvPL; rfl)
    | (apply r_mvS; rfl)
    | (apply r_mvSL; rfl)
    | (apply r_mvA; rfl)
    | (apply r_mvT; rfl)
    | (apply r_mvF; rfl)
    | (apply r_mvD; rfl)
    | (apply r_faddD; rfl)
    | (apply r_faddL; rfl)
    | (apply r_l; apply ld_kind; assumption; rfl)
    | (apply r_l; apply ld_mn; assumption; rfl)
    | (apply r_l; apply ld_mx; assumption; rfl)
    | (apply r_l; apply ld_subs; assumption; rfl)
    | (apply r_l; apply ld_set; assumption; rfl)
    | (apply r_l; apply ld_node; assumption; rfl)
    | (apply r_l; apply ld_kind'; assumption; rfl)
    | (apply r_l; apply ld_mn'; assumption; rfl)
    | (apply r_l; apply ld_mx'; assumption; rfl)
    | (apply r_l; apply ld_subs'; assumption; rfl)
    | (apply r_l; apply ld_node'; assumption; rfl)
    | (apply r_p; apply ix_rule; rfl; rfl; omega)
    | (apply r_l; apply ld_rname; exact hr; rfl)
    | (apply r_callA (ags := [nodeA L[i].2]); rfl; exact hna; exact h45)
    | (apply r_ldL; rfl; rfl; rfl)
    | (apply r_lss; rfl; rfl; (first | (apply decide_eq_true; omega) | (apply decide_eq_false; omega) | rfl))
    | (apply r_leq; rfl; rfl; (first | (apply decide_eq_true; omega) | (apply decide_eq_false; omega) | rfl))
    | (apply r_gtr; rfl; rfl; (first | (apply decide_eq_true; omega) | (apply decide_eq_false; omega) | rfl))
    | (apply r_add; rfl; rfl; rfl; omega)
    | (apply r_not; rfl; rfl)
    | (apply r_pickT; rfl)
    | (apply r_pickF; rfl)
    | (apply r_lenD; rfl)
    | (apply r_lenL; rfl)
    | (apply r_len0; rfl)
    | (apply r_lenT; rfl)
    | (apply r_gT; rfl)
    | (apply r_gF'; rfl; rfl)
    | (apply r_gN'; rfl)
    | ((apply r_gS (o := default); rfl) <;> (intro h; try simp only [decide_eq_true_eq, decide_eq_false_iff_not, Bool.not_eq_true, Bool.not_eq_false] at h))
    | (apply r_p; rfl)
    | (apply r_nilK)
    | (apply r_nil)
    | (apply k_V; rfl)
    | (apply k_P; rfl)
    | (apply k_PL; rfl)
    | (apply k_S; rfl)
    | (apply k_SL; rfl)
    | (apply k_A; rfl)
    | (apply k_T; rfl)
    | (apply k_F; rfl)
    | (apply k_D; rfl; rotate_left; rfl)
    | (apply k_nil)
    | (apply e_ret (vs := [.d (.val _)]); rfl)
    | (apply e_ret; rfl)
    | (apply e_ret' (vs := [.d (.val _)]); rfl)
    | (apply e_ret'; rfl)
    | (apply w_seq)
    | (apply w_ops; ((conv => lhs; simp only [Nat.reduceAdd]) <;> rfl))
    | (apply w_condT; rfl)
    | (apply w_condF; rfl)
    | ((apply w_condS; rfl) <;> (intro h; try simp only [decide_eq_true_eq, decide_eq_false_iff_not, Bool.not_eq_true, Bool.not_eq_false] at h))
    | (apply e_thenN)
    | (apply w_block)
    | (apply e_thenR)
    | (apply e_thenX)
    | (apply e_blkN)
    | (apply e_blkR)
    | (apply e_blkE)
    | (apply w_exit)
    | (apply w_ret)
    | (apply w_skip)
    | (apply e_blkE'; rfl))
      refine retB ?_
      rw [fewR, all_false fewP L i hlt (by simp [fewP, h1])]; rfl
  · rw [List.take_of_length_le (by omega)] at ha
    by_cases h20 : L.length ≤ 20
    · repeat' (first
    | (apply r_mvV; rfl)
    | (apply r_mvP; rfl)
    | (apply r_mvPL; rfl)
    | (apply r_mvS; rfl)
    | (apply r_mvSL; rfl)
    | (apply r_mvA; rfl)
    | (apply r_mvT; rfl)
    | (apply r_mvF; rfl)
    | (apply r_mvD; rfl)
    | (apply r_faddD; rfl)
    | (apply r_faddL; rfl)
    | (apply r_l; apply ld_kind; assumption; rfl)
    | (apply r_l; apply ld_mn; assumption; rfl)
    | (apply r_l; apply ld_mx; assumption; rfl)
    | (apply r_l; apply ld_subs; assumption; rfl)
    | (apply r_l; apply ld_set; assumption; rfl)
    | (apply r_l; apply ld_node; assumption; rfl)
    | (apply r_l; apply ld_kind'; assumption; rfl)
    | (apply r_l; apply ld_mn'; assumption; rfl)
    | (apply r_l; apply ld_mx'; assumption; rfl)
    | (apply r_l; apply ld_subs'; assumption; rfl)
    | (apply r_l; apply ld_node'; assumption; rfl)
    | (apply r_ldL; rfl; rfl; rfl)
    | (apply r_lss; rfl; rfl; (first | (apply decide_eq_true; omega) | (apply decide_eq_false; omega) | rfl))
    | (apply r_leq; rfl; rfl; (first | (apply decide_eq_true; omega) | (apply decide_eq_false; omega) | rfl))
    | (apply r_gtr; rfl; rfl; (first | (apply decide_eq_true; omega) | (apply decide_eq_false; omega) | rfl))
    | (apply r_add; rfl; rfl; rfl; omega)
    | (apply r_not; rfl; rfl)
    | (apply r_pickT; rfl)
    | (apply r_pickF; rfl)
    | (apply r_lenD; rfl)
    | (apply r_lenL; rfl)
    | (apply r_len0; rfl)
    | (apply r_lenT; rfl)
    | (apply r_gT; rfl)
    | (apply r_gF'; rfl; rfl)
    | (apply r_gN'; rfl)
    | ((apply r_gS (o := default); rfl) <;> (intro h; try simp only [decide_eq_true_eq, decide_eq_false_iff_not, Bool.not_eq_true, Bool.not_eq_false] at h))
    | (apply r_p; rfl)
    | (apply r_nilK)
    | (apply r_nil)
    | (apply k_V; rfl)
    | (apply k_P; rfl)
    | (apply k_PL; rfl)
    | (apply k_S; rfl)
    | (apply k_SL; rfl)
    | (apply k_A; rfl)
    | (apply k_T; rfl)
    | (apply k_F; rfl)
    | (apply k_D; rfl; rotate_left; rfl)
    | (apply k_nil)
    | (apply e_ret (vs := [.d (.val _)]); rfl)
    | (apply e_ret; rfl)
    | (apply e_ret' (vs := [.d (.val _)]); rfl)
    | (apply e_ret'; rfl)
    | (apply w_seq)
    | (apply w_ops; ((conv => lhs; simp only [Nat.reduceAdd]) <;> rfl))
    | (apply w_condT; rfl)
    | (apply w_condF; rfl)
    | ((apply w_condS; rfl) <;> (intro h; try simp only [decide_eq_true_eq, decide_eq_false_iff_not, Bool.not_eq_true, Bool.not_eq_false] at h))
    | (apply e_thenN)
    | (apply w_block)
    | (apply e_thenR)
    | (apply e_thenX)
    | (apply e_blkN)
    | (apply e_blkR)
    | (apply e_blkE)
    | (apply w_exit)
    | (apply w_ret)
    | (apply w_skip)
    | (apply e_blkE'; rfl))
      refine retB ?_
      simp [fewR, ha, h20]
    · repeat' (first
    | (apply r_mvV; rfl)
    | (apply r_mvP; rfl)
    | (apply r_mvPL; rfl)
    | (apply r_mvS; rfl)
    | (apply r_mvSL; rfl)
    | (apply r_mvA; rfl)
    | (apply r_mvT; rfl)
    | (apply r_mvF; rfl)
    | (apply r_mvD; rfl)
    | (apply r_faddD; rfl)
    | (apply r_faddL; rfl)
    | (apply r_l; apply ld_kind; assumption; rfl)
    | (apply r_l; apply ld_mn; assumption; rfl)
    | (apply r_l; apply ld_mx; assumption; rfl)
    | (apply r_l; apply ld_subs; assumption; rfl)
    | (apply r_l; apply ld_set; assumption; rfl)
    | (apply r_l; apply ld_node; assumption; rfl)
    | (apply r_l; apply ld_kind'; assumption; rfl)
    | (apply r_l; apply ld_mn'; assumption; rfl)
    | (apply r_l; apply ld_mx'; assumption; rfl)
    | (apply r_l; apply ld_subs'; assumption; rfl)
    | (apply r_l; apply ld_node'; assumption; rfl)
    | (apply r_ldL; rfl; rfl; rfl)
    | (apply r_lss; rfl; rfl; (first | (apply decide_eq_true; omega) | (apply decide_eq_false; omega) | rfl))
    | (apply r_leq; rfl; rfl; (first | (apply decide_eq_true; omega) | (apply decide_eq_false; omega) | rfl))
    | (apply r_gtr; rfl; rfl; (first | (apply decide_eq_true; omega) | (apply decide_eq_false; omega) | rfl))
    | (apply r_add; rfl; rfl; rfl; omega)
    | (apply r_not; rfl; rfl)
    | (apply r_pickT; rfl)
    | (apply r_pickF; rfl)
    | (apply r_lenD; rfl)
    | (apply r_lenL; rfl)
    | (apply r_len0; rfl)
    | (apply r_lenT; rfl)
    | (apply r_gT; rfl)
    | (apply r_gF'; rfl; rfl)
    | (apply r_gN'; rfl)
    | ((apply r_gS (o := default); rfl) <;> (intro h; try simp only [decide_eq_true_eq, decide_eq_false_iff_not, Bool.not_eq_true, Bool.not_eq_false] at h))
    | (apply r_p; rfl)
    | (apply r_nilK)
    | (apply r_nil)
    | (apply k_V; rfl)
    | (apply k_P; rfl)
    | (apply k_PL; rfl)
    | (apply k_S; rfl)
    | (apply k_SL; rfl)
    | (apply k_A; rfl)
    | (apply k_T; rfl)
    | (apply k_F; rfl)
    | (apply k_D; rfl; rotate_left; rfl)
    | (apply k_nil)
    | (apply e_ret (vs := [.d (.val _)]); rfl)
    | (apply e_ret; rfl)
    | (apply e_ret' (vs := [.d (.val _)]); rfl)
    | (apply e_ret'; rfl)
    | (apply w_seq)
    | (apply w_ops; ((conv => lhs; simp only [Nat.reduceAdd]) <;> rfl))
    | (apply w_condT; rfl)
    | (apply w_condF; rfl)
    | ((apply w_condS; rfl) <;> (intro h; try simp only [decide_eq_true_eq, decide_eq_false_iff_not, Bool.not_eq_true, Bool.not_eq_false] at h))
    | (apply e_thenN)
    | (apply w_block)
    | (apply e_thenR)
    | (apply e_thenX)
    | (apply e_blkN)
    | (apply e_blkR)
    | (apply e_blkE)
    | (apply w_exit)
    | (apply w_ret)
    | (apply w_skip)
    | (apply e_blkE'; rfl))
      refine retB ?_
      simp [fewR, h20]
def bestG (f : T → Int) (from_ : Int) : RL → Int → Int × Int → Int × Int
  | [], _, st => st
  | r :: l, i, st => bestG f from_ l (i + 1) (if max from_ st.2 < f r.2 then (i, f r.2) else st)
theorem bestG_drop (f : T → Int) (from_ : Int) (l : RL) (i : Nat) (j : Int) (st : Int × Int) (h : i < l.length) : bestG f from_ (l.drop i) j st = bestG f from_ (l.drop (i + 1)) (j + 1) (if max from_ st.2 < f l[i].2 then (j, f l[i].2) else st) := by
  rw [List.drop_eq_getElem_cons h, bestG]
def okRL (L : RL) : Prop := ∀ r ∈ L, r.2.cnt ≤ 1000000 ∧ (fitsT r.2 12 = true → okT r.2)
theorem retT3 {C : Heap} {Z : Frz} {live : Bool} {a b a' b' : Int} {c c' : Bool} (h1 : a = a') (h2 : b = b') (h3 : c = c') : RetOK C Z (tupOf [.i a, .i b, .b c]) live (.tup [.i a', .i b', .b c']) none none := by
  subst h1 h2 h3
  exact .data _ rfl
theorem best42_good (s : ByteArray) (hsz : s.size ≤ 1000000) (L : RL) (hL : L.length ≤ 1000000) (hok : okRL L) (from_ : Int) (hfr : inW from_) :
    Good Try.prog 42 [.d (.sl (encR L) L.length), .d (.val (.string s)), .i from_] none (.tup [.i (bestG (fun t => lastG (allG s t from_)) from_ L 0 (-1, -1)).1, .i (bestG (fun t => lastG (allG s t from_)) from_ L 0 (-1, -1)).2, .b (decide (0 ≤ (bestG (fun t => lastG (allG s t from_)) from_ L 0 (-1, -1)).1))]) none none := by
  refine b42 (by simp) (by simp) (w_init ?_)
  unfold x42
  unfold inW at hfr
  repeat' (first
    | (apply r_mvV; rfl)
    | (apply r_mvP; rfl)
    | (apply r_mvPL; rfl)
    | (apply r_mvS; rfl)
    | (apply r_mvSL; rfl)
    | (apply r_mvA; rfl)
    | (apply r_mvT; rfl)
    | (apply r_mvF; rfl)
    | (apply r_mvD; rfl)
    | (apply r_faddD; rfl)
    | (apply r_faddL; rfl)
    | (apply r_l; apply ld_kind; assumption; rfl)
    | (apply r_l; apply ld_mn; assumption; rfl)
    | (apply r_l; apply ld_mx; assumption; rfl)
    | (apply r_l; apply ld_subs; assumption; rfl)
    | (apply r_l; apply ld_set; assumption; rfl)
    | (apply r_l; apply ld_node; assumption; rfl)
    | (apply r_l; apply ld_kind'; assumption; rfl)
    | (apply r_l; apply ld_mn'; assumption; rfl)
    | (apply r_l; apply ld_mx'; assumption; rfl)
    | (apply r_l; apply ld_subs'; assumption; rfl)
    | (apply r_l; apply ld_node'; assumption; rfl)
    | (apply r_ldL; rfl; rfl; rfl)
    | (apply r_lss; rfl; rfl; (first | (apply decide_eq_true; omega) | (apply decide_eq_false; omega) | rfl))
    | (apply r_gtr; rfl; rfl; (first | (apply decide_eq_true; omega) | (apply decide_eq_false; omega) | rfl))
    | (apply r_geq; rfl; rfl; (first | (apply decide_eq_true; omega) | (apply decide_eq_false; omega) | rfl))
    | (apply r_add; rfl; rfl; rfl; omega)
    | (apply r_max2; rfl; rfl; rfl)
    | (apply r_lenD; rfl)
    | (apply r_lenL; rfl)
    | (apply r_len0; rfl)
    | (apply r_alloc; ((conv => lhs; simp only [Nat.reduceAdd]) <;> rfl); rfl)
    | (apply r_stL; rfl; rfl; rfl; rfl; (first | rfl | (simp only [z_nil, z_add] <;> rfl)); rfl; rfl)
    | (apply r_p; rfl)
    | (apply r_nilK)
    | (apply r_nil)
    | (apply k_V; rfl)
    | (apply k_P; rfl)
    | (apply k_PL; rfl)
    | (apply k_S; rfl)
    | (apply k_SL; rfl)
    | (apply k_A; rfl)
    | (apply k_T; rfl)
    | (apply k_F; rfl)
    | (apply k_D; rfl; rotate_left; rfl)
    | (apply k_nil)
    | (apply e_ret (vs := [.d (.val _)]); rfl)
    | (apply e_ret; rfl)
    | (apply e_ret' (vs := [.d (.val _)]); rfl)
    | (apply e_ret'; rfl)
    | (apply w_seq)
    | (apply w_ops; ((conv => lhs; simp only [Nat.reduceAdd]) <;> rfl))
    | (apply w_condT; rfl)
    | (apply w_condF; rfl)
    | ((apply w_condS; rfl) <;> (intro h; try simp only [decide_eq_true_eq, decide_eq_false_iff_not, Bool.not_eq_true, Bool.not_eq_false] at h))
    | (apply e_thenN)
    | (apply w_block)
    | (apply e_thenR)
    | (apply e_thenX)
    | (apply e_blkN)
    | (apply e_blkR)
    | (apply e_blkE)
    | (apply w_exit)
    | (apply w_ret)
    | (apply w_skip)
    | (apply e_blkE'; rfl))
  apply w_loopI (ι := Nat × Int × Int) (S := fun q => ⟨((((((Fr.nil.put 1 (.d (.val (.string s)))).put 2 (.i from_)).put 6 (.i q.2.1)).put 7 (.i q.2.2)).put 12 (.d (.sl (encR L) L.length))).put 13 (.i L.length)).put 14 (.i q.1), Heap.nil, Frz.lo 100, 100⟩) (m := fun q => L.length - q.1)
    (I := fun q => q.1 ≤ L.length ∧ bestG (fun t => lastG (allG s t from_)) from_ L 0 (-1, -1) = bestG (fun t => lastG (allG s t from_)) from_ (L.drop q.1) q.1 q.2) (i0 := (0, -1, -1))
  · exact ⟨Nat.zero_le _, by simp⟩
  · refine wk0 (by omega) ?_
    repeat' (first
    | exact FWk.nil
    | (apply FWk.i; rfl; (first | rfl | omega | (simp; done)))
    | (apply FWk.sl; rfl; rfl; rfl; rfl; omega; rfl)
    | (apply FWk.ptr; rfl; rfl; rfl; omega; rfl)
    | (apply FWk.d; rfl; rfl)
    | (apply FWk.a; rfl; rfl; rfl)
    | (apply FWk.slN; rfl; omega; rfl))
  rintro ⟨i, ru, to⟩ K ⟨hi, hb⟩ hK
  dsimp only at hi hb hK ⊢
  rcases Nat.lt_or_ge i L.length with hlt | hge
  · have hr := RuleAt.sub hlt
    have hdr := bestG_drop (fun t => lastG (allG s t from_)) from_ L i i (ru, to) hlt
    rw [hdr] at hb
    have hk := hok _ (List.getElem_mem hlt)
    have h34 := longest_good s hsz L[i].2 hk.1 hk.2 from_
    clear hdr
    generalize L[i] = rr at hr hb h34
    obtain ⟨nm, ⟨k, a, b, c, d, mn, mx, subs⟩⟩ := rr
    have e0 : nodeA (.node k a b c d mn mx subs) = .agg [.i k, .d (.val (.int .u64 a)), .d (.val (.int .u64 b)), .d (.val (.int .u64 c)), .d (.val (.int .u64 d)), .i mn, .i mx, .d (.sl (encL subs) subs.length)] := rfl
    dsimp only at hb h34
    rw [e0] at h34
    generalize lastG (allG s (.node k a b c d mn mx subs) from_) = e at hb h34
    by_cases hgt : max from_ to < e
    · rw [if_pos hgt] at hb
      repeat' (first
    | (apply r_mvV; rfl)
    | (apply r_mvP; rfl)
    | (apply r_mvPL; rfl)
    | (apply r_mvS; rfl)
    | (apply r_mvSL; rfl)
    | (apply r_mvA; rfl)
    | (apply r_mvT; rfl)
    | (apply r_mvF; rfl)
    | (apply r_mvD; rfl)
    | (apply r_faddD; rfl)
    | (apply r_faddL; rfl)
    | (apply r_p; apply ix_rule; rfl; rfl; omega)
    | (apply r_l; apply ld_rule; exact hr; rfl)
    | (apply r_callA; rfl; rfl; exact h34)
    | (apply r_ldL; rfl; rfl; rfl)
    | (apply r_lss; rfl; rfl; (first | (apply decide_eq_true; omega) | (apply decide_eq_false; omega) | rfl))
    | (apply r_gtr; rfl; rfl; (first | (apply decide_eq_true; omega) | (apply decide_eq_false; omega) | rfl))
    | (apply r_geq; rfl; rfl; (first | (apply decide_eq_true; omega) | (apply decide_eq_false; omega) | rfl))
    | (apply r_add; rfl; rfl; rfl; omega)
    | (apply r_max2; rfl; rfl; rfl)
    | (apply r_lenD; rfl)
    | (apply r_lenL; rfl)
    | (apply r_len0; rfl)
    | (apply r_alloc; ((conv => lhs; simp only [Nat.reduceAdd]) <;> rfl); rfl)
    | (apply r_stL; rfl; rfl; rfl; rfl; (first | rfl | (simp only [z_nil, z_add] <;> rfl)); rfl; rfl)
    | (apply r_p; rfl)
    | (apply r_nilK)
    | (apply r_nil)
    | (apply k_V; rfl)
    | (apply k_P; rfl)
    | (apply k_PL; rfl)
    | (apply k_S; rfl)
    | (apply k_SL; rfl)
    | (apply k_A; rfl)
    | (apply k_T; rfl)
    | (apply k_F; rfl)
    | (apply k_D; rfl; rotate_left; rfl)
    | (apply k_nil)
    | (apply e_ret (vs := [.d (.val _)]); rfl)
    | (apply e_ret; rfl)
    | (apply e_ret' (vs := [.d (.val _)]); rfl)
    | (apply e_ret'; rfl)
    | (apply w_seq)
    | (apply w_ops; ((conv => lhs; simp only [Nat.reduceAdd]) <;> rfl))
    | (apply w_condT; rfl)
    | (apply w_condF; rfl)
    | ((apply w_condS; rfl) <;> (intro h; try simp only [decide_eq_true_eq, decide_eq_false_iff_not, Bool.not_eq_true, Bool.not_eq_false] at h))
    | (apply e_thenN)
    | (apply w_block)
    | (apply e_thenR)
    | (apply e_thenX)
    | (apply e_blkN)
    | (apply e_blkR)
    | (apply e_blkE)
    | (apply w_exit)
    | (apply w_ret)
    | (apply w_skip)
    | (apply e_blkE'; rfl))
      apply e_thenK
      apply hK (i + 1, i, e)
      · exact ⟨by omega, by rw [hb]; rfl⟩
      · dsimp only; omega
      · refine wk0 (by omega) ?_
        repeat' (first
    | exact FWk.nil
    | (apply FWk.i; rfl; (first | rfl | omega | (simp; done)))
    | (apply FWk.sl; rfl; rfl; rfl; rfl; omega; rfl)
    | (apply FWk.ptr; rfl; rfl; rfl; omega; rfl)
    | (apply FWk.d; rfl; rfl)
    | (apply FWk.a; rfl; rfl; rfl)
    | (apply FWk.slN; rfl; omega; rfl))
    · rw [if_neg hgt] at hb
      repeat' (first
    | (apply r_mvV; rfl)
    | (apply r_mvP; rfl)
    | (apply r_mvPL; rfl)
    | (apply r_mvS; rfl)
    | (apply r_mvSL; rfl)
    | (apply r_mvA; rfl)
    | (apply r_mvT; rfl)
    | (apply r_mvF; rfl)
    | (apply r_mvD; rfl)
    | (apply r_faddD; rfl)
    | (apply r_faddL; rfl)
    | (apply r_p; apply ix_rule; rfl; rfl; omega)
    | (apply r_l; apply ld_rule; exact hr; rfl)
    | (apply r_callA; rfl; rfl; exact h34)
    | (apply r_ldL; rfl; rfl; rfl)
    | (apply r_lss; rfl; rfl; (first | (apply decide_eq_true; omega) | (apply decide_eq_false; omega) | rfl))
    | (apply r_gtr; rfl; rfl; (first | (apply decide_eq_true; omega) | (apply decide_eq_false; omega) | rfl))
    | (apply r_geq; rfl; rfl; (first | (apply decide_eq_true; omega) | (apply decide_eq_false; omega) | rfl))
    | (apply r_add; rfl; rfl; rfl; omega)
    | (apply r_max2; rfl; rfl; rfl)
    | (apply r_lenD; rfl)
    | (apply r_lenL; rfl)
    | (apply r_len0; rfl)
    | (apply r_alloc; ((conv => lhs; simp only [Nat.reduceAdd]) <;> rfl); rfl)
    | (apply r_stL; rfl; rfl; rfl; rfl; (first | rfl | (simp only [z_nil, z_add] <;> rfl)); rfl; rfl)
    | (apply r_p; rfl)
    | (apply r_nilK)
    | (apply r_nil)
    | (apply k_V; rfl)
    | (apply k_P; rfl)
    | (apply k_PL; rfl)
    | (apply k_S; rfl)
    | (apply k_SL; rfl)
    | (apply k_A; rfl)
    | (apply k_T; rfl)
    | (apply k_F; rfl)
    | (apply k_D; rfl; rotate_left; rfl)
    | (apply k_nil)
    | (apply e_ret (vs := [.d (.val _)]); rfl)
    | (apply e_ret; rfl)
    | (apply e_ret' (vs := [.d (.val _)]); rfl)
    | (apply e_ret'; rfl)
    | (apply w_seq)
    | (apply w_ops; ((conv => lhs; simp only [Nat.reduceAdd]) <;> rfl))
    | (apply w_condT; rfl)
    | (apply w_condF; rfl)
    | ((apply w_condS; rfl) <;> (intro h; try simp only [decide_eq_true_eq, decide_eq_false_iff_not, Bool.not_eq_true, Bool.not_eq_false] at h))
    | (apply e_thenN)
    | (apply w_block)
    | (apply e_thenR)
    | (apply e_thenX)
    | (apply e_blkN)
    | (apply e_blkR)
    | (apply e_blkE)
    | (apply w_exit)
    | (apply w_ret)
    | (apply w_skip)
    | (apply e_blkE'; rfl))
      apply e_thenK
      apply hK (i + 1, ru, to)
      · exact ⟨by omega, by rw [hb]; rfl⟩
      · dsimp only; omega
      · refine wk0 (by omega) ?_
        repeat' (first
    | exact FWk.nil
    | (apply FWk.i; rfl; (first | rfl | omega | (simp; done)))
    | (apply FWk.sl; rfl; rfl; rfl; rfl; omega; rfl)
    | (apply FWk.ptr; rfl; rfl; rfl; omega; rfl)
    | (apply FWk.d; rfl; rfl)
    | (apply FWk.a; rfl; rfl; rfl)
    | (apply FWk.slN; rfl; omega; rfl))
  · rw [show i = L.length by omega, List.drop_length, bestG] at hb
    rw [hb]
    repeat' (first
    | (apply r_mvV; rfl)
    | (apply r_mvP; rfl)
    | (apply r_mvPL; rfl)
    | (apply r_mvS; rfl)
    | (apply r_mvSL; rfl)
    | (apply r_mvA; rfl)
    | (apply r_mvT; rfl)
    | (apply r_mvF; rfl)
    | (apply r_mvD; rfl)
    | (apply r_faddD; rfl)
    | (apply r_faddL; rfl)
    | (apply r_ldL; rfl; rfl; rfl)
    | (apply r_lss; rfl; rfl; (first | (apply decide_eq_true; omega) | (apply decide_eq_false; omega) | rfl))
    | (apply r_gtr; rfl; rfl; (first | (apply decide_eq_true; omega) | (apply decide_eq_false; omega) | rfl))
    | (apply r_geq; rfl; rfl; (first | (apply decide_eq_true; omega) | (apply decide_eq_false; omega) | rfl))
    | (apply r_add; rfl; rfl; rfl; omega)
    | (apply r_max2; rfl; rfl; rfl)
    | (apply r_lenD; rfl)
    | (apply r_lenL; rfl)
    | (apply r_len0; rfl)
    | (apply r_alloc; ((conv => lhs; simp only [Nat.reduceAdd]) <;> rfl); rfl)
    | (apply r_stL; rfl; rfl; rfl; rfl; (first | rfl | (simp only [z_nil, z_add] <;> rfl)); rfl; rfl)
    | (apply r_p; rfl)
    | (apply r_nilK)
    | (apply r_nil)
    | (apply k_V; rfl)
    | (apply k_P; rfl)
    | (apply k_PL; rfl)
    | (apply k_S; rfl)
    | (apply k_SL; rfl)
    | (apply k_A; rfl)
    | (apply k_T; rfl)
    | (apply k_F; rfl)
    | (apply k_D; rfl; rotate_left; rfl)
    | (apply k_nil)
    | (apply e_ret (vs := [.d (.val _)]); rfl)
    | (apply e_ret; rfl)
    | (apply e_ret' (vs := [.d (.val _)]); rfl)
    | (apply e_ret'; rfl)
    | (apply w_seq)
    | (apply w_ops; ((conv => lhs; simp only [Nat.reduceAdd]) <;> rfl))
    | (apply w_condT; rfl)
    | (apply w_condF; rfl)
    | ((apply w_condS; rfl) <;> (intro h; try simp only [decide_eq_true_eq, decide_eq_false_iff_not, Bool.not_eq_true, Bool.not_eq_false] at h))
    | (apply e_thenN)
    | (apply w_block)
    | (apply e_thenR)
    | (apply e_thenX)
    | (apply e_blkN)
    | (apply e_blkR)
    | (apply e_blkE)
    | (apply w_exit)
    | (apply w_ret)
    | (apply w_skip)
    | (apply e_blkE'; rfl))
    all_goals exact retT3 rfl rfl (by symm; first | (apply decide_eq_true; assumption) | (apply decide_eq_false; assumption) | rfl)
end Go.Sv
namespace Go.Sv
open Go Go.Proofs Go.Proofs.Ytcnlgmajkclgjaa Go.ChangeShapes Go.WideShapes Go.ChangeAt Go.RowKit
set_option linter.unusedVariables false
set_option maxRecDepth 100000
theorem encR_flat : ∀ l : RL, encR l = l.flatMap (fun r => .val (.string r.1) :: encN r.2)
  | [] => rfl
  | r :: l => by simp [encR, encR_flat l]
theorem len9 {cs : List Value} (h : cs.length = 9) : ∃ n a b c d e f g i, cs = [n, a, b, c, d, e, f, g, i] := by
  match cs, h with
  | [n, a, b, c, d, e, f, g, i], _ => exact ⟨n, a, b, c, d, e, f, g, i, rfl⟩
def inRL (L : RL) : Prop := L.length ≤ 9223372036854775807 ∧ ∀ r ∈ L, inT r.2 ∧ r.1.size ≤ 9223372036854775807
section
variable {H : Type} {enc : TypeId × Value → H} {W : World}
theorem rule_open {sp : Nat → Bool} (fuel : Nat) (cs : List Value) (x : DataW H × List MemPlace) (h : DataW.trod enc Try.prog W 0 sp true fuel 44 cs = some x) : ∃ r : ByteArray × T, (inT r.2 ∧ r.1.size ≤ 9223372036854775807) ∧ RDs W cs (.val (.string r.1) :: encN r.2) := by
  obtain ⟨xs, n, rfl, _, hl, hxl, hf⟩ := DataW.trod_struct Try.underlying44 h
  rw [cells_44] at hl
  obtain ⟨c, c0, c1, c2, c3, c4, c5, c6, c7, rfl⟩ := len9 hl
  have hx : ∀ i, i < 2 → ∃ y, xs[i]? = some y := fun i hi => ⟨_, List.getElem?_eq_getElem (by rw [hxl]; exact hi)⟩
  obtain ⟨y0, e0⟩ := hx 0 (by omega)
  obtain ⟨y1, e1⟩ := hx 1 (by omega)
  have f0 := hf 0 _ rfl
  have f1 := hf 1 _ rfl
  simp only [cells_9, cells_27, List.drop_succ_cons, List.drop_zero, List.take_succ_cons, List.take_zero, e0, e1] at f0 f1
  obtain ⟨s, g0, _, w0⟩ := DataW.trod_string Try.underlying9 f0
  obtain ⟨t, h1, h2⟩ := node_open n _ _ f1
  have : c = .string s := by cases g0; rfl
  subst this
  exact ⟨(s, t), ⟨h1, w0⟩, .cons (.val _ rfl) h2⟩
theorem arg_rules {base : Nat} {v : Value} {d : DataW H} {p : List MemPlace} (hok : Value.okWide Try.prog W .any base 41 v) (h : DataW.Trod enc Try.prog W 0 (fun _ => true) true 41 v d p) : ∃ L : RL, inRL L ∧ RA W NoA (fun _ => none) NoA v (.d (.sl (encR L) L.length)) := by
  obtain ⟨n, hn⟩ := h
  obtain ⟨a0, len0, cap0, rfl⟩ := okWide_slice Try.underlying41 hok
  rcases DataW.trod_slice Try.underlying41 hn with ⟨g4, _⟩ | ⟨ad, len, cap, elems, rest, n', _, g4, _, _, hlc, hcm, hel, hr, _⟩
  · simp [Value.cells] at g4
    obtain ⟨rfl, rfl, rfl⟩ := g4
    exact ⟨[], ⟨by simp, by simp⟩, .d _ _ (.sl0 none 0)⟩
  · simp [Value.cells] at g4
    obtain ⟨rfl, rfl, rfl⟩ := g4
    have hall : ∀ i, i < len0 → ∃ (cs : List Value) (r : ByteArray × T), W.cells? 0 (ad.add (i * 9)) 9 = some cs ∧ (inT r.2 ∧ r.1.size ≤ 9223372036854775807) ∧ RDs W cs (.val (.string r.1) :: encN r.2) := by
      intro i hi
      have h1 := hr i hi
      rw [cells_44, List.getElem?_eq_getElem (by omega)] at h1
      obtain ⟨cs, h2, h3⟩ := Option.bind_eq_some_iff.1 h1
      obtain ⟨r, h4, h5⟩ := rule_open _ cs _ h3
      exact ⟨cs, r, h2, h4, h5⟩
    obtain ⟨l, h1, h2, h3⟩ := elems_open (sz := 9) (en := fun r : ByteArray × T => .val (.string r.1) :: encN r.2) (P := fun r => inT r.2 ∧ r.1.size ≤ 9223372036854775807) (by omega) (fun r => by simp [encN_len]) len0 hall
    have hml : cap0 ≤ 9223372036854775807 := hcm
    refine ⟨l, ⟨by omega, h2⟩, .d _ _ ?_⟩
    rw [h1]
    by_cases h0 : len0 = 0
    · subst h0
      rw [List.length_eq_zero_iff.1 h1]
      exact .sl0 _ _
    · have hsp : ad = ⟨ad.block, ad.off, none⟩ := by
        obtain ⟨cs, t, g1, _, g2⟩ := hall 0 (by omega)
        obtain ⟨g7, g8⟩ := cells_at g1
        have g9 := g8 0 (by omega)
        rw [List.getElem?_eq_getElem (by omega)] at g9
        have := cell_spot g9.symm
        simpa [Addr.add] using this
      rw [hsp]
      have hlen : (encR l).length = len0 * 9 := by rw [encR_len, h1]
      refine .sl ad.block ad.off len0 cap0 (encR l) (fun j => (W.cell? ⟨ad.block, ad.off + j, none⟩).getD undef) (fun h => h) (by omega) hlc (fun j hj => ?_) (fun j hj => ?_)
      · obtain ⟨v, _, g1, _⟩ := h3 j (by omega)
        rw [g1]; rfl
      · obtain ⟨v, dd, g1, g2, g3⟩ := h3 j (by omega)
        rw [g1]
        rw [← encR_flat, List.getElem?_eq_getElem hj] at g2
        cases g2
        exact g3
end
end Go.Sv
namespace Go.Sv
open Go Go.Proofs
set_option maxRecDepth 100000
set_option maxHeartbeats 4000000
theorem lastG_mem {L : List Int} (h : L ≠ []) : lastG L ∈ L := by
  have hl : 0 < L.length := List.length_pos_iff.2 h
  unfold lastG
  rw [if_neg (by omega), List.getD_eq_getElem?_getD, List.getElem?_eq_getElem (by omega)]
  exact List.getElem_mem _
theorem lastG_nil : lastG [] = -1 := rfl
theorem lastG_app {L r : List Int} (h : r ≠ []) : lastG (L ++ r) = lastG r := by
  have hl : 0 < r.length := List.length_pos_iff.2 h
  unfold lastG
  have e : (L ++ r).length = L.length + r.length := List.length_append
  rw [if_neg (by rw [e]; omega), if_neg (by omega)]
  simp only [List.getD_eq_getElem?_getD, List.length_append]
  rw [List.getElem?_append_right (by omega), show L.length + r.length - 1 - L.length = r.length - 1 by omega]
theorem idxTo_in (q : List Bool) : ∀ (m : Nat), ∀ x ∈ idxTo q m, 0 ≤ x ∧ x < (m : Int)
  | 0, x, h => by simp [idxTo] at h
  | m + 1, x, h => by
    rw [idxTo] at h
    split at h
    · rcases List.mem_append.1 h with h | h
      · have := idxTo_in q m x h; omega
      · simp at h; omega
    · have := idxTo_in q m x h; omega
theorem last_in (s : ByteArray) (t : T) (n : Int) : -1 ≤ lastG (allG s t n) ∧ lastG (allG s t n) ≤ s.size := by
  by_cases h : allG s t n = []
  · rw [h, lastG_nil]; omega
  · have hm := lastG_mem h
    simp only [allG] at hm ⊢
    split at hm
    · rename_i hc
      rw [if_pos hc]
      have := idxTo_in _ _ _ hm
      omega
    · simp at hm
theorem last_more (s m : ByteArray) (t : T) (hok : fitsT t 12 = true → okT t) (j : Nat) (hj : j ≤ s.size) : lastG (allG s t j) ≤ lastG (allG (s ++ m) t j) := by
  by_cases hf : fitsT t 12 = true
  · obtain ⟨r, h1, h2⟩ := longer s m t hf (hok hf) j hj
    rw [h1]
    by_cases hr : r = []
    · rw [hr, List.append_nil]; exact Int.le_refl _
    · rw [lastG_app hr]
      have := h2 _ (lastG_mem hr)
      have := last_in s t j
      omega
  · have e : ∀ s', allG s' t j = [] := fun s' => by simp [allG, hf]
    rw [e, e]; exact Int.le_refl _
theorem bestG_none (f : T → Int) (from_ : Int) : ∀ (l : RL) (i : Int) (st : Int × Int), (∀ r ∈ l, f r.2 = -1) → -1 ≤ st.2 → bestG f from_ l i st = st
  | [], _, _, _, _ => rfl
  | r :: l, i, st, h, hs => by
    have h1 := h r (by simp)
    rw [bestG, if_neg (by omega)]
    exact bestG_none f from_ l _ _ (fun r hr => h r (by simp [hr])) hs
theorem bestG_mono (f g : T → Int) (from_ : Int) : ∀ (l : RL) (i j : Int) (st st' : Int × Int), (∀ r ∈ l, f r.2 ≤ g r.2) → st.2 ≤ st'.2 → (bestG f from_ l i st).2 ≤ (bestG g from_ l j st').2
  | [], _, _, _, _, _, h => h
  | r :: l, i, j, st, st', h, hs => by
    have h1 := h r (by simp)
    rw [bestG, bestG]
    refine bestG_mono f g from_ l _ _ _ _ (fun r hr => h r (by simp [hr])) ?_
    split <;> split <;> (try dsimp only) <;> omega
attribute [local irreducible] W E R KP thenK blockK retK Good xwp aRun
theorem best43_in (s : ByteArray) (hsz : s.size ≤ 1000000) (L : RL) (hL : L.length ≤ 1000000) (hok : okRL L) (j : Nat) (hj : j ≤ s.size) :
    Good Try.prog 43 [.d (.sl (encR L) L.length), .d (.val (.string s)), .i j] none (.tup [.i (bestG (fun t => lastG (allG s t j)) j L 0 (-1, -1)).1, .i (bestG (fun t => lastG (allG s t j)) j L 0 (-1, -1)).2, .b (decide (0 ≤ (bestG (fun t => lastG (allG s t j)) j L 0 (-1, -1)).1))]) none none := by
  refine b43 (by simp) (by simp) (w_init ?_)
  unfold x43
  repeat' (first
    | (apply r_mvV; rfl)
    | (apply r_mvP; rfl)
    | (apply r_mvPL; rfl)
    | (apply r_mvS; rfl)
    | (apply r_mvSL; rfl)
    | (apply r_mvA; rfl)
    | (apply r_mvT; rfl)
    | (apply r_mvF; rfl)
    | (apply r_mvD; rfl)
    | (apply r_faddD; rfl)
    | (apply r_faddL; rfl)
    | (apply r_l; apply ld_kind; assumption; rfl)
    | (apply r_l; apply ld_mn; assumption; rfl)
    | (apply r_l; apply ld_mx; assumption; rfl)
    | (apply r_l; apply ld_subs; assumption; rfl)
    | (apply r_l; apply ld_set; assumption; rfl)
    | (apply r_l; apply ld_node; assumption; rfl)
    | (apply r_l; apply ld_kind'; assumption; rfl)
    | (apply r_l; apply ld_mn'; assumption; rfl)
    | (apply r_l; apply ld_mx'; assumption; rfl)
    | (apply r_l; apply ld_subs'; assumption; rfl)
    | (apply r_l; apply ld_node'; assumption; rfl)
    | (apply r_ldL; rfl; rfl; rfl)
    | (apply r_lss; rfl; rfl; (first | (apply decide_eq_true; omega) | (apply decide_eq_false; omega) | rfl))
    | (apply r_gtr; rfl; rfl; (first | (apply decide_eq_true; omega) | (apply decide_eq_false; omega) | rfl))
    | (apply r_geq; rfl; rfl; (first | (apply decide_eq_true; omega) | (apply decide_eq_false; omega) | rfl))
    | (apply r_add; rfl; rfl; rfl; omega)
    | (apply r_not; rfl; rfl)
    | (apply r_pickT; rfl)
    | (apply r_pickF; rfl)
    | (apply r_lenD; rfl)
    | (apply r_lenL; rfl)
    | (apply r_len0; rfl)
    | (apply r_lenT; rfl)
    | (apply r_gT; rfl)
    | (apply r_gF'; rfl; rfl)
    | (apply r_gN'; rfl)
    | ((apply r_gS (o := default); rfl) <;> (intro h; try simp only [decide_eq_true_eq, decide_eq_false_iff_not, Bool.not_eq_true, Bool.not_eq_false] at h))
    | (apply r_p; rfl)
    | (apply r_nilK)
    | (apply r_nil)
    | (apply k_V; rfl)
    | (apply k_P; rfl)
    | (apply k_PL; rfl)
    | (apply k_S; rfl)
    | (apply k_SL; rfl)
    | (apply k_A; rfl)
    | (apply k_T; rfl)
    | (apply k_F; rfl)
    | (apply k_D; rfl; rotate_left; rfl)
    | (apply k_nil)
    | (apply e_ret (vs := [.d (.val _)]); rfl)
    | (apply e_ret; rfl)
    | (apply e_ret' (vs := [.d (.val _)]); rfl)
    | (apply e_ret'; rfl)
    | (apply w_seq)
    | (apply w_ops; ((conv => lhs; simp only [Nat.reduceAdd]) <;> rfl))
    | (apply w_condT; rfl)
    | (apply w_condF; rfl)
    | ((apply w_condS; rfl) <;> (intro h; try simp only [decide_eq_true_eq, decide_eq_false_iff_not, Bool.not_eq_true, Bool.not_eq_false] at h))
    | (apply e_thenN)
    | (apply w_block)
    | (apply e_thenR)
    | (apply e_thenX)
    | (apply e_blkN)
    | (apply e_blkR)
    | (apply e_blkE)
    | (apply w_exit)
    | (apply w_ret)
    | (apply w_skip)
    | (apply e_blkE'; rfl))
  apply w_loopI (ι := Nat × Int × Int) (S := fun q => ⟨(((((Fr.nil.put 0 (.d (.sl (encR L) L.length))).put 1 (.d (.val (.string s)))).put 2 (.i j)).put 9 (.i q.2.1)).put 10 (.i q.2.2)).put 11 (.i q.1), Heap.nil, Frz.lo 100, 100⟩) (m := fun q => L.length - q.1)
    (I := fun q => q.1 ≤ L.length ∧ -1 ≤ q.2.2 ∧ bestG (fun t => lastG (allG s t j)) j L 0 (-1, -1) = bestG (fun t => lastG (allG s t j)) j (L.drop q.1) q.1 q.2) (i0 := (0, -1, -1))
  · exact ⟨Nat.zero_le _, by simp, by simp⟩
  · refine wk0 (by omega) ?_
    repeat' (first
    | exact FWk.nil
    | (apply FWk.i; rfl; (first | rfl | omega | (simp; done)))
    | (apply FWk.sl; rfl; rfl; rfl; rfl; omega; rfl)
    | (apply FWk.ptr; rfl; rfl; rfl; omega; rfl)
    | (apply FWk.d; rfl; rfl)
    | (apply FWk.a; rfl; rfl; rfl)
    | (apply FWk.slN; rfl; omega; rfl))
  rintro ⟨i, ru, to⟩ K ⟨hi, hto, hb⟩ hK
  dsimp only at hi hto hb hK ⊢
  rcases Nat.lt_or_ge i L.length with hlt | hge
  · have hr := RuleAt.sub hlt
    have hn := hr.node
    have hdr := bestG_drop (fun t => lastG (allG s t j)) j L i i (ru, to) hlt
    rw [hdr] at hb
    have hk := hok _ (List.getElem_mem hlt)
    have h32 := right8_good L[i].2 hk.1
    have hin := last_in s L[i].2 j
    have hna : [nodeA L[i].2].all AV.nrm = true := by rw [List.all_cons, nodeA_nrm]; rfl
    have hna2 : [nodeA L[i].2, .d (.val (.string s)), .i (j : Int)].all AV.nrm = true := by rw [List.all_cons, nodeA_nrm]; rfl
    clear hdr
    by_cases hri : rightT L[i].2 = true
    · have hfi : fitsT L[i].2 12 = true := by rw [← right_fits]; exact hri
      have h37 := longest37_good s hsz L[i].2 hk.1 (hk.2 hfi) j hj
      rw [← all_ref s L[i].2 hfi (hk.2 hfi) j hj] at h37
      rw [hri] at h32
      dsimp only at hb
      generalize lastG (allG s L[i].2 j) = e at hb h37 hin
      by_cases hgt : max (j : Int) to < e
      · rw [if_pos hgt] at hb
        repeat' (first
    | (apply r_mvV; rfl)
    | (apply r_mvP; rfl)
    | (apply r_mvPL; rfl)
    | (apply r_mvS; rfl)
    | (apply r_mvSL; rfl)
    | (apply r_mvA; rfl)
    | (apply r_mvT; rfl)
    | (apply r_mvF; rfl)
    | (apply r_mvD; rfl)
    | (apply r_faddD; rfl)
    | (apply r_faddL; rfl)
    | (apply r_l; apply ld_kind; assumption; rfl)
    | (apply r_l; apply ld_mn; assumption; rfl)
    | (apply r_l; apply ld_mx; assumption; rfl)
    | (apply r_l; apply ld_subs; assumption; rfl)
    | (apply r_l; apply ld_set; assumption; rfl)
    | (apply r_l; apply ld_node; assumption; rfl)
    | (apply r_l; apply ld_kind'; assumption; rfl)
    | (apply r_l; apply ld_mn'; assumption; rfl)
    | (apply r_l; apply ld_mx'; assumption; rfl)
    | (apply r_l; apply ld_subs'; assumption; rfl)
    | (apply r_l; apply ld_node'; assumption; rfl)
    | (apply r_p; apply ix_rule; rfl; rfl; omega)
    | (apply r_callA (ags := [nodeA L[i].2]); rfl; exact hna; exact h32)
    | (apply r_callA (ags := [nodeA L[i].2, .d (.val (.string s)), .i (j : Int)]); rfl; exact hna2; exact h37)
    | (apply r_ldL; rfl; rfl; rfl)
    | (apply r_lss; rfl; rfl; (first | (apply decide_eq_true; omega) | (apply decide_eq_false; omega) | rfl))
    | (apply r_gtr; rfl; rfl; (first | (apply decide_eq_true; omega) | (apply decide_eq_false; omega) | rfl))
    | (apply r_geq; rfl; rfl; (first | (apply decide_eq_true; omega) | (apply decide_eq_false; omega) | rfl))
    | (apply r_add; rfl; rfl; rfl; omega)
    | (apply r_not; rfl; rfl)
    | (apply r_pickT; rfl)
    | (apply r_pickF; rfl)
    | (apply r_lenD; rfl)
    | (apply r_lenL; rfl)
    | (apply r_len0; rfl)
    | (apply r_lenT; rfl)
    | (apply r_gT; rfl)
    | (apply r_gF'; rfl; rfl)
    | (apply r_gN'; rfl)
    | ((apply r_gS (o := default); rfl) <;> (intro h; try simp only [decide_eq_true_eq, decide_eq_false_iff_not, Bool.not_eq_true, Bool.not_eq_false] at h))
    | (apply r_p; rfl)
    | (apply r_nilK)
    | (apply r_nil)
    | (apply k_V; rfl)
    | (apply k_P; rfl)
    | (apply k_PL; rfl)
    | (apply k_S; rfl)
    | (apply k_SL; rfl)
    | (apply k_A; rfl)
    | (apply k_T; rfl)
    | (apply k_F; rfl)
    | (apply k_D; rfl; rotate_left; rfl)
    | (apply k_nil)
    | (apply e_ret (vs := [.d (.val _)]); rfl)
    | (apply e_ret; rfl)
    | (apply e_ret' (vs := [.d (.val _)]); rfl)
    | (apply e_ret'; rfl)
    | (apply w_seq)
    | (apply w_ops; ((conv => lhs; simp only [Nat.reduceAdd]) <;> rfl))
    | (apply w_condT; rfl)
    | (apply w_condF; rfl)
    | ((apply w_condS; rfl) <;> (intro h; try simp only [decide_eq_true_eq, decide_eq_false_iff_not, Bool.not_eq_true, Bool.not_eq_false] at h))
    | (apply e_thenN)
    | (apply w_block)
    | (apply e_thenR)
    | (apply e_thenX)
    | (apply e_blkN)
    | (apply e_blkR)
    | (apply e_blkE)
    | (apply w_exit)
    | (apply w_ret)
    | (apply w_skip)
    | (apply e_blkE'; rfl))
        apply e_thenK
        apply hK (i + 1, i, e)
        · exact ⟨by omega, by dsimp only; omega, by rw [hb]; rfl⟩
        · dsimp only; omega
        · refine wk0 (by omega) ?_
          repeat' (first
    | exact FWk.nil
    | (apply FWk.i; rfl; (first | rfl | omega | (simp; done)))
    | (apply FWk.sl; rfl; rfl; rfl; rfl; omega; rfl)
    | (apply FWk.ptr; rfl; rfl; rfl; omega; rfl)
    | (apply FWk.d; rfl; rfl)
    | (apply FWk.a; rfl; rfl; rfl)
    | (apply FWk.slN; rfl; omega; rfl))
      · rw [if_neg hgt] at hb
        repeat' (first
    | (apply r_mvV; rfl)
    | (apply r_mvP; rfl)
    | (apply r_mvPL; rfl)
    | (apply r_mvS; rfl)
    | (apply r_mvSL; rfl)
    | (apply r_mvA; rfl)
    | (apply r_mvT; rfl)
    | (apply r_mvF; rfl)
    | (apply r_mvD; rfl)
    | (apply r_faddD; rfl)
    | (apply r_faddL; rfl)
    | (apply r_l; apply ld_kind; assumption; rfl)
    | (apply r_l; apply ld_mn; assumption; rfl)
    | (apply r_l; apply ld_mx; assumption; rfl)
    | (apply r_l; apply ld_subs; assumption; rfl)
    | (apply r_l; apply ld_set; assumption; rfl)
    | (apply r_l; apply ld_node; assumption; rfl)
    | (apply r_l; apply ld_kind'; assumption; rfl)
    | (apply r_l; apply ld_mn'; assumption; rfl)
    | (apply r_l; apply ld_mx'; assumption; rfl)
    | (apply r_l; apply ld_subs'; assumption; rfl)
    | (apply r_l; apply ld_node'; assumption; rfl)
    | (apply r_p; apply ix_rule; rfl; rfl; omega)
    | (apply r_callA (ags := [nodeA L[i].2]); rfl; exact hna; exact h32)
    | (apply r_callA (ags := [nodeA L[i].2, .d (.val (.string s)), .i (j : Int)]); rfl; exact hna2; exact h37)
    | (apply r_ldL; rfl; rfl; rfl)
    | (apply r_lss; rfl; rfl; (first | (apply decide_eq_true; omega) | (apply decide_eq_false; omega) | rfl))
    | (apply r_gtr; rfl; rfl; (first | (apply decide_eq_true; omega) | (apply decide_eq_false; omega) | rfl))
    | (apply r_geq; rfl; rfl; (first | (apply decide_eq_true; omega) | (apply decide_eq_false; omega) | rfl))
    | (apply r_add; rfl; rfl; rfl; omega)
    | (apply r_not; rfl; rfl)
    | (apply r_pickT; rfl)
    | (apply r_pickF; rfl)
    | (apply r_lenD; rfl)
    | (apply r_lenL; rfl)
    | (apply r_len0; rfl)
    | (apply r_lenT; rfl)
    | (apply r_gT; rfl)
    | (apply r_gF'; rfl; rfl)
    | (apply r_gN'; rfl)
    | ((apply r_gS (o := default); rfl) <;> (intro h; try simp only [decide_eq_true_eq, decide_eq_false_iff_not, Bool.not_eq_true, Bool.not_eq_false] at h))
    | (apply r_p; rfl)
    | (apply r_nilK)
    | (apply r_nil)
    | (apply k_V; rfl)
    | (apply k_P; rfl)
    | (apply k_PL; rfl)
    | (apply k_S; rfl)
    | (apply k_SL; rfl)
    | (apply k_A; rfl)
    | (apply k_T; rfl)
    | (apply k_F; rfl)
    | (apply k_D; rfl; rotate_left; rfl)
    | (apply k_nil)
    | (apply e_ret (vs := [.d (.val _)]); rfl)
    | (apply e_ret; rfl)
    | (apply e_ret' (vs := [.d (.val _)]); rfl)
    | (apply e_ret'; rfl)
    | (apply w_seq)
    | (apply w_ops; ((conv => lhs; simp only [Nat.reduceAdd]) <;> rfl))
    | (apply w_condT; rfl)
    | (apply w_condF; rfl)
    | ((apply w_condS; rfl) <;> (intro h; try simp only [decide_eq_true_eq, decide_eq_false_iff_not, Bool.not_eq_true, Bool.not_eq_false] at h))
    | (apply e_thenN)
    | (apply w_block)
    | (apply e_thenR)
    | (apply e_thenX)
    | (apply e_blkN)
    | (apply e_blkR)
    | (apply e_blkE)
    | (apply w_exit)
    | (apply w_ret)
    | (apply w_skip)
    | (apply e_blkE'; rfl))
        all_goals
          apply e_thenK
          apply hK (i + 1, ru, to)
          · exact ⟨by omega, hto, by rw [hb]; rfl⟩
          · dsimp only; omega
          · refine wk0 (by omega) ?_
            repeat' (first
    | exact FWk.nil
    | (apply FWk.i; rfl; (first | rfl | omega | (simp; done)))
    | (apply FWk.sl; rfl; rfl; rfl; rfl; omega; rfl)
    | (apply FWk.ptr; rfl; rfl; rfl; omega; rfl)
    | (apply FWk.d; rfl; rfl)
    | (apply FWk.a; rfl; rfl; rfl)
    | (apply FWk.slN; rfl; omega; rfl))
    · have hri : rightT L[i].2 = false := by simpa using hri
      have hfi : fitsT L[i].2 12 = false := by rw [← right_fits]; exact hri
      have he : allG s L[i].2 j = [] := by simp [allG, hfi]
      dsimp only at hb
      rw [he, lastG_nil, if_neg (by omega)] at hb
      rw [hri] at h32
      repeat' (first
    | (apply r_mvV; rfl)
    | (apply r_mvP; rfl)
    | (apply r_mvPL; rfl)
    | (apply r_mvS; rfl)
    | (apply r_mvSL; rfl)
    | (apply r_mvA; rfl)
    | (apply r_mvT; rfl)
    | (apply r_mvF; rfl)
    | (apply r_mvD; rfl)
    | (apply r_faddD; rfl)
    | (apply r_faddL; rfl)
    | (apply r_l; apply ld_kind; assumption; rfl)
    | (apply r_l; apply ld_mn; assumption; rfl)
    | (apply r_l; apply ld_mx; assumption; rfl)
    | (apply r_l; apply ld_subs; assumption; rfl)
    | (apply r_l; apply ld_set; assumption; rfl)
    | (apply r_l; apply ld_node; assumption; rfl)
    | (apply r_l; apply ld_kind'; assumption; rfl)
    | (apply r_l; apply ld_mn'; assumption; rfl)
    | (apply r_l; apply ld_mx'; assumption; rfl)
    | (apply r_l; apply ld_subs'; assumption; rfl)
    | (apply r_l; apply ld_node'; assumption; rfl)
    | (apply r_p; apply ix_rule; rfl; rfl; omega)
    | (apply r_callA (ags := [nodeA L[i].2]); rfl; exact hna; exact h32)
    | (apply r_ldL; rfl; rfl; rfl)
    | (apply r_lss; rfl; rfl; (first | (apply decide_eq_true; omega) | (apply decide_eq_false; omega) | rfl))
    | (apply r_gtr; rfl; rfl; (first | (apply decide_eq_true; omega) | (apply decide_eq_false; omega) | rfl))
    | (apply r_geq; rfl; rfl; (first | (apply decide_eq_true; omega) | (apply decide_eq_false; omega) | rfl))
    | (apply r_add; rfl; rfl; rfl; omega)
    | (apply r_not; rfl; rfl)
    | (apply r_pickT; rfl)
    | (apply r_pickF; rfl)
    | (apply r_lenD; rfl)
    | (apply r_lenL; rfl)
    | (apply r_len0; rfl)
    | (apply r_lenT; rfl)
    | (apply r_gT; rfl)
    | (apply r_gF'; rfl; rfl)
    | (apply r_gN'; rfl)
    | ((apply r_gS (o := default); rfl) <;> (intro h; try simp only [decide_eq_true_eq, decide_eq_false_iff_not, Bool.not_eq_true, Bool.not_eq_false] at h))
    | (apply r_p; rfl)
    | (apply r_nilK)
    | (apply r_nil)
    | (apply k_V; rfl)
    | (apply k_P; rfl)
    | (apply k_PL; rfl)
    | (apply k_S; rfl)
    | (apply k_SL; rfl)
    | (apply k_A; rfl)
    | (apply k_T; rfl)
    | (apply k_F; rfl)
    | (apply k_D; rfl; rotate_left; rfl)
    | (apply k_nil)
    | (apply e_ret (vs := [.d (.val _)]); rfl)
    | (apply e_ret; rfl)
    | (apply e_ret' (vs := [.d (.val _)]); rfl)
    | (apply e_ret'; rfl)
    | (apply w_seq)
    | (apply w_ops; ((conv => lhs; simp only [Nat.reduceAdd]) <;> rfl))
    | (apply w_condT; rfl)
    | (apply w_condF; rfl)
    | ((apply w_condS; rfl) <;> (intro h; try simp only [decide_eq_true_eq, decide_eq_false_iff_not, Bool.not_eq_true, Bool.not_eq_false] at h))
    | (apply e_thenN)
    | (apply w_block)
    | (apply e_thenR)
    | (apply e_thenX)
    | (apply e_blkN)
    | (apply e_blkR)
    | (apply e_blkE)
    | (apply w_exit)
    | (apply w_ret)
    | (apply w_skip)
    | (apply e_blkE'; rfl))
      apply e_thenK
      apply hK (i + 1, ru, to)
      · exact ⟨by omega, hto, by rw [hb]; rfl⟩
      · dsimp only; omega
      · refine wk0 (by omega) ?_
        repeat' (first
    | exact FWk.nil
    | (apply FWk.i; rfl; (first | rfl | omega | (simp; done)))
    | (apply FWk.sl; rfl; rfl; rfl; rfl; omega; rfl)
    | (apply FWk.ptr; rfl; rfl; rfl; omega; rfl)
    | (apply FWk.d; rfl; rfl)
    | (apply FWk.a; rfl; rfl; rfl)
    | (apply FWk.slN; rfl; omega; rfl))
  · rw [show i = L.length by omega, List.drop_length, bestG] at hb
    rw [hb]
    repeat' (first
    | (apply r_mvV; rfl)
    | (apply r_mvP; rfl)
    | (apply r_mvPL; rfl)
    | (apply r_mvS; rfl)
    | (apply r_mvSL; rfl)
    | (apply r_mvA; rfl)
    | (apply r_mvT; rfl)
    | (apply r_mvF; rfl)
    | (apply r_mvD; rfl)
    | (apply r_faddD; rfl)
    | (apply r_faddL; rfl)
    | (apply r_ldL; rfl; rfl; rfl)
    | (apply r_lss; rfl; rfl; (first | (apply decide_eq_true; omega) | (apply decide_eq_false; omega) | rfl))
    | (apply r_gtr; rfl; rfl; (first | (apply decide_eq_true; omega) | (apply decide_eq_false; omega) | rfl))
    | (apply r_geq; rfl; rfl; (first | (apply decide_eq_true; omega) | (apply decide_eq_false; omega) | rfl))
    | (apply r_add; rfl; rfl; rfl; omega)
    | (apply r_not; rfl; rfl)
    | (apply r_pickT; rfl)
    | (apply r_pickF; rfl)
    | (apply r_lenD; rfl)
    | (apply r_lenL; rfl)
    | (apply r_len0; rfl)
    | (apply r_lenT; rfl)
    | (apply r_gT; rfl)
    | (apply r_gF'; rfl; rfl)
    | (apply r_gN'; rfl)
    | ((apply r_gS (o := default); rfl) <;> (intro h; try simp only [decide_eq_true_eq, decide_eq_false_iff_not, Bool.not_eq_true, Bool.not_eq_false] at h))
    | (apply r_p; rfl)
    | (apply r_nilK)
    | (apply r_nil)
    | (apply k_V; rfl)
    | (apply k_P; rfl)
    | (apply k_PL; rfl)
    | (apply k_S; rfl)
    | (apply k_SL; rfl)
    | (apply k_A; rfl)
    | (apply k_T; rfl)
    | (apply k_F; rfl)
    | (apply k_D; rfl; rotate_left; rfl)
    | (apply k_nil)
    | (apply e_ret (vs := [.d (.val _)]); rfl)
    | (apply e_ret; rfl)
    | (apply e_ret' (vs := [.d (.val _)]); rfl)
    | (apply e_ret'; rfl)
    | (apply w_seq)
    | (apply w_ops; ((conv => lhs; simp only [Nat.reduceAdd]) <;> rfl))
    | (apply w_condT; rfl)
    | (apply w_condF; rfl)
    | ((apply w_condS; rfl) <;> (intro h; try simp only [decide_eq_true_eq, decide_eq_false_iff_not, Bool.not_eq_true, Bool.not_eq_false] at h))
    | (apply e_thenN)
    | (apply w_block)
    | (apply e_thenR)
    | (apply e_thenX)
    | (apply e_blkN)
    | (apply e_blkR)
    | (apply e_blkE)
    | (apply w_exit)
    | (apply w_ret)
    | (apply w_skip)
    | (apply e_blkE'; rfl))
    all_goals exact retT3 rfl rfl (by symm; first | (apply decide_eq_true; assumption) | (apply decide_eq_false; assumption) | rfl)
theorem best43_out (s : ByteArray) (hsz : s.size ≤ 1000000) (L : RL) (n : Int) (hn : inW n) (hfr : ¬ (0 ≤ n ∧ n ≤ s.size)) :
    Good Try.prog 43 [.d (.sl (encR L) L.length), .d (.val (.string s)), .i n] none (.tup [.i (-1), .i (-1), .b false]) none none := by
  unfold inW at hn
  refine b43 (by simp) (by simp) (w_init ?_)
  unfold x43
  by_cases hneg : n < 0
  · repeat' (first
    | (apply r_mvV; rfl)
    | (apply r_mvP; rfl)
    | (apply r_mvPL; rfl)
    | (apply r_mvS; rfl)
    | (apply r_mvSL; rfl)
    | (apply r_mvA; rfl)
    | (apply r_mvT; rfl)
    | (apply r_mvF; rfl)
    | (apply r_mvD; rfl)
    | (apply r_faddD; rfl)
    | (apply r_faddL; rfl)
    | (apply r_ldL; rfl; rfl; rfl)
    | (apply r_lss; rfl; rfl; (first | (apply decide_eq_true; omega) | (apply decide_eq_false; omega) | rfl))
    | (apply r_gtr; rfl; rfl; (first | (apply decide_eq_true; omega) | (apply decide_eq_false; omega) | rfl))
    | (apply r_geq; rfl; rfl; (first | (apply decide_eq_true; omega) | (apply decide_eq_false; omega) | rfl))
    | (apply r_add; rfl; rfl; rfl; omega)
    | (apply r_not; rfl; rfl)
    | (apply r_pickT; rfl)
    | (apply r_pickF; rfl)
    | (apply r_lenD; rfl)
    | (apply r_lenL; rfl)
    | (apply r_len0; rfl)
    | (apply r_lenT; rfl)
    | (apply r_gT; rfl)
    | (apply r_gF'; rfl; rfl)
    | (apply r_gN'; rfl)
    | ((apply r_gS (o := default); rfl) <;> (intro h; try simp only [decide_eq_true_eq, decide_eq_false_iff_not, Bool.not_eq_true, Bool.not_eq_false] at h))
    | (apply r_p; rfl)
    | (apply r_nilK)
    | (apply r_nil)
    | (apply k_V; rfl)
    | (apply k_P; rfl)
    | (apply k_PL; rfl)
    | (apply k_S; rfl)
    | (apply k_SL; rfl)
    | (apply k_A; rfl)
    | (apply k_T; rfl)
    | (apply k_F; rfl)
    | (apply k_D; rfl; rotate_left; rfl)
    | (apply k_nil)
    | (apply e_ret (vs := [.d (.val _)]); rfl)
    | (apply e_ret; rfl)
    | (apply e_ret' (vs := [.d (.val _)]); rfl)
    | (apply e_ret'; rfl)
    | (apply w_seq)
    | (apply w_ops; ((conv => lhs; simp only [Nat.reduceAdd]) <;> rfl))
    | (apply w_condT; rfl)
    | (apply w_condF; rfl)
    | ((apply w_condS; rfl) <;> (intro h; try simp only [decide_eq_true_eq, decide_eq_false_iff_not, Bool.not_eq_true, Bool.not_eq_false] at h))
    | (apply e_thenN)
    | (apply w_block)
    | (apply e_thenR)
    | (apply e_thenX)
    | (apply e_blkN)
    | (apply e_blkR)
    | (apply e_blkE)
    | (apply w_exit)
    | (apply w_ret)
    | (apply w_skip)
    | (apply e_blkE'; rfl))
    exact retT3 rfl rfl rfl
  · repeat' (first
    | (apply r_mvV; rfl)
    | (apply r_mvP; rfl)
    | (apply r_mvPL; rfl)
    | (apply r_mvS; rfl)
    | (apply r_mvSL; rfl)
    | (apply r_mvA; rfl)
    | (apply r_mvT; rfl)
    | (apply r_mvF; rfl)
    | (apply r_mvD; rfl)
    | (apply r_faddD; rfl)
    | (apply r_faddL; rfl)
    | (apply r_ldL; rfl; rfl; rfl)
    | (apply r_lss; rfl; rfl; (first | (apply decide_eq_true; omega) | (apply decide_eq_false; omega) | rfl))
    | (apply r_gtr; rfl; rfl; (first | (apply decide_eq_true; omega) | (apply decide_eq_false; omega) | rfl))
    | (apply r_geq; rfl; rfl; (first | (apply decide_eq_true; omega) | (apply decide_eq_false; omega) | rfl))
    | (apply r_add; rfl; rfl; rfl; omega)
    | (apply r_not; rfl; rfl)
    | (apply r_pickT; rfl)
    | (apply r_pickF; rfl)
    | (apply r_lenD; rfl)
    | (apply r_lenL; rfl)
    | (apply r_len0; rfl)
    | (apply r_lenT; rfl)
    | (apply r_gT; rfl)
    | (apply r_gF'; rfl; rfl)
    | (apply r_gN'; rfl)
    | ((apply r_gS (o := default); rfl) <;> (intro h; try simp only [decide_eq_true_eq, decide_eq_false_iff_not, Bool.not_eq_true, Bool.not_eq_false] at h))
    | (apply r_p; rfl)
    | (apply r_nilK)
    | (apply r_nil)
    | (apply k_V; rfl)
    | (apply k_P; rfl)
    | (apply k_PL; rfl)
    | (apply k_S; rfl)
    | (apply k_SL; rfl)
    | (apply k_A; rfl)
    | (apply k_T; rfl)
    | (apply k_F; rfl)
    | (apply k_D; rfl; rotate_left; rfl)
    | (apply k_nil)
    | (apply e_ret (vs := [.d (.val _)]); rfl)
    | (apply e_ret; rfl)
    | (apply e_ret' (vs := [.d (.val _)]); rfl)
    | (apply e_ret'; rfl)
    | (apply w_seq)
    | (apply w_ops; ((conv => lhs; simp only [Nat.reduceAdd]) <;> rfl))
    | (apply w_condT; rfl)
    | (apply w_condF; rfl)
    | ((apply w_condS; rfl) <;> (intro h; try simp only [decide_eq_true_eq, decide_eq_false_iff_not, Bool.not_eq_true, Bool.not_eq_false] at h))
    | (apply e_thenN)
    | (apply w_block)
    | (apply e_thenR)
    | (apply e_thenX)
    | (apply e_blkN)
    | (apply e_blkR)
    | (apply e_blkE)
    | (apply w_exit)
    | (apply w_ret)
    | (apply w_skip)
    | (apply e_blkE'; rfl))
    exact retT3 rfl rfl rfl
theorem law6 (L : RL) (s m : ByteArray) (n : Int) (hL : inRL L) (hs : s.size ≤ 140737488355328) (hm : m.size ≤ 140737488355328) (hn : inW n) : Good Try.prog 6 [.d (.sl (encR L) L.length), .d (.val (.string s)), .d (.val (.string m)), .i n] none (.b true) none none := by
  have haw := awake11_good
  have h41 := few41_good L hL.1 fun r hr => (hL.2 r hr).2
  have hsm := size_app s m
  by_cases hf : fewR L = true
  case neg =>
    rw [show fewR L = false by simpa using hf] at h41
    refine b6 (by simp) (by simp) (w_init ?_)
    unfold x6
    repeat' (first
    | (apply r_mvV; rfl)
    | (apply r_mvP; rfl)
    | (apply r_mvPL; rfl)
    | (apply r_mvS; rfl)
    | (apply r_mvSL; rfl)
    | (apply r_mvA; rfl)
    | (apply r_mvT; rfl)
    | (apply r_mvF; rfl)
    | (apply r_mvD; rfl)
    | (apply r_faddD; rfl)
    | (apply r_faddL; rfl)
    | (apply r_callA; rfl; rfl; exact haw)
    | (apply r_callA; rfl; rfl; exact h41)
    | (apply r_addS; rfl; rfl; omega)
    | (apply r_ldL; rfl; rfl; rfl)
    | (apply r_eql; rfl; rfl; (first | (apply decide_eq_true; omega) | (apply decide_eq_false; omega) | rfl))
    | (apply r_lss; rfl; rfl; (first | (apply decide_eq_true; omega) | (apply decide_eq_false; omega) | rfl))
    | (apply r_gtr; rfl; rfl; (first | (apply decide_eq_true; omega) | (apply decide_eq_false; omega) | rfl))
    | (apply r_geq; rfl; rfl; (first | (apply decide_eq_true; omega) | (apply decide_eq_false; omega) | rfl))
    | (apply r_add; rfl; rfl; rfl; omega)
    | (apply r_not; rfl; rfl)
    | (apply r_beq; rfl; rfl; rfl)
    | (apply r_pickT; rfl)
    | (apply r_pickF; rfl)
    | (apply r_lenD; rfl)
    | (apply r_lenL; rfl)
    | (apply r_len0; rfl)
    | (apply r_lenT; rfl)
    | (apply r_ext; rfl; rfl)
    | (apply r_gT; rfl)
    | (apply r_gF'; rfl; rfl)
    | (apply r_gN'; rfl)
    | ((apply r_gS (o := default); rfl) <;> (intro h; try simp only [decide_eq_true_eq, decide_eq_false_iff_not, Bool.not_eq_true, Bool.not_eq_false] at h))
    | (apply r_alloc; ((conv => lhs; simp only [Nat.reduceAdd]) <;> rfl); rfl)
    | (apply r_stL; rfl; rfl; rfl; rfl; (first | rfl | (simp only [z_nil, z_add] <;> rfl)); rfl; rfl)
    | (apply r_p; rfl)
    | (apply r_nilK)
    | (apply r_nil)
    | (apply k_V; rfl)
    | (apply k_P; rfl)
    | (apply k_PL; rfl)
    | (apply k_S; rfl)
    | (apply k_SL; rfl)
    | (apply k_A; rfl)
    | (apply k_T; rfl)
    | (apply k_F; rfl)
    | (apply k_D; rfl; rotate_left; rfl)
    | (apply k_nil)
    | (apply e_ret (vs := [.d (.val _)]); rfl)
    | (apply e_ret; rfl)
    | (apply e_ret' (vs := [.d (.val _)]); rfl)
    | (apply e_ret'; rfl)
    | (apply w_seq)
    | (apply w_ops; ((conv => lhs; simp only [Nat.reduceAdd]) <;> rfl))
    | (apply w_condT; rfl)
    | (apply w_condF; rfl)
    | ((apply w_condS; rfl) <;> (intro h; try simp only [decide_eq_true_eq, decide_eq_false_iff_not, Bool.not_eq_true, Bool.not_eq_false] at h))
    | (apply e_thenN)
    | (apply w_block)
    | (apply e_thenR)
    | (apply e_thenX)
    | (apply e_blkN)
    | (apply e_blkR)
    | (apply e_blkE)
    | (apply w_exit)
    | (apply w_ret)
    | (apply w_skip)
    | (apply e_blkE'; rfl))
    exact retB rfl
  rw [hf] at h41
  by_cases h40 : s.size + m.size ≤ 40
  case neg =>
    refine b6 (by simp) (by simp) (w_init ?_)
    unfold x6
    repeat' (first
    | (apply r_mvV; rfl)
    | (apply r_mvP; rfl)
    | (apply r_mvPL; rfl)
    | (apply r_mvS; rfl)
    | (apply r_mvSL; rfl)
    | (apply r_mvA; rfl)
    | (apply r_mvT; rfl)
    | (apply r_mvF; rfl)
    | (apply r_mvD; rfl)
    | (apply r_faddD; rfl)
    | (apply r_faddL; rfl)
    | (apply r_callA; rfl; rfl; exact haw)
    | (apply r_callA; rfl; rfl; exact h41)
    | (apply r_addS; rfl; rfl; omega)
    | (apply r_ldL; rfl; rfl; rfl)
    | (apply r_eql; rfl; rfl; (first | (apply decide_eq_true; omega) | (apply decide_eq_false; omega) | rfl))
    | (apply r_lss; rfl; rfl; (first | (apply decide_eq_true; omega) | (apply decide_eq_false; omega) | rfl))
    | (apply r_gtr; rfl; rfl; (first | (apply decide_eq_true; omega) | (apply decide_eq_false; omega) | rfl))
    | (apply r_geq; rfl; rfl; (first | (apply decide_eq_true; omega) | (apply decide_eq_false; omega) | rfl))
    | (apply r_add; rfl; rfl; rfl; omega)
    | (apply r_not; rfl; rfl)
    | (apply r_beq; rfl; rfl; rfl)
    | (apply r_pickT; rfl)
    | (apply r_pickF; rfl)
    | (apply r_lenD; rfl)
    | (apply r_lenL; rfl)
    | (apply r_len0; rfl)
    | (apply r_lenT; rfl)
    | (apply r_ext; rfl; rfl)
    | (apply r_gT; rfl)
    | (apply r_gF'; rfl; rfl)
    | (apply r_gN'; rfl)
    | ((apply r_gS (o := default); rfl) <;> (intro h; try simp only [decide_eq_true_eq, decide_eq_false_iff_not, Bool.not_eq_true, Bool.not_eq_false] at h))
    | (apply r_alloc; ((conv => lhs; simp only [Nat.reduceAdd]) <;> rfl); rfl)
    | (apply r_stL; rfl; rfl; rfl; rfl; (first | rfl | (simp only [z_nil, z_add] <;> rfl)); rfl; rfl)
    | (apply r_p; rfl)
    | (apply r_nilK)
    | (apply r_nil)
    | (apply k_V; rfl)
    | (apply k_P; rfl)
    | (apply k_PL; rfl)
    | (apply k_S; rfl)
    | (apply k_SL; rfl)
    | (apply k_A; rfl)
    | (apply k_T; rfl)
    | (apply k_F; rfl)
    | (apply k_D; rfl; rotate_left; rfl)
    | (apply k_nil)
    | (apply e_ret (vs := [.d (.val _)]); rfl)
    | (apply e_ret; rfl)
    | (apply e_ret' (vs := [.d (.val _)]); rfl)
    | (apply e_ret'; rfl)
    | (apply w_seq)
    | (apply w_ops; ((conv => lhs; simp only [Nat.reduceAdd]) <;> rfl))
    | (apply w_condT; rfl)
    | (apply w_condF; rfl)
    | ((apply w_condS; rfl) <;> (intro h; try simp only [decide_eq_true_eq, decide_eq_false_iff_not, Bool.not_eq_true, Bool.not_eq_false] at h))
    | (apply e_thenN)
    | (apply w_block)
    | (apply e_thenR)
    | (apply e_thenX)
    | (apply e_blkN)
    | (apply e_blkR)
    | (apply e_blkE)
    | (apply w_exit)
    | (apply w_ret)
    | (apply w_skip)
    | (apply e_blkE'; rfl))
    exact retB rfl
  simp only [fewR, Bool.and_eq_true, decide_eq_true_eq] at hf
  have hl20 := hf.2
  have hin := hn
  unfold inW at hn
  refine b6 (by simp) (by simp) (w_init ?_)
  unfold x6
  repeat' (first
    | (apply r_mvV; rfl)
    | (apply r_mvP; rfl)
    | (apply r_mvPL; rfl)
    | (apply r_mvS; rfl)
    | (apply r_mvSL; rfl)
    | (apply r_mvA; rfl)
    | (apply r_mvT; rfl)
    | (apply r_mvF; rfl)
    | (apply r_mvD; rfl)
    | (apply r_faddD; rfl)
    | (apply r_faddL; rfl)
    | (apply r_callA; rfl; rfl; exact haw)
    | (apply r_callA; rfl; rfl; exact h41)
    | (apply r_addS; rfl; rfl; omega)
    | (apply r_ldL; rfl; rfl; rfl)
    | (apply r_eql; rfl; rfl; (first | (apply decide_eq_true; omega) | (apply decide_eq_false; omega) | rfl))
    | (apply r_lss; rfl; rfl; (first | (apply decide_eq_true; omega) | (apply decide_eq_false; omega) | rfl))
    | (apply r_gtr; rfl; rfl; (first | (apply decide_eq_true; omega) | (apply decide_eq_false; omega) | rfl))
    | (apply r_geq; rfl; rfl; (first | (apply decide_eq_true; omega) | (apply decide_eq_false; omega) | rfl))
    | (apply r_add; rfl; rfl; rfl; omega)
    | (apply r_not; rfl; rfl)
    | (apply r_beq; rfl; rfl; rfl)
    | (apply r_pickT; rfl)
    | (apply r_pickF; rfl)
    | (apply r_lenD; rfl)
    | (apply r_lenL; rfl)
    | (apply r_len0; rfl)
    | (apply r_lenT; rfl)
    | (apply r_ext; rfl; rfl)
    | (apply r_gT; rfl)
    | (apply r_gF'; rfl; rfl)
    | (apply r_gN'; rfl)
    | ((apply r_gS (o := default); rfl) <;> (intro h; try simp only [decide_eq_true_eq, decide_eq_false_iff_not, Bool.not_eq_true, Bool.not_eq_false] at h))
    | (apply r_alloc; ((conv => lhs; simp only [Nat.reduceAdd]) <;> rfl); rfl)
    | (apply r_stL; rfl; rfl; rfl; rfl; (first | rfl | (simp only [z_nil, z_add] <;> rfl)); rfl; rfl)
    | (apply r_p; rfl)
    | (apply r_nilK)
    | (apply r_nil)
    | (apply k_V; rfl)
    | (apply k_P; rfl)
    | (apply k_PL; rfl)
    | (apply k_S; rfl)
    | (apply k_SL; rfl)
    | (apply k_A; rfl)
    | (apply k_T; rfl)
    | (apply k_F; rfl)
    | (apply k_D; rfl; rotate_left; rfl)
    | (apply k_nil)
    | (apply e_ret (vs := [.d (.val _)]); rfl)
    | (apply e_ret; rfl)
    | (apply e_ret' (vs := [.d (.val _)]); rfl)
    | (apply e_ret'; rfl)
    | (apply w_seq)
    | (apply w_ops; ((conv => lhs; simp only [Nat.reduceAdd]) <;> rfl))
    | (apply w_condT; rfl)
    | (apply w_condF; rfl)
    | ((apply w_condS; rfl) <;> (intro h; try simp only [decide_eq_true_eq, decide_eq_false_iff_not, Bool.not_eq_true, Bool.not_eq_false] at h))
    | (apply e_thenN)
    | (apply w_block)
    | (apply e_thenR)
    | (apply e_thenX)
    | (apply e_blkN)
    | (apply e_blkR)
    | (apply e_blkE)
    | (apply w_exit)
    | (apply w_ret)
    | (apply w_skip)
    | (apply e_blkE'; rfl))
  apply w_loopI (S := fun i : Nat => ⟨((((((Fr.nil.put 0 (.d (.sl (encR L) L.length))).put 1 (.d (.val (.string s)))).put 2 (.d (.val (.string m)))).put 3 (.i n)).put 36 (.d (.sl (encR L) L.length))).put 37 (.i L.length)).put 38 (.i i), Heap.nil, Frz.lo 100, 100⟩) (m := fun i => L.length - i) (I := fun i => i ≤ L.length ∧ (L.take i).all (fun r => few11 s r.2) = true) (i0 := 0)
  · exact ⟨Nat.zero_le _, rfl⟩
  · refine wk0 (by omega) ?_
    repeat' (first
    | exact FWk.nil
    | (apply FWk.i; rfl; (first | rfl | omega | (simp; done)))
    | (apply FWk.sl; rfl; rfl; rfl; rfl; omega; rfl)
    | (apply FWk.ptr; rfl; rfl; rfl; omega; rfl)
    | (apply FWk.d; rfl; rfl)
    | (apply FWk.a; rfl; rfl; rfl)
    | (apply FWk.slN; rfl; omega; rfl))
  rintro i K ⟨hi, ha⟩ hK
  dsimp only
  rcases Nat.lt_or_ge i L.length with hlt | hge
  · have hr := RuleAt.sub hlt
    have hat := all_take (fun r => few11 s r.2) L i hlt
    have h30 := few30_good s (by omega) L[i].2 (hL.2 _ (List.getElem_mem hlt)).1
    generalize L[i] = rr at hr hat h30
    obtain ⟨nm, ⟨k, a, b, c, d, mn, mx, subs⟩⟩ := rr
    have e0 : nodeA (.node k a b c d mn mx subs) = .agg [.i k, .d (.val (.int .u64 a)), .d (.val (.int .u64 b)), .d (.val (.int .u64 c)), .d (.val (.int .u64 d)), .i mn, .i mx, .d (.sl (encL subs) subs.length)] := rfl
    dsimp only at hat h30
    rw [e0] at h30
    generalize few11 s (.node k a b c d mn mx subs) = fw at hat h30
    cases fw
    · repeat' (first
    | (apply r_mvV; rfl)
    | (apply r_mvP; rfl)
    | (apply r_mvPL; rfl)
    | (apply r_mvS; rfl)
    | (apply r_mvSL; rfl)
    | (apply r_mvA; rfl)
    | (apply r_mvT; rfl)
    | (apply r_mvF; rfl)
    | (apply r_mvD; rfl)
    | (apply r_faddD; rfl)
    | (apply r_faddL; rfl)
    | (apply r_p; apply ix_rule; rfl; rfl; omega)
    | (apply r_l; apply ld_rule; exact hr; rfl)
    | (apply r_callA; rfl; rfl; exact h30)
    | (apply r_ldL; rfl; rfl; rfl)
    | (apply r_eql; rfl; rfl; (first | (apply decide_eq_true; omega) | (apply decide_eq_false; omega) | rfl))
    | (apply r_lss; rfl; rfl; (first | (apply decide_eq_true; omega) | (apply decide_eq_false; omega) | rfl))
    | (apply r_gtr; rfl; rfl; (first | (apply decide_eq_true; omega) | (apply decide_eq_false; omega) | rfl))
    | (apply r_geq; rfl; rfl; (first | (apply decide_eq_true; omega) | (apply decide_eq_false; omega) | rfl))
    | (apply r_add; rfl; rfl; rfl; omega)
    | (apply r_not; rfl; rfl)
    | (apply r_beq; rfl; rfl; rfl)
    | (apply r_pickT; rfl)
    | (apply r_pickF; rfl)
    | (apply r_lenD; rfl)
    | (apply r_lenL; rfl)
    | (apply r_len0; rfl)
    | (apply r_lenT; rfl)
    | (apply r_ext; rfl; rfl)
    | (apply r_gT; rfl)
    | (apply r_gF'; rfl; rfl)
    | (apply r_gN'; rfl)
    | ((apply r_gS (o := default); rfl) <;> (intro h; try simp only [decide_eq_true_eq, decide_eq_false_iff_not, Bool.not_eq_true, Bool.not_eq_false] at h))
    | (apply r_alloc; ((conv => lhs; simp only [Nat.reduceAdd]) <;> rfl); rfl)
    | (apply r_stL; rfl; rfl; rfl; rfl; (first | rfl | (simp only [z_nil, z_add] <;> rfl)); rfl; rfl)
    | (apply r_p; rfl)
    | (apply r_nilK)
    | (apply r_nil)
    | (apply k_V; rfl)
    | (apply k_P; rfl)
    | (apply k_PL; rfl)
    | (apply k_S; rfl)
    | (apply k_SL; rfl)
    | (apply k_A; rfl)
    | (apply k_T; rfl)
    | (apply k_F; rfl)
    | (apply k_D; rfl; rotate_left; rfl)
    | (apply k_nil)
    | (apply e_ret (vs := [.d (.val _)]); rfl)
    | (apply e_ret; rfl)
    | (apply e_ret' (vs := [.d (.val _)]); rfl)
    | (apply e_ret'; rfl)
    | (apply w_seq)
    | (apply w_ops; ((conv => lhs; simp only [Nat.reduceAdd]) <;> rfl))
    | (apply w_condT; rfl)
    | (apply w_condF; rfl)
    | ((apply w_condS; rfl) <;> (intro h; try simp only [decide_eq_true_eq, decide_eq_false_iff_not, Bool.not_eq_true, Bool.not_eq_false] at h))
    | (apply e_thenN)
    | (apply w_block)
    | (apply e_thenR)
    | (apply e_thenX)
    | (apply e_blkN)
    | (apply e_blkR)
    | (apply e_blkE)
    | (apply w_exit)
    | (apply w_ret)
    | (apply w_skip)
    | (apply e_blkE'; rfl))
      exact retB rfl
    · repeat' (first
    | (apply r_mvV; rfl)
    | (apply r_mvP; rfl)
    | (apply r_mvPL; rfl)
    | (apply r_mvS; rfl)
    | (apply r_mvSL; rfl)
    | (apply r_mvA; rfl)
    | (apply r_mvT; rfl)
    | (apply r_mvF; rfl)
    | (apply r_mvD; rfl)
    | (apply r_faddD; rfl)
    | (apply r_faddL; rfl)
    | (apply r_p; apply ix_rule; rfl; rfl; omega)
    | (apply r_l; apply ld_rule; exact hr; rfl)
    | (apply r_callA; rfl; rfl; exact h30)
    | (apply r_ldL; rfl; rfl; rfl)
    | (apply r_eql; rfl; rfl; (first | (apply decide_eq_true; omega) | (apply decide_eq_false; omega) | rfl))
    | (apply r_lss; rfl; rfl; (first | (apply decide_eq_true; omega) | (apply decide_eq_false; omega) | rfl))
    | (apply r_gtr; rfl; rfl; (first | (apply decide_eq_true; omega) | (apply decide_eq_false; omega) | rfl))
    | (apply r_geq; rfl; rfl; (first | (apply decide_eq_true; omega) | (apply decide_eq_false; omega) | rfl))
    | (apply r_add; rfl; rfl; rfl; omega)
    | (apply r_not; rfl; rfl)
    | (apply r_beq; rfl; rfl; rfl)
    | (apply r_pickT; rfl)
    | (apply r_pickF; rfl)
    | (apply r_lenD; rfl)
    | (apply r_lenL; rfl)
    | (apply r_len0; rfl)
    | (apply r_lenT; rfl)
    | (apply r_ext; rfl; rfl)
    | (apply r_gT; rfl)
    | (apply r_gF'; rfl; rfl)
    | (apply r_gN'; rfl)
    | ((apply r_gS (o := default); rfl) <;> (intro h; try simp only [decide_eq_true_eq, decide_eq_false_iff_not, Bool.not_eq_true, Bool.not_eq_false] at h))
    | (apply r_alloc; ((conv => lhs; simp only [Nat.reduceAdd]) <;> rfl); rfl)
    | (apply r_stL; rfl; rfl; rfl; rfl; (first | rfl | (simp only [z_nil, z_add] <;> rfl)); rfl; rfl)
    | (apply r_p; rfl)
    | (apply r_nilK)
    | (apply r_nil)
    | (apply k_V; rfl)
    | (apply k_P; rfl)
    | (apply k_PL; rfl)
    | (apply k_S; rfl)
    | (apply k_SL; rfl)
    | (apply k_A; rfl)
    | (apply k_T; rfl)
    | (apply k_F; rfl)
    | (apply k_D; rfl; rotate_left; rfl)
    | (apply k_nil)
    | (apply e_ret (vs := [.d (.val _)]); rfl)
    | (apply e_ret; rfl)
    | (apply e_ret' (vs := [.d (.val _)]); rfl)
    | (apply e_ret'; rfl)
    | (apply w_seq)
    | (apply w_ops; ((conv => lhs; simp only [Nat.reduceAdd]) <;> rfl))
    | (apply w_condT; rfl)
    | (apply w_condF; rfl)
    | ((apply w_condS; rfl) <;> (intro h; try simp only [decide_eq_true_eq, decide_eq_false_iff_not, Bool.not_eq_true, Bool.not_eq_false] at h))
    | (apply e_thenN)
    | (apply w_block)
    | (apply e_thenR)
    | (apply e_thenX)
    | (apply e_blkN)
    | (apply e_blkR)
    | (apply e_blkE)
    | (apply w_exit)
    | (apply w_ret)
    | (apply w_skip)
    | (apply e_blkE'; rfl))
      apply e_thenK
      apply hK (i + 1)
      · exact ⟨by omega, by rw [hat, ha]; rfl⟩
      · omega
      · refine wk0 (by omega) ?_
        repeat' (first
    | exact FWk.nil
    | (apply FWk.i; rfl; (first | rfl | omega | (simp; done)))
    | (apply FWk.sl; rfl; rfl; rfl; rfl; omega; rfl)
    | (apply FWk.ptr; rfl; rfl; rfl; omega; rfl)
    | (apply FWk.d; rfl; rfl)
    | (apply FWk.a; rfl; rfl; rfl)
    | (apply FWk.slN; rfl; omega; rfl))
  · rw [List.take_of_length_le (by omega)] at ha
    have hcnt : ∀ r ∈ L, r.2.cnt ≤ 200 := fun r hr => by
      have := List.all_eq_true.1 ha r hr
      simp only [few11, Bool.and_eq_true, decide_eq_true_eq] at this
      exact few_cnt this.1
    have hok : okRL L := fun r hr => ⟨by have := hcnt r hr; omega, fun h => ok_of_right (hL.2 r hr).1 (by rw [right_fits]; exact h)⟩
    have h42 := best42_good s (by omega) L (by omega) hok n hin
    have h42' := best42_good (s ++ m) (by omega) L (by omega) hok n hin
    by_cases hfr : 0 ≤ n ∧ n ≤ s.size
    · obtain ⟨j, rfl⟩ := Int.eq_ofNat_of_zero_le hfr.1
      have h43 := best43_in s (by omega) L (by omega) hok j (by omega)
      have hmo := bestG_mono (fun t => lastG (allG s t j)) (fun t => lastG (allG (s ++ m) t j)) j L 0 0 (-1, -1) (-1, -1) (fun r hr => last_more s m r.2 (hok r hr).2 j (by omega)) (Int.le_refl _)
      generalize bestG (fun t => lastG (allG s t j)) j L 0 (-1, -1) = R1 at h42 h43 hmo
      generalize bestG (fun t => lastG (allG (s ++ m) t j)) j L 0 (-1, -1) = R2 at h42' hmo
      obtain ⟨r1, r2⟩ := R1
      obtain ⟨q1, q2⟩ := R2
      dsimp only at h42 h42' h43 hmo
      generalize decide (0 ≤ r1) = ok1 at h42 h43
      cases ok1
      all_goals
        repeat' (first
    | (apply r_mvV; rfl)
    | (apply r_mvP; rfl)
    | (apply r_mvPL; rfl)
    | (apply r_mvS; rfl)
    | (apply r_mvSL; rfl)
    | (apply r_mvA; rfl)
    | (apply r_mvT; rfl)
    | (apply r_mvF; rfl)
    | (apply r_mvD; rfl)
    | (apply r_faddD; rfl)
    | (apply r_faddL; rfl)
    | (apply r_callA; rfl; rfl; exact h42)
    | (apply r_callA; rfl; rfl; exact h42')
    | (apply r_callA; rfl; rfl; exact h43)
    | (apply r_addS; rfl; rfl; omega)
    | (apply r_ldL; rfl; rfl; rfl)
    | (apply r_eql; rfl; rfl; (first | (apply decide_eq_true; omega) | (apply decide_eq_false; omega) | rfl))
    | (apply r_lss; rfl; rfl; (first | (apply decide_eq_true; omega) | (apply decide_eq_false; omega) | rfl))
    | (apply r_gtr; rfl; rfl; (first | (apply decide_eq_true; omega) | (apply decide_eq_false; omega) | rfl))
    | (apply r_geq; rfl; rfl; (first | (apply decide_eq_true; omega) | (apply decide_eq_false; omega) | rfl))
    | (apply r_add; rfl; rfl; rfl; omega)
    | (apply r_not; rfl; rfl)
    | (apply r_beq; rfl; rfl; rfl)
    | (apply r_pickT; rfl)
    | (apply r_pickF; rfl)
    | (apply r_lenD; rfl)
    | (apply r_lenL; rfl)
    | (apply r_len0; rfl)
    | (apply r_lenT; rfl)
    | (apply r_ext; rfl; rfl)
    | (apply r_gT; rfl)
    | (apply r_gF'; rfl; rfl)
    | (apply r_gN'; rfl)
    | ((apply r_gS (o := default); rfl) <;> (intro h; try simp only [decide_eq_true_eq, decide_eq_false_iff_not, Bool.not_eq_true, Bool.not_eq_false] at h))
    | (apply r_alloc; ((conv => lhs; simp only [Nat.reduceAdd]) <;> rfl); rfl)
    | (apply r_stL; rfl; rfl; rfl; rfl; (first | rfl | (simp only [z_nil, z_add] <;> rfl)); rfl; rfl)
    | (apply r_p; rfl)
    | (apply r_nilK)
    | (apply r_nil)
    | (apply k_V; rfl)
    | (apply k_P; rfl)
    | (apply k_PL; rfl)
    | (apply k_S; rfl)
    | (apply k_SL; rfl)
    | (apply k_A; rfl)
    | (apply k_T; rfl)
    | (apply k_F; rfl)
    | (apply k_D; rfl; rotate_left; rfl)
    | (apply k_nil)
    | (apply e_ret (vs := [.d (.val _)]); rfl)
    | (apply e_ret; rfl)
    | (apply e_ret' (vs := [.d (.val _)]); rfl)
    | (apply e_ret'; rfl)
    | (apply w_seq)
    | (apply w_ops; ((conv => lhs; simp only [Nat.reduceAdd]) <;> rfl))
    | (apply w_condT; rfl)
    | (apply w_condF; rfl)
    | ((apply w_condS; rfl) <;> (intro h; try simp only [decide_eq_true_eq, decide_eq_false_iff_not, Bool.not_eq_true, Bool.not_eq_false] at h))
    | (apply e_thenN)
    | (apply w_block)
    | (apply e_thenR)
    | (apply e_thenX)
    | (apply e_blkN)
    | (apply e_blkR)
    | (apply e_blkE)
    | (apply w_exit)
    | (apply w_ret)
    | (apply w_skip)
    | (apply e_blkE'; rfl))
        exact retB rfl
    · have h43 := best43_out s (by omega) L n hin hfr
      have hno : ∀ r ∈ L, lastG (allG s r.2 n) = -1 := fun r _ => by
        rw [show allG s r.2 n = [] by simp only [allG, hfr, and_false, if_false]]; rfl
      have hb := bestG_none (fun t => lastG (allG s t n)) n L 0 (-1, -1) hno (Int.le_refl _)
      rw [hb] at h42
      dsimp only at h42
      rw [show decide ((0 : Int) ≤ -1) = false by decide] at h42
      generalize bestG (fun t => lastG (allG (s ++ m) t n)) n L 0 (-1, -1) = R2 at h42'
      obtain ⟨q1, q2⟩ := R2
      dsimp only at h42'
      by_cases hneg : n < 0
      · repeat' (first
    | (apply r_mvV; rfl)
    | (apply r_mvP; rfl)
    | (apply r_mvPL; rfl)
    | (apply r_mvS; rfl)
    | (apply r_mvSL; rfl)
    | (apply r_mvA; rfl)
    | (apply r_mvT; rfl)
    | (apply r_mvF; rfl)
    | (apply r_mvD; rfl)
    | (apply r_faddD; rfl)
    | (apply r_faddL; rfl)
    | (apply r_callA; rfl; rfl; exact h42)
    | (apply r_callA; rfl; rfl; exact h42')
    | (apply r_callA; rfl; rfl; exact h43)
    | (apply r_addS; rfl; rfl; omega)
    | (apply r_ldL; rfl; rfl; rfl)
    | (apply r_eql; rfl; rfl; (first | (apply decide_eq_true; omega) | (apply decide_eq_false; omega) | rfl))
    | (apply r_lss; rfl; rfl; (first | (apply decide_eq_true; omega) | (apply decide_eq_false; omega) | rfl))
    | (apply r_gtr; rfl; rfl; (first | (apply decide_eq_true; omega) | (apply decide_eq_false; omega) | rfl))
    | (apply r_geq; rfl; rfl; (first | (apply decide_eq_true; omega) | (apply decide_eq_false; omega) | rfl))
    | (apply r_add; rfl; rfl; rfl; omega)
    | (apply r_not; rfl; rfl)
    | (apply r_beq; rfl; rfl; rfl)
    | (apply r_pickT; rfl)
    | (apply r_pickF; rfl)
    | (apply r_lenD; rfl)
    | (apply r_lenL; rfl)
    | (apply r_len0; rfl)
    | (apply r_lenT; rfl)
    | (apply r_ext; rfl; rfl)
    | (apply r_gT; rfl)
    | (apply r_gF'; rfl; rfl)
    | (apply r_gN'; rfl)
    | ((apply r_gS (o := default); rfl) <;> (intro h; try simp only [decide_eq_true_eq, decide_eq_false_iff_not, Bool.not_eq_true, Bool.not_eq_false] at h))
    | (apply r_alloc; ((conv => lhs; simp only [Nat.reduceAdd]) <;> rfl); rfl)
    | (apply r_stL; rfl; rfl; rfl; rfl; (first | rfl | (simp only [z_nil, z_add] <;> rfl)); rfl; rfl)
    | (apply r_p; rfl)
    | (apply r_nilK)
    | (apply r_nil)
    | (apply k_V; rfl)
    | (apply k_P; rfl)
    | (apply k_PL; rfl)
    | (apply k_S; rfl)
    | (apply k_SL; rfl)
    | (apply k_A; rfl)
    | (apply k_T; rfl)
    | (apply k_F; rfl)
    | (apply k_D; rfl; rotate_left; rfl)
    | (apply k_nil)
    | (apply e_ret (vs := [.d (.val _)]); rfl)
    | (apply e_ret; rfl)
    | (apply e_ret' (vs := [.d (.val _)]); rfl)
    | (apply e_ret'; rfl)
    | (apply w_seq)
    | (apply w_ops; ((conv => lhs; simp only [Nat.reduceAdd]) <;> rfl))
    | (apply w_condT; rfl)
    | (apply w_condF; rfl)
    | ((apply w_condS; rfl) <;> (intro h; try simp only [decide_eq_true_eq, decide_eq_false_iff_not, Bool.not_eq_true, Bool.not_eq_false] at h))
    | (apply e_thenN)
    | (apply w_block)
    | (apply e_thenR)
    | (apply e_thenX)
    | (apply e_blkN)
    | (apply e_blkR)
    | (apply e_blkE)
    | (apply w_exit)
    | (apply w_ret)
    | (apply w_skip)
    | (apply e_blkE'; rfl))
        exact retB rfl
      · repeat' (first
    | (apply r_mvV; rfl)
    | (apply r_mvP; rfl)
    | (apply r_mvPL; rfl)
    | (apply r_mvS; rfl)
    | (apply r_mvSL; rfl)
    | (apply r_mvA; rfl)
    | (apply r_mvT; rfl)
    | (apply r_mvF; rfl)
    | (apply r_mvD; rfl)
    | (apply r_faddD; rfl)
    | (apply r_faddL; rfl)
    | (apply r_callA; rfl; rfl; exact h42)
    | (apply r_callA; rfl; rfl; exact h42')
    | (apply r_callA; rfl; rfl; exact h43)
    | (apply r_addS; rfl; rfl; omega)
    | (apply r_ldL; rfl; rfl; rfl)
    | (apply r_eql; rfl; rfl; (first | (apply decide_eq_true; omega) | (apply decide_eq_false; omega) | rfl))
    | (apply r_lss; rfl; rfl; (first | (apply decide_eq_true; omega) | (apply decide_eq_false; omega) | rfl))
    | (apply r_gtr; rfl; rfl; (first | (apply decide_eq_true; omega) | (apply decide_eq_false; omega) | rfl))
    | (apply r_geq; rfl; rfl; (first | (apply decide_eq_true; omega) | (apply decide_eq_false; omega) | rfl))
    | (apply r_add; rfl; rfl; rfl; omega)
    | (apply r_not; rfl; rfl)
    | (apply r_beq; rfl; rfl; rfl)
    | (apply r_pickT; rfl)
    | (apply r_pickF; rfl)
    | (apply r_lenD; rfl)
    | (apply r_lenL; rfl)
    | (apply r_len0; rfl)
    | (apply r_lenT; rfl)
    | (apply r_ext; rfl; rfl)
    | (apply r_gT; rfl)
    | (apply r_gF'; rfl; rfl)
    | (apply r_gN'; rfl)
    | ((apply r_gS (o := default); rfl) <;> (intro h; try simp only [decide_eq_true_eq, decide_eq_false_iff_not, Bool.not_eq_true, Bool.not_eq_false] at h))
    | (apply r_alloc; ((conv => lhs; simp only [Nat.reduceAdd]) <;> rfl); rfl)
    | (apply r_stL; rfl; rfl; rfl; rfl; (first | rfl | (simp only [z_nil, z_add] <;> rfl)); rfl; rfl)
    | (apply r_p; rfl)
    | (apply r_nilK)
    | (apply r_nil)
    | (apply k_V; rfl)
    | (apply k_P; rfl)
    | (apply k_PL; rfl)
    | (apply k_S; rfl)
    | (apply k_SL; rfl)
    | (apply k_A; rfl)
    | (apply k_T; rfl)
    | (apply k_F; rfl)
    | (apply k_D; rfl; rotate_left; rfl)
    | (apply k_nil)
    | (apply e_ret (vs := [.d (.val _)]); rfl)
    | (apply e_ret; rfl)
    | (apply e_ret' (vs := [.d (.val _)]); rfl)
    | (apply e_ret'; rfl)
    | (apply w_seq)
    | (apply w_ops; ((conv => lhs; simp only [Nat.reduceAdd]) <;> rfl))
    | (apply w_condT; rfl)
    | (apply w_condF; rfl)
    | ((apply w_condS; rfl) <;> (intro h; try simp only [decide_eq_true_eq, decide_eq_false_iff_not, Bool.not_eq_true, Bool.not_eq_false] at h))
    | (apply e_thenN)
    | (apply w_block)
    | (apply e_thenR)
    | (apply e_thenX)
    | (apply e_blkN)
    | (apply e_blkR)
    | (apply e_blkE)
    | (apply w_exit)
    | (apply w_ret)
    | (apply w_skip)
    | (apply e_blkE'; rfl))
        exact retB rfl
end Go.Sv
