/- A part of the proof of the law EndsMatch: that it answers true for every input, and that the input reads behind the call as before (no condition). -/
import Derived.Test.YtcnlgmajkclgjaaC3
set_option linter.all false
set_option linter.unusedSectionVars false
set_option linter.unusedVariables false
set_option linter.unusedSimpArgs false
namespace Go.Sv
open Go Go.Proofs
set_option maxRecDepth 100000
theorem awake11_ev : evF tabA (spP 100) 100 40 29 [] none = some (.b true, none, none) := by kernel_rfl
theorem awake11_good : Good Try.prog 29 [] none (.b true) none none := evF_sound tabA_ok (spP_ok 100) 40 29 [] none _ _ _ awake11_ev
end Go.Sv
namespace Go.Sv
open Go Go.Proofs
def x3 : XC := (.seq (.ops 2 [
    (0, ⟨(some 3), none, .box (.t 0)⟩),
    (1, ⟨(some 6), none, .mv (.k (.d (.val (.bool false))))⟩)] (some [1, 2, 3])) (.seq (.seq (.ops 8 [
    (0, ⟨(some 9), none, .call 29 [] none false⟩),
    (1, ⟨(some 10), none, .un .not (.t 9)⟩),
    (2, ⟨(some 11), none, .mv (.t 10)⟩),
    (3, ⟨(some 12), (some (11, false)), .load (some 8) (.t 3)⟩),
    (4, ⟨(some 13), (some (11, false)), .mv (.t 1)⟩),
    (5, ⟨(some 14), (some (11, false)), .call 30 [(.t 12), (.t 13)] none false⟩),
    (6, ⟨(some 15), (some (11, false)), .un .not (.t 14)⟩),
    (7, ⟨(some 16), none, .pick (.t 11) (.k (.d (.val (.bool true)))) (.t 15)⟩)] (some [1, 2, 3, 16])) (.cond (.t 16) (.seq (.ops 2 [
    (0, ⟨(some 17), none, .call 29 [] none false⟩),
    (1, ⟨(some 6), none, .mv (.t 17)⟩)] (some [6])) .ret) .skip)) (.seq (.ops 9 [
    (0, ⟨(some 19), none, .load (some 8) (.t 3)⟩),
    (1, ⟨(some 20), none, .mv (.t 1)⟩),
    (2, ⟨(some 21), none, .mv (.t 2)⟩),
    (3, ⟨(some 22), none, .call 31 [(.t 19), (.t 20), (.t 21)] none false⟩),
    (4, ⟨(some 18), none, .mv (.t 22)⟩),
    (5, ⟨(some 23), none, .ext (.t 18) 0⟩),
    (6, ⟨(some 24), none, .ext (.t 18) 1⟩),
    (7, ⟨(some 7), none, .mv (.t 23)⟩),
    (8, ⟨(some 8), none, .mv (.t 24)⟩)] (some [1, 2, 3, 7, 8])) (.seq (.block 0 (.seq (.ops 4 [
    (0, ⟨(some 26), none, .load (some 8) (.t 3)⟩),
    (1, ⟨(some 27), none, .call 32 [(.t 26)] none false⟩),
    (2, ⟨(some 28), none, .un .not (.t 27)⟩),
    (3, ⟨(some 25), none, .mv (.t 28)⟩)] (some [1, 2, 3, 7, 8, 25])) (.cond (.t 25) (.seq (.ops 14 [
    (0, ⟨(some 29), none, .mv (.t 7)⟩),
    (1, ⟨(some 30), none, .lenS (.t 29)⟩),
    (2, ⟨(some 31), none, .arith .eql (.t 30) (.k (.d (.val (.int .i64 0))))⟩),
    (3, ⟨(some 32), none, .mv (.t 31)⟩),
    (4, ⟨(some 33), (some (32, true)), .mv (.t 8)⟩),
    (5, ⟨(some 34), (some (32, true)), .arith .eql (.t 33) (.k (.d (.val (.int .i64 1))))⟩),
    (6, ⟨(some 35), none, .pick (.t 32) (.t 34) (.k (.d (.val (.bool false))))⟩),
    (7, ⟨(some 36), none, .mv (.t 35)⟩),
    (8, ⟨(some 37), (some (36, true)), .load (some 8) (.t 3)⟩),
    (9, ⟨(some 38), (some (36, true)), .mv (.t 1)⟩),
    (10, ⟨(some 39), (some (36, true)), .call 33 [(.t 37), (.t 38)] none false⟩),
    (11, ⟨(some 40), (some (36, true)), .un .not (.t 39)⟩),
    (12, ⟨(some 41), none, .pick (.t 36) (.t 40) (.k (.d (.val (.bool false))))⟩),
    (13, ⟨(some 6), none, .mv (.t 41)⟩)] (some [6])) .ret) (.seq (.ops 9 [
    (0, ⟨(some 43), none, .mv (.t 2)⟩),
    (1, ⟨(some 44), none, .arith .lss (.t 43) (.k (.d (.val (.int .i64 0))))⟩),
    (2, ⟨(some 45), none, .mv (.t 44)⟩),
    (3, ⟨(some 46), (some (45, false)), .mv (.t 2)⟩),
    (4, ⟨(some 47), (some (45, false)), .mv (.t 1)⟩),
    (5, ⟨(some 48), (some (45, false)), .lenT (.t 47)⟩),
    (6, ⟨(some 49), (some (45, false)), .arith .gtr (.t 46) (.t 48)⟩),
    (7, ⟨(some 50), none, .pick (.t 45) (.k (.d (.val (.bool true)))) (.t 49)⟩),
    (8, ⟨(some 42), none, .mv (.t 50)⟩)] (some [1, 2, 3, 7, 8, 42])) (.cond (.t 42) (.seq (.ops 15 [
    (0, ⟨(some 51), none, .mv (.t 7)⟩),
    (1, ⟨(some 52), none, .lenS (.t 51)⟩),
    (2, ⟨(some 53), none, .arith .eql (.t 52) (.k (.d (.val (.int .i64 0))))⟩),
    (3, ⟨(some 54), none, .mv (.t 53)⟩),
    (4, ⟨(some 55), (some (54, true)), .mv (.t 8)⟩),
    (5, ⟨(some 56), (some (54, true)), .arith .eql (.t 55) (.k (.d (.val (.int .i64 2))))⟩),
    (6, ⟨(some 57), none, .pick (.t 54) (.t 56) (.k (.d (.val (.bool false))))⟩),
    (7, ⟨(some 58), none, .mv (.t 57)⟩),
    (8, ⟨(some 59), (some (58, true)), .load (some 8) (.t 3)⟩),
    (9, ⟨(some 60), (some (58, true)), .mv (.t 1)⟩),
    (10, ⟨(some 61), (some (58, true)), .mv (.t 2)⟩),
    (11, ⟨(some 62), (some (58, true)), .call 34 [(.t 59), (.t 60), (.t 61)] none false⟩),
    (12, ⟨(some 63), (some (58, true)), .arith .eql (.t 62) (.k (.d (.val (.int .i64 (-1)))))⟩),
    (13, ⟨(some 64), none, .pick (.t 58) (.t 63) (.k (.d (.val (.bool false))))⟩),
    (14, ⟨(some 6), none, .mv (.t 64)⟩)] (some [6])) .ret) .skip))))) (.seq (.ops 22 [
    (0, ⟨(some 65), none, .mv (.t 8)⟩),
    (1, ⟨(some 66), none, .arith .eql (.t 65) (.k (.d (.val (.int .i64 0))))⟩),
    (2, ⟨(some 67), none, .mv (.t 66)⟩),
    (3, ⟨(some 68), (some (67, true)), .mv (.t 7)⟩),
    (4, ⟨(some 69), (some (67, true)), .load (some 8) (.t 3)⟩),
    (5, ⟨(some 70), (some (67, true)), .mv (.t 1)⟩),
    (6, ⟨(some 71), (some (67, true)), .mv (.t 2)⟩),
    (7, ⟨(some 72), (some (67, true)), .call 36 [(.t 69), (.t 70), (.t 71)] none false⟩),
    (8, ⟨(some 73), (some (67, true)), .call 35 [(.t 68), (.t 72)] none false⟩),
    (9, ⟨(some 74), none, .pick (.t 67) (.t 73) (.k (.d (.val (.bool false))))⟩),
    (10, ⟨(some 75), none, .mv (.t 74)⟩),
    (11, ⟨(some 76), (some (75, true)), .load (some 8) (.t 3)⟩),
    (12, ⟨(some 77), (some (75, true)), .mv (.t 1)⟩),
    (13, ⟨(some 78), (some (75, true)), .mv (.t 2)⟩),
    (14, ⟨(some 79), (some (75, true)), .call 34 [(.t 76), (.t 77), (.t 78)] none false⟩),
    (15, ⟨(some 80), (some (75, true)), .load (some 8) (.t 3)⟩),
    (16, ⟨(some 81), (some (75, true)), .mv (.t 1)⟩),
    (17, ⟨(some 82), (some (75, true)), .mv (.t 2)⟩),
    (18, ⟨(some 83), (some (75, true)), .call 37 [(.t 80), (.t 81), (.t 82)] none false⟩),
    (19, ⟨(some 84), (some (75, true)), .arith .eql (.t 79) (.t 83)⟩),
    (20, ⟨(some 85), none, .pick (.t 75) (.t 84) (.k (.d (.val (.bool false))))⟩),
    (21, ⟨(some 6), none, .mv (.t 85)⟩)] (some [6])) .ret)))))
def md3 : FuncId → Option Nat × Bool
  | _ => (none, false)
def od3 : Nat → List (List Nat) × List Nat × Option (List Nat)
  | 0 => ([], [], some [1, 2, 3])
  | 1 => ([], [], some [1, 2, 3, 16])
  | 2 => ([], [], some [6])
  | 3 => ([], [], some [1, 2, 3, 7, 8])
  | 4 => ([], [], some [1, 2, 3, 7, 8, 25])
  | 5 => ([], [], some [6])
  | 6 => ([], [], some [1, 2, 3, 7, 8, 42])
  | 7 => ([], [], some [6])
  | 8 => ([[], [0], [0, 1], [0, 1, 2], [0, 1, 2], [0, 1, 2], [0, 1, 2], [0, 1, 2, 4, 5, 6], [0, 1, 2, 3, 4, 5, 6, 7], [0, 1, 2, 3, 4, 5, 6, 7, 8], [0, 1, 2, 3, 4, 5, 6, 7, 8, 9], [0, 1, 2, 3, 4, 5, 6, 7, 8, 9, 10], [0, 1, 2, 3, 4, 5, 6, 7, 8, 9, 10], [0, 1, 2, 3, 4, 5, 6, 7, 8, 9, 10], [0, 1, 2, 3, 4, 5, 6, 7, 8, 9, 10, 11, 12, 13], [0, 1, 2, 3, 4, 5, 6, 7, 8, 9, 10], [0, 1, 2, 3, 4, 5, 6, 7, 8, 9, 10], [0, 1, 2, 3, 4, 5, 6, 7, 8, 9, 10], [0, 1, 2, 3, 4, 5, 6, 7, 8, 9, 10, 11, 12, 13, 14, 15, 16, 17], [0, 1, 2, 3, 4, 5, 6, 7, 8, 9, 10, 11, 12, 13, 14, 15, 16, 17, 18], [0, 1, 2, 3, 4, 5, 6, 7, 8, 9, 10, 11, 12, 13, 14, 15, 16, 17, 18, 19], [0, 1, 2, 3, 4, 5, 6, 7, 8, 9, 10, 11, 12, 13, 14, 15, 16, 17, 18, 19, 20]], [0, 1, 2, 3, 4, 5, 6, 7, 8, 9, 10, 11, 12, 13, 14, 15, 16, 17, 18, 19, 20, 21], some [6])
  | _ => ([], [], none)
theorem b3 {ags : List AV} {row : Option (List DV)} {r : AV} {row' nw : Option (List DV)} (hal : ags.length ≤ 86) (hrow : row'.isSome = true → row.isSome = true) (h : xwp Try.prog x3 (retK [.tmp 6] row.isSome r row' nw) (St.init ags row)) : Good Try.prog 3 ags row r row' nw :=
  good_of_body' (md := md3) (od := od3) Try.f3 (by kernel_rfl) (by kernel_rfl) (by kernel_rfl) (by kernel_rfl) (by kernel_rfl) hal hrow h

set_option maxRecDepth 100000
set_option maxHeartbeats 4000000
attribute [local irreducible] W E R KP thenK blockK retK Good xwp aRun
def few11 (s : ByteArray) (t : T) : Bool := decide (sizeT t 601 ≤ 200) && (decide (s.size ≤ 40) && (!rightT t || decide (wideT t ≤ 3000)))
theorem few_cnt {t : T} (h : sizeT t 601 ≤ 200) : t.cnt ≤ 200 := by
  have := sizeT_cnt t 601 (by omega)
  omega
theorem few30_good (s : ByteArray) (hs : s.size ≤ 9223372036854775807) (t : T) (ht : inT t) : Good Try.prog 30 [nodeA t, .d (.val (.string s))] none (.b (few11 s t)) none none := by
  have h45 := few_good t
  by_cases hf : sizeT t 601 ≤ 200
  case neg =>
    have ev : few11 s t = false := by simp [few11, hf]
    rw [ev]
    rw [show decide (sizeT t 601 ≤ 200) = false by simp [hf]] at h45
    clear ht ev hf
    obtain ⟨k, a, b, c, d, mn, mx, subs⟩ := t
    have e0 : nodeA (.node k a b c d mn mx subs) = .agg [.i k, .d (.val (.int .u64 a)), .d (.val (.int .u64 b)), .d (.val (.int .u64 c)), .d (.val (.int .u64 d)), .i mn, .i mx, .d (.sl (encL subs) subs.length)] := rfl
    rw [e0] at h45 ⊢
    refine b30 (by simp) (by simp) (w_init ?_)
    unfold x30
    repeat' (first
    | (apply r_mvV; rfl)
    | (apply r_mvP; rfl)
    | (apply r_mvPL; rfl)
    | (apply r_mvS; rfl)
    | (apply r_mvSL; rfl)
    | (apply r_mvA; rfl)
    | (apply r_mvT; rfl)
    | (apply r_mvF; rfl)
    | (apply r_mvD; rfl)
    | (apply r_ldL; rfl; rfl; rfl)
    | (apply r_l; apply ld_kind; assumption; rfl)
    | (apply r_l; apply ld_mn; assumption; rfl)
    | (apply r_l; apply ld_mx; assumption; rfl)
    | (apply r_l; apply ld_subs; assumption; rfl)
    | (apply r_l; apply ld_set; assumption; rfl)
    | (apply r_l; apply ld_node; assumption; rfl)
    | (apply r_l; apply ld_kind'; assumption; rfl)
    | (apply r_l; apply ld_mn'; assumption; rfl)
    | (apply r_l; apply ld_mx'; assumption; rfl)
    | (apply r_l; apply ld_subs'; assumption; rfl)
    | (apply r_l; apply ld_node'; assumption; rfl)
    | (apply r_callA; rfl; rfl; exact h45)
    | (apply r_leq; rfl; rfl; (first | (apply decide_eq_true; omega) | (apply decide_eq_false; omega) | rfl))
    | (apply r_not; rfl; rfl)
    | (apply r_pickT; rfl)
    | (apply r_pickF; rfl)
    | (apply r_lenT; rfl)
    | (apply r_gT; rfl)
    | (apply r_gF'; rfl; rfl)
    | (apply r_gN'; rfl)
    | ((apply r_gS (o := default); rfl) <;> (intro h; try simp only [decide_eq_true_eq, decide_eq_false_iff_not, Bool.not_eq_true, Bool.not_eq_false] at h))
    | (apply r_box; ((conv => lhs; simp only [Nat.reduceAdd]) <;> rfl); rfl; rfl; rfl)
    | (apply r_nilK)
    | (apply r_nil)
    | (apply k_V; rfl)
    | (apply k_P; rfl)
    | (apply k_PL; rfl)
    | (apply k_S; rfl)
    | (apply k_SL; rfl)
    | (apply k_A; rfl)
    | (apply k_T; rfl)
    | (apply k_F; rfl)
    | (apply k_D; rfl; rotate_left; rfl)
    | (apply k_nil)
    | (apply e_ret (vs := [.d (.val _)]); rfl)
    | (apply e_ret; rfl)
    | (apply e_ret' (vs := [.d (.val _)]); rfl)
    | (apply e_ret'; rfl)
    | (apply w_seq)
    | (apply w_ops; ((conv => lhs; simp only [Nat.reduceAdd]) <;> rfl))
    | (apply e_thenN)
    | (apply w_block)
    | (apply e_thenR)
    | (apply e_thenX)
    | (apply e_blkN)
    | (apply e_blkR)
    | (apply e_blkE)
    | (apply w_exit)
    | (apply w_ret)
    | (apply w_skip)
    | (apply e_blkE'; rfl))
    exact retB rfl
  have hc := few_cnt hf
  have h32 := right8_good t (by omega)
  rw [show decide (sizeT t 601 ≤ 200) = true by simp [hf]] at h45
  by_cases h40 : s.size ≤ 40
  case neg =>
    have ev : few11 s t = false := by simp [few11, h40]
    rw [ev]
    clear ht ev hf hc h32
    obtain ⟨k, a, b, c, d, mn, mx, subs⟩ := t
    have e0 : nodeA (.node k a b c d mn mx subs) = .agg [.i k, .d (.val (.int .u64 a)), .d (.val (.int .u64 b)), .d (.val (.int .u64 c)), .d (.val (.int .u64 d)), .i mn, .i mx, .d (.sl (encL subs) subs.length)] := rfl
    rw [e0] at h45 ⊢
    refine b30 (by simp) (by simp) (w_init ?_)
    unfold x30
    repeat' (first
    | (apply r_mvV; rfl)
    | (apply r_mvP; rfl)
    | (apply r_mvPL; rfl)
    | (apply r_mvS; rfl)
    | (apply r_mvSL; rfl)
    | (apply r_mvA; rfl)
    | (apply r_mvT; rfl)
    | (apply r_mvF; rfl)
    | (apply r_mvD; rfl)
    | (apply r_ldL; rfl; rfl; rfl)
    | (apply r_l; apply ld_kind; assumption; rfl)
    | (apply r_l; apply ld_mn; assumption; rfl)
    | (apply r_l; apply ld_mx; assumption; rfl)
    | (apply r_l; apply ld_subs; assumption; rfl)
    | (apply r_l; apply ld_set; assumption; rfl)
    | (apply r_l; apply ld_node; assumption; rfl)
    | (apply r_l; apply ld_kind'; assumption; rfl)
    | (apply r_l; apply ld_mn'; assumption; rfl)
    | (apply r_l; apply ld_mx'; assumption; rfl)
    | (apply r_l; apply ld_subs'; assumption; rfl)
    | (apply r_l; apply ld_node'; assumption; rfl)
    | (apply r_callA; rfl; rfl; exact h45)
    | (apply r_leq; rfl; rfl; (first | (apply decide_eq_true; omega) | (apply decide_eq_false; omega) | rfl))
    | (apply r_not; rfl; rfl)
    | (apply r_pickT; rfl)
    | (apply r_pickF; rfl)
    | (apply r_lenT; rfl)
    | (apply r_gT; rfl)
    | (apply r_gF'; rfl; rfl)
    | (apply r_gN'; rfl)
    | ((apply r_gS (o := default); rfl) <;> (intro h; try simp only [decide_eq_true_eq, decide_eq_false_iff_not, Bool.not_eq_true, Bool.not_eq_false] at h))
    | (apply r_box; ((conv => lhs; simp only [Nat.reduceAdd]) <;> rfl); rfl; rfl; rfl)
    | (apply r_nilK)
    | (apply r_nil)
    | (apply k_V; rfl)
    | (apply k_P; rfl)
    | (apply k_PL; rfl)
    | (apply k_S; rfl)
    | (apply k_SL; rfl)
    | (apply k_A; rfl)
    | (apply k_T; rfl)
    | (apply k_F; rfl)
    | (apply k_D; rfl; rotate_left; rfl)
    | (apply k_nil)
    | (apply e_ret (vs := [.d (.val _)]); rfl)
    | (apply e_ret; rfl)
    | (apply e_ret' (vs := [.d (.val _)]); rfl)
    | (apply e_ret'; rfl)
    | (apply w_seq)
    | (apply w_ops; ((conv => lhs; simp only [Nat.reduceAdd]) <;> rfl))
    | (apply e_thenN)
    | (apply w_block)
    | (apply e_thenR)
    | (apply e_thenX)
    | (apply e_blkN)
    | (apply e_blkR)
    | (apply e_blkE)
    | (apply w_exit)
    | (apply w_ret)
    | (apply w_skip)
    | (apply e_blkE'; rfl))
    exact retB rfl
  by_cases hr : rightT t = true
  case neg =>
    have hr : rightT t = false := by simpa using hr
    have ev : few11 s t = true := by simp [few11, hf, h40, hr]
    rw [ev]
    rw [hr] at h32
    clear ht ev hf hc hr
    obtain ⟨k, a, b, c, d, mn, mx, subs⟩ := t
    have e0 : nodeA (.node k a b c d mn mx subs) = .agg [.i k, .d (.val (.int .u64 a)), .d (.val (.int .u64 b)), .d (.val (.int .u64 c)), .d (.val (.int .u64 d)), .i mn, .i mx, .d (.sl (encL subs) subs.length)] := rfl
    rw [e0] at h45 h32 ⊢
    refine b30 (by simp) (by simp) (w_init ?_)
    unfold x30
    repeat' (first
    | (apply r_mvV; rfl)
    | (apply r_mvP; rfl)
    | (apply r_mvPL; rfl)
    | (apply r_mvS; rfl)
    | (apply r_mvSL; rfl)
    | (apply r_mvA; rfl)
    | (apply r_mvT; rfl)
    | (apply r_mvF; rfl)
    | (apply r_mvD; rfl)
    | (apply r_ldL; rfl; rfl; rfl)
    | (apply r_l; apply ld_kind; assumption; rfl)
    | (apply r_l; apply ld_mn; assumption; rfl)
    | (apply r_l; apply ld_mx; assumption; rfl)
    | (apply r_l; apply ld_subs; assumption; rfl)
    | (apply r_l; apply ld_set; assumption; rfl)
    | (apply r_l; apply ld_node; assumption; rfl)
    | (apply r_l; apply ld_kind'; assumption; rfl)
    | (apply r_l; apply ld_mn'; assumption; rfl)
    | (apply r_l; apply ld_mx'; assumption; rfl)
    | (apply r_l; apply ld_subs'; assumption; rfl)
    | (apply r_l; apply ld_node'; assumption; rfl)
    | (apply r_callA; rfl; rfl; exact h45)
    | (apply r_callA; rfl; rfl; exact h32)
    | (apply r_leq; rfl; rfl; (first | (apply decide_eq_true; omega) | (apply decide_eq_false; omega) | rfl))
    | (apply r_not; rfl; rfl)
    | (apply r_pickT; rfl)
    | (apply r_pickF; rfl)
    | (apply r_lenT; rfl)
    | (apply r_gT; rfl)
    | (apply r_gF'; rfl; rfl)
    | (apply r_gN'; rfl)
    | ((apply r_gS (o := default); rfl) <;> (intro h; try simp only [decide_eq_true_eq, decide_eq_false_iff_not, Bool.not_eq_true, Bool.not_eq_false] at h))
    | (apply r_box; ((conv => lhs; simp only [Nat.reduceAdd]) <;> rfl); rfl; rfl; rfl)
    | (apply r_nilK)
    | (apply r_nil)
    | (apply k_V; rfl)
    | (apply k_P; rfl)
    | (apply k_PL; rfl)
    | (apply k_S; rfl)
    | (apply k_SL; rfl)
    | (apply k_A; rfl)
    | (apply k_T; rfl)
    | (apply k_F; rfl)
    | (apply k_D; rfl; rotate_left; rfl)
    | (apply k_nil)
    | (apply e_ret (vs := [.d (.val _)]); rfl)
    | (apply e_ret; rfl)
    | (apply e_ret' (vs := [.d (.val _)]); rfl)
    | (apply e_ret'; rfl)
    | (apply w_seq)
    | (apply w_ops; ((conv => lhs; simp only [Nat.reduceAdd]) <;> rfl))
    | (apply e_thenN)
    | (apply w_block)
    | (apply e_thenR)
    | (apply e_thenX)
    | (apply e_blkN)
    | (apply e_blkR)
    | (apply e_blkE)
    | (apply w_exit)
    | (apply w_ret)
    | (apply w_skip)
    | (apply e_blkE'; rfl))
    exact retB rfl
  have hok := ok_of_right ht hr
  have h38 := wide_good 1000000 t (by omega) (by omega) hok
  have ev : few11 s t = decide (wideT t ≤ 3000) := by simp [few11, hf, h40, hr]
  rw [ev]
  rw [hr] at h32
  have hw := wideT_in t hok
  generalize wideT t = wt at h38 hw ⊢
  clear ht ev hf hc hr hok
  obtain ⟨k, a, b, c, d, mn, mx, subs⟩ := t
  have e0 : nodeA (.node k a b c d mn mx subs) = .agg [.i k, .d (.val (.int .u64 a)), .d (.val (.int .u64 b)), .d (.val (.int .u64 c)), .d (.val (.int .u64 d)), .i mn, .i mx, .d (.sl (encL subs) subs.length)] := rfl
  rw [e0] at h45 h32 h38 ⊢
  refine b30 (by simp) (by simp) (w_init ?_)
  unfold x30
  repeat' (first
    | (apply r_mvV; rfl)
    | (apply r_mvP; rfl)
    | (apply r_mvPL; rfl)
    | (apply r_mvS; rfl)
    | (apply r_mvSL; rfl)
    | (apply r_mvA; rfl)
    | (apply r_mvT; rfl)
    | (apply r_mvF; rfl)
    | (apply r_mvD; rfl)
    | (apply r_ldL; rfl; rfl; rfl)
    | (apply r_l; apply ld_kind; assumption; rfl)
    | (apply r_l; apply ld_mn; assumption; rfl)
    | (apply r_l; apply ld_mx; assumption; rfl)
    | (apply r_l; apply ld_subs; assumption; rfl)
    | (apply r_l; apply ld_set; assumption; rfl)
    | (apply r_l; apply ld_node; assumption; rfl)
    | (apply r_l; apply ld_kind'; assumption; rfl)
    | (apply r_l; apply ld_mn'; assumption; rfl)
    | (apply r_l; apply ld_mx'; assumption; rfl)
    | (apply r_l; apply ld_subs'; assumption; rfl)
    | (apply r_l; apply ld_node'; assumption; rfl)
    | (apply r_callA; rfl; rfl; exact h45)
    | (apply r_callA; rfl; rfl; exact h32)
    | (apply r_callA; rfl; rfl; exact h38)
    | (apply r_leq; rfl; rfl; (first | (apply decide_eq_true; omega) | (apply decide_eq_false; omega) | rfl))
    | (apply r_not; rfl; rfl)
    | (apply r_pickT; rfl)
    | (apply r_pickF; rfl)
    | (apply r_lenT; rfl)
    | (apply r_gT; rfl)
    | (apply r_gF'; rfl; rfl)
    | (apply r_gN'; rfl)
    | ((apply r_gS (o := default); rfl) <;> (intro h; try simp only [decide_eq_true_eq, decide_eq_false_iff_not, Bool.not_eq_true, Bool.not_eq_false] at h))
    | (apply r_box; ((conv => lhs; simp only [Nat.reduceAdd]) <;> rfl); rfl; rfl; rfl)
    | (apply r_nilK)
    | (apply r_nil)
    | (apply k_V; rfl)
    | (apply k_P; rfl)
    | (apply k_PL; rfl)
    | (apply k_S; rfl)
    | (apply k_SL; rfl)
    | (apply k_A; rfl)
    | (apply k_T; rfl)
    | (apply k_F; rfl)
    | (apply k_D; rfl; rotate_left; rfl)
    | (apply k_nil)
    | (apply e_ret (vs := [.d (.val _)]); rfl)
    | (apply e_ret; rfl)
    | (apply e_ret' (vs := [.d (.val _)]); rfl)
    | (apply e_ret'; rfl)
    | (apply w_seq)
    | (apply w_ops; ((conv => lhs; simp only [Nat.reduceAdd]) <;> rfl))
    | (apply e_thenN)
    | (apply w_block)
    | (apply e_thenR)
    | (apply e_thenX)
    | (apply e_blkN)
    | (apply e_blkR)
    | (apply e_blkE)
    | (apply w_exit)
    | (apply w_ret)
    | (apply w_skip)
    | (apply e_blkE'; rfl))
  all_goals exact retB rfl
theorem all_ref (s : ByteArray) (t : T) (hf : fitsT t 12 = true) (hok : okT t) (j : Nat) (hj : j ≤ s.size) : allG s t j = rallG s t j := by
  have : 0 ≤ ((j : Nat) : Int) ∧ ((j : Nat) : Int) ≤ s.size := by omega
  simp only [allG, hf, this, and_self, if_true, Int.toNat_natCast, rallG]
  rw [step_ref s t hok (by simp)]
theorem law3 (t : T) (s : ByteArray) (n : Int) (ht : inT t) (hs : s.size ≤ 9223372036854775807) (hn : inW n) : Good Try.prog 3 [nodeA t, .d (.val (.string s)), .i n] none (.b true) none none := by
  have haw := awake11_good
  have h30 := few30_good s hs t ht
  have hna : [nodeA t].all AV.nrm = true := by rw [List.all_cons, nodeA_nrm]; rfl
  unfold inW at hn
  by_cases hf : few11 s t = true
  case neg =>
    have hf : few11 s t = false := by simpa using hf
    rw [hf] at h30
    clear ht hf
    obtain ⟨k, a, b, c, d, mn, mx, subs⟩ := t
    have e0 : nodeA (.node k a b c d mn mx subs) = .agg [.i k, .d (.val (.int .u64 a)), .d (.val (.int .u64 b)), .d (.val (.int .u64 c)), .d (.val (.int .u64 d)), .i mn, .i mx, .d (.sl (encL subs) subs.length)] := rfl
    rw [e0] at h30 ⊢
    refine b3 (by simp) (by simp) (w_init ?_)
    unfold x3
    repeat' (first
    | (apply r_mvV; rfl)
    | (apply r_mvP; rfl)
    | (apply r_mvPL; rfl)
    | (apply r_mvS; rfl)
    | (apply r_mvSL; rfl)
    | (apply r_mvA; rfl)
    | (apply r_mvT; rfl)
    | (apply r_mvF; rfl)
    | (apply r_mvD; rfl)
    | (apply r_ldL; rfl; rfl; rfl)
    | (apply r_l; apply ld_kind; assumption; rfl)
    | (apply r_l; apply ld_mn; assumption; rfl)
    | (apply r_l; apply ld_mx; assumption; rfl)
    | (apply r_l; apply ld_subs; assumption; rfl)
    | (apply r_l; apply ld_set; assumption; rfl)
    | (apply r_l; apply ld_node; assumption; rfl)
    | (apply r_l; apply ld_kind'; assumption; rfl)
    | (apply r_l; apply ld_mn'; assumption; rfl)
    | (apply r_l; apply ld_mx'; assumption; rfl)
    | (apply r_l; apply ld_subs'; assumption; rfl)
    | (apply r_l; apply ld_node'; assumption; rfl)
    | (apply r_callA; rfl; rfl; exact haw)
    | (apply r_callA; rfl; rfl; exact h30)
    | (apply r_eql; rfl; rfl; (first | (apply decide_eq_true; omega) | (apply decide_eq_false; omega) | rfl))
    | (apply r_lss; rfl; rfl; (first | (apply decide_eq_true; omega) | (apply decide_eq_false; omega) | rfl))
    | (apply r_gtr; rfl; rfl; (first | (apply decide_eq_true; omega) | (apply decide_eq_false; omega) | rfl))
    | (apply r_not; rfl; rfl)
    | (apply r_pickT; rfl)
    | (apply r_pickF; rfl)
    | (apply r_lenD; rfl)
    | (apply r_lenL; rfl)
    | (apply r_len0; rfl)
    | (apply r_lenT; rfl)
    | (apply r_ext; rfl; rfl)
    | (apply r_gT; rfl)
    | (apply r_gF'; rfl; rfl)
    | (apply r_gN'; rfl)
    | ((apply r_gS (o := default); rfl) <;> (intro h; try simp only [decide_eq_true_eq, decide_eq_false_iff_not, Bool.not_eq_true, Bool.not_eq_false] at h))
    | (apply r_box; ((conv => lhs; simp only [Nat.reduceAdd]) <;> rfl); rfl; rfl; rfl)
    | (apply r_nilK)
    | (apply r_nil)
    | (apply k_V; rfl)
    | (apply k_P; rfl)
    | (apply k_PL; rfl)
    | (apply k_S; rfl)
    | (apply k_SL; rfl)
    | (apply k_A; rfl)
    | (apply k_T; rfl)
    | (apply k_F; rfl)
    | (apply k_D; rfl; rotate_left; rfl)
    | (apply k_nil)
    | (apply e_ret (vs := [.d (.val _)]); rfl)
    | (apply e_ret; rfl)
    | (apply e_ret' (vs := [.d (.val _)]); rfl)
    | (apply e_ret'; rfl)
    | (apply w_seq)
    | (apply w_ops; ((conv => lhs; simp only [Nat.reduceAdd]) <;> rfl))
    | (apply w_condT; rfl)
    | (apply w_condF; rfl)
    | ((apply w_condS; rfl) <;> (intro h; try simp only [decide_eq_true_eq, decide_eq_false_iff_not, Bool.not_eq_true, Bool.not_eq_false] at h))
    | (apply e_thenN)
    | (apply w_block)
    | (apply e_thenR)
    | (apply e_thenX)
    | (apply e_blkN)
    | (apply e_blkR)
    | (apply e_blkE)
    | (apply w_exit)
    | (apply w_ret)
    | (apply w_skip)
    | (apply e_blkE'; rfl))
    exact retB rfl
  rw [hf] at h30
  simp only [few11, Bool.and_eq_true, decide_eq_true_eq] at hf
  obtain ⟨hf1, hf2, _⟩ := hf
  have hc := few_cnt hf1
  have h32 := right8_good t (by omega)
  have hok12 : fitsT t 12 = true → okT t := fun h => ok_of_right ht (by rw [right_fits]; exact h)
  have h31 := all_good s (by omega) t (by omega) hok12 n
  have h33 := match_good s (by omega) t (by omega) hok12
  have h34 := longest_good s (by omega) t (by omega) hok12 n
  by_cases hr : rightT t = true
  case neg =>
    have hr : rightT t = false := by simpa using hr
    have hfi : fitsT t 12 = false := by rw [← right_fits]; exact hr
    have hg : ∀ m, allG s t m = [] := fun m => by simp [allG, hfi]
    have he : allE s t n = 1 := by simp [allE, hfi]
    have hm : decide (lastG (allG s t 0) = s.size) = false := by
      rw [hg]; simp [lastG]
    rw [hr] at h32
    rw [hg, he] at h31
    rw [hm] at h33
    clear ht hok12 hr hfi hg he hm h34 hc hf1
    obtain ⟨k, a, b, c, d, mn, mx, subs⟩ := t
    have e0 : nodeA (.node k a b c d mn mx subs) = .agg [.i k, .d (.val (.int .u64 a)), .d (.val (.int .u64 b)), .d (.val (.int .u64 c)), .d (.val (.int .u64 d)), .i mn, .i mx, .d (.sl (encL subs) subs.length)] := rfl
    rw [e0] at h30 h31 h32 h33 ⊢
    refine b3 (by simp) (by simp) (w_init ?_)
    unfold x3
    repeat' (first
    | (apply r_mvV; rfl)
    | (apply r_mvP; rfl)
    | (apply r_mvPL; rfl)
    | (apply r_mvS; rfl)
    | (apply r_mvSL; rfl)
    | (apply r_mvA; rfl)
    | (apply r_mvT; rfl)
    | (apply r_mvF; rfl)
    | (apply r_mvD; rfl)
    | (apply r_ldL; rfl; rfl; rfl)
    | (apply r_l; apply ld_kind; assumption; rfl)
    | (apply r_l; apply ld_mn; assumption; rfl)
    | (apply r_l; apply ld_mx; assumption; rfl)
    | (apply r_l; apply ld_subs; assumption; rfl)
    | (apply r_l; apply ld_set; assumption; rfl)
    | (apply r_l; apply ld_node; assumption; rfl)
    | (apply r_l; apply ld_kind'; assumption; rfl)
    | (apply r_l; apply ld_mn'; assumption; rfl)
    | (apply r_l; apply ld_mx'; assumption; rfl)
    | (apply r_l; apply ld_subs'; assumption; rfl)
    | (apply r_l; apply ld_node'; assumption; rfl)
    | (apply r_callA; rfl; rfl; exact haw)
    | (apply r_callA; rfl; rfl; exact h30)
    | (apply r_callA; rfl; rfl; exact h31)
    | (apply r_callA; rfl; rfl; exact h32)
    | (apply r_callA; rfl; rfl; exact h33)
    | (apply r_eql; rfl; rfl; (first | (apply decide_eq_true; omega) | (apply decide_eq_false; omega) | rfl))
    | (apply r_lss; rfl; rfl; (first | (apply decide_eq_true; omega) | (apply decide_eq_false; omega) | rfl))
    | (apply r_gtr; rfl; rfl; (first | (apply decide_eq_true; omega) | (apply decide_eq_false; omega) | rfl))
    | (apply r_not; rfl; rfl)
    | (apply r_pickT; rfl)
    | (apply r_pickF; rfl)
    | (apply r_lenD; rfl)
    | (apply r_lenL; rfl)
    | (apply r_len0; rfl)
    | (apply r_lenT; rfl)
    | (apply r_ext; rfl; rfl)
    | (apply r_gT; rfl)
    | (apply r_gF'; rfl; rfl)
    | (apply r_gN'; rfl)
    | ((apply r_gS (o := default); rfl) <;> (intro h; try simp only [decide_eq_true_eq, decide_eq_false_iff_not, Bool.not_eq_true, Bool.not_eq_false] at h))
    | (apply r_box; ((conv => lhs; simp only [Nat.reduceAdd]) <;> rfl); rfl; rfl; rfl)
    | (apply r_nilK)
    | (apply r_nil)
    | (apply k_V; rfl)
    | (apply k_P; rfl)
    | (apply k_PL; rfl)
    | (apply k_S; rfl)
    | (apply k_SL; rfl)
    | (apply k_A; rfl)
    | (apply k_T; rfl)
    | (apply k_F; rfl)
    | (apply k_D; rfl; rotate_left; rfl)
    | (apply k_nil)
    | (apply e_ret (vs := [.d (.val _)]); rfl)
    | (apply e_ret; rfl)
    | (apply e_ret' (vs := [.d (.val _)]); rfl)
    | (apply e_ret'; rfl)
    | (apply w_seq)
    | (apply w_ops; ((conv => lhs; simp only [Nat.reduceAdd]) <;> rfl))
    | (apply w_condT; rfl)
    | (apply w_condF; rfl)
    | ((apply w_condS; rfl) <;> (intro h; try simp only [decide_eq_true_eq, decide_eq_false_iff_not, Bool.not_eq_true, Bool.not_eq_false] at h))
    | (apply e_thenN)
    | (apply w_block)
    | (apply e_thenR)
    | (apply e_thenX)
    | (apply e_blkN)
    | (apply e_blkR)
    | (apply e_blkE)
    | (apply w_exit)
    | (apply w_ret)
    | (apply w_skip)
    | (apply e_blkE'; rfl))
    exact retB rfl
  have hfi : fitsT t 12 = true := by rw [← right_fits]; exact hr
  rw [hr] at h32
  by_cases hfr : 0 ≤ n ∧ n ≤ s.size
  case neg =>
    have hg : allG s t n = [] := by simp only [allG, hfr, and_false, if_false]
    have he : allE s t n = 2 := by simp only [allE, hfi, hfr, if_true, if_false]
    have hlast : lastG ([] : List Int) = -1 := rfl
    rw [hg, he] at h31
    rw [hg, hlast] at h34
    clear ht hok12 hr hfi hg he h33 hc hf1
    obtain ⟨k, a, b, c, d, mn, mx, subs⟩ := t
    have e0 : nodeA (.node k a b c d mn mx subs) = .agg [.i k, .d (.val (.int .u64 a)), .d (.val (.int .u64 b)), .d (.val (.int .u64 c)), .d (.val (.int .u64 d)), .i mn, .i mx, .d (.sl (encL subs) subs.length)] := rfl
    rw [e0] at h30 h31 h32 h34 ⊢
    refine b3 (by simp) (by simp) (w_init ?_)
    unfold x3
    repeat' (first
    | (apply r_mvV; rfl)
    | (apply r_mvP; rfl)
    | (apply r_mvPL; rfl)
    | (apply r_mvS; rfl)
    | (apply r_mvSL; rfl)
    | (apply r_mvA; rfl)
    | (apply r_mvT; rfl)
    | (apply r_mvF; rfl)
    | (apply r_mvD; rfl)
    | (apply r_ldL; rfl; rfl; rfl)
    | (apply r_l; apply ld_kind; assumption; rfl)
    | (apply r_l; apply ld_mn; assumption; rfl)
    | (apply r_l; apply ld_mx; assumption; rfl)
    | (apply r_l; apply ld_subs; assumption; rfl)
    | (apply r_l; apply ld_set; assumption; rfl)
    | (apply r_l; apply ld_node; assumption; rfl)
    | (apply r_l; apply ld_kind'; assumption; rfl)
    | (apply r_l; apply ld_mn'; assumption; rfl)
    | (apply r_l; apply ld_mx'; assumption; rfl)
    | (apply r_l; apply ld_subs'; assumption; rfl)
    | (apply r_l; apply ld_node'; assumption; rfl)
    | (apply r_callA; rfl; rfl; exact haw)
    | (apply r_callA; rfl; rfl; exact h30)
    | (apply r_callA; rfl; rfl; exact h31)
    | (apply r_callA; rfl; rfl; exact h32)
    | (apply r_callA; rfl; rfl; exact h34)
    | (apply r_eql; rfl; rfl; (first | (apply decide_eq_true; omega) | (apply decide_eq_false; omega) | rfl))
    | (apply r_lss; rfl; rfl; (first | (apply decide_eq_true; omega) | (apply decide_eq_false; omega) | rfl))
    | (apply r_gtr; rfl; rfl; (first | (apply decide_eq_true; omega) | (apply decide_eq_false; omega) | rfl))
    | (apply r_not; rfl; rfl)
    | (apply r_pickT; rfl)
    | (apply r_pickF; rfl)
    | (apply r_lenD; rfl)
    | (apply r_lenL; rfl)
    | (apply r_len0; rfl)
    | (apply r_lenT; rfl)
    | (apply r_ext; rfl; rfl)
    | (apply r_gT; rfl)
    | (apply r_gF'; rfl; rfl)
    | (apply r_gN'; rfl)
    | ((apply r_gS (o := default); rfl) <;> (intro h; try simp only [decide_eq_true_eq, decide_eq_false_iff_not, Bool.not_eq_true, Bool.not_eq_false] at h))
    | (apply r_box; ((conv => lhs; simp only [Nat.reduceAdd]) <;> rfl); rfl; rfl; rfl)
    | (apply r_nilK)
    | (apply r_nil)
    | (apply k_V; rfl)
    | (apply k_P; rfl)
    | (apply k_PL; rfl)
    | (apply k_S; rfl)
    | (apply k_SL; rfl)
    | (apply k_A; rfl)
    | (apply k_T; rfl)
    | (apply k_F; rfl)
    | (apply k_D; rfl; rotate_left; rfl)
    | (apply k_nil)
    | (apply e_ret (vs := [.d (.val _)]); rfl)
    | (apply e_ret; rfl)
    | (apply e_ret' (vs := [.d (.val _)]); rfl)
    | (apply e_ret'; rfl)
    | (apply w_seq)
    | (apply w_ops; ((conv => lhs; simp only [Nat.reduceAdd]) <;> rfl))
    | (apply w_condT; rfl)
    | (apply w_condF; rfl)
    | ((apply w_condS; rfl) <;> (intro h; try simp only [decide_eq_true_eq, decide_eq_false_iff_not, Bool.not_eq_true, Bool.not_eq_false] at h))
    | (apply e_thenN)
    | (apply w_block)
    | (apply e_thenR)
    | (apply e_thenX)
    | (apply e_blkN)
    | (apply e_blkR)
    | (apply e_blkE)
    | (apply w_exit)
    | (apply w_ret)
    | (apply w_skip)
    | (apply e_blkE'; rfl))
    all_goals exact retB rfl
  obtain ⟨j, rfl⟩ := Int.eq_ofNat_of_zero_le hfr.1
  have hok := hok12 hfi
  have hj : j ≤ s.size := by omega
  have h36 := all36_good s (by omega) t (by omega) hok j hj
  have h37 := longest37_good s (by omega) t (by omega) hok j hj
  have heq := all_ref s t hfi hok j hj
  have he : allE s t (j : Nat) = 0 := by simp only [allE, hfi, hfr, and_self, if_true]
  rw [heq, he] at h31
  rw [heq] at h34
  have hL : (rallG s t j).length ≤ 1000001 := Nat.le_trans (idxTo_len _ _) (by omega)
  have h35 := same_good (rallG s t j) (rallG s t j) hL
  rw [show decide (rallG s t j = rallG s t j) = true by simp] at h35
  generalize rallG s t j = LL at h31 h34 h35 h36 h37 hL
  clear ht hok12 hr hfi heq he h33 hc hf1 hok
  obtain ⟨k, a, b, c, d, mn, mx, subs⟩ := t
  have e0 : nodeA (.node k a b c d mn mx subs) = .agg [.i k, .d (.val (.int .u64 a)), .d (.val (.int .u64 b)), .d (.val (.int .u64 c)), .d (.val (.int .u64 d)), .i mn, .i mx, .d (.sl (encL subs) subs.length)] := rfl
  rw [e0] at h30 h31 h32 h34 h36 h37 ⊢
  refine b3 (by simp) (by simp) (w_init ?_)
  unfold x3
  repeat' (first
    | (apply r_mvV; rfl)
    | (apply r_mvP; rfl)
    | (apply r_mvPL; rfl)
    | (apply r_mvS; rfl)
    | (apply r_mvSL; rfl)
    | (apply r_mvA; rfl)
    | (apply r_mvT; rfl)
    | (apply r_mvF; rfl)
    | (apply r_mvD; rfl)
    | (apply r_ldL; rfl; rfl; rfl)
    | (apply r_l; apply ld_kind; assumption; rfl)
    | (apply r_l; apply ld_mn; assumption; rfl)
    | (apply r_l; apply ld_mx; assumption; rfl)
    | (apply r_l; apply ld_subs; assumption; rfl)
    | (apply r_l; apply ld_set; assumption; rfl)
    | (apply r_l; apply ld_node; assumption; rfl)
    | (apply r_l; apply ld_kind'; assumption; rfl)
    | (apply r_l; apply ld_mn'; assumption; rfl)
    | (apply r_l; apply ld_mx'; assumption; rfl)
    | (apply r_l; apply ld_subs'; assumption; rfl)
    | (apply r_l; apply ld_node'; assumption; rfl)
    | (apply r_callA; rfl; rfl; exact haw)
    | (apply r_callA; rfl; rfl; exact h30)
    | (apply r_callA; rfl; rfl; exact h31)
    | (apply r_callA; rfl; rfl; exact h32)
    | (apply r_callA; rfl; rfl; exact h34)
    | (apply r_callA; rfl; rfl; exact h35)
    | (apply r_callA; rfl; rfl; exact h36)
    | (apply r_callA; rfl; rfl; exact h37)
    | (apply r_eql; rfl; rfl; (first | (apply decide_eq_true; omega) | (apply decide_eq_false; omega) | rfl))
    | (apply r_lss; rfl; rfl; (first | (apply decide_eq_true; omega) | (apply decide_eq_false; omega) | rfl))
    | (apply r_gtr; rfl; rfl; (first | (apply decide_eq_true; omega) | (apply decide_eq_false; omega) | rfl))
    | (apply r_not; rfl; rfl)
    | (apply r_pickT; rfl)
    | (apply r_pickF; rfl)
    | (apply r_lenD; rfl)
    | (apply r_lenL; rfl)
    | (apply r_len0; rfl)
    | (apply r_lenT; rfl)
    | (apply r_ext; rfl; rfl)
    | (apply r_gT; rfl)
    | (apply r_gF'; rfl; rfl)
    | (apply r_gN'; rfl)
    | ((apply r_gS (o := default); rfl) <;> (intro h; try simp only [decide_eq_true_eq, decide_eq_false_iff_not, Bool.not_eq_true, Bool.not_eq_false] at h))
    | (apply r_box; ((conv => lhs; simp only [Nat.reduceAdd]) <;> rfl); rfl; rfl; rfl)
    | (apply r_nilK)
    | (apply r_nil)
    | (apply k_V; rfl)
    | (apply k_P; rfl)
    | (apply k_PL; rfl)
    | (apply k_S; rfl)
    | (apply k_SL; rfl)
    | (apply k_A; rfl)
    | (apply k_T; rfl)
    | (apply k_F; rfl)
    | (apply k_D; rfl; rotate_left; rfl)
    | (apply k_nil)
    | (apply e_ret (vs := [.d (.val _)]); rfl)
    | (apply e_ret; rfl)
    | (apply e_ret' (vs := [.d (.val _)]); rfl)
    | (apply e_ret'; rfl)
    | (apply w_seq)
    | (apply w_ops; ((conv => lhs; simp only [Nat.reduceAdd]) <;> rfl))
    | (apply w_condT; rfl)
    | (apply w_condF; rfl)
    | ((apply w_condS; rfl) <;> (intro h; try simp only [decide_eq_true_eq, decide_eq_false_iff_not, Bool.not_eq_true, Bool.not_eq_false] at h))
    | (apply e_thenN)
    | (apply w_block)
    | (apply e_thenR)
    | (apply e_thenX)
    | (apply e_blkN)
    | (apply e_blkR)
    | (apply e_blkE)
    | (apply w_exit)
    | (apply w_ret)
    | (apply w_skip)
    | (apply e_blkE'; rfl))
  all_goals exact retB rfl
end Go.Sv
namespace Go.Sv
open Go Go.Proofs
def x7 : XC := (.seq (.ops 2 [
    (0, ⟨(some 4), none, .box (.t 0)⟩),
    (1, ⟨(some 8), none, .mv (.k (.d (.val (.bool false))))⟩)] (some [1, 2, 3, 4])) (.seq (.seq (.ops 25 [
    (0, ⟨(some 15), none, .call 29 [] none false⟩),
    (1, ⟨(some 16), none, .un .not (.t 15)⟩),
    (2, ⟨(some 17), none, .mv (.t 16)⟩),
    (3, ⟨(some 18), (some (17, false)), .load (some 8) (.t 4)⟩),
    (4, ⟨(some 19), (some (17, false)), .mv (.t 1)⟩),
    (5, ⟨(some 20), (some (17, false)), .mv (.t 2)⟩),
    (6, ⟨(some 21), (some (17, false)), .arith .add (.t 19) (.t 20)⟩),
    (7, ⟨(some 22), (some (17, false)), .call 30 [(.t 18), (.t 21)] none false⟩),
    (8, ⟨(some 23), (some (17, false)), .un .not (.t 22)⟩),
    (9, ⟨(some 24), none, .pick (.t 17) (.k (.d (.val (.bool true)))) (.t 23)⟩),
    (10, ⟨(some 25), none, .mv (.t 24)⟩),
    (11, ⟨(some 26), (some (25, false)), .load (some 8) (.t 4)⟩),
    (12, ⟨(some 27), (some (25, false)), .call 32 [(.t 26)] none false⟩),
    (13, ⟨(some 28), (some (25, false)), .un .not (.t 27)⟩),
    (14, ⟨(some 29), none, .pick (.t 25) (.k (.d (.val (.bool true)))) (.t 28)⟩),
    (15, ⟨(some 30), none, .mv (.t 29)⟩),
    (16, ⟨(some 31), (some (30, false)), .mv (.t 3)⟩),
    (17, ⟨(some 32), (some (30, false)), .arith .lss (.t 31) (.k (.d (.val (.int .i64 0))))⟩),
    (18, ⟨(some 33), none, .pick (.t 30) (.k (.d (.val (.bool true)))) (.t 32)⟩),
    (19, ⟨(some 34), none, .mv (.t 33)⟩),
    (20, ⟨(some 35), (some (34, false)), .mv (.t 3)⟩),
    (21, ⟨(some 36), (some (34, false)), .mv (.t 1)⟩),
    (22, ⟨(some 37), (some (34, false)), .lenT (.t 36)⟩),
    (23, ⟨(some 38), (some (34, false)), .arith .gtr (.t 35) (.t 37)⟩),
    (24, ⟨(some 39), none, .pick (.t 34) (.k (.d (.val (.bool true)))) (.t 38)⟩)] (some [1, 2, 3, 4, 39])) (.cond (.t 39) (.seq (.ops 2 [
    (0, ⟨(some 40), none, .call 29 [] none false⟩),
    (1, ⟨(some 8), none, .mv (.t 40)⟩)] (some [8])) .ret) .skip)) (.seq (.ops 9 [
    (0, ⟨(some 42), none, .load (some 8) (.t 4)⟩),
    (1, ⟨(some 43), none, .mv (.t 1)⟩),
    (2, ⟨(some 44), none, .mv (.t 3)⟩),
    (3, ⟨(some 45), none, .call 31 [(.t 42), (.t 43), (.t 44)] none false⟩),
    (4, ⟨(some 41), none, .mv (.t 45)⟩),
    (5, ⟨(some 46), none, .ext (.t 41) 0⟩),
    (6, ⟨(some 47), none, .ext (.t 41) 1⟩),
    (7, ⟨(some 9), none, .mv (.t 46)⟩),
    (8, ⟨(some 10), none, .mv (.t 47)⟩)] (some [1, 2, 3, 4, 9, 10])) (.seq (.ops 11 [
    (0, ⟨(some 49), none, .load (some 8) (.t 4)⟩),
    (1, ⟨(some 50), none, .mv (.t 1)⟩),
    (2, ⟨(some 51), none, .mv (.t 2)⟩),
    (3, ⟨(some 52), none, .arith .add (.t 50) (.t 51)⟩),
    (4, ⟨(some 53), none, .mv (.t 3)⟩),
    (5, ⟨(some 54), none, .call 31 [(.t 49), (.t 52), (.t 53)] none false⟩),
    (6, ⟨(some 48), none, .mv (.t 54)⟩),
    (7, ⟨(some 55), none, .ext (.t 48) 0⟩),
    (8, ⟨(some 56), none, .ext (.t 48) 1⟩),
    (9, ⟨(some 11), none, .mv (.t 55)⟩),
    (10, ⟨(some 12), none, .mv (.t 56)⟩)] (some [1, 9, 10, 11, 12])) (.seq (.seq (.ops 22 [
    (0, ⟨(some 57), none, .mv (.t 10)⟩),
    (1, ⟨(some 58), none, .arith .neq (.t 57) (.k (.d (.val (.int .i64 0))))⟩),
    (2, ⟨(some 59), none, .mv (.t 58)⟩),
    (3, ⟨(some 60), (some (59, false)), .mv (.t 12)⟩),
    (4, ⟨(some 61), (some (59, false)), .arith .neq (.t 60) (.k (.d (.val (.int .i64 0))))⟩),
    (5, ⟨(some 62), none, .pick (.t 59) (.k (.d (.val (.bool true)))) (.t 61)⟩),
    (6, ⟨(some 63), none, .mv (.t 62)⟩),
    (7, ⟨(some 64), (some (63, false)), .mv (.t 11)⟩),
    (8, ⟨(some 65), (some (63, false)), .lenS (.t 64)⟩),
    (9, ⟨(some 66), (some (63, false)), .mv (.t 9)⟩),
    (10, ⟨(some 67), (some (63, false)), .lenS (.t 66)⟩),
    (11, ⟨(some 68), (some (63, false)), .arith .lss (.t 65) (.t 67)⟩),
    (12, ⟨(some 69), none, .pick (.t 63) (.k (.d (.val (.bool true)))) (.t 68)⟩),
    (13, ⟨(some 70), none, .mv (.t 69)⟩),
    (14, ⟨(some 71), (some (70, false)), .mv (.t 9)⟩),
    (15, ⟨(some 72), (some (70, false)), .mv (.t 11)⟩),
    (16, ⟨(some 73), (some (70, false)), .mv (.t 9)⟩),
    (17, ⟨(some 74), (some (70, false)), .lenS (.t 73)⟩),
    (18, ⟨(some 75), (some (70, false)), .slS 1 (.t 72) none (some (.t 74))⟩),
    (19, ⟨(some 76), (some (70, false)), .call 35 [(.t 71), (.t 75)] none false⟩),
    (20, ⟨(some 77), (some (70, false)), .un .not (.t 76)⟩),
    (21, ⟨(some 78), none, .pick (.t 70) (.k (.d (.val (.bool true)))) (.t 77)⟩)] (some [1, 9, 11, 78])) (.cond (.t 78) (.seq (.ops 1 [
    (0, ⟨(some 8), none, .mv (.k (.d (.val (.bool false))))⟩)] (some [8])) .ret) .skip)) (.seq (.seq (.ops 6 [
    (0, ⟨(some 79), none, .mv (.t 11)⟩),
    (1, ⟨(some 80), none, .mv (.t 9)⟩),
    (2, ⟨(some 81), none, .lenS (.t 80)⟩),
    (3, ⟨(some 82), none, .slS 1 (.t 79) (some (.t 81)) none⟩),
    (4, ⟨(some 83), none, .lenS (.t 82)⟩),
    (5, ⟨(some 84), none, .mv (.k (.d (.val (.int .i64 0))))⟩)] (some [1, 82, 83, 84])) (.block 0 (.loop (.seq (.ops 1 [
    (0, ⟨(some 85), none, .arith .lss (.t 84) (.t 83)⟩)] (some [1, 82, 83, 84, 85])) (.seq (.cond (.t 85) .skip (.exit 0)) (.seq (.block 1 (.seq (.ops 3 [
    (0, ⟨(some 86), none, .idxS 1 (.t 82) (.t 84)⟩),
    (1, ⟨(some 87), none, .load none (.t 86)⟩),
    (2, ⟨(some 14), none, .mv (.t 87)⟩)] (some [1, 14, 82, 83, 84])) (.seq (.ops 4 [
    (0, ⟨(some 88), none, .mv (.t 14)⟩),
    (1, ⟨(some 89), none, .mv (.t 1)⟩),
    (2, ⟨(some 90), none, .lenT (.t 89)⟩),
    (3, ⟨(some 91), none, .arith .leq (.t 88) (.t 90)⟩)] (some [1, 82, 83, 84, 91])) (.cond (.t 91) (.seq (.ops 1 [
    (0, ⟨(some 8), none, .mv (.k (.d (.val (.bool false))))⟩)] (some [8])) .ret) .skip)))) (.ops 2 [
    (0, ⟨(some 92), none, .arith .add (.t 84) (.k (.d (.val (.int .i64 1))))⟩),
    (1, ⟨(some 84), none, .mv (.t 92)⟩)] (some [1, 82, 83, 84])))))))) (.seq (.ops 1 [
    (0, ⟨(some 8), none, .mv (.k (.d (.val (.bool true))))⟩)] (some [8])) .ret)))))))
def md7 : FuncId → Option Nat × Bool
  | _ => (none, false)
def od7 : Nat → List (List Nat) × List Nat × Option (List Nat)
  | 0 => ([], [], some [1, 2, 3, 4])
  | 1 => ([], [], some [1, 2, 3, 4, 39])
  | 2 => ([], [], some [8])
  | 3 => ([], [], some [1, 2, 3, 4, 9, 10])
  | 4 => ([], [], some [1, 9, 10, 11, 12])
  | 5 => ([], [], some [1, 9, 11, 78])
  | 6 => ([], [], some [8])
  | 7 => ([], [], some [1, 82, 83, 84])
  | 8 => ([], [], some [1, 82, 83, 84, 85])
  | 9 => ([], [], some [1, 14, 82, 83, 84])
  | 10 => ([], [], some [1, 82, 83, 84, 91])
  | 11 => ([], [], some [8])
  | 12 => ([], [], some [1, 82, 83, 84])
  | 13 => ([], [], some [8])
  | _ => ([], [], none)
theorem b7 {ags : List AV} {row : Option (List DV)} {r : AV} {row' nw : Option (List DV)} (hal : ags.length ≤ 93) (hrow : row'.isSome = true → row.isSome = true) (h : xwp Try.prog x7 (retK [.tmp 8] row.isSome r row' nw) (St.init ags row)) : Good Try.prog 7 ags row r row' nw :=
  good_of_body' (md := md7) (od := od7) Try.f7 (by kernel_rfl) (by kernel_rfl) (by kernel_rfl) (by kernel_rfl) (by kernel_rfl) hal hrow h

section
variable {P : Program} {Q : Cont} {fr : Fr} {C : Heap} {Z Z' : Frz} {nx : Nat} {base n d : Nat} {l : List (Nat × XO)} {kp : Option (List Nat)} {x i y s : X}
theorem r_addS {a b : ByteArray} (hx : x.ev fr = .d (.val (.string a))) (hy : y.ev fr = .d (.val (.string b))) (h : a.size + b.size ≤ 9223372036854775807) (k : R P l base kp Q nx (fr.put d (.d (.val (.string (a ++ b))))) C Z) : R P ((n, ⟨some d, none, .arith .add x y⟩) :: l) base kp Q nx fr C Z := by
  refine r_p ?_ k
  have h' : ((a.size + b.size : Nat) : Int) ≤ 9223372036854775807 := by omega
  simp only [xp, hx, hy, arith, h', if_true, Option.map_some]
theorem r_slI {L : List Int} {e : Int} {m k0 : Nat} (hx : x.ev fr = .d (.sl (encI L) k0)) (hi : i.ev fr = .i e) (hm : e = (m : Nat)) (hk : L.length = k0) (hle : m ≤ k0) (k : R P l base kp Q nx (fr.put d (.d (.sl (encI (L.take m)) m))) C Z) : R P ((n, ⟨some d, none, .slS 1 x none (some i)⟩) :: l) base kp Q nx fr C Z := by
  subst hm hk
  refine r_p ?_ k
  have h1 : (encI L).length = L.length * 1 := by rw [encI_len]; omega
  simp only [xp, hx, h1, hiOf, loOf, hi, intUpto]
  rw [if_pos (by simp), if_pos (by omega)]
  simp only [Int.toNat_natCast, Option.bind_some, Option.map_some, Nat.zero_mul, List.drop_zero, Nat.sub_zero, Nat.mul_one]
  split
  · rename_i e; subst e; simp [encI]
  · simp [encI, List.map_take]
theorem r_slIlo {L : List Int} {e : Int} {m k0 k1 : Nat} (hx : x.ev fr = .d (.sl (encI L) k0)) (hi : i.ev fr = .i e) (hm : e = (m : Nat)) (hk : L.length = k0) (hle : m ≤ k0) (h1 : k0 - m = k1) (k : R P l base kp Q nx (fr.put d (.d (.sl (encI (L.drop m)) k1))) C Z) : R P ((n, ⟨some d, none, .slS 1 x (some i) none⟩) :: l) base kp Q nx fr C Z := by
  subst hm hk h1
  refine r_p ?_ k
  have h1 : (encI L).length = L.length * 1 := by rw [encI_len]; omega
  simp only [xp, hx, h1, hiOf, loOf, hi, intUpto]
  rw [if_pos (by simp), Option.bind_some, if_pos (by omega)]
  simp only [Int.toNat_natCast, Option.map_some, Nat.mul_one]
  split
  · rename_i e; rw [← e]; simp [encI]
  · simp only [encI, List.map_drop]
    rw [List.take_of_length_le (by simp)]
end
theorem idxTo_more (q : List Bool) (m : Nat) : ∀ k, ∃ r, idxTo q (m + k) = idxTo q m ++ r ∧ ∀ x ∈ r, (m : Int) ≤ x
  | 0 => ⟨[], by simp, by simp⟩
  | k + 1 => by
    obtain ⟨r, h1, h2⟩ := idxTo_more q m k
    rw [← Nat.add_assoc, idxTo]
    split
    · refine ⟨r ++ [((m + k : Nat) : Int)], by rw [h1, List.append_assoc], fun x hx => ?_⟩
      rcases List.mem_append.1 hx with hx | hx
      · exact h2 x hx
      · simp at hx; omega
    · exact ⟨r, h1, h2⟩
theorem idxTo_congr {q q' : List Bool} : ∀ (m : Nat), (∀ i, i < m → (At q i ↔ At q' i)) → idxTo q m = idxTo q' m
  | 0, _ => rfl
  | m + 1, h => by
    have ih := idxTo_congr m fun i hi => h i (by omega)
    have hm := h m (by omega)
    unfold At at hm
    simp only [idxTo, ih]
    by_cases h1 : q.getD m false = true
    · rw [if_pos h1, if_pos (hm.1 h1)]
    · rw [if_neg h1, if_neg (fun h2 => h1 (hm.2 h2))]
theorem byteN_app (s m : ByteArray) (i : Nat) (h : i < s.size) : byteN (s ++ m) i = byteN s i := by
  have e : (s ++ m).data = s.data ++ m.data := by simp
  have h' : i < s.data.size := h
  simp only [byteN, e, Array.getD_eq_getD_getElem?]
  rw [Array.getElem?_append_left h']
theorem size_app (s m : ByteArray) : (s ++ m).size = s.size + m.size := ByteArray.size_append
theorem word_more (s m : ByteArray) (i j : Nat) (h : j ≤ s.size) : word (s ++ m) i j = word s i j := by
  unfold word
  refine List.map_congr_left fun k hk => ?_
  have := List.mem_range'.1 hk
  obtain ⟨a, h1, h2⟩ := this
  exact byteN_app s m k (by omega)
theorem at_ends (s : ByteArray) (t : T) (hok : okT t) (j : Nat) (hj : j ≤ s.size) (k : Nat) : At (stepG s t ((List.replicate (s.size + 1) false).set j true)) k ↔ j ≤ k ∧ k ≤ s.size ∧ L t (word s j k) := by
  have hl : ((List.replicate (s.size + 1) false).set j true).length = s.size + 1 := by simp
  rw [(stepG_goes s t hok _ hl).2 k]
  constructor
  · rintro ⟨i, h1, h2, h3, h4⟩
    rw [at_set i (by simp; omega)] at h2
    rcases h2 with ⟨rfl, _⟩ | ⟨_, h⟩
    · exact ⟨h1, h3, h4⟩
    · exact absurd h (at_rep _ _)
  · rintro ⟨h1, h2, h3⟩
    exact ⟨j, h1, (at_set j (by simp; omega)).2 (.inl ⟨rfl, rfl⟩), h2, h3⟩
theorem allG_eq {s : ByteArray} {t : T} (hf : fitsT t 12 = true) {j : Nat} (hj : j ≤ s.size) : allG s t j = idxTo (stepG s t ((List.replicate (s.size + 1) false).set j true)) (s.size + 1) := by
  have : 0 ≤ ((j : Nat) : Int) ∧ ((j : Nat) : Int) ≤ s.size := by omega
  simp only [allG, hf, this, and_self, if_true, Int.toNat_natCast]
theorem longer (s m : ByteArray) (t : T) (hf : fitsT t 12 = true) (hok : okT t) (j : Nat) (hj : j ≤ s.size) : ∃ r, allG (s ++ m) t j = allG s t j ++ r ∧ ∀ x ∈ r, ((s.size : Nat) : Int) < x := by
  rw [allG_eq hf hj, allG_eq (s := s ++ m) hf (by rw [size_app]; omega)]
  obtain ⟨r, h1, h2⟩ := idxTo_more (stepG (s ++ m) t ((List.replicate ((s ++ m).size + 1) false).set j true)) (s.size + 1) m.size
  refine ⟨r, ?_, fun x hx => by have := h2 x hx; omega⟩
  have e1 : s.size + 1 + m.size = (s ++ m).size + 1 := by rw [size_app]; omega
  rw [e1] at h1
  rw [h1]
  congr 1
  refine idxTo_congr _ fun i hi => ?_
  rw [at_ends (s ++ m) t hok j (by rw [size_app]; omega) i, at_ends s t hok j hj i]
  rw [size_app, word_more s m j i (by omega)]
  constructor
  · rintro ⟨a, _, c⟩; exact ⟨a, by omega, c⟩
  · rintro ⟨a, b, c⟩; exact ⟨a, by omega, c⟩
set_option maxRecDepth 100000
set_option maxHeartbeats 4000000
attribute [local irreducible] W E R KP thenK blockK retK Good xwp aRun
theorem law7 (t : T) (s m : ByteArray) (n : Int) (ht : inT t) (hs : s.size ≤ 140737488355328) (hm : m.size ≤ 140737488355328) (hn : inW n) : Good Try.prog 7 [nodeA t, .d (.val (.string s)), .d (.val (.string m)), .i n] none (.b true) none none := by
  have haw := awake11_good
  have hsz := size_app s m
  have h30 := few30_good (s ++ m) (by omega) t ht
  unfold inW at hn
  by_cases hf : few11 (s ++ m) t = true
  case neg =>
    have hf : few11 (s ++ m) t = false := by simpa using hf
    rw [hf] at h30
    clear ht hf
    obtain ⟨k, a, b, c, d, mn, mx, subs⟩ := t
    have e0 : nodeA (.node k a b c d mn mx subs) = .agg [.i k, .d (.val (.int .u64 a)), .d (.val (.int .u64 b)), .d (.val (.int .u64 c)), .d (.val (.int .u64 d)), .i mn, .i mx, .d (.sl (encL subs) subs.length)] := rfl
    rw [e0] at h30 ⊢
    refine b7 (by simp) (by simp) (w_init ?_)
    unfold x7
    repeat' (first
    | (apply r_mvV; rfl)
    | (apply r_mvP; rfl)
    | (apply r_mvPL; rfl)
    | (apply r_mvS; rfl)
    | (apply r_mvSL; rfl)
    | (apply r_mvA; rfl)
    | (apply r_mvT; rfl)
    | (apply r_mvF; rfl)
    | (apply r_mvD; rfl)
    | (apply r_ldL; rfl; rfl; rfl)
    | (apply r_l; apply ld_kind; assumption; rfl)
    | (apply r_l; apply ld_mn; assumption; rfl)
    | (apply r_l; apply ld_mx; assumption; rfl)
    | (apply r_l; apply ld_subs; assumption; rfl)
    | (apply r_l; apply ld_set; assumption; rfl)
    | (apply r_l; apply ld_node; assumption; rfl)
    | (apply r_l; apply ld_kind'; assumption; rfl)
    | (apply r_l; apply ld_mn'; assumption; rfl)
    | (apply r_l; apply ld_mx'; assumption; rfl)
    | (apply r_l; apply ld_subs'; assumption; rfl)
    | (apply r_l; apply ld_node'; assumption; rfl)
    | (apply r_callA; rfl; rfl; exact haw)
    | (apply r_callA; rfl; rfl; exact h30)
    | (apply r_addS; rfl; rfl; omega)
    | (apply r_neq; rfl; rfl; (first | (apply decide_eq_true; omega) | (apply decide_eq_false; omega) | rfl))
    | (apply r_lss; rfl; rfl; (first | (apply decide_eq_true; omega) | (apply decide_eq_false; omega) | rfl))
    | (apply r_leq; rfl; rfl; (first | (apply decide_eq_true; omega) | (apply decide_eq_false; omega) | rfl))
    | (apply r_gtr; rfl; rfl; (first | (apply decide_eq_true; omega) | (apply decide_eq_false; omega) | rfl))
    | (apply r_add; rfl; rfl; rfl; omega)
    | (apply r_not; rfl; rfl)
    | (apply r_pickT; rfl)
    | (apply r_pickF; rfl)
    | (apply r_lenD; rfl)
    | (apply r_lenL; rfl)
    | (apply r_len0; rfl)
    | (apply r_lenT; rfl)
    | (apply r_ext; rfl; rfl)
    | (apply r_gT; rfl)
    | (apply r_gF'; rfl; rfl)
    | (apply r_gN'; rfl)
    | ((apply r_gS (o := default); rfl) <;> (intro h; try simp only [decide_eq_true_eq, decide_eq_false_iff_not, Bool.not_eq_true, Bool.not_eq_false] at h))
    | (apply r_box; ((conv => lhs; simp only [Nat.reduceAdd]) <;> rfl); rfl; rfl; rfl)
    | (apply r_p; rfl)
    | (apply r_nilK)
    | (apply r_nil)
    | (apply k_V; rfl)
    | (apply k_P; rfl)
    | (apply k_PL; rfl)
    | (apply k_S; rfl)
    | (apply k_SL; rfl)
    | (apply k_A; rfl)
    | (apply k_T; rfl)
    | (apply k_F; rfl)
    | (apply k_D; rfl; rotate_left; rfl)
    | (apply k_nil)
    | (apply e_ret (vs := [.d (.val _)]); rfl)
    | (apply e_ret; rfl)
    | (apply e_ret' (vs := [.d (.val _)]); rfl)
    | (apply e_ret'; rfl)
    | (apply w_seq)
    | (apply w_ops; ((conv => lhs; simp only [Nat.reduceAdd]) <;> rfl))
    | (apply w_condT; rfl)
    | (apply w_condF; rfl)
    | ((apply w_condS; rfl) <;> (intro h; try simp only [decide_eq_true_eq, decide_eq_false_iff_not, Bool.not_eq_true, Bool.not_eq_false] at h))
    | (apply e_thenN)
    | (apply w_block)
    | (apply e_thenR)
    | (apply e_thenX)
    | (apply e_blkN)
    | (apply e_blkR)
    | (apply e_blkE)
    | (apply w_exit)
    | (apply w_ret)
    | (apply w_skip)
    | (apply e_blkE'; rfl))
    exact retB rfl
  rw [hf] at h30
  simp only [few11, Bool.and_eq_true, decide_eq_true_eq] at hf
  obtain ⟨hf1, hf2, _⟩ := hf
  have hc := few_cnt hf1
  have h32 := right8_good t (by omega)
  by_cases hr : rightT t = true
  case neg =>
    have hr : rightT t = false := by simpa using hr
    rw [hr] at h32
    clear ht hr
    obtain ⟨k, a, b, c, d, mn, mx, subs⟩ := t
    have e0 : nodeA (.node k a b c d mn mx subs) = .agg [.i k, .d (.val (.int .u64 a)), .d (.val (.int .u64 b)), .d (.val (.int .u64 c)), .d (.val (.int .u64 d)), .i mn, .i mx, .d (.sl (encL subs) subs.length)] := rfl
    rw [e0] at h30 h32 ⊢
    refine b7 (by simp) (by simp) (w_init ?_)
    unfold x7
    repeat' (first
    | (apply r_mvV; rfl)
    | (apply r_mvP; rfl)
    | (apply r_mvPL; rfl)
    | (apply r_mvS; rfl)
    | (apply r_mvSL; rfl)
    | (apply r_mvA; rfl)
    | (apply r_mvT; rfl)
    | (apply r_mvF; rfl)
    | (apply r_mvD; rfl)
    | (apply r_ldL; rfl; rfl; rfl)
    | (apply r_l; apply ld_kind; assumption; rfl)
    | (apply r_l; apply ld_mn; assumption; rfl)
    | (apply r_l; apply ld_mx; assumption; rfl)
    | (apply r_l; apply ld_subs; assumption; rfl)
    | (apply r_l; apply ld_set; assumption; rfl)
    | (apply r_l; apply ld_node; assumption; rfl)
    | (apply r_l; apply ld_kind'; assumption; rfl)
    | (apply r_l; apply ld_mn'; assumption; rfl)
    | (apply r_l; apply ld_mx'; assumption; rfl)
    | (apply r_l; apply ld_subs'; assumption; rfl)
    | (apply r_l; apply ld_node'; assumption; rfl)
    | (apply r_callA; rfl; rfl; exact haw)
    | (apply r_callA; rfl; rfl; exact h30)
    | (apply r_callA; rfl; rfl; exact h32)
    | (apply r_addS; rfl; rfl; omega)
    | (apply r_neq; rfl; rfl; (first | (apply decide_eq_true; omega) | (apply decide_eq_false; omega) | rfl))
    | (apply r_lss; rfl; rfl; (first | (apply decide_eq_true; omega) | (apply decide_eq_false; omega) | rfl))
    | (apply r_leq; rfl; rfl; (first | (apply decide_eq_true; omega) | (apply decide_eq_false; omega) | rfl))
    | (apply r_gtr; rfl; rfl; (first | (apply decide_eq_true; omega) | (apply decide_eq_false; omega) | rfl))
    | (apply r_add; rfl; rfl; rfl; omega)
    | (apply r_not; rfl; rfl)
    | (apply r_pickT; rfl)
    | (apply r_pickF; rfl)
    | (apply r_lenD; rfl)
    | (apply r_lenL; rfl)
    | (apply r_len0; rfl)
    | (apply r_lenT; rfl)
    | (apply r_ext; rfl; rfl)
    | (apply r_gT; rfl)
    | (apply r_gF'; rfl; rfl)
    | (apply r_gN'; rfl)
    | ((apply r_gS (o := default); rfl) <;> (intro h; try simp only [decide_eq_true_eq, decide_eq_false_iff_not, Bool.not_eq_true, Bool.not_eq_false] at h))
    | (apply r_box; ((conv => lhs; simp only [Nat.reduceAdd]) <;> rfl); rfl; rfl; rfl)
    | (apply r_p; rfl)
    | (apply r_nilK)
    | (apply r_nil)
    | (apply k_V; rfl)
    | (apply k_P; rfl)
    | (apply k_PL; rfl)
    | (apply k_S; rfl)
    | (apply k_SL; rfl)
    | (apply k_A; rfl)
    | (apply k_T; rfl)
    | (apply k_F; rfl)
    | (apply k_D; rfl; rotate_left; rfl)
    | (apply k_nil)
    | (apply e_ret (vs := [.d (.val _)]); rfl)
    | (apply e_ret; rfl)
    | (apply e_ret' (vs := [.d (.val _)]); rfl)
    | (apply e_ret'; rfl)
    | (apply w_seq)
    | (apply w_ops; ((conv => lhs; simp only [Nat.reduceAdd]) <;> rfl))
    | (apply w_condT; rfl)
    | (apply w_condF; rfl)
    | ((apply w_condS; rfl) <;> (intro h; try simp only [decide_eq_true_eq, decide_eq_false_iff_not, Bool.not_eq_true, Bool.not_eq_false] at h))
    | (apply e_thenN)
    | (apply w_block)
    | (apply e_thenR)
    | (apply e_thenX)
    | (apply e_blkN)
    | (apply e_blkR)
    | (apply e_blkE)
    | (apply w_exit)
    | (apply w_ret)
    | (apply w_skip)
    | (apply e_blkE'; rfl))
    exact retB rfl
  have hfi : fitsT t 12 = true := by rw [← right_fits]; exact hr
  have hok : okT t := ok_of_right ht hr
  rw [hr] at h32
  by_cases hfr : 0 ≤ n ∧ n ≤ s.size
  case neg =>
    clear ht hr hfi hok
    obtain ⟨k, a, b, c, d, mn, mx, subs⟩ := t
    have e0 : nodeA (.node k a b c d mn mx subs) = .agg [.i k, .d (.val (.int .u64 a)), .d (.val (.int .u64 b)), .d (.val (.int .u64 c)), .d (.val (.int .u64 d)), .i mn, .i mx, .d (.sl (encL subs) subs.length)] := rfl
    rw [e0] at h30 h32 ⊢
    refine b7 (by simp) (by simp) (w_init ?_)
    unfold x7
    by_cases hneg : n < 0
    · repeat' (first
    | (apply r_mvV; rfl)
    | (apply r_mvP; rfl)
    | (apply r_mvPL; rfl)
    | (apply r_mvS; rfl)
    | (apply r_mvSL; rfl)
    | (apply r_mvA; rfl)
    | (apply r_mvT; rfl)
    | (apply r_mvF; rfl)
    | (apply r_mvD; rfl)
    | (apply r_ldL; rfl; rfl; rfl)
    | (apply r_l; apply ld_kind; assumption; rfl)
    | (apply r_l; apply ld_mn; assumption; rfl)
    | (apply r_l; apply ld_mx; assumption; rfl)
    | (apply r_l; apply ld_subs; assumption; rfl)
    | (apply r_l; apply ld_set; assumption; rfl)
    | (apply r_l; apply ld_node; assumption; rfl)
    | (apply r_l; apply ld_kind'; assumption; rfl)
    | (apply r_l; apply ld_mn'; assumption; rfl)
    | (apply r_l; apply ld_mx'; assumption; rfl)
    | (apply r_l; apply ld_subs'; assumption; rfl)
    | (apply r_l; apply ld_node'; assumption; rfl)
    | (apply r_callA; rfl; rfl; exact haw)
    | (apply r_callA; rfl; rfl; exact h30)
    | (apply r_callA; rfl; rfl; exact h32)
    | (apply r_addS; rfl; rfl; omega)
    | (apply r_neq; rfl; rfl; (first | (apply decide_eq_true; omega) | (apply decide_eq_false; omega) | rfl))
    | (apply r_lss; rfl; rfl; (first | (apply decide_eq_true; omega) | (apply decide_eq_false; omega) | rfl))
    | (apply r_leq; rfl; rfl; (first | (apply decide_eq_true; omega) | (apply decide_eq_false; omega) | rfl))
    | (apply r_gtr; rfl; rfl; (first | (apply decide_eq_true; omega) | (apply decide_eq_false; omega) | rfl))
    | (apply r_add; rfl; rfl; rfl; omega)
    | (apply r_not; rfl; rfl)
    | (apply r_pickT; rfl)
    | (apply r_pickF; rfl)
    | (apply r_lenD; rfl)
    | (apply r_lenL; rfl)
    | (apply r_len0; rfl)
    | (apply r_lenT; rfl)
    | (apply r_ext; rfl; rfl)
    | (apply r_gT; rfl)
    | (apply r_gF'; rfl; rfl)
    | (apply r_gN'; rfl)
    | ((apply r_gS (o := default); rfl) <;> (intro h; try simp only [decide_eq_true_eq, decide_eq_false_iff_not, Bool.not_eq_true, Bool.not_eq_false] at h))
    | (apply r_box; ((conv => lhs; simp only [Nat.reduceAdd]) <;> rfl); rfl; rfl; rfl)
    | (apply r_p; rfl)
    | (apply r_nilK)
    | (apply r_nil)
    | (apply k_V; rfl)
    | (apply k_P; rfl)
    | (apply k_PL; rfl)
    | (apply k_S; rfl)
    | (apply k_SL; rfl)
    | (apply k_A; rfl)
    | (apply k_T; rfl)
    | (apply k_F; rfl)
    | (apply k_D; rfl; rotate_left; rfl)
    | (apply k_nil)
    | (apply e_ret (vs := [.d (.val _)]); rfl)
    | (apply e_ret; rfl)
    | (apply e_ret' (vs := [.d (.val _)]); rfl)
    | (apply e_ret'; rfl)
    | (apply w_seq)
    | (apply w_ops; ((conv => lhs; simp only [Nat.reduceAdd]) <;> rfl))
    | (apply w_condT; rfl)
    | (apply w_condF; rfl)
    | ((apply w_condS; rfl) <;> (intro h; try simp only [decide_eq_true_eq, decide_eq_false_iff_not, Bool.not_eq_true, Bool.not_eq_false] at h))
    | (apply e_thenN)
    | (apply w_block)
    | (apply e_thenR)
    | (apply e_thenX)
    | (apply e_blkN)
    | (apply e_blkR)
    | (apply e_blkE)
    | (apply w_exit)
    | (apply w_ret)
    | (apply w_skip)
    | (apply e_blkE'; rfl))
      exact retB rfl
    · repeat' (first
    | (apply r_mvV; rfl)
    | (apply r_mvP; rfl)
    | (apply r_mvPL; rfl)
    | (apply r_mvS; rfl)
    | (apply r_mvSL; rfl)
    | (apply r_mvA; rfl)
    | (apply r_mvT; rfl)
    | (apply r_mvF; rfl)
    | (apply r_mvD; rfl)
    | (apply r_ldL; rfl; rfl; rfl)
    | (apply r_l; apply ld_kind; assumption; rfl)
    | (apply r_l; apply ld_mn; assumption; rfl)
    | (apply r_l; apply ld_mx; assumption; rfl)
    | (apply r_l; apply ld_subs; assumption; rfl)
    | (apply r_l; apply ld_set; assumption; rfl)
    | (apply r_l; apply ld_node; assumption; rfl)
    | (apply r_l; apply ld_kind'; assumption; rfl)
    | (apply r_l; apply ld_mn'; assumption; rfl)
    | (apply r_l; apply ld_mx'; assumption; rfl)
    | (apply r_l; apply ld_subs'; assumption; rfl)
    | (apply r_l; apply ld_node'; assumption; rfl)
    | (apply r_callA; rfl; rfl; exact haw)
    | (apply r_callA; rfl; rfl; exact h30)
    | (apply r_callA; rfl; rfl; exact h32)
    | (apply r_addS; rfl; rfl; omega)
    | (apply r_neq; rfl; rfl; (first | (apply decide_eq_true; omega) | (apply decide_eq_false; omega) | rfl))
    | (apply r_lss; rfl; rfl; (first | (apply decide_eq_true; omega) | (apply decide_eq_false; omega) | rfl))
    | (apply r_leq; rfl; rfl; (first | (apply decide_eq_true; omega) | (apply decide_eq_false; omega) | rfl))
    | (apply r_gtr; rfl; rfl; (first | (apply decide_eq_true; omega) | (apply decide_eq_false; omega) | rfl))
    | (apply r_add; rfl; rfl; rfl; omega)
    | (apply r_not; rfl; rfl)
    | (apply r_pickT; rfl)
    | (apply r_pickF; rfl)
    | (apply r_lenD; rfl)
    | (apply r_lenL; rfl)
    | (apply r_len0; rfl)
    | (apply r_lenT; rfl)
    | (apply r_ext; rfl; rfl)
    | (apply r_gT; rfl)
    | (apply r_gF'; rfl; rfl)
    | (apply r_gN'; rfl)
    | ((apply r_gS (o := default); rfl) <;> (intro h; try simp only [decide_eq_true_eq, decide_eq_false_iff_not, Bool.not_eq_true, Bool.not_eq_false] at h))
    | (apply r_box; ((conv => lhs; simp only [Nat.reduceAdd]) <;> rfl); rfl; rfl; rfl)
    | (apply r_p; rfl)
    | (apply r_nilK)
    | (apply r_nil)
    | (apply k_V; rfl)
    | (apply k_P; rfl)
    | (apply k_PL; rfl)
    | (apply k_S; rfl)
    | (apply k_SL; rfl)
    | (apply k_A; rfl)
    | (apply k_T; rfl)
    | (apply k_F; rfl)
    | (apply k_D; rfl; rotate_left; rfl)
    | (apply k_nil)
    | (apply e_ret (vs := [.d (.val _)]); rfl)
    | (apply e_ret; rfl)
    | (apply e_ret' (vs := [.d (.val _)]); rfl)
    | (apply e_ret'; rfl)
    | (apply w_seq)
    | (apply w_ops; ((conv => lhs; simp only [Nat.reduceAdd]) <;> rfl))
    | (apply w_condT; rfl)
    | (apply w_condF; rfl)
    | ((apply w_condS; rfl) <;> (intro h; try simp only [decide_eq_true_eq, decide_eq_false_iff_not, Bool.not_eq_true, Bool.not_eq_false] at h))
    | (apply e_thenN)
    | (apply w_block)
    | (apply e_thenR)
    | (apply e_thenX)
    | (apply e_blkN)
    | (apply e_blkR)
    | (apply e_blkE)
    | (apply w_exit)
    | (apply w_ret)
    | (apply w_skip)
    | (apply e_blkE'; rfl))
      exact retB rfl
  obtain ⟨j, rfl⟩ := Int.eq_ofNat_of_zero_le hfr.1
  have hj : j ≤ s.size := by omega
  have h31 := all_good s (by omega) t (by omega) (fun _ => hok) j
  have h31' := all_good (s ++ m) (by omega) t (by omega) (fun _ => hok) j
  have he : allE s t (j : Nat) = 0 := by simp only [allE, hfi, hfr, and_self, if_true]
  have he' : allE (s ++ m) t (j : Nat) = 0 := by
    have : 0 ≤ ((j : Nat) : Int) ∧ ((j : Nat) : Int) ≤ (s ++ m).size := by omega
    simp only [allE, hfi, this, and_self, if_true]
  obtain ⟨r, hl1, hl2⟩ := longer s m t hfi hok j hj
  have hL : (allG s t j).length ≤ 1000001 := by rw [allG_eq hfi hj]; exact Nat.le_trans (idxTo_len _ _) (by omega)
  have hL2 : (allG (s ++ m) t j).length ≤ 1000001 := by rw [allG_eq hfi (by omega)]; exact Nat.le_trans (idxTo_len _ _) (by omega)
  rw [he] at h31
  rw [he'] at h31'
  rw [hl1] at h31' hL2
  generalize allG s t j = LL at h31 h31' hL hL2
  have h35 := same_good LL LL hL
  rw [show decide (LL = LL) = true by simp] at h35
  have htk : (LL ++ r).take LL.length = LL := by simp
  have hdr : (LL ++ r).drop LL.length = r := by simp
  have hlen2 : (LL ++ r).length = LL.length + r.length := by simp
  clear ht hr hfi hok he he' hl1
  obtain ⟨k, a, b, c, d, mn, mx, subs⟩ := t
  have e0 : nodeA (.node k a b c d mn mx subs) = .agg [.i k, .d (.val (.int .u64 a)), .d (.val (.int .u64 b)), .d (.val (.int .u64 c)), .d (.val (.int .u64 d)), .i mn, .i mx, .d (.sl (encL subs) subs.length)] := rfl
  rw [e0] at h30 h31 h31' h32 ⊢
  refine b7 (by simp) (by simp) (w_init ?_)
  unfold x7
  repeat' (first
    | (apply r_mvV; rfl)
    | (apply r_mvP; rfl)
    | (apply r_mvPL; rfl)
    | (apply r_mvS; rfl)
    | (apply r_mvSL; rfl)
    | (apply r_mvA; rfl)
    | (apply r_mvT; rfl)
    | (apply r_mvF; rfl)
    | (apply r_mvD; rfl)
    | (apply r_ldL; rfl; rfl; rfl)
    | (apply r_l; apply ld_kind; assumption; rfl)
    | (apply r_l; apply ld_mn; assumption; rfl)
    | (apply r_l; apply ld_mx; assumption; rfl)
    | (apply r_l; apply ld_subs; assumption; rfl)
    | (apply r_l; apply ld_set; assumption; rfl)
    | (apply r_l; apply ld_node; assumption; rfl)
    | (apply r_l; apply ld_kind'; assumption; rfl)
    | (apply r_l; apply ld_mn'; assumption; rfl)
    | (apply r_l; apply ld_mx'; assumption; rfl)
    | (apply r_l; apply ld_subs'; assumption; rfl)
    | (apply r_l; apply ld_node'; assumption; rfl)
    | (apply r_callA; rfl; rfl; exact haw)
    | (apply r_callA; rfl; rfl; exact h30)
    | (apply r_callA; rfl; rfl; exact h31)
    | (apply r_callA; rfl; rfl; exact h31')
    | (apply r_callA; rfl; rfl; exact h32)
    | (apply r_addS; rfl; rfl; omega)
    | (apply r_slI (m := LL.length); rfl; rfl; rfl; rfl; omega; rw [htk])
    | (apply r_callA; rfl; rfl; exact h35)
    | (apply r_slIlo (m := LL.length) (k1 := r.length); rfl; rfl; rfl; rfl; omega; omega; rw [hdr])
    | (apply r_neq; rfl; rfl; (first | (apply decide_eq_true; omega) | (apply decide_eq_false; omega) | rfl))
    | (apply r_lss; rfl; rfl; (first | (apply decide_eq_true; omega) | (apply decide_eq_false; omega) | rfl))
    | (apply r_leq; rfl; rfl; (first | (apply decide_eq_true; omega) | (apply decide_eq_false; omega) | rfl))
    | (apply r_gtr; rfl; rfl; (first | (apply decide_eq_true; omega) | (apply decide_eq_false; omega) | rfl))
    | (apply r_add; rfl; rfl; rfl; omega)
    | (apply r_not; rfl; rfl)
    | (apply r_pickT; rfl)
    | (apply r_pickF; rfl)
    | (apply r_lenD; rfl)
    | (apply r_lenL; rfl)
    | (apply r_len0; rfl)
    | (apply r_lenT; rfl)
    | (apply r_ext; rfl; rfl)
    | (apply r_gT; rfl)
    | (apply r_gF'; rfl; rfl)
    | (apply r_gN'; rfl)
    | ((apply r_gS (o := default); rfl) <;> (intro h; try simp only [decide_eq_true_eq, decide_eq_false_iff_not, Bool.not_eq_true, Bool.not_eq_false] at h))
    | (apply r_box; ((conv => lhs; simp only [Nat.reduceAdd]) <;> rfl); rfl; rfl; rfl)
    | (apply r_p; rfl)
    | (apply r_nilK)
    | (apply r_nil)
    | (apply k_V; rfl)
    | (apply k_P; rfl)
    | (apply k_PL; rfl)
    | (apply k_S; rfl)
    | (apply k_SL; rfl)
    | (apply k_A; rfl)
    | (apply k_T; rfl)
    | (apply k_F; rfl)
    | (apply k_D; rfl; rotate_left; rfl)
    | (apply k_nil)
    | (apply e_ret (vs := [.d (.val _)]); rfl)
    | (apply e_ret; rfl)
    | (apply e_ret' (vs := [.d (.val _)]); rfl)
    | (apply e_ret'; rfl)
    | (apply w_seq)
    | (apply w_ops; ((conv => lhs; simp only [Nat.reduceAdd]) <;> rfl))
    | (apply w_condT; rfl)
    | (apply w_condF; rfl)
    | ((apply w_condS; rfl) <;> (intro h; try simp only [decide_eq_true_eq, decide_eq_false_iff_not, Bool.not_eq_true, Bool.not_eq_false] at h))
    | (apply e_thenN)
    | (apply w_block)
    | (apply e_thenR)
    | (apply e_thenX)
    | (apply e_blkN)
    | (apply e_blkR)
    | (apply e_blkE)
    | (apply w_exit)
    | (apply w_ret)
    | (apply w_skip)
    | (apply e_blkE'; rfl))
  apply w_loopI (S := fun i : Nat => ⟨(((Fr.nil.put 1 (.d (.val (.string s)))).put 82 (.d (.sl (encI r) r.length))).put 83 (.i r.length)).put 84 (.i i), Heap.nil, Frz.lo 200, 200⟩) (m := fun i => r.length - i) (I := fun i => i ≤ r.length) (i0 := 0)
  · exact Nat.zero_le _
  · refine wk0 (by omega) ?_
    repeat' (first
    | exact FWk.nil
    | (apply FWk.i; rfl; (first | rfl | omega | (simp; done)))
    | (apply FWk.sl; rfl; rfl; rfl; rfl; omega; rfl)
    | (apply FWk.ptr; rfl; rfl; rfl; omega; rfl)
    | (apply FWk.d; rfl; rfl)
    | (apply FWk.a; rfl; rfl; rfl)
    | (apply FWk.slN; rfl; omega; rfl))
  intro i K hi hK
  dsimp only
  rcases Nat.lt_or_ge i r.length with hlt | hge
  · have hg := List.getElem?_eq_getElem hlt
    have hgt := hl2 _ (List.getElem_mem hlt)
    repeat' (first
    | (apply r_mvV; rfl)
    | (apply r_mvP; rfl)
    | (apply r_mvPL; rfl)
    | (apply r_mvS; rfl)
    | (apply r_mvSL; rfl)
    | (apply r_mvA; rfl)
    | (apply r_mvT; rfl)
    | (apply r_mvF; rfl)
    | (apply r_mvD; rfl)
    | (apply r_ldL; rfl; rfl; rfl)
    | (apply r_ixI (j := i); rfl; rfl; rfl; rfl; omega)
    | (apply r_ldI; rfl; exact hg)
    | (apply r_neq; rfl; rfl; (first | (apply decide_eq_true; omega) | (apply decide_eq_false; omega) | rfl))
    | (apply r_lss; rfl; rfl; (first | (apply decide_eq_true; omega) | (apply decide_eq_false; omega) | rfl))
    | (apply r_leq; rfl; rfl; (first | (apply decide_eq_true; omega) | (apply decide_eq_false; omega) | rfl))
    | (apply r_gtr; rfl; rfl; (first | (apply decide_eq_true; omega) | (apply decide_eq_false; omega) | rfl))
    | (apply r_add; rfl; rfl; rfl; omega)
    | (apply r_not; rfl; rfl)
    | (apply r_pickT; rfl)
    | (apply r_pickF; rfl)
    | (apply r_lenD; rfl)
    | (apply r_lenL; rfl)
    | (apply r_len0; rfl)
    | (apply r_lenT; rfl)
    | (apply r_ext; rfl; rfl)
    | (apply r_gT; rfl)
    | (apply r_gF'; rfl; rfl)
    | (apply r_gN'; rfl)
    | ((apply r_gS (o := default); rfl) <;> (intro h; try simp only [decide_eq_true_eq, decide_eq_false_iff_not, Bool.not_eq_true, Bool.not_eq_false] at h))
    | (apply r_box; ((conv => lhs; simp only [Nat.reduceAdd]) <;> rfl); rfl; rfl; rfl)
    | (apply r_p; rfl)
    | (apply r_nilK)
    | (apply r_nil)
    | (apply k_V; rfl)
    | (apply k_P; rfl)
    | (apply k_PL; rfl)
    | (apply k_S; rfl)
    | (apply k_SL; rfl)
    | (apply k_A; rfl)
    | (apply k_T; rfl)
    | (apply k_F; rfl)
    | (apply k_D; rfl; rotate_left; rfl)
    | (apply k_nil)
    | (apply e_ret (vs := [.d (.val _)]); rfl)
    | (apply e_ret; rfl)
    | (apply e_ret' (vs := [.d (.val _)]); rfl)
    | (apply e_ret'; rfl)
    | (apply w_seq)
    | (apply w_ops; ((conv => lhs; simp only [Nat.reduceAdd]) <;> rfl))
    | (apply w_condT; rfl)
    | (apply w_condF; rfl)
    | ((apply w_condS; rfl) <;> (intro h; try simp only [decide_eq_true_eq, decide_eq_false_iff_not, Bool.not_eq_true, Bool.not_eq_false] at h))
    | (apply e_thenN)
    | (apply w_block)
    | (apply e_thenR)
    | (apply e_thenX)
    | (apply e_blkN)
    | (apply e_blkR)
    | (apply e_blkE)
    | (apply w_exit)
    | (apply w_ret)
    | (apply w_skip)
    | (apply e_blkE'; rfl))
    apply e_thenK
    apply hK (i + 1)
    · omega
    · omega
    · refine wk0 (by omega) ?_
      repeat' (first
    | exact FWk.nil
    | (apply FWk.i; rfl; (first | rfl | omega | (simp; done)))
    | (apply FWk.sl; rfl; rfl; rfl; rfl; omega; rfl)
    | (apply FWk.ptr; rfl; rfl; rfl; omega; rfl)
    | (apply FWk.d; rfl; rfl)
    | (apply FWk.a; rfl; rfl; rfl)
    | (apply FWk.slN; rfl; omega; rfl))
  · repeat' (first
    | (apply r_mvV; rfl)
    | (apply r_mvP; rfl)
    | (apply r_mvPL; rfl)
    | (apply r_mvS; rfl)
    | (apply r_mvSL; rfl)
    | (apply r_mvA; rfl)
    | (apply r_mvT; rfl)
    | (apply r_mvF; rfl)
    | (apply r_mvD; rfl)
    | (apply r_ldL; rfl; rfl; rfl)
    | (apply r_neq; rfl; rfl; (first | (apply decide_eq_true; omega) | (apply decide_eq_false; omega) | rfl))
    | (apply r_lss; rfl; rfl; (first | (apply decide_eq_true; omega) | (apply decide_eq_false; omega) | rfl))
    | (apply r_leq; rfl; rfl; (first | (apply decide_eq_true; omega) | (apply decide_eq_false; omega) | rfl))
    | (apply r_gtr; rfl; rfl; (first | (apply decide_eq_true; omega) | (apply decide_eq_false; omega) | rfl))
    | (apply r_add; rfl; rfl; rfl; omega)
    | (apply r_not; rfl; rfl)
    | (apply r_pickT; rfl)
    | (apply r_pickF; rfl)
    | (apply r_lenD; rfl)
    | (apply r_lenL; rfl)
    | (apply r_len0; rfl)
    | (apply r_lenT; rfl)
    | (apply r_ext; rfl; rfl)
    | (apply r_gT; rfl)
    | (apply r_gF'; rfl; rfl)
    | (apply r_gN'; rfl)
    | ((apply r_gS (o := default); rfl) <;> (intro h; try simp only [decide_eq_true_eq, decide_eq_false_iff_not, Bool.not_eq_true, Bool.not_eq_false] at h))
    | (apply r_box; ((conv => lhs; simp only [Nat.reduceAdd]) <;> rfl); rfl; rfl; rfl)
    | (apply r_p; rfl)
    | (apply r_nilK)
    | (apply r_nil)
    | (apply k_V; rfl)
    | (apply k_P; rfl)
    | (apply k_PL; rfl)
    | (apply k_S; rfl)
    | (apply k_SL; rfl)
    | (apply k_A; rfl)
    | (apply k_T; rfl)
    | (apply k_F; rfl)
    | (apply k_D; rfl; rotate_left; rfl)
    | (apply k_nil)
    | (apply e_ret (vs := [.d (.val _)]); rfl)
    | (apply e_ret; rfl)
    | (apply e_ret' (vs := [.d (.val _)]); rfl)
    | (apply e_ret'; rfl)
    | (apply w_seq)
    | (apply w_ops; ((conv => lhs; simp only [Nat.reduceAdd]) <;> rfl))
    | (apply w_condT; rfl)
    | (apply w_condF; rfl)
    | ((apply w_condS; rfl) <;> (intro h; try simp only [decide_eq_true_eq, decide_eq_false_iff_not, Bool.not_eq_true, Bool.not_eq_false] at h))
    | (apply e_thenN)
    | (apply w_block)
    | (apply e_thenR)
    | (apply e_thenX)
    | (apply e_blkN)
    | (apply e_blkR)
    | (apply e_blkE)
    | (apply w_exit)
    | (apply w_ret)
    | (apply w_skip)
    | (apply e_blkE'; rfl))
    exact retB rfl
end Go.Sv
namespace Go.Sv
open Go Go.Proofs
def x90 : XC := (.seq (.ops 1 [
    (0, ⟨(some 4), none, .mv (.k (.d (.val (.bool false))))⟩)] (some [0, 1])) (.seq (.seq (.ops 3 [
    (0, ⟨(some 6), none, .mv (.t 0)⟩),
    (1, ⟨(some 7), none, .lenS (.t 6)⟩),
    (2, ⟨(some 8), none, .arith .eql (.t 7) (.k (.d (.val (.int .i64 0))))⟩)] (some [0, 1, 8])) (.cond (.t 8) (.seq (.ops 3 [
    (0, ⟨(some 9), none, .mv (.t 1)⟩),
    (1, ⟨(some 10), none, .arith .eql (.t 9) (.k (.d (.val (.string ⟨#[]⟩))))⟩),
    (2, ⟨(some 4), none, .mv (.t 10)⟩)] (some [4])) .ret) .skip)) (.seq (.seq (.ops 1 [
    (0, ⟨(some 5), none, .mv (.k (.d (.val (.int .i64 0))))⟩)] (some [0, 1, 5])) (.block 0 (.loop (.seq (.seq (.ops 4 [
    (0, ⟨(some 11), none, .mv (.t 5)⟩),
    (1, ⟨(some 12), none, .mv (.t 1)⟩),
    (2, ⟨(some 13), none, .lenT (.t 12)⟩),
    (3, ⟨(some 14), none, .arith .leq (.t 11) (.t 13)⟩)] (some [0, 1, 5, 14])) (.cond (.t 14) .skip (.exit 0))) (.seq (.block 1 (.seq (.ops 15 [
    (0, ⟨(some 17), none, .mv (.t 0)⟩),
    (1, ⟨(some 18), none, .idxS 8 (.t 17) (.k (.d (.val (.int .i64 0))))⟩),
    (2, ⟨(some 19), none, .load (some 8) (.t 18)⟩),
    (3, ⟨(some 20), none, .mv (.t 1)⟩),
    (4, ⟨(some 21), none, .mv (.t 5)⟩),
    (5, ⟨(some 22), none, .slT (.t 20) none (some (.t 21))⟩),
    (6, ⟨(some 23), none, .call 39 [(.t 19), (.t 22)] none false⟩),
    (7, ⟨(some 24), none, .mv (.t 23)⟩),
    (8, ⟨(some 25), (some (24, true)), .mv (.t 0)⟩),
    (9, ⟨(some 26), (some (24, true)), .slS 8 (.t 25) (some (.k (.d (.val (.int .i64 1))))) none⟩),
    (10, ⟨(some 27), (some (24, true)), .mv (.t 1)⟩),
    (11, ⟨(some 28), (some (24, true)), .mv (.t 5)⟩),
    (12, ⟨(some 29), (some (24, true)), .slT (.t 27) (some (.t 28)) none⟩),
    (13, ⟨(some 30), (some (24, true)), .call 90 [(.t 26), (.t 29)] none false⟩),
    (14, ⟨(some 31), none, .pick (.t 24) (.t 30) (.k (.d (.val (.bool false))))⟩)] (some [0, 1, 5, 31])) (.cond (.t 31) (.seq (.ops 1 [
    (0, ⟨(some 4), none, .mv (.k (.d (.val (.bool true))))⟩)] (some [4])) .ret) .skip))) (.ops 3 [
    (0, ⟨(some 15), none, .mv (.t 5)⟩),
    (1, ⟨(some 16), none, .arith .add (.t 15) (.k (.d (.val (.int .i64 1))))⟩),
    (2, ⟨(some 5), none, .mv (.t 16)⟩)] (some [0, 1, 5]))))))) (.seq (.ops 1 [
    (0, ⟨(some 4), none, .mv (.k (.d (.val (.bool false))))⟩)] (some [4])) .ret))))
def md90 : FuncId → Option Nat × Bool
  | _ => (none, false)
def od90 : Nat → List (List Nat) × List Nat × Option (List Nat)
  | 0 => ([], [], some [0, 1])
  | 1 => ([], [], some [0, 1, 8])
  | 2 => ([], [], some [4])
  | 3 => ([], [], some [0, 1, 5])
  | 4 => ([], [], some [0, 1, 5, 14])
  | 5 => ([], [], some [0, 1, 5])
  | 6 => ([[], [0], [0, 1], [], [], [3, 4], [0, 1, 2, 3, 4, 5], [0, 1, 2, 3, 4, 5, 6], [0, 1, 2, 3, 4, 5, 6, 7], [0, 1, 2, 3, 4, 5, 6, 7, 8], [0, 1, 2, 3, 4, 5, 6, 7], [0, 1, 2, 3, 4, 5, 6, 7], [0, 1, 2, 3, 4, 5, 6, 7, 10, 11], [0, 1, 2, 3, 4, 5, 6, 7, 8, 9, 10, 11, 12], [0, 1, 2, 3, 4, 5, 6, 7, 8, 9, 10, 11, 12, 13]], [0, 1, 2, 3, 4, 5, 6, 7, 8, 9, 10, 11, 12, 13, 14], some [0, 1, 5, 31])
  | 7 => ([], [], some [4])
  | 8 => ([], [], some [4])
  | _ => ([], [], none)
theorem b90 {ags : List AV} {row : Option (List DV)} {r : AV} {row' nw : Option (List DV)} (hal : ags.length ≤ 32) (hrow : row'.isSome = true → row.isSome = true) (h : xwp Try.prog x90 (retK [.tmp 4] row.isSome r row' nw) (St.init ags row)) : Good Try.prog 90 ags row r row' nw :=
  good_of_body' (md := md90) (od := od90) Try.f90 (by kernel_rfl) (by kernel_rfl) (by kernel_rfl) (by kernel_rfl) (by kernel_rfl) hal hrow h

def x91 : XC := (.seq (.ops 2 [
    (0, ⟨(some 3), none, .box (.t 0)⟩),
    (1, ⟨(some 6), none, .mv (.k (.d (.val (.bool false))))⟩)] (some [1, 2, 3])) (.seq (.seq (.ops 8 [
    (0, ⟨(some 8), none, .mv (.t 2)⟩),
    (1, ⟨(some 9), none, .fadd 5 (.t 3)⟩),
    (2, ⟨(some 10), none, .load none (.t 9)⟩),
    (3, ⟨(some 11), none, .arith .geq (.t 8) (.t 10)⟩),
    (4, ⟨(some 12), none, .mv (.t 11)⟩),
    (5, ⟨(some 13), (some (12, true)), .mv (.t 1)⟩),
    (6, ⟨(some 14), (some (12, true)), .arith .eql (.t 13) (.k (.d (.val (.string ⟨#[]⟩))))⟩),
    (7, ⟨(some 15), none, .pick (.t 12) (.t 14) (.k (.d (.val (.bool false))))⟩)] (some [1, 2, 3, 15])) (.cond (.t 15) (.seq (.ops 1 [
    (0, ⟨(some 6), none, .mv (.k (.d (.val (.bool true))))⟩)] (some [6])) .ret) .skip)) (.seq (.seq (.ops 9 [
    (0, ⟨(some 16), none, .fadd 6 (.t 3)⟩),
    (1, ⟨(some 17), none, .load none (.t 16)⟩),
    (2, ⟨(some 18), none, .arith .geq (.t 17) (.k (.d (.val (.int .i64 0))))⟩),
    (3, ⟨(some 19), none, .mv (.t 18)⟩),
    (4, ⟨(some 20), (some (19, true)), .mv (.t 2)⟩),
    (5, ⟨(some 21), (some (19, true)), .fadd 6 (.t 3)⟩),
    (6, ⟨(some 22), (some (19, true)), .load none (.t 21)⟩),
    (7, ⟨(some 23), (some (19, true)), .arith .geq (.t 20) (.t 22)⟩),
    (8, ⟨(some 24), none, .pick (.t 19) (.t 23) (.k (.d (.val (.bool false))))⟩)] (some [1, 2, 3, 24])) (.cond (.t 24) (.seq (.ops 1 [
    (0, ⟨(some 6), none, .mv (.k (.d (.val (.bool false))))⟩)] (some [6])) .ret) .skip)) (.seq (.seq (.ops 1 [
    (0, ⟨(some 7), none, .mv (.k (.d (.val (.int .i64 0))))⟩)] (some [1, 2, 3, 7])) (.block 0 (.loop (.seq (.seq (.ops 4 [
    (0, ⟨(some 25), none, .mv (.t 7)⟩),
    (1, ⟨(some 26), none, .mv (.t 1)⟩),
    (2, ⟨(some 27), none, .lenT (.t 26)⟩),
    (3, ⟨(some 28), none, .arith .leq (.t 25) (.t 27)⟩)] (some [1, 2, 3, 7, 28])) (.cond (.t 28) .skip (.exit 0))) (.seq (.block 1 (.seq (.seq (.ops 8 [
    (0, ⟨(some 31), none, .mv (.t 7)⟩),
    (1, ⟨(some 32), none, .arith .eql (.t 31) (.k (.d (.val (.int .i64 0))))⟩),
    (2, ⟨(some 33), none, .mv (.t 32)⟩),
    (3, ⟨(some 34), (some (33, true)), .mv (.t 2)⟩),
    (4, ⟨(some 35), (some (33, true)), .fadd 5 (.t 3)⟩),
    (5, ⟨(some 36), (some (33, true)), .load none (.t 35)⟩),
    (6, ⟨(some 37), (some (33, true)), .arith .geq (.t 34) (.t 36)⟩),
    (7, ⟨(some 38), none, .pick (.t 33) (.t 37) (.k (.d (.val (.bool false))))⟩)] (some [1, 2, 3, 7, 38])) (.cond (.t 38) (.exit 1) .skip)) (.seq (.ops 17 [
    (0, ⟨(some 39), none, .fadd 7 (.t 3)⟩),
    (1, ⟨(some 40), none, .load none (.t 39)⟩),
    (2, ⟨(some 41), none, .idxS 8 (.t 40) (.k (.d (.val (.int .i64 0))))⟩),
    (3, ⟨(some 42), none, .load (some 8) (.t 41)⟩),
    (4, ⟨(some 43), none, .mv (.t 1)⟩),
    (5, ⟨(some 44), none, .mv (.t 7)⟩),
    (6, ⟨(some 45), none, .slT (.t 43) none (some (.t 44))⟩),
    (7, ⟨(some 46), none, .call 39 [(.t 42), (.t 45)] none false⟩),
    (8, ⟨(some 47), none, .mv (.t 46)⟩),
    (9, ⟨(some 48), (some (47, true)), .load (some 8) (.t 3)⟩),
    (10, ⟨(some 49), (some (47, true)), .mv (.t 1)⟩),
    (11, ⟨(some 50), (some (47, true)), .mv (.t 7)⟩),
    (12, ⟨(some 51), (some (47, true)), .slT (.t 49) (some (.t 50)) none⟩),
    (13, ⟨(some 52), (some (47, true)), .mv (.t 2)⟩),
    (14, ⟨(some 53), (some (47, true)), .arith .add (.t 52) (.k (.d (.val (.int .i64 1))))⟩),
    (15, ⟨(some 54), (some (47, true)), .call 91 [(.t 48), (.t 51), (.t 53)] none false⟩),
    (16, ⟨(some 55), none, .pick (.t 47) (.t 54) (.k (.d (.val (.bool false))))⟩)] (some [1, 2, 3, 7, 55])) (.cond (.t 55) (.seq (.ops 1 [
    (0, ⟨(some 6), none, .mv (.k (.d (.val (.bool true))))⟩)] (some [6])) .ret) .skip)))) (.ops 3 [
    (0, ⟨(some 29), none, .mv (.t 7)⟩),
    (1, ⟨(some 30), none, .arith .add (.t 29) (.k (.d (.val (.int .i64 1))))⟩),
    (2, ⟨(some 7), none, .mv (.t 30)⟩)] (some [1, 2, 3, 7]))))))) (.seq (.ops 1 [
    (0, ⟨(some 6), none, .mv (.k (.d (.val (.bool false))))⟩)] (some [6])) .ret)))))
def md91 : FuncId → Option Nat × Bool
  | _ => (none, false)
def od91 : Nat → List (List Nat) × List Nat × Option (List Nat)
  | 0 => ([], [], some [1, 2, 3])
  | 1 => ([], [], some [1, 2, 3, 15])
  | 2 => ([], [], some [6])
  | 3 => ([], [], some [1, 2, 3, 24])
  | 4 => ([], [], some [6])
  | 5 => ([], [], some [1, 2, 3, 7])
  | 6 => ([], [], some [1, 2, 3, 7, 28])
  | 7 => ([], [], some [1, 2, 3, 7])
  | 8 => ([], [], some [1, 2, 3, 7, 38])
  | 9 => ([[], [0], [0, 1], [0, 1, 2], [], [], [4, 5], [0, 1, 2, 3, 4, 5, 6], [0, 1, 2, 3, 4, 5, 6, 7], [0, 1, 2, 3, 4, 5, 6, 7, 8], [0, 1, 2, 3, 4, 5, 6, 7, 8], [0, 1, 2, 3, 4, 5, 6, 7, 8], [0, 1, 2, 3, 4, 5, 6, 7, 8, 10, 11], [0, 1, 2, 3, 4, 5, 6, 7, 8], [0, 1, 2, 3, 4, 5, 6, 7, 8, 13], [0, 1, 2, 3, 4, 5, 6, 7, 8, 9, 10, 11, 12, 13, 14], [0, 1, 2, 3, 4, 5, 6, 7, 8, 9, 10, 11, 12, 13, 14, 15]], [0, 1, 2, 3, 4, 5, 6, 7, 8, 9, 10, 11, 12, 13, 14, 15, 16], some [1, 2, 3, 7, 55])
  | 10 => ([], [], some [6])
  | 11 => ([], [], some [6])
  | _ => ([], [], none)
theorem b91 {ags : List AV} {row : Option (List DV)} {r : AV} {row' nw : Option (List DV)} (hal : ags.length ≤ 56) (hrow : row'.isSome = true → row.isSome = true) (h : xwp Try.prog x91 (retK [.tmp 6] row.isSome r row' nw) (St.init ags row)) : Good Try.prog 91 ags row r row' nw :=
  good_of_body' (md := md91) (od := od91) Try.f91 (by kernel_rfl) (by kernel_rfl) (by kernel_rfl) (by kernel_rfl) (by kernel_rfl) hal hrow h

abbrev wd (s : ByteArray) : List Nat := word s 0 s.size
theorem byteN_extract (s : ByteArray) (a b i : Nat) (h : i < b - a) (hb : b ≤ s.size) : byteN (s.extract a b) i = byteN s (a + i) := by
  simp only [byteN, Array.getD_eq_getD_getElem?]
  have : (s.extract a b).data = s.data.extract a b := by simp
  rw [this, Array.getElem?_extract]
  have h' : i < min b s.data.size - a := by have : s.data.size = s.size := rfl; omega
  rw [if_pos h']
theorem size_ext (s : ByteArray) (a b : Nat) (hb : b ≤ s.size) : (s.extract a b).size = b - a := by
  rw [ByteArray.size_extract]; omega
theorem wd_extract (s : ByteArray) (a b : Nat) (hb : b ≤ s.size) : wd (s.extract a b) = word s a b := by
  simp only [wd, word, size_ext s a b hb, Nat.sub_zero]
  refine List.ext_getElem (by simp) fun i h1 h2 => ?_
  simp only [List.length_map, List.length_range'] at h1
  simp only [List.getElem_map, List.getElem_range', Nat.zero_add, Nat.one_mul]
  exact byteN_extract s a b i h1 hb
theorem wd_nil (s : ByteArray) : wd s = [] ↔ s.size = 0 := by
  constructor
  · intro h
    have h2 : (word s 0 s.size).length = 0 := by rw [show word s 0 s.size = [] from h]; rfl
    rw [word_len] at h2
    omega
  · intro h; simp only [wd, word, h]; rfl
theorem wd_split (s : ByteArray) {u v : List Nat} (e : wd s = u ++ v) : u.length ≤ s.size ∧ u = word s 0 u.length ∧ v = word s u.length s.size := by
  have := word_split s (Nat.zero_le s.size) e
  simpa using this
section
variable {P : Program} {Q : Cont} {fr : Fr} {C : Heap} {Z Z' : Frz} {nx : Nat} {base n d : Nat} {l : List (Nat × XO)} {kp : Option (List Nat)} {x i y s : X}
theorem r_eqS0 {a : ByteArray} (hx : x.ev fr = .d (.val (.string a))) (hy : y.ev fr = .d (.val (.string ⟨#[]⟩))) {r : Bool} (hr : decide (a.size = 0) = r) (k : R P l base kp Q nx (fr.put d (.b r)) C Z) : R P ((n, ⟨some d, none, .arith .eql x y⟩) :: l) base kp Q nx fr C Z := by
  refine r_p ?_ k
  subst hr
  have e : (a.toList == (⟨#[]⟩ : ByteArray).toList) = decide (a.size = 0) := by
    rw [ByteArray.toList_eq, ByteArray.toList_eq, Bool.eq_iff_iff]
    simp only [beq_iff_eq, decide_eq_true_eq]
    constructor
    · intro h
      have h2 : a.data.toList.length = 0 := by rw [h]; rfl
      rw [Array.length_toList] at h2
      exact h2
    · intro h
      exact List.eq_nil_of_length_eq_zero (by rw [Array.length_toList]; exact h)
  simp only [xp, hx, hy, arith, e, Option.map_some]
theorem r_slThi {a : ByteArray} {e : Int} {m : Nat} (hx : x.ev fr = .d (.val (.string a))) (hi : i.ev fr = .i e) (hm : e = (m : Nat)) (hle : m ≤ a.size) (k : R P l base kp Q nx (fr.put d (.d (.val (.string (a.extract 0 m))))) C Z) : R P ((n, ⟨some d, none, .slT x none (some i)⟩) :: l) base kp Q nx fr C Z := by
  subst hm
  refine r_p ?_ k
  simp only [xp, hx, hiOf, loOf, hi, intUpto]
  rw [if_pos (by omega)]
  simp
theorem r_slTlo {a : ByteArray} {e : Int} {m : Nat} (hx : x.ev fr = .d (.val (.string a))) (hi : i.ev fr = .i e) (hm : e = (m : Nat)) (hle : m ≤ a.size) (k : R P l base kp Q nx (fr.put d (.d (.val (.string (a.extract m a.size))))) C Z) : R P ((n, ⟨some d, none, .slT x (some i) none⟩) :: l) base kp Q nx fr C Z := by
  subst hm
  refine r_p ?_ k
  simp only [xp, hx, hiOf, loOf, hi, intUpto, Option.bind_some]
  rw [if_pos (by omega)]
  simp
theorem r_slN1 {t : T} {L : List T} {m : Nat} (hx : x.ev fr = .d (.sl (encL (t :: L)) m)) (hi : i.ev fr = .i 1) (hm : (t :: L).length = m) (k : R P l base kp Q nx (fr.put d (.d (.sl (encL L) L.length))) C Z) : R P ((n, ⟨some d, none, .slS 8 x (some i) none⟩) :: l) base kp Q nx fr C Z := by
  subst hm
  refine r_p ?_ k
  have h1 : (encL (t :: L)).length = (t :: L).length * 8 ∧ (8 : Nat) ≠ 0 := ⟨encL_len _, by omega⟩
  simp only [xp, hx, hiOf, loOf, hi, intUpto]
  rw [if_pos h1, Option.bind_some, if_pos (by simp only [List.length_cons]; omega)]
  simp only [Option.map_some, List.length_cons]
  have e2 : (encL (t :: L)).drop 8 = encL L := by
    rw [encL, List.drop_append_of_le_length (by rw [encN_len]; exact Nat.le_refl _), List.drop_of_length_le (by rw [encN_len]; exact Nat.le_refl _), List.nil_append]
  cases L with
  | nil => simp [encL]
  | cons u L =>
    have e1 : Int.toNat 1 = 1 := rfl
    simp only [e1, List.length_cons, Nat.one_mul, e2]
    rw [if_neg (by omega), show (L.length + 1 + 1 - 1) = L.length + 1 by omega, List.take_of_length_le (by rw [encL_len]; simp)]
end
set_option maxRecDepth 100000
set_option maxHeartbeats 4000000
attribute [local irreducible] W E R KP thenK blockK retK Good xwp aRun
def IsOK (t : T) : Prop := ∀ (s : ByteArray), s.size ≤ 1000000 → ∀ b : Bool, (b = true ↔ L t (wd s)) → Good Try.prog 39 [nodeA t, .d (.val (.string s))] none (.b b) none none
theorem row_good : ∀ (l : List T), l.length ≤ 1000000 → (∀ t ∈ l, IsOK t) → ∀ (s : ByteArray), s.size ≤ 1000000 → ∀ b : Bool, (b = true ↔ catL l (wd s)) → Good Try.prog 90 [.d (.sl (encL l) l.length), .d (.val (.string s))] none (.b b) none none
  | [], _, _, s, hs, b, hb => by
    refine b90 (by simp) (by simp) (w_init ?_)
    unfold x90
    repeat' (first
    | (apply r_mvV; rfl)
    | (apply r_mvP; rfl)
    | (apply r_mvPL; rfl)
    | (apply r_mvS; rfl)
    | (apply r_mvSL; rfl)
    | (apply r_mvA; rfl)
    | (apply r_mvT; rfl)
    | (apply r_mvF; rfl)
    | (apply r_mvD; rfl)
    | (apply r_eqS0; rfl; rfl; rfl)
    | (apply r_ldL; rfl; rfl; rfl)
    | (apply r_eql; rfl; rfl; (first | (apply decide_eq_true; omega) | (apply decide_eq_false; omega) | rfl))
    | (apply r_leq; rfl; rfl; (first | (apply decide_eq_true; omega) | (apply decide_eq_false; omega) | rfl))
    | (apply r_add; rfl; rfl; rfl; omega)
    | (apply r_pickT; rfl)
    | (apply r_pickF; rfl)
    | (apply r_lenD; rfl)
    | (apply r_lenL; rfl)
    | (apply r_len0; rfl)
    | (apply r_lenT; rfl)
    | (apply r_gT; rfl)
    | (apply r_gF'; rfl; rfl)
    | (apply r_gN'; rfl)
    | ((apply r_gS (o := default); rfl) <;> (intro h; try simp only [decide_eq_true_eq, decide_eq_false_iff_not, Bool.not_eq_true, Bool.not_eq_false] at h))
    | (apply r_p; rfl)
    | (apply r_nilK)
    | (apply r_nil)
    | (apply k_V; rfl)
    | (apply k_P; rfl)
    | (apply k_PL; rfl)
    | (apply k_S; rfl)
    | (apply k_SL; rfl)
    | (apply k_A; rfl)
    | (apply k_T; rfl)
    | (apply k_F; rfl)
    | (apply k_D; rfl; rotate_left; rfl)
    | (apply k_nil)
    | (apply e_ret (vs := [.d (.val _)]); rfl)
    | (apply e_ret; rfl)
    | (apply e_ret' (vs := [.d (.val _)]); rfl)
    | (apply e_ret'; rfl)
    | (apply w_seq)
    | (apply w_ops; ((conv => lhs; simp only [Nat.reduceAdd]) <;> rfl))
    | (apply w_condT; rfl)
    | (apply w_condF; rfl)
    | ((apply w_condS; rfl) <;> (intro h; try simp only [decide_eq_true_eq, decide_eq_false_iff_not, Bool.not_eq_true, Bool.not_eq_false] at h))
    | (apply e_thenN)
    | (apply w_block)
    | (apply e_thenR)
    | (apply e_thenX)
    | (apply e_blkN)
    | (apply e_blkR)
    | (apply e_blkE)
    | (apply w_exit)
    | (apply w_ret)
    | (apply w_skip)
    | (apply e_blkE'; rfl))
    refine retB ?_
    rw [Bool.eq_iff_iff, hb, catL, wd_nil]; simp
  | t :: l, hl, hok, s, hs, b, hb => by
    have ih := row_good l (by simp at hl; omega) (fun u hu => hok u (by simp [hu]))
    have hn : NodeAt (encL (t :: l)) 0 t := by have := NodeAt.sub (l := t :: l) (i := 0) (by simp); simpa using this
    have hl' : l.length + 1 ≤ 1000000 := by simpa using hl
    have hcat : catL (t :: l) (wd s) ↔ ∃ k, k ≤ s.size ∧ L t (word s 0 k) ∧ catL l (word s k s.size) := by
      rw [catL]
      constructor
      · rintro ⟨u, v, e, h1, h2⟩
        obtain ⟨g1, g2, g3⟩ := wd_split s e
        exact ⟨u.length, g1, g2 ▸ h1, g3 ▸ h2⟩
      · rintro ⟨k, g1, h1, h2⟩
        exact ⟨_, _, (word_app s (Nat.zero_le k) g1).symm, h1, h2⟩
    rw [hcat] at hb
    refine b90 (by simp) (by simp) (w_init ?_)
    unfold x90
    repeat' (first
    | (apply r_mvV; rfl)
    | (apply r_mvP; rfl)
    | (apply r_mvPL; rfl)
    | (apply r_mvS; rfl)
    | (apply r_mvSL; rfl)
    | (apply r_mvA; rfl)
    | (apply r_mvT; rfl)
    | (apply r_mvF; rfl)
    | (apply r_mvD; rfl)
    | (apply r_l; apply ld_kind; assumption; rfl)
    | (apply r_l; apply ld_mn; assumption; rfl)
    | (apply r_l; apply ld_mx; assumption; rfl)
    | (apply r_l; apply ld_subs; assumption; rfl)
    | (apply r_l; apply ld_set; assumption; rfl)
    | (apply r_l; apply ld_node; assumption; rfl)
    | (apply r_l; apply ld_kind'; assumption; rfl)
    | (apply r_l; apply ld_mn'; assumption; rfl)
    | (apply r_l; apply ld_mx'; assumption; rfl)
    | (apply r_l; apply ld_subs'; assumption; rfl)
    | (apply r_l; apply ld_node'; assumption; rfl)
    | (apply r_ldL; rfl; rfl; rfl)
    | (apply r_eql; rfl; rfl; (first | (apply decide_eq_true; omega) | (apply decide_eq_false; omega) | rfl))
    | (apply r_leq; rfl; rfl; (first | (apply decide_eq_true; omega) | (apply decide_eq_false; omega) | rfl))
    | (apply r_add; rfl; rfl; rfl; omega)
    | (apply r_pickT; rfl)
    | (apply r_pickF; rfl)
    | (apply r_lenD; rfl)
    | (apply r_lenL; rfl)
    | (apply r_len0; rfl)
    | (apply r_lenT; rfl)
    | (apply r_gT; rfl)
    | (apply r_gF'; rfl; rfl)
    | (apply r_gN'; rfl)
    | ((apply r_gS (o := default); rfl) <;> (intro h; try simp only [decide_eq_true_eq, decide_eq_false_iff_not, Bool.not_eq_true, Bool.not_eq_false] at h))
    | (apply r_p; rfl)
    | (apply r_nilK)
    | (apply r_nil)
    | (apply k_V; rfl)
    | (apply k_P; rfl)
    | (apply k_PL; rfl)
    | (apply k_S; rfl)
    | (apply k_SL; rfl)
    | (apply k_A; rfl)
    | (apply k_T; rfl)
    | (apply k_F; rfl)
    | (apply k_D; rfl; rotate_left; rfl)
    | (apply k_nil)
    | (apply e_ret (vs := [.d (.val _)]); rfl)
    | (apply e_ret; rfl)
    | (apply e_ret' (vs := [.d (.val _)]); rfl)
    | (apply e_ret'; rfl)
    | (apply w_seq)
    | (apply w_ops; ((conv => lhs; simp only [Nat.reduceAdd]) <;> rfl))
    | (apply w_condT; rfl)
    | (apply w_condF; rfl)
    | ((apply w_condS; rfl) <;> (intro h; try simp only [decide_eq_true_eq, decide_eq_false_iff_not, Bool.not_eq_true, Bool.not_eq_false] at h))
    | (apply e_thenN)
    | (apply w_block)
    | (apply e_thenR)
    | (apply e_thenX)
    | (apply e_blkN)
    | (apply e_blkR)
    | (apply e_blkE)
    | (apply w_exit)
    | (apply w_ret)
    | (apply w_skip)
    | (apply e_blkE'; rfl))
    apply w_loopI (S := fun i : Nat => ⟨((Fr.nil.put 0 (.d (.sl (encL (t :: l)) (l.length + 1)))).put 1 (.d (.val (.string s)))).put 5 (.i i), Heap.nil, Frz.lo 100, 100⟩) (m := fun i => s.size + 1 - i) (I := fun i => i ≤ s.size + 1 ∧ ∀ k, k < i → ¬ (L t (word s 0 k) ∧ catL l (word s k s.size))) (i0 := 0)
    · exact ⟨Nat.zero_le _, fun k hk => by omega⟩
    · refine wk0 (by omega) ?_
      repeat' (first
    | exact FWk.nil
    | (apply FWk.i; rfl; (first | rfl | omega | (simp; done)))
    | (apply FWk.sl; rfl; rfl; rfl; rfl; omega; rfl)
    | (apply FWk.ptr; rfl; rfl; rfl; omega; rfl)
    | (apply FWk.d; rfl; rfl)
    | (apply FWk.a; rfl; rfl; rfl)
    | (apply FWk.slN; rfl; omega; rfl))
    rintro i K ⟨hi, hno⟩ hK
    dsimp only
    by_cases hlt : i ≤ s.size
    · have hna : [nodeA t, .d (.val (.string (s.extract 0 i)))].all AV.nrm = true := by rw [List.all_cons, nodeA_nrm]; rfl
      have e1 := wd_extract s 0 i hlt
      have e2 := wd_extract s i s.size (Nat.le_refl _)
      have z1 := size_ext s 0 i hlt
      have z2 := size_ext s i s.size (Nat.le_refl _)
      by_cases h1 : L t (word s 0 i)
      · have g1 := hok t (by simp) (s.extract 0 i) (by omega) true (by rw [e1]; simp [h1])
        by_cases h2 : catL l (word s i s.size)
        · have g2 := ih (s.extract i s.size) (by omega) true (by rw [e2]; simp [h2])
          repeat' (first
    | (apply r_mvV; rfl)
    | (apply r_mvP; rfl)
    | (apply r_mvPL; rfl)
    | (apply r_mvS; rfl)
    | (apply r_mvSL; rfl)
    | (apply r_mvA; rfl)
    | (apply r_mvT; rfl)
    | (apply r_mvF; rfl)
    | (apply r_mvD; rfl)
    | (apply r_p; apply ix_sub0; rfl; rfl; simp)
    | (apply r_l; apply ld_node'; exact hn; rfl)
    | (apply r_slThi (m := i); rfl; rfl; rfl; exact hlt)
    | (apply r_slTlo (m := i); rfl; rfl; rfl; exact hlt)
    | (apply r_slN1; rfl; rfl; rfl)
    | (apply r_callA (ags := [nodeA t, .d (.val (.string (s.extract 0 i)))]); rfl; exact hna; exact g1)
    | (apply r_callA; rfl; rfl; exact g2)
    | (apply r_ldL; rfl; rfl; rfl)
    | (apply r_eql; rfl; rfl; (first | (apply decide_eq_true; omega) | (apply decide_eq_false; omega) | rfl))
    | (apply r_leq; rfl; rfl; (first | (apply decide_eq_true; omega) | (apply decide_eq_false; omega) | rfl))
    | (apply r_add; rfl; rfl; rfl; omega)
    | (apply r_pickT; rfl)
    | (apply r_pickF; rfl)
    | (apply r_lenD; rfl)
    | (apply r_lenL; rfl)
    | (apply r_len0; rfl)
    | (apply r_lenT; rfl)
    | (apply r_gT; rfl)
    | (apply r_gF'; rfl; rfl)
    | (apply r_gN'; rfl)
    | ((apply r_gS (o := default); rfl) <;> (intro h; try simp only [decide_eq_true_eq, decide_eq_false_iff_not, Bool.not_eq_true, Bool.not_eq_false] at h))
    | (apply r_p; rfl)
    | (apply r_nilK)
    | (apply r_nil)
    | (apply k_V; rfl)
    | (apply k_P; rfl)
    | (apply k_PL; rfl)
    | (apply k_S; rfl)
    | (apply k_SL; rfl)
    | (apply k_A; rfl)
    | (apply k_T; rfl)
    | (apply k_F; rfl)
    | (apply k_D; rfl; rotate_left; rfl)
    | (apply k_nil)
    | (apply e_ret (vs := [.d (.val _)]); rfl)
    | (apply e_ret; rfl)
    | (apply e_ret' (vs := [.d (.val _)]); rfl)
    | (apply e_ret'; rfl)
    | (apply w_seq)
    | (apply w_ops; ((conv => lhs; simp only [Nat.reduceAdd]) <;> rfl))
    | (apply w_condT; rfl)
    | (apply w_condF; rfl)
    | ((apply w_condS; rfl) <;> (intro h; try simp only [decide_eq_true_eq, decide_eq_false_iff_not, Bool.not_eq_true, Bool.not_eq_false] at h))
    | (apply e_thenN)
    | (apply w_block)
    | (apply e_thenR)
    | (apply e_thenX)
    | (apply e_blkN)
    | (apply e_blkR)
    | (apply e_blkE)
    | (apply w_exit)
    | (apply w_ret)
    | (apply w_skip)
    | (apply e_blkE'; rfl))
          refine retB ?_
          symm; exact hb.2 ⟨i, hlt, h1, h2⟩
        · have g2 := ih (s.extract i s.size) (by omega) false (by rw [e2]; simp [h2])
          repeat' (first
    | (apply r_mvV; rfl)
    | (apply r_mvP; rfl)
    | (apply r_mvPL; rfl)
    | (apply r_mvS; rfl)
    | (apply r_mvSL; rfl)
    | (apply r_mvA; rfl)
    | (apply r_mvT; rfl)
    | (apply r_mvF; rfl)
    | (apply r_mvD; rfl)
    | (apply r_p; apply ix_sub0; rfl; rfl; simp)
    | (apply r_l; apply ld_node'; exact hn; rfl)
    | (apply r_slThi (m := i); rfl; rfl; rfl; exact hlt)
    | (apply r_slTlo (m := i); rfl; rfl; rfl; exact hlt)
    | (apply r_slN1; rfl; rfl; rfl)
    | (apply r_callA (ags := [nodeA t, .d (.val (.string (s.extract 0 i)))]); rfl; exact hna; exact g1)
    | (apply r_callA; rfl; rfl; exact g2)
    | (apply r_ldL; rfl; rfl; rfl)
    | (apply r_eql; rfl; rfl; (first | (apply decide_eq_true; omega) | (apply decide_eq_false; omega) | rfl))
    | (apply r_leq; rfl; rfl; (first | (apply decide_eq_true; omega) | (apply decide_eq_false; omega) | rfl))
    | (apply r_add; rfl; rfl; rfl; omega)
    | (apply r_pickT; rfl)
    | (apply r_pickF; rfl)
    | (apply r_lenD; rfl)
    | (apply r_lenL; rfl)
    | (apply r_len0; rfl)
    | (apply r_lenT; rfl)
    | (apply r_gT; rfl)
    | (apply r_gF'; rfl; rfl)
    | (apply r_gN'; rfl)
    | ((apply r_gS (o := default); rfl) <;> (intro h; try simp only [decide_eq_true_eq, decide_eq_false_iff_not, Bool.not_eq_true, Bool.not_eq_false] at h))
    | (apply r_p; rfl)
    | (apply r_nilK)
    | (apply r_nil)
    | (apply k_V; rfl)
    | (apply k_P; rfl)
    | (apply k_PL; rfl)
    | (apply k_S; rfl)
    | (apply k_SL; rfl)
    | (apply k_A; rfl)
    | (apply k_T; rfl)
    | (apply k_F; rfl)
    | (apply k_D; rfl; rotate_left; rfl)
    | (apply k_nil)
    | (apply e_ret (vs := [.d (.val _)]); rfl)
    | (apply e_ret; rfl)
    | (apply e_ret' (vs := [.d (.val _)]); rfl)
    | (apply e_ret'; rfl)
    | (apply w_seq)
    | (apply w_ops; ((conv => lhs; simp only [Nat.reduceAdd]) <;> rfl))
    | (apply w_condT; rfl)
    | (apply w_condF; rfl)
    | ((apply w_condS; rfl) <;> (intro h; try simp only [decide_eq_true_eq, decide_eq_false_iff_not, Bool.not_eq_true, Bool.not_eq_false] at h))
    | (apply e_thenN)
    | (apply w_block)
    | (apply e_thenR)
    | (apply e_thenX)
    | (apply e_blkN)
    | (apply e_blkR)
    | (apply e_blkE)
    | (apply w_exit)
    | (apply w_ret)
    | (apply w_skip)
    | (apply e_blkE'; rfl))
          apply e_thenK
          apply hK (i + 1)
          · refine ⟨by omega, fun k hk => ?_⟩
            by_cases e : k = i
            · subst e; exact fun h => h2 h.2
            · exact hno k (by omega)
          · omega
          · refine wk0 (by omega) ?_
            repeat' (first
    | exact FWk.nil
    | (apply FWk.i; rfl; (first | rfl | omega | (simp; done)))
    | (apply FWk.sl; rfl; rfl; rfl; rfl; omega; rfl)
    | (apply FWk.ptr; rfl; rfl; rfl; omega; rfl)
    | (apply FWk.d; rfl; rfl)
    | (apply FWk.a; rfl; rfl; rfl)
    | (apply FWk.slN; rfl; omega; rfl))
      · have g1 := hok t (by simp) (s.extract 0 i) (by omega) false (by rw [e1]; simp [h1])
        repeat' (first
    | (apply r_mvV; rfl)
    | (apply r_mvP; rfl)
    | (apply r_mvPL; rfl)
    | (apply r_mvS; rfl)
    | (apply r_mvSL; rfl)
    | (apply r_mvA; rfl)
    | (apply r_mvT; rfl)
    | (apply r_mvF; rfl)
    | (apply r_mvD; rfl)
    | (apply r_p; apply ix_sub0; rfl; rfl; simp)
    | (apply r_l; apply ld_node'; exact hn; rfl)
    | (apply r_slThi (m := i); rfl; rfl; rfl; exact hlt)
    | (apply r_callA (ags := [nodeA t, .d (.val (.string (s.extract 0 i)))]); rfl; exact hna; exact g1)
    | (apply r_ldL; rfl; rfl; rfl)
    | (apply r_eql; rfl; rfl; (first | (apply decide_eq_true; omega) | (apply decide_eq_false; omega) | rfl))
    | (apply r_leq; rfl; rfl; (first | (apply decide_eq_true; omega) | (apply decide_eq_false; omega) | rfl))
    | (apply r_add; rfl; rfl; rfl; omega)
    | (apply r_pickT; rfl)
    | (apply r_pickF; rfl)
    | (apply r_lenD; rfl)
    | (apply r_lenL; rfl)
    | (apply r_len0; rfl)
    | (apply r_lenT; rfl)
    | (apply r_gT; rfl)
    | (apply r_gF'; rfl; rfl)
    | (apply r_gN'; rfl)
    | ((apply r_gS (o := default); rfl) <;> (intro h; try simp only [decide_eq_true_eq, decide_eq_false_iff_not, Bool.not_eq_true, Bool.not_eq_false] at h))
    | (apply r_p; rfl)
    | (apply r_nilK)
    | (apply r_nil)
    | (apply k_V; rfl)
    | (apply k_P; rfl)
    | (apply k_PL; rfl)
    | (apply k_S; rfl)
    | (apply k_SL; rfl)
    | (apply k_A; rfl)
    | (apply k_T; rfl)
    | (apply k_F; rfl)
    | (apply k_D; rfl; rotate_left; rfl)
    | (apply k_nil)
    | (apply e_ret (vs := [.d (.val _)]); rfl)
    | (apply e_ret; rfl)
    | (apply e_ret' (vs := [.d (.val _)]); rfl)
    | (apply e_ret'; rfl)
    | (apply w_seq)
    | (apply w_ops; ((conv => lhs; simp only [Nat.reduceAdd]) <;> rfl))
    | (apply w_condT; rfl)
    | (apply w_condF; rfl)
    | ((apply w_condS; rfl) <;> (intro h; try simp only [decide_eq_true_eq, decide_eq_false_iff_not, Bool.not_eq_true, Bool.not_eq_false] at h))
    | (apply e_thenN)
    | (apply w_block)
    | (apply e_thenR)
    | (apply e_thenX)
    | (apply e_blkN)
    | (apply e_blkR)
    | (apply e_blkE)
    | (apply w_exit)
    | (apply w_ret)
    | (apply w_skip)
    | (apply e_blkE'; rfl))
        apply e_thenK
        apply hK (i + 1)
        · refine ⟨by omega, fun k hk => ?_⟩
          by_cases e : k = i
          · subst e; exact fun h => h1 h.1
          · exact hno k (by omega)
        · omega
        · refine wk0 (by omega) ?_
          repeat' (first
    | exact FWk.nil
    | (apply FWk.i; rfl; (first | rfl | omega | (simp; done)))
    | (apply FWk.sl; rfl; rfl; rfl; rfl; omega; rfl)
    | (apply FWk.ptr; rfl; rfl; rfl; omega; rfl)
    | (apply FWk.d; rfl; rfl)
    | (apply FWk.a; rfl; rfl; rfl)
    | (apply FWk.slN; rfl; omega; rfl))
    · repeat' (first
    | (apply r_mvV; rfl)
    | (apply r_mvP; rfl)
    | (apply r_mvPL; rfl)
    | (apply r_mvS; rfl)
    | (apply r_mvSL; rfl)
    | (apply r_mvA; rfl)
    | (apply r_mvT; rfl)
    | (apply r_mvF; rfl)
    | (apply r_mvD; rfl)
    | (apply r_ldL; rfl; rfl; rfl)
    | (apply r_eql; rfl; rfl; (first | (apply decide_eq_true; omega) | (apply decide_eq_false; omega) | rfl))
    | (apply r_leq; rfl; rfl; (first | (apply decide_eq_true; omega) | (apply decide_eq_false; omega) | rfl))
    | (apply r_add; rfl; rfl; rfl; omega)
    | (apply r_pickT; rfl)
    | (apply r_pickF; rfl)
    | (apply r_lenD; rfl)
    | (apply r_lenL; rfl)
    | (apply r_len0; rfl)
    | (apply r_lenT; rfl)
    | (apply r_gT; rfl)
    | (apply r_gF'; rfl; rfl)
    | (apply r_gN'; rfl)
    | ((apply r_gS (o := default); rfl) <;> (intro h; try simp only [decide_eq_true_eq, decide_eq_false_iff_not, Bool.not_eq_true, Bool.not_eq_false] at h))
    | (apply r_p; rfl)
    | (apply r_nilK)
    | (apply r_nil)
    | (apply k_V; rfl)
    | (apply k_P; rfl)
    | (apply k_PL; rfl)
    | (apply k_S; rfl)
    | (apply k_SL; rfl)
    | (apply k_A; rfl)
    | (apply k_T; rfl)
    | (apply k_F; rfl)
    | (apply k_D; rfl; rotate_left; rfl)
    | (apply k_nil)
    | (apply e_ret (vs := [.d (.val _)]); rfl)
    | (apply e_ret; rfl)
    | (apply e_ret' (vs := [.d (.val _)]); rfl)
    | (apply e_ret'; rfl)
    | (apply w_seq)
    | (apply w_ops; ((conv => lhs; simp only [Nat.reduceAdd]) <;> rfl))
    | (apply w_condT; rfl)
    | (apply w_condF; rfl)
    | ((apply w_condS; rfl) <;> (intro h; try simp only [decide_eq_true_eq, decide_eq_false_iff_not, Bool.not_eq_true, Bool.not_eq_false] at h))
    | (apply e_thenN)
    | (apply w_block)
    | (apply e_thenR)
    | (apply e_thenX)
    | (apply e_blkN)
    | (apply e_blkR)
    | (apply e_blkE)
    | (apply w_exit)
    | (apply w_ret)
    | (apply w_skip)
    | (apply e_blkE'; rfl))
      refine retB ?_
      symm
      cases hbb : b with
      | false => rfl
      | true =>
        obtain ⟨k, g1, g2, g3⟩ := hb.1 hbb
        exact absurd ⟨g2, g3⟩ (hno k (by omega))
def oftenP (P : List Nat → Prop) (mn mx : Int) (done : Nat) (w : List Nat) : Prop := ∃ r : Nat, mn ≤ done + r ∧ (mx < 0 ∨ (done : Int) + r ≤ mx) ∧ powL P r w
theorem often_step {P : List Nat → Prop} {mn mx : Int} {done : Nat} (h : mx < 0 ∨ (done : Int) ≤ mx) (w : List Nat) : oftenP P mn mx done w ↔ (mn ≤ done ∧ w = []) ∨ ((mx < 0 ∨ (done : Int) < mx) ∧ ∃ u v, w = u ++ v ∧ (u = [] → (done : Int) < mn) ∧ P u ∧ oftenP P mn mx (done + 1) v) := by
  constructor
  · rintro ⟨r, h1, h2, h3⟩
    induction r generalizing w with
    | zero => exact .inl ⟨by omega, h3⟩
    | succ r ih =>
      obtain ⟨u, v, rfl, g1, g2⟩ := h3
      by_cases hu : u = [] ∧ mn ≤ done
      · obtain ⟨rfl, hm⟩ := hu
        exact ih _ (by omega) (by omega) g2
      · exact .inr ⟨by omega, u, v, rfl, fun e => by
          by_cases hm : mn ≤ done
          · exact absurd ⟨e, hm⟩ hu
          · omega, g1, r, by omega, by omega, g2⟩
  · rintro (⟨h1, rfl⟩ | ⟨h1, u, v, rfl, _, g1, r, g2, g3, g4⟩)
    · exact ⟨0, by omega, by omega, rfl⟩
    · exact ⟨r + 1, by omega, by omega, u, v, rfl, g1, g4⟩
theorem of_dec {z mn d N i e : Nat} (h : z + (mn - d) < N + 1) (hi : i ≤ z) (hn : ¬ (i = 0 ∧ mn ≤ d)) (he : e = z - i) : e + (mn - (d + 1)) < N := by omega
theorem often_good {k a b c d mx : Int} {mn : Nat} {subs : List T} (hmn : mn ≤ 20) (hmx : mx = -1 ∨ ((mn : Int) ≤ mx ∧ mx ≤ 20)) (hl0 : 0 < subs.length) (hok : IsOK (subs[0]'hl0)) : ∀ (N : Nat) (s : ByteArray) (done : Nat), s.size ≤ 1000000 → s.size + (mn - done) < N → done + N ≤ 2000000 → (mx < 0 ∨ (done : Int) ≤ mx) → ∀ bb : Bool, (bb = true ↔ oftenP (L (subs[0]'hl0)) (mn : Nat) mx done (wd s)) →
    Good Try.prog 91 [nodeA (.node k a b c d (mn : Nat) mx subs), .d (.val (.string s)), .i done] none (.b bb) none none := by
  intro N
  induction N with
  | zero => intro s done _ h; omega
  | succ N ih =>
  intro s done hs hN hD hdm bb hb
  have hs0 : NodeAt (encL subs) 0 (subs[0]'hl0) := by simpa using NodeAt.sub hl0
  have hsp : oftenP (L (subs[0]'hl0)) (mn : Nat) mx done (wd s) ↔ (mn ≤ done ∧ s.size = 0) ∨ ((mx < 0 ∨ (done : Int) < mx) ∧ ∃ k, k ≤ s.size ∧ (k = 0 → done < mn) ∧ L (subs[0]'hl0) (word s 0 k) ∧ oftenP (L (subs[0]'hl0)) (mn : Nat) mx (done + 1) (word s k s.size)) := by
    rw [often_step hdm, wd_nil]
    refine or_congr ⟨fun h => ⟨by omega, h.2⟩, fun h => ⟨by omega, h.2⟩⟩ (and_congr Iff.rfl ?_)
    constructor
    · rintro ⟨u, v, e, h0, h1, h2⟩
      obtain ⟨g1, g2, g3⟩ := wd_split s e
      exact ⟨u.length, g1, fun h => by have := h0 (List.eq_nil_of_length_eq_zero h); omega, g2 ▸ h1, g3 ▸ h2⟩
    · rintro ⟨k, g1, h0, h1, h2⟩
      refine ⟨_, _, (word_app s (Nat.zero_le k) g1).symm, fun e => by
        have h3 := congrArg List.length e
        rw [word_len] at h3
        have := h0 (by simpa using h3); omega, h1, h2⟩
  rw [hsp] at hb
  have hD' : done + 1 + N ≤ 2000000 := by omega
  have e0 : nodeA (.node k a b c d (mn : Nat) mx subs) = .agg [.i k, .d (.val (.int .u64 a)), .d (.val (.int .u64 b)), .d (.val (.int .u64 c)), .d (.val (.int .u64 d)), .i (mn : Nat), .i mx, .d (.sl (encL subs) subs.length)] := rfl
  rw [e0]
  refine b91 (by simp) (by simp) (w_init ?_)
  unfold x91
  by_cases hz : mn ≤ done ∧ s.size = 0
  · repeat' (first
    | (apply r_mvV; rfl)
    | (apply r_mvP; rfl)
    | (apply r_mvPL; rfl)
    | (apply r_mvS; rfl)
    | (apply r_mvSL; rfl)
    | (apply r_mvA; rfl)
    | (apply r_mvT; rfl)
    | (apply r_mvF; rfl)
    | (apply r_mvD; rfl)
    | (apply r_faddD; rfl)
    | (apply r_faddL; rfl)
    | (apply r_eqS0; rfl; rfl; rfl)
    | (apply r_ldL; rfl; rfl; rfl)
    | (apply r_eql; rfl; rfl; (first | (apply decide_eq_true; omega) | (apply decide_eq_false; omega) | rfl))
    | (apply r_leq; rfl; rfl; (first | (apply decide_eq_true; omega) | (apply decide_eq_false; omega) | rfl))
    | (apply r_geq; rfl; rfl; (first | (apply decide_eq_true; omega) | (apply decide_eq_false; omega) | rfl))
    | (apply r_add; rfl; rfl; rfl; omega)
    | (apply r_pickT; rfl)
    | (apply r_pickF; rfl)
    | (apply r_lenT; rfl)
    | (apply r_gT; rfl)
    | (apply r_gF'; rfl; rfl)
    | (apply r_gN'; rfl)
    | ((apply r_gS (o := default); rfl) <;> (intro h; try simp only [decide_eq_true_eq, decide_eq_false_iff_not, Bool.not_eq_true, Bool.not_eq_false] at h))
    | (apply r_box; ((conv => lhs; simp only [Nat.reduceAdd]) <;> rfl); rfl; rfl; rfl)
    | (apply r_p; rfl)
    | (apply r_nilK)
    | (apply r_nil)
    | (apply k_V; rfl)
    | (apply k_P; rfl)
    | (apply k_PL; rfl)
    | (apply k_S; rfl)
    | (apply k_SL; rfl)
    | (apply k_A; rfl)
    | (apply k_T; rfl)
    | (apply k_F; rfl)
    | (apply k_D; rfl; rotate_left; rfl)
    | (apply k_nil)
    | (apply e_ret (vs := [.d (.val _)]); rfl)
    | (apply e_ret; rfl)
    | (apply e_ret' (vs := [.d (.val _)]); rfl)
    | (apply e_ret'; rfl)
    | (apply w_seq)
    | (apply w_ops; ((conv => lhs; simp only [Nat.reduceAdd]) <;> rfl))
    | (apply w_condT; rfl)
    | (apply w_condF; rfl)
    | ((apply w_condS; rfl) <;> (intro h; try simp only [decide_eq_true_eq, decide_eq_false_iff_not, Bool.not_eq_true, Bool.not_eq_false] at h))
    | (apply e_thenN)
    | (apply w_block)
    | (apply e_thenR)
    | (apply e_thenX)
    | (apply e_blkN)
    | (apply e_blkR)
    | (apply e_blkE)
    | (apply w_exit)
    | (apply w_ret)
    | (apply w_skip)
    | (apply e_blkE'; rfl))
    all_goals first
      | (refine retB ?_; symm; exact hb.2 (.inl hz))
      | (exfalso; simp [hz.2] at *; done)
  by_cases hmax : 0 ≤ mx ∧ mx ≤ done
  · have hbf : bb = false := by
      cases hbb : bb with
      | false => rfl
      | true =>
        rcases hb.1 hbb with h | ⟨h, _⟩
        · exact absurd h hz
        · omega
    subst hbf
    by_cases hmd : mn ≤ done
    · have hne : s.size ≠ 0 := fun e => hz ⟨hmd, e⟩
      have hd0 : decide (s.size = 0) = false := by simp [hne]
      repeat' (first
    | (apply r_mvV; rfl)
    | (apply r_mvP; rfl)
    | (apply r_mvPL; rfl)
    | (apply r_mvS; rfl)
    | (apply r_mvSL; rfl)
    | (apply r_mvA; rfl)
    | (apply r_mvT; rfl)
    | (apply r_mvF; rfl)
    | (apply r_mvD; rfl)
    | (apply r_faddD; rfl)
    | (apply r_faddL; rfl)
    | (apply r_eqS0; rfl; rfl; exact hd0)
    | (apply r_ldL; rfl; rfl; rfl)
    | (apply r_eql; rfl; rfl; (first | (apply decide_eq_true; omega) | (apply decide_eq_false; omega) | rfl))
    | (apply r_leq; rfl; rfl; (first | (apply decide_eq_true; omega) | (apply decide_eq_false; omega) | rfl))
    | (apply r_geq; rfl; rfl; (first | (apply decide_eq_true; omega) | (apply decide_eq_false; omega) | rfl))
    | (apply r_add; rfl; rfl; rfl; omega)
    | (apply r_pickT; rfl)
    | (apply r_pickF; rfl)
    | (apply r_lenT; rfl)
    | (apply r_gT; rfl)
    | (apply r_gF'; rfl; rfl)
    | (apply r_gN'; rfl)
    | ((apply r_gS (o := default); rfl) <;> (intro h; try simp only [decide_eq_true_eq, decide_eq_false_iff_not, Bool.not_eq_true, Bool.not_eq_false] at h))
    | (apply r_box; ((conv => lhs; simp only [Nat.reduceAdd]) <;> rfl); rfl; rfl; rfl)
    | (apply r_p; rfl)
    | (apply r_nilK)
    | (apply r_nil)
    | (apply k_V; rfl)
    | (apply k_P; rfl)
    | (apply k_PL; rfl)
    | (apply k_S; rfl)
    | (apply k_SL; rfl)
    | (apply k_A; rfl)
    | (apply k_T; rfl)
    | (apply k_F; rfl)
    | (apply k_D; rfl; rotate_left; rfl)
    | (apply k_nil)
    | (apply e_ret (vs := [.d (.val _)]); rfl)
    | (apply e_ret; rfl)
    | (apply e_ret' (vs := [.d (.val _)]); rfl)
    | (apply e_ret'; rfl)
    | (apply w_seq)
    | (apply w_ops; ((conv => lhs; simp only [Nat.reduceAdd]) <;> rfl))
    | (apply w_condT; rfl)
    | (apply w_condF; rfl)
    | ((apply w_condS; rfl) <;> (intro h; try simp only [decide_eq_true_eq, decide_eq_false_iff_not, Bool.not_eq_true, Bool.not_eq_false] at h))
    | (apply e_thenN)
    | (apply w_block)
    | (apply e_thenR)
    | (apply e_thenX)
    | (apply e_blkN)
    | (apply e_blkR)
    | (apply e_blkE)
    | (apply w_exit)
    | (apply w_ret)
    | (apply w_skip)
    | (apply e_blkE'; rfl))
      all_goals exact retB rfl
    · repeat' (first
    | (apply r_mvV; rfl)
    | (apply r_mvP; rfl)
    | (apply r_mvPL; rfl)
    | (apply r_mvS; rfl)
    | (apply r_mvSL; rfl)
    | (apply r_mvA; rfl)
    | (apply r_mvT; rfl)
    | (apply r_mvF; rfl)
    | (apply r_mvD; rfl)
    | (apply r_faddD; rfl)
    | (apply r_faddL; rfl)
    | (apply r_eqS0; rfl; rfl; rfl)
    | (apply r_ldL; rfl; rfl; rfl)
    | (apply r_eql; rfl; rfl; (first | (apply decide_eq_true; omega) | (apply decide_eq_false; omega) | rfl))
    | (apply r_leq; rfl; rfl; (first | (apply decide_eq_true; omega) | (apply decide_eq_false; omega) | rfl))
    | (apply r_geq; rfl; rfl; (first | (apply decide_eq_true; omega) | (apply decide_eq_false; omega) | rfl))
    | (apply r_add; rfl; rfl; rfl; omega)
    | (apply r_pickT; rfl)
    | (apply r_pickF; rfl)
    | (apply r_lenT; rfl)
    | (apply r_gT; rfl)
    | (apply r_gF'; rfl; rfl)
    | (apply r_gN'; rfl)
    | ((apply r_gS (o := default); rfl) <;> (intro h; try simp only [decide_eq_true_eq, decide_eq_false_iff_not, Bool.not_eq_true, Bool.not_eq_false] at h))
    | (apply r_box; ((conv => lhs; simp only [Nat.reduceAdd]) <;> rfl); rfl; rfl; rfl)
    | (apply r_p; rfl)
    | (apply r_nilK)
    | (apply r_nil)
    | (apply k_V; rfl)
    | (apply k_P; rfl)
    | (apply k_PL; rfl)
    | (apply k_S; rfl)
    | (apply k_SL; rfl)
    | (apply k_A; rfl)
    | (apply k_T; rfl)
    | (apply k_F; rfl)
    | (apply k_D; rfl; rotate_left; rfl)
    | (apply k_nil)
    | (apply e_ret (vs := [.d (.val _)]); rfl)
    | (apply e_ret; rfl)
    | (apply e_ret' (vs := [.d (.val _)]); rfl)
    | (apply e_ret'; rfl)
    | (apply w_seq)
    | (apply w_ops; ((conv => lhs; simp only [Nat.reduceAdd]) <;> rfl))
    | (apply w_condT; rfl)
    | (apply w_condF; rfl)
    | ((apply w_condS; rfl) <;> (intro h; try simp only [decide_eq_true_eq, decide_eq_false_iff_not, Bool.not_eq_true, Bool.not_eq_false] at h))
    | (apply e_thenN)
    | (apply w_block)
    | (apply e_thenR)
    | (apply e_thenX)
    | (apply e_blkN)
    | (apply e_blkR)
    | (apply e_blkE)
    | (apply w_exit)
    | (apply w_ret)
    | (apply w_skip)
    | (apply e_blkE'; rfl))
      all_goals exact retB rfl
  have pre : ∀ kk : Nat, (∀ k, k < kk → ¬ ((k = 0 → done < mn) ∧ L (subs[0]'hl0) (word s 0 k) ∧ oftenP (L (subs[0]'hl0)) (mn : Nat) mx (done + 1) (word s k s.size))) → s.size < kk → bb = false := by
    intro kk h hk
    cases hbb : bb with
    | false => rfl
    | true =>
      rcases hb.1 hbb with h' | ⟨_, k, g1, g2, g3, g4⟩
      · exact absurd h' hz
      · exact absurd ⟨g2, g3, g4⟩ (h k (by omega))
  by_cases hmd : mn ≤ done
  case pos =>
    have hne : s.size ≠ 0 := fun e => hz ⟨hmd, e⟩
    have hd0 : decide (s.size = 0) = false := by simp [hne]
    repeat' (first
    | (apply r_mvV; rfl)
    | (apply r_mvP; rfl)
    | (apply r_mvPL; rfl)
    | (apply r_mvS; rfl)
    | (apply r_mvSL; rfl)
    | (apply r_mvA; rfl)
    | (apply r_mvT; rfl)
    | (apply r_mvF; rfl)
    | (apply r_mvD; rfl)
    | (apply r_faddD; rfl)
    | (apply r_faddL; rfl)
    | (apply r_eqS0; rfl; rfl; exact hd0)
    | (apply r_ldL; rfl; rfl; rfl)
    | (apply r_eql; rfl; rfl; (first | (apply decide_eq_true; omega) | (apply decide_eq_false; omega) | rfl))
    | (apply r_leq; rfl; rfl; (first | (apply decide_eq_true; omega) | (apply decide_eq_false; omega) | rfl))
    | (apply r_geq; rfl; rfl; (first | (apply decide_eq_true; omega) | (apply decide_eq_false; omega) | rfl))
    | (apply r_add; rfl; rfl; rfl; omega)
    | (apply r_pickT; rfl)
    | (apply r_pickF; rfl)
    | (apply r_lenT; rfl)
    | (apply r_gT; rfl)
    | (apply r_gF'; rfl; rfl)
    | (apply r_gN'; rfl)
    | ((apply r_gS (o := default); rfl) <;> (intro h; try simp only [decide_eq_true_eq, decide_eq_false_iff_not, Bool.not_eq_true, Bool.not_eq_false] at h))
    | (apply r_box; ((conv => lhs; simp only [Nat.reduceAdd]) <;> rfl); rfl; rfl; rfl)
    | (apply r_p; rfl)
    | (apply r_nilK)
    | (apply r_nil)
    | (apply k_V; rfl)
    | (apply k_P; rfl)
    | (apply k_PL; rfl)
    | (apply k_S; rfl)
    | (apply k_SL; rfl)
    | (apply k_A; rfl)
    | (apply k_T; rfl)
    | (apply k_F; rfl)
    | (apply k_D; rfl; rotate_left; rfl)
    | (apply k_nil)
    | (apply e_ret (vs := [.d (.val _)]); rfl)
    | (apply e_ret; rfl)
    | (apply e_ret' (vs := [.d (.val _)]); rfl)
    | (apply e_ret'; rfl)
    | (apply w_seq)
    | (apply w_ops; ((conv => lhs; simp only [Nat.reduceAdd]) <;> rfl))
    | (apply w_condT; rfl)
    | (apply w_condF; rfl)
    | ((apply w_condS; rfl) <;> (intro h; try simp only [decide_eq_true_eq, decide_eq_false_iff_not, Bool.not_eq_true, Bool.not_eq_false] at h))
    | (apply e_thenN)
    | (apply w_block)
    | (apply e_thenR)
    | (apply e_thenX)
    | (apply e_blkN)
    | (apply e_blkR)
    | (apply e_blkE)
    | (apply w_exit)
    | (apply w_ret)
    | (apply w_skip)
    | (apply e_blkE'; rfl))
    all_goals
      apply w_loopI (S := fun i : Nat => ⟨(((Fr.nil.put 1 (.d (.val (.string s)))).put 2 (.i done)).put 3 (.ptrL 1 0)).put 7 (.i i), Heap.nil.put 1 [.i k, .d (.val (.int .u64 a)), .d (.val (.int .u64 b)), .d (.val (.int .u64 c)), .d (.val (.int .u64 d)), .i (mn : Nat), .i mx, .d (.sl (encL subs) subs.length)], Frz.lo 100, 100⟩) (m := fun i => s.size + 1 - i) (I := fun i => i ≤ s.size + 1 ∧ ∀ k, k < i → ¬ ((k = 0 → done < mn) ∧ L (subs[0]'hl0) (word s 0 k) ∧ oftenP (L (subs[0]'hl0)) (mn : Nat) mx (done + 1) (word s k s.size))) (i0 := 0)
      · exact ⟨Nat.zero_le _, fun k hk => by omega⟩
      · refine wkR (by omega) rfl rfl ?_
        repeat' (first
    | exact FWk.nil
    | (apply FWk.i; rfl; (first | rfl | omega | (simp; done)))
    | (apply FWk.sl; rfl; rfl; rfl; rfl; omega; rfl)
    | (apply FWk.ptr; rfl; rfl; rfl; omega; rfl)
    | (apply FWk.d; rfl; rfl)
    | (apply FWk.a; rfl; rfl; rfl)
    | (apply FWk.slN; rfl; omega; rfl))
      rintro i K ⟨hi, hno⟩ hK
      dsimp only
      by_cases hlt : i ≤ s.size
      · have nxt : ∀ fr C Z nx, ¬ ((i = 0 → done < mn) ∧ L (subs[0]'hl0) (word s 0 i) ∧ oftenP (L (subs[0]'hl0)) (mn : Nat) mx (done + 1) (word s i s.size)) → Wk ⟨fr, C, Z, nx⟩ ⟨(((Fr.nil.put 1 (.d (.val (.string s)))).put 2 (.i done)).put 3 (.ptrL 1 0)).put 7 (.i ((i + 1 : Nat) : Int)), Heap.nil.put 1 [.i k, .d (.val (.int .u64 a)), .d (.val (.int .u64 b)), .d (.val (.int .u64 c)), .d (.val (.int .u64 d)), .i (mn : Nat), .i mx, .d (.sl (encL subs) subs.length)], Frz.lo 100, 100⟩ → K ⟨fr, C, Z, nx⟩ := by
          intro fr C Z nx hn hw
          refine hK (i + 1) fr C Z nx ⟨by omega, fun k hk => ?_⟩ (by omega) hw
          by_cases e : k = i
          · subst e; exact hn
          · exact hno k (by omega)
        have hna : [nodeA (subs[0]'hl0), .d (.val (.string (s.extract 0 i)))].all AV.nrm = true := by rw [List.all_cons, nodeA_nrm]; rfl
        have e1 := wd_extract s 0 i hlt
        have e2 := wd_extract s i s.size (Nat.le_refl _)
        have z1 := size_ext s 0 i hlt
        have z2 := size_ext s i s.size (Nat.le_refl _)
        by_cases hsk : i = 0 ∧ mn ≤ done
        · repeat' (first
    | (apply r_mvV; rfl)
    | (apply r_mvP; rfl)
    | (apply r_mvPL; rfl)
    | (apply r_mvS; rfl)
    | (apply r_mvSL; rfl)
    | (apply r_mvA; rfl)
    | (apply r_mvT; rfl)
    | (apply r_mvF; rfl)
    | (apply r_mvD; rfl)
    | (apply r_faddD; rfl)
    | (apply r_faddL; rfl)
    | (apply r_l; apply ld_kind; assumption; rfl)
    | (apply r_l; apply ld_mn; assumption; rfl)
    | (apply r_l; apply ld_mx; assumption; rfl)
    | (apply r_l; apply ld_subs; assumption; rfl)
    | (apply r_l; apply ld_set; assumption; rfl)
    | (apply r_l; apply ld_node; assumption; rfl)
    | (apply r_l; apply ld_kind'; assumption; rfl)
    | (apply r_l; apply ld_mn'; assumption; rfl)
    | (apply r_l; apply ld_mx'; assumption; rfl)
    | (apply r_l; apply ld_subs'; assumption; rfl)
    | (apply r_l; apply ld_node'; assumption; rfl)
    | (apply r_ldL; rfl; rfl; rfl)
    | (apply r_eql; rfl; rfl; (first | (apply decide_eq_true; omega) | (apply decide_eq_false; omega) | rfl))
    | (apply r_leq; rfl; rfl; (first | (apply decide_eq_true; omega) | (apply decide_eq_false; omega) | rfl))
    | (apply r_geq; rfl; rfl; (first | (apply decide_eq_true; omega) | (apply decide_eq_false; omega) | rfl))
    | (apply r_add; rfl; rfl; rfl; omega)
    | (apply r_pickT; rfl)
    | (apply r_pickF; rfl)
    | (apply r_lenT; rfl)
    | (apply r_gT; rfl)
    | (apply r_gF'; rfl; rfl)
    | (apply r_gN'; rfl)
    | ((apply r_gS (o := default); rfl) <;> (intro h; try simp only [decide_eq_true_eq, decide_eq_false_iff_not, Bool.not_eq_true, Bool.not_eq_false] at h))
    | (apply r_box; ((conv => lhs; simp only [Nat.reduceAdd]) <;> rfl); rfl; rfl; rfl)
    | (apply r_p; rfl)
    | (apply r_nilK)
    | (apply r_nil)
    | (apply k_V; rfl)
    | (apply k_P; rfl)
    | (apply k_PL; rfl)
    | (apply k_S; rfl)
    | (apply k_SL; rfl)
    | (apply k_A; rfl)
    | (apply k_T; rfl)
    | (apply k_F; rfl)
    | (apply k_D; rfl; rotate_left; rfl)
    | (apply k_nil)
    | (apply e_ret (vs := [.d (.val _)]); rfl)
    | (apply e_ret; rfl)
    | (apply e_ret' (vs := [.d (.val _)]); rfl)
    | (apply e_ret'; rfl)
    | (apply w_seq)
    | (apply w_ops; ((conv => lhs; simp only [Nat.reduceAdd]) <;> rfl))
    | (apply w_condT; rfl)
    | (apply w_condF; rfl)
    | ((apply w_condS; rfl) <;> (intro h; try simp only [decide_eq_true_eq, decide_eq_false_iff_not, Bool.not_eq_true, Bool.not_eq_false] at h))
    | (apply e_thenN)
    | (apply w_block)
    | (apply e_thenR)
    | (apply e_thenX)
    | (apply e_blkN)
    | (apply e_blkR)
    | (apply e_blkE)
    | (apply w_exit)
    | (apply w_ret)
    | (apply w_skip)
    | (apply e_blkE'; rfl))
          apply e_thenK
          apply nxt
          · intro h; have := h.1 hsk.1; omega
          · refine wkR (by omega) rfl rfl ?_
            repeat' (first
    | exact FWk.nil
    | (apply FWk.i; rfl; (first | rfl | omega | (simp; done)))
    | (apply FWk.sl; rfl; rfl; rfl; rfl; omega; rfl)
    | (apply FWk.ptr; rfl; rfl; rfl; omega; rfl)
    | (apply FWk.d; rfl; rfl)
    | (apply FWk.a; rfl; rfl; rfl)
    | (apply FWk.slN; rfl; omega; rfl))
        by_cases h1 : L (subs[0]'hl0) (word s 0 i)
        · have g1 := hok (s.extract 0 i) (by omega) true (by rw [e1]; simp [h1])
          by_cases h2 : oftenP (L (subs[0]'hl0)) (mn : Nat) mx (done + 1) (word s i s.size)
          · have g2 := ih (s.extract i s.size) (done + 1) (by omega) (of_dec hN hlt hsk z2) hD' (by omega) true (by rw [e2]; simp [h2])
            repeat' (first
    | (apply r_mvV; rfl)
    | (apply r_mvP; rfl)
    | (apply r_mvPL; rfl)
    | (apply r_mvS; rfl)
    | (apply r_mvSL; rfl)
    | (apply r_mvA; rfl)
    | (apply r_mvT; rfl)
    | (apply r_mvF; rfl)
    | (apply r_mvD; rfl)
    | (apply r_faddD; rfl)
    | (apply r_faddL; rfl)
    | (apply r_l; apply ld_kind; assumption; rfl)
    | (apply r_l; apply ld_mn; assumption; rfl)
    | (apply r_l; apply ld_mx; assumption; rfl)
    | (apply r_l; apply ld_subs; assumption; rfl)
    | (apply r_l; apply ld_set; assumption; rfl)
    | (apply r_l; apply ld_node; assumption; rfl)
    | (apply r_l; apply ld_kind'; assumption; rfl)
    | (apply r_l; apply ld_mn'; assumption; rfl)
    | (apply r_l; apply ld_mx'; assumption; rfl)
    | (apply r_l; apply ld_subs'; assumption; rfl)
    | (apply r_l; apply ld_node'; assumption; rfl)
    | (apply r_p; apply ix_sub0; rfl; rfl; exact hl0)
    | (apply r_l; apply ld_node'; exact hs0; rfl)
    | (apply r_slThi (m := i); rfl; rfl; rfl; exact hlt)
    | (apply r_slTlo (m := i); rfl; rfl; rfl; exact hlt)
    | (apply r_callA (ags := [nodeA (subs[0]'hl0), .d (.val (.string (s.extract 0 i)))]); rfl; exact hna; exact g1)
    | (apply r_callA; rfl; rfl; exact g2)
    | (apply r_ldL; rfl; rfl; rfl)
    | (apply r_eql; rfl; rfl; (first | (apply decide_eq_true; omega) | (apply decide_eq_false; omega) | rfl))
    | (apply r_leq; rfl; rfl; (first | (apply decide_eq_true; omega) | (apply decide_eq_false; omega) | rfl))
    | (apply r_geq; rfl; rfl; (first | (apply decide_eq_true; omega) | (apply decide_eq_false; omega) | rfl))
    | (apply r_add; rfl; rfl; rfl; omega)
    | (apply r_pickT; rfl)
    | (apply r_pickF; rfl)
    | (apply r_lenT; rfl)
    | (apply r_gT; rfl)
    | (apply r_gF'; rfl; rfl)
    | (apply r_gN'; rfl)
    | ((apply r_gS (o := default); rfl) <;> (intro h; try simp only [decide_eq_true_eq, decide_eq_false_iff_not, Bool.not_eq_true, Bool.not_eq_false] at h))
    | (apply r_box; ((conv => lhs; simp only [Nat.reduceAdd]) <;> rfl); rfl; rfl; rfl)
    | (apply r_p; rfl)
    | (apply r_nilK)
    | (apply r_nil)
    | (apply k_V; rfl)
    | (apply k_P; rfl)
    | (apply k_PL; rfl)
    | (apply k_S; rfl)
    | (apply k_SL; rfl)
    | (apply k_A; rfl)
    | (apply k_T; rfl)
    | (apply k_F; rfl)
    | (apply k_D; rfl; rotate_left; rfl)
    | (apply k_nil)
    | (apply e_ret (vs := [.d (.val _)]); rfl)
    | (apply e_ret; rfl)
    | (apply e_ret' (vs := [.d (.val _)]); rfl)
    | (apply e_ret'; rfl)
    | (apply w_seq)
    | (apply w_ops; ((conv => lhs; simp only [Nat.reduceAdd]) <;> rfl))
    | (apply w_condT; rfl)
    | (apply w_condF; rfl)
    | ((apply w_condS; rfl) <;> (intro h; try simp only [decide_eq_true_eq, decide_eq_false_iff_not, Bool.not_eq_true, Bool.not_eq_false] at h))
    | (apply e_thenN)
    | (apply w_block)
    | (apply e_thenR)
    | (apply e_thenX)
    | (apply e_blkN)
    | (apply e_blkR)
    | (apply e_blkE)
    | (apply w_exit)
    | (apply w_ret)
    | (apply w_skip)
    | (apply e_blkE'; rfl))
            all_goals
              refine retB ?_
              symm; exact hb.2 (.inr ⟨by omega, i, hlt, fun e => by omega, h1, h2⟩)
          · have g2 := ih (s.extract i s.size) (done + 1) (by omega) (of_dec hN hlt hsk z2) hD' (by omega) false (by rw [e2]; simp [h2])
            repeat' (first
    | (apply r_mvV; rfl)
    | (apply r_mvP; rfl)
    | (apply r_mvPL; rfl)
    | (apply r_mvS; rfl)
    | (apply r_mvSL; rfl)
    | (apply r_mvA; rfl)
    | (apply r_mvT; rfl)
    | (apply r_mvF; rfl)
    | (apply r_mvD; rfl)
    | (apply r_faddD; rfl)
    | (apply r_faddL; rfl)
    | (apply r_l; apply ld_kind; assumption; rfl)
    | (apply r_l; apply ld_mn; assumption; rfl)
    | (apply r_l; apply ld_mx; assumption; rfl)
    | (apply r_l; apply ld_subs; assumption; rfl)
    | (apply r_l; apply ld_set; assumption; rfl)
    | (apply r_l; apply ld_node; assumption; rfl)
    | (apply r_l; apply ld_kind'; assumption; rfl)
    | (apply r_l; apply ld_mn'; assumption; rfl)
    | (apply r_l; apply ld_mx'; assumption; rfl)
    | (apply r_l; apply ld_subs'; assumption; rfl)
    | (apply r_l; apply ld_node'; assumption; rfl)
    | (apply r_p; apply ix_sub0; rfl; rfl; exact hl0)
    | (apply r_l; apply ld_node'; exact hs0; rfl)
    | (apply r_slThi (m := i); rfl; rfl; rfl; exact hlt)
    | (apply r_slTlo (m := i); rfl; rfl; rfl; exact hlt)
    | (apply r_callA (ags := [nodeA (subs[0]'hl0), .d (.val (.string (s.extract 0 i)))]); rfl; exact hna; exact g1)
    | (apply r_callA; rfl; rfl; exact g2)
    | (apply r_ldL; rfl; rfl; rfl)
    | (apply r_eql; rfl; rfl; (first | (apply decide_eq_true; omega) | (apply decide_eq_false; omega) | rfl))
    | (apply r_leq; rfl; rfl; (first | (apply decide_eq_true; omega) | (apply decide_eq_false; omega) | rfl))
    | (apply r_geq; rfl; rfl; (first | (apply decide_eq_true; omega) | (apply decide_eq_false; omega) | rfl))
    | (apply r_add; rfl; rfl; rfl; omega)
    | (apply r_pickT; rfl)
    | (apply r_pickF; rfl)
    | (apply r_lenT; rfl)
    | (apply r_gT; rfl)
    | (apply r_gF'; rfl; rfl)
    | (apply r_gN'; rfl)
    | ((apply r_gS (o := default); rfl) <;> (intro h; try simp only [decide_eq_true_eq, decide_eq_false_iff_not, Bool.not_eq_true, Bool.not_eq_false] at h))
    | (apply r_box; ((conv => lhs; simp only [Nat.reduceAdd]) <;> rfl); rfl; rfl; rfl)
    | (apply r_p; rfl)
    | (apply r_nilK)
    | (apply r_nil)
    | (apply k_V; rfl)
    | (apply k_P; rfl)
    | (apply k_PL; rfl)
    | (apply k_S; rfl)
    | (apply k_SL; rfl)
    | (apply k_A; rfl)
    | (apply k_T; rfl)
    | (apply k_F; rfl)
    | (apply k_D; rfl; rotate_left; rfl)
    | (apply k_nil)
    | (apply e_ret (vs := [.d (.val _)]); rfl)
    | (apply e_ret; rfl)
    | (apply e_ret' (vs := [.d (.val _)]); rfl)
    | (apply e_ret'; rfl)
    | (apply w_seq)
    | (apply w_ops; ((conv => lhs; simp only [Nat.reduceAdd]) <;> rfl))
    | (apply w_condT; rfl)
    | (apply w_condF; rfl)
    | ((apply w_condS; rfl) <;> (intro h; try simp only [decide_eq_true_eq, decide_eq_false_iff_not, Bool.not_eq_true, Bool.not_eq_false] at h))
    | (apply e_thenN)
    | (apply w_block)
    | (apply e_thenR)
    | (apply e_thenX)
    | (apply e_blkN)
    | (apply e_blkR)
    | (apply e_blkE)
    | (apply w_exit)
    | (apply w_ret)
    | (apply w_skip)
    | (apply e_blkE'; rfl))
            all_goals
              apply e_thenK
              apply nxt
              · exact fun h => h2 h.2.2
              · refine wkR (by omega) rfl rfl ?_
                repeat' (first
    | exact FWk.nil
    | (apply FWk.i; rfl; (first | rfl | omega | (simp; done)))
    | (apply FWk.sl; rfl; rfl; rfl; rfl; omega; rfl)
    | (apply FWk.ptr; rfl; rfl; rfl; omega; rfl)
    | (apply FWk.d; rfl; rfl)
    | (apply FWk.a; rfl; rfl; rfl)
    | (apply FWk.slN; rfl; omega; rfl))
        · have g1 := hok (s.extract 0 i) (by omega) false (by rw [e1]; simp [h1])
          repeat' (first
    | (apply r_mvV; rfl)
    | (apply r_mvP; rfl)
    | (apply r_mvPL; rfl)
    | (apply r_mvS; rfl)
    | (apply r_mvSL; rfl)
    | (apply r_mvA; rfl)
    | (apply r_mvT; rfl)
    | (apply r_mvF; rfl)
    | (apply r_mvD; rfl)
    | (apply r_faddD; rfl)
    | (apply r_faddL; rfl)
    | (apply r_l; apply ld_kind; assumption; rfl)
    | (apply r_l; apply ld_mn; assumption; rfl)
    | (apply r_l; apply ld_mx; assumption; rfl)
    | (apply r_l; apply ld_subs; assumption; rfl)
    | (apply r_l; apply ld_set; assumption; rfl)
    | (apply r_l; apply ld_node; assumption; rfl)
    | (apply r_l; apply ld_kind'; assumption; rfl)
    | (apply r_l; apply ld_mn'; assumption; rfl)
    | (apply r_l; apply ld_mx'; assumption; rfl)
    | (apply r_l; apply ld_subs'; assumption; rfl)
    | (apply r_l; apply ld_node'; assumption; rfl)
    | (apply r_p; apply ix_sub0; rfl; rfl; exact hl0)
    | (apply r_l; apply ld_node'; exact hs0; rfl)
    | (apply r_slThi (m := i); rfl; rfl; rfl; exact hlt)
    | (apply r_slTlo (m := i); rfl; rfl; rfl; exact hlt)
    | (apply r_callA (ags := [nodeA (subs[0]'hl0), .d (.val (.string (s.extract 0 i)))]); rfl; exact hna; exact g1)
    | (apply r_ldL; rfl; rfl; rfl)
    | (apply r_eql; rfl; rfl; (first | (apply decide_eq_true; omega) | (apply decide_eq_false; omega) | rfl))
    | (apply r_leq; rfl; rfl; (first | (apply decide_eq_true; omega) | (apply decide_eq_false; omega) | rfl))
    | (apply r_geq; rfl; rfl; (first | (apply decide_eq_true; omega) | (apply decide_eq_false; omega) | rfl))
    | (apply r_add; rfl; rfl; rfl; omega)
    | (apply r_pickT; rfl)
    | (apply r_pickF; rfl)
    | (apply r_lenT; rfl)
    | (apply r_gT; rfl)
    | (apply r_gF'; rfl; rfl)
    | (apply r_gN'; rfl)
    | ((apply r_gS (o := default); rfl) <;> (intro h; try simp only [decide_eq_true_eq, decide_eq_false_iff_not, Bool.not_eq_true, Bool.not_eq_false] at h))
    | (apply r_box; ((conv => lhs; simp only [Nat.reduceAdd]) <;> rfl); rfl; rfl; rfl)
    | (apply r_p; rfl)
    | (apply r_nilK)
    | (apply r_nil)
    | (apply k_V; rfl)
    | (apply k_P; rfl)
    | (apply k_PL; rfl)
    | (apply k_S; rfl)
    | (apply k_SL; rfl)
    | (apply k_A; rfl)
    | (apply k_T; rfl)
    | (apply k_F; rfl)
    | (apply k_D; rfl; rotate_left; rfl)
    | (apply k_nil)
    | (apply e_ret (vs := [.d (.val _)]); rfl)
    | (apply e_ret; rfl)
    | (apply e_ret' (vs := [.d (.val _)]); rfl)
    | (apply e_ret'; rfl)
    | (apply w_seq)
    | (apply w_ops; ((conv => lhs; simp only [Nat.reduceAdd]) <;> rfl))
    | (apply w_condT; rfl)
    | (apply w_condF; rfl)
    | ((apply w_condS; rfl) <;> (intro h; try simp only [decide_eq_true_eq, decide_eq_false_iff_not, Bool.not_eq_true, Bool.not_eq_false] at h))
    | (apply e_thenN)
    | (apply w_block)
    | (apply e_thenR)
    | (apply e_thenX)
    | (apply e_blkN)
    | (apply e_blkR)
    | (apply e_blkE)
    | (apply w_exit)
    | (apply w_ret)
    | (apply w_skip)
    | (apply e_blkE'; rfl))
          all_goals
            apply e_thenK
            apply nxt
            · exact fun h => h1 h.2.1
            · refine wkR (by omega) rfl rfl ?_
              repeat' (first
    | exact FWk.nil
    | (apply FWk.i; rfl; (first | rfl | omega | (simp; done)))
    | (apply FWk.sl; rfl; rfl; rfl; rfl; omega; rfl)
    | (apply FWk.ptr; rfl; rfl; rfl; omega; rfl)
    | (apply FWk.d; rfl; rfl)
    | (apply FWk.a; rfl; rfl; rfl)
    | (apply FWk.slN; rfl; omega; rfl))
      · repeat' (first
    | (apply r_mvV; rfl)
    | (apply r_mvP; rfl)
    | (apply r_mvPL; rfl)
    | (apply r_mvS; rfl)
    | (apply r_mvSL; rfl)
    | (apply r_mvA; rfl)
    | (apply r_mvT; rfl)
    | (apply r_mvF; rfl)
    | (apply r_mvD; rfl)
    | (apply r_faddD; rfl)
    | (apply r_faddL; rfl)
    | (apply r_l; apply ld_kind; assumption; rfl)
    | (apply r_l; apply ld_mn; assumption; rfl)
    | (apply r_l; apply ld_mx; assumption; rfl)
    | (apply r_l; apply ld_subs; assumption; rfl)
    | (apply r_l; apply ld_set; assumption; rfl)
    | (apply r_l; apply ld_node; assumption; rfl)
    | (apply r_l; apply ld_kind'; assumption; rfl)
    | (apply r_l; apply ld_mn'; assumption; rfl)
    | (apply r_l; apply ld_mx'; assumption; rfl)
    | (apply r_l; apply ld_subs'; assumption; rfl)
    | (apply r_l; apply ld_node'; assumption; rfl)
    | (apply r_ldL; rfl; rfl; rfl)
    | (apply r_eql; rfl; rfl; (first | (apply decide_eq_true; omega) | (apply decide_eq_false; omega) | rfl))
    | (apply r_leq; rfl; rfl; (first | (apply decide_eq_true; omega) | (apply decide_eq_false; omega) | rfl))
    | (apply r_geq; rfl; rfl; (first | (apply decide_eq_true; omega) | (apply decide_eq_false; omega) | rfl))
    | (apply r_add; rfl; rfl; rfl; omega)
    | (apply r_pickT; rfl)
    | (apply r_pickF; rfl)
    | (apply r_lenT; rfl)
    | (apply r_gT; rfl)
    | (apply r_gF'; rfl; rfl)
    | (apply r_gN'; rfl)
    | ((apply r_gS (o := default); rfl) <;> (intro h; try simp only [decide_eq_true_eq, decide_eq_false_iff_not, Bool.not_eq_true, Bool.not_eq_false] at h))
    | (apply r_box; ((conv => lhs; simp only [Nat.reduceAdd]) <;> rfl); rfl; rfl; rfl)
    | (apply r_p; rfl)
    | (apply r_nilK)
    | (apply r_nil)
    | (apply k_V; rfl)
    | (apply k_P; rfl)
    | (apply k_PL; rfl)
    | (apply k_S; rfl)
    | (apply k_SL; rfl)
    | (apply k_A; rfl)
    | (apply k_T; rfl)
    | (apply k_F; rfl)
    | (apply k_D; rfl; rotate_left; rfl)
    | (apply k_nil)
    | (apply e_ret (vs := [.d (.val _)]); rfl)
    | (apply e_ret; rfl)
    | (apply e_ret' (vs := [.d (.val _)]); rfl)
    | (apply e_ret'; rfl)
    | (apply w_seq)
    | (apply w_ops; ((conv => lhs; simp only [Nat.reduceAdd]) <;> rfl))
    | (apply w_condT; rfl)
    | (apply w_condF; rfl)
    | ((apply w_condS; rfl) <;> (intro h; try simp only [decide_eq_true_eq, decide_eq_false_iff_not, Bool.not_eq_true, Bool.not_eq_false] at h))
    | (apply e_thenN)
    | (apply w_block)
    | (apply e_thenR)
    | (apply e_thenX)
    | (apply e_blkN)
    | (apply e_blkR)
    | (apply e_blkE)
    | (apply w_exit)
    | (apply w_ret)
    | (apply w_skip)
    | (apply e_blkE'; rfl))
        refine retB ?_
        exact (pre i hno (by omega)).symm
  case neg =>
    repeat' (first
    | (apply r_mvV; rfl)
    | (apply r_mvP; rfl)
    | (apply r_mvPL; rfl)
    | (apply r_mvS; rfl)
    | (apply r_mvSL; rfl)
    | (apply r_mvA; rfl)
    | (apply r_mvT; rfl)
    | (apply r_mvF; rfl)
    | (apply r_mvD; rfl)
    | (apply r_faddD; rfl)
    | (apply r_faddL; rfl)
    | (apply r_eqS0; rfl; rfl; rfl)
    | (apply r_ldL; rfl; rfl; rfl)
    | (apply r_eql; rfl; rfl; (first | (apply decide_eq_true; omega) | (apply decide_eq_false; omega) | rfl))
    | (apply r_leq; rfl; rfl; (first | (apply decide_eq_true; omega) | (apply decide_eq_false; omega) | rfl))
    | (apply r_geq; rfl; rfl; (first | (apply decide_eq_true; omega) | (apply decide_eq_false; omega) | rfl))
    | (apply r_add; rfl; rfl; rfl; omega)
    | (apply r_pickT; rfl)
    | (apply r_pickF; rfl)
    | (apply r_lenT; rfl)
    | (apply r_gT; rfl)
    | (apply r_gF'; rfl; rfl)
    | (apply r_gN'; rfl)
    | ((apply r_gS (o := default); rfl) <;> (intro h; try simp only [decide_eq_true_eq, decide_eq_false_iff_not, Bool.not_eq_true, Bool.not_eq_false] at h))
    | (apply r_box; ((conv => lhs; simp only [Nat.reduceAdd]) <;> rfl); rfl; rfl; rfl)
    | (apply r_p; rfl)
    | (apply r_nilK)
    | (apply r_nil)
    | (apply k_V; rfl)
    | (apply k_P; rfl)
    | (apply k_PL; rfl)
    | (apply k_S; rfl)
    | (apply k_SL; rfl)
    | (apply k_A; rfl)
    | (apply k_T; rfl)
    | (apply k_F; rfl)
    | (apply k_D; rfl; rotate_left; rfl)
    | (apply k_nil)
    | (apply e_ret (vs := [.d (.val _)]); rfl)
    | (apply e_ret; rfl)
    | (apply e_ret' (vs := [.d (.val _)]); rfl)
    | (apply e_ret'; rfl)
    | (apply w_seq)
    | (apply w_ops; ((conv => lhs; simp only [Nat.reduceAdd]) <;> rfl))
    | (apply w_condT; rfl)
    | (apply w_condF; rfl)
    | ((apply w_condS; rfl) <;> (intro h; try simp only [decide_eq_true_eq, decide_eq_false_iff_not, Bool.not_eq_true, Bool.not_eq_false] at h))
    | (apply e_thenN)
    | (apply w_block)
    | (apply e_thenR)
    | (apply e_thenX)
    | (apply e_blkN)
    | (apply e_blkR)
    | (apply e_blkE)
    | (apply w_exit)
    | (apply w_ret)
    | (apply w_skip)
    | (apply e_blkE'; rfl))
    all_goals
      apply w_loopI (S := fun i : Nat => ⟨(((Fr.nil.put 1 (.d (.val (.string s)))).put 2 (.i done)).put 3 (.ptrL 1 0)).put 7 (.i i), Heap.nil.put 1 [.i k, .d (.val (.int .u64 a)), .d (.val (.int .u64 b)), .d (.val (.int .u64 c)), .d (.val (.int .u64 d)), .i (mn : Nat), .i mx, .d (.sl (encL subs) subs.length)], Frz.lo 100, 100⟩) (m := fun i => s.size + 1 - i) (I := fun i => i ≤ s.size + 1 ∧ ∀ k, k < i → ¬ ((k = 0 → done < mn) ∧ L (subs[0]'hl0) (word s 0 k) ∧ oftenP (L (subs[0]'hl0)) (mn : Nat) mx (done + 1) (word s k s.size))) (i0 := 0)
      · exact ⟨Nat.zero_le _, fun k hk => by omega⟩
      · refine wkR (by omega) rfl rfl ?_
        repeat' (first
    | exact FWk.nil
    | (apply FWk.i; rfl; (first | rfl | omega | (simp; done)))
    | (apply FWk.sl; rfl; rfl; rfl; rfl; omega; rfl)
    | (apply FWk.ptr; rfl; rfl; rfl; omega; rfl)
    | (apply FWk.d; rfl; rfl)
    | (apply FWk.a; rfl; rfl; rfl)
    | (apply FWk.slN; rfl; omega; rfl))
      rintro i K ⟨hi, hno⟩ hK
      dsimp only
      by_cases hlt : i ≤ s.size
      · have nxt : ∀ fr C Z nx, ¬ ((i = 0 → done < mn) ∧ L (subs[0]'hl0) (word s 0 i) ∧ oftenP (L (subs[0]'hl0)) (mn : Nat) mx (done + 1) (word s i s.size)) → Wk ⟨fr, C, Z, nx⟩ ⟨(((Fr.nil.put 1 (.d (.val (.string s)))).put 2 (.i done)).put 3 (.ptrL 1 0)).put 7 (.i ((i + 1 : Nat) : Int)), Heap.nil.put 1 [.i k, .d (.val (.int .u64 a)), .d (.val (.int .u64 b)), .d (.val (.int .u64 c)), .d (.val (.int .u64 d)), .i (mn : Nat), .i mx, .d (.sl (encL subs) subs.length)], Frz.lo 100, 100⟩ → K ⟨fr, C, Z, nx⟩ := by
          intro fr C Z nx hn hw
          refine hK (i + 1) fr C Z nx ⟨by omega, fun k hk => ?_⟩ (by omega) hw
          by_cases e : k = i
          · subst e; exact hn
          · exact hno k (by omega)
        have hna : [nodeA (subs[0]'hl0), .d (.val (.string (s.extract 0 i)))].all AV.nrm = true := by rw [List.all_cons, nodeA_nrm]; rfl
        have e1 := wd_extract s 0 i hlt
        have e2 := wd_extract s i s.size (Nat.le_refl _)
        have z1 := size_ext s 0 i hlt
        have z2 := size_ext s i s.size (Nat.le_refl _)
        by_cases hsk : i = 0 ∧ mn ≤ done
        · repeat' (first
    | (apply r_mvV; rfl)
    | (apply r_mvP; rfl)
    | (apply r_mvPL; rfl)
    | (apply r_mvS; rfl)
    | (apply r_mvSL; rfl)
    | (apply r_mvA; rfl)
    | (apply r_mvT; rfl)
    | (apply r_mvF; rfl)
    | (apply r_mvD; rfl)
    | (apply r_faddD; rfl)
    | (apply r_faddL; rfl)
    | (apply r_l; apply ld_kind; assumption; rfl)
    | (apply r_l; apply ld_mn; assumption; rfl)
    | (apply r_l; apply ld_mx; assumption; rfl)
    | (apply r_l; apply ld_subs; assumption; rfl)
    | (apply r_l; apply ld_set; assumption; rfl)
    | (apply r_l; apply ld_node; assumption; rfl)
    | (apply r_l; apply ld_kind'; assumption; rfl)
    | (apply r_l; apply ld_mn'; assumption; rfl)
    | (apply r_l; apply ld_mx'; assumption; rfl)
    | (apply r_l; apply ld_subs'; assumption; rfl)
    | (apply r_l; apply ld_node'; assumption; rfl)
    | (apply r_ldL; rfl; rfl; rfl)
    | (apply r_eql; rfl; rfl; (first | (apply decide_eq_true; omega) | (apply decide_eq_false; omega) | rfl))
    | (apply r_leq; rfl; rfl; (first | (apply decide_eq_true; omega) | (apply decide_eq_false; omega) | rfl))
    | (apply r_geq; rfl; rfl; (first | (apply decide_eq_true; omega) | (apply decide_eq_false; omega) | rfl))
    | (apply r_add; rfl; rfl; rfl; omega)
    | (apply r_pickT; rfl)
    | (apply r_pickF; rfl)
    | (apply r_lenT; rfl)
    | (apply r_gT; rfl)
    | (apply r_gF'; rfl; rfl)
    | (apply r_gN'; rfl)
    | ((apply r_gS (o := default); rfl) <;> (intro h; try simp only [decide_eq_true_eq, decide_eq_false_iff_not, Bool.not_eq_true, Bool.not_eq_false] at h))
    | (apply r_box; ((conv => lhs; simp only [Nat.reduceAdd]) <;> rfl); rfl; rfl; rfl)
    | (apply r_p; rfl)
    | (apply r_nilK)
    | (apply r_nil)
    | (apply k_V; rfl)
    | (apply k_P; rfl)
    | (apply k_PL; rfl)
    | (apply k_S; rfl)
    | (apply k_SL; rfl)
    | (apply k_A; rfl)
    | (apply k_T; rfl)
    | (apply k_F; rfl)
    | (apply k_D; rfl; rotate_left; rfl)
    | (apply k_nil)
    | (apply e_ret (vs := [.d (.val _)]); rfl)
    | (apply e_ret; rfl)
    | (apply e_ret' (vs := [.d (.val _)]); rfl)
    | (apply e_ret'; rfl)
    | (apply w_seq)
    | (apply w_ops; ((conv => lhs; simp only [Nat.reduceAdd]) <;> rfl))
    | (apply w_condT; rfl)
    | (apply w_condF; rfl)
    | ((apply w_condS; rfl) <;> (intro h; try simp only [decide_eq_true_eq, decide_eq_false_iff_not, Bool.not_eq_true, Bool.not_eq_false] at h))
    | (apply e_thenN)
    | (apply w_block)
    | (apply e_thenR)
    | (apply e_thenX)
    | (apply e_blkN)
    | (apply e_blkR)
    | (apply e_blkE)
    | (apply w_exit)
    | (apply w_ret)
    | (apply w_skip)
    | (apply e_blkE'; rfl))
          apply e_thenK
          apply nxt
          · intro h; have := h.1 hsk.1; omega
          · refine wkR (by omega) rfl rfl ?_
            repeat' (first
    | exact FWk.nil
    | (apply FWk.i; rfl; (first | rfl | omega | (simp; done)))
    | (apply FWk.sl; rfl; rfl; rfl; rfl; omega; rfl)
    | (apply FWk.ptr; rfl; rfl; rfl; omega; rfl)
    | (apply FWk.d; rfl; rfl)
    | (apply FWk.a; rfl; rfl; rfl)
    | (apply FWk.slN; rfl; omega; rfl))
        by_cases h1 : L (subs[0]'hl0) (word s 0 i)
        · have g1 := hok (s.extract 0 i) (by omega) true (by rw [e1]; simp [h1])
          by_cases h2 : oftenP (L (subs[0]'hl0)) (mn : Nat) mx (done + 1) (word s i s.size)
          · have g2 := ih (s.extract i s.size) (done + 1) (by omega) (of_dec hN hlt hsk z2) hD' (by omega) true (by rw [e2]; simp [h2])
            repeat' (first
    | (apply r_mvV; rfl)
    | (apply r_mvP; rfl)
    | (apply r_mvPL; rfl)
    | (apply r_mvS; rfl)
    | (apply r_mvSL; rfl)
    | (apply r_mvA; rfl)
    | (apply r_mvT; rfl)
    | (apply r_mvF; rfl)
    | (apply r_mvD; rfl)
    | (apply r_faddD; rfl)
    | (apply r_faddL; rfl)
    | (apply r_l; apply ld_kind; assumption; rfl)
    | (apply r_l; apply ld_mn; assumption; rfl)
    | (apply r_l; apply ld_mx; assumption; rfl)
    | (apply r_l; apply ld_subs; assumption; rfl)
    | (apply r_l; apply ld_set; assumption; rfl)
    | (apply r_l; apply ld_node; assumption; rfl)
    | (apply r_l; apply ld_kind'; assumption; rfl)
    | (apply r_l; apply ld_mn'; assumption; rfl)
    | (apply r_l; apply ld_mx'; assumption; rfl)
    | (apply r_l; apply ld_subs'; assumption; rfl)
    | (apply r_l; apply ld_node'; assumption; rfl)
    | (apply r_p; apply ix_sub0; rfl; rfl; exact hl0)
    | (apply r_l; apply ld_node'; exact hs0; rfl)
    | (apply r_slThi (m := i); rfl; rfl; rfl; exact hlt)
    | (apply r_slTlo (m := i); rfl; rfl; rfl; exact hlt)
    | (apply r_callA (ags := [nodeA (subs[0]'hl0), .d (.val (.string (s.extract 0 i)))]); rfl; exact hna; exact g1)
    | (apply r_callA; rfl; rfl; exact g2)
    | (apply r_ldL; rfl; rfl; rfl)
    | (apply r_eql; rfl; rfl; (first | (apply decide_eq_true; omega) | (apply decide_eq_false; omega) | rfl))
    | (apply r_leq; rfl; rfl; (first | (apply decide_eq_true; omega) | (apply decide_eq_false; omega) | rfl))
    | (apply r_geq; rfl; rfl; (first | (apply decide_eq_true; omega) | (apply decide_eq_false; omega) | rfl))
    | (apply r_add; rfl; rfl; rfl; omega)
    | (apply r_pickT; rfl)
    | (apply r_pickF; rfl)
    | (apply r_lenT; rfl)
    | (apply r_gT; rfl)
    | (apply r_gF'; rfl; rfl)
    | (apply r_gN'; rfl)
    | ((apply r_gS (o := default); rfl) <;> (intro h; try simp only [decide_eq_true_eq, decide_eq_false_iff_not, Bool.not_eq_true, Bool.not_eq_false] at h))
    | (apply r_box; ((conv => lhs; simp only [Nat.reduceAdd]) <;> rfl); rfl; rfl; rfl)
    | (apply r_p; rfl)
    | (apply r_nilK)
    | (apply r_nil)
    | (apply k_V; rfl)
    | (apply k_P; rfl)
    | (apply k_PL; rfl)
    | (apply k_S; rfl)
    | (apply k_SL; rfl)
    | (apply k_A; rfl)
    | (apply k_T; rfl)
    | (apply k_F; rfl)
    | (apply k_D; rfl; rotate_left; rfl)
    | (apply k_nil)
    | (apply e_ret (vs := [.d (.val _)]); rfl)
    | (apply e_ret; rfl)
    | (apply e_ret' (vs := [.d (.val _)]); rfl)
    | (apply e_ret'; rfl)
    | (apply w_seq)
    | (apply w_ops; ((conv => lhs; simp only [Nat.reduceAdd]) <;> rfl))
    | (apply w_condT; rfl)
    | (apply w_condF; rfl)
    | ((apply w_condS; rfl) <;> (intro h; try simp only [decide_eq_true_eq, decide_eq_false_iff_not, Bool.not_eq_true, Bool.not_eq_false] at h))
    | (apply e_thenN)
    | (apply w_block)
    | (apply e_thenR)
    | (apply e_thenX)
    | (apply e_blkN)
    | (apply e_blkR)
    | (apply e_blkE)
    | (apply w_exit)
    | (apply w_ret)
    | (apply w_skip)
    | (apply e_blkE'; rfl))
            all_goals
              refine retB ?_
              symm; exact hb.2 (.inr ⟨by omega, i, hlt, fun e => by omega, h1, h2⟩)
          · have g2 := ih (s.extract i s.size) (done + 1) (by omega) (of_dec hN hlt hsk z2) hD' (by omega) false (by rw [e2]; simp [h2])
            repeat' (first
    | (apply r_mvV; rfl)
    | (apply r_mvP; rfl)
    | (apply r_mvPL; rfl)
    | (apply r_mvS; rfl)
    | (apply r_mvSL; rfl)
    | (apply r_mvA; rfl)
    | (apply r_mvT; rfl)
    | (apply r_mvF; rfl)
    | (apply r_mvD; rfl)
    | (apply r_faddD; rfl)
    | (apply r_faddL; rfl)
    | (apply r_l; apply ld_kind; assumption; rfl)
    | (apply r_l; apply ld_mn; assumption; rfl)
    | (apply r_l; apply ld_mx; assumption; rfl)
    | (apply r_l; apply ld_subs; assumption; rfl)
    | (apply r_l; apply ld_set; assumption; rfl)
    | (apply r_l; apply ld_node; assumption; rfl)
    | (apply r_l; apply ld_kind'; assumption; rfl)
    | (apply r_l; apply ld_mn'; assumption; rfl)
    | (apply r_l; apply ld_mx'; assumption; rfl)
    | (apply r_l; apply ld_subs'; assumption; rfl)
    | (apply r_l; apply ld_node'; assumption; rfl)
    | (apply r_p; apply ix_sub0; rfl; rfl; exact hl0)
    | (apply r_l; apply ld_node'; exact hs0; rfl)
    | (apply r_slThi (m := i); rfl; rfl; rfl; exact hlt)
    | (apply r_slTlo (m := i); rfl; rfl; rfl; exact hlt)
    | (apply r_callA (ags := [nodeA (subs[0]'hl0), .d (.val (.string (s.extract 0 i)))]); rfl; exact hna; exact g1)
    | (apply r_callA; rfl; rfl; exact g2)
    | (apply r_ldL; rfl; rfl; rfl)
    | (apply r_eql; rfl; rfl; (first | (apply decide_eq_true; omega) | (apply decide_eq_false; omega) | rfl))
    | (apply r_leq; rfl; rfl; (first | (apply decide_eq_true; omega) | (apply decide_eq_false; omega) | rfl))
    | (apply r_geq; rfl; rfl; (first | (apply decide_eq_true; omega) | (apply decide_eq_false; omega) | rfl))
    | (apply r_add; rfl; rfl; rfl; omega)
    | (apply r_pickT; rfl)
    | (apply r_pickF; rfl)
    | (apply r_lenT; rfl)
    | (apply r_gT; rfl)
    | (apply r_gF'; rfl; rfl)
    | (apply r_gN'; rfl)
    | ((apply r_gS (o := default); rfl) <;> (intro h; try simp only [decide_eq_true_eq, decide_eq_false_iff_not, Bool.not_eq_true, Bool.not_eq_false] at h))
    | (apply r_box; ((conv => lhs; simp only [Nat.reduceAdd]) <;> rfl); rfl; rfl; rfl)
    | (apply r_p; rfl)
    | (apply r_nilK)
    | (apply r_nil)
    | (apply k_V; rfl)
    | (apply k_P; rfl)
    | (apply k_PL; rfl)
    | (apply k_S; rfl)
    | (apply k_SL; rfl)
    | (apply k_A; rfl)
    | (apply k_T; rfl)
    | (apply k_F; rfl)
    | (apply k_D; rfl; rotate_left; rfl)
    | (apply k_nil)
    | (apply e_ret (vs := [.d (.val _)]); rfl)
    | (apply e_ret; rfl)
    | (apply e_ret' (vs := [.d (.val _)]); rfl)
    | (apply e_ret'; rfl)
    | (apply w_seq)
    | (apply w_ops; ((conv => lhs; simp only [Nat.reduceAdd]) <;> rfl))
    | (apply w_condT; rfl)
    | (apply w_condF; rfl)
    | ((apply w_condS; rfl) <;> (intro h; try simp only [decide_eq_true_eq, decide_eq_false_iff_not, Bool.not_eq_true, Bool.not_eq_false] at h))
    | (apply e_thenN)
    | (apply w_block)
    | (apply e_thenR)
    | (apply e_thenX)
    | (apply e_blkN)
    | (apply e_blkR)
    | (apply e_blkE)
    | (apply w_exit)
    | (apply w_ret)
    | (apply w_skip)
    | (apply e_blkE'; rfl))
            all_goals
              apply e_thenK
              apply nxt
              · exact fun h => h2 h.2.2
              · refine wkR (by omega) rfl rfl ?_
                repeat' (first
    | exact FWk.nil
    | (apply FWk.i; rfl; (first | rfl | omega | (simp; done)))
    | (apply FWk.sl; rfl; rfl; rfl; rfl; omega; rfl)
    | (apply FWk.ptr; rfl; rfl; rfl; omega; rfl)
    | (apply FWk.d; rfl; rfl)
    | (apply FWk.a; rfl; rfl; rfl)
    | (apply FWk.slN; rfl; omega; rfl))
        · have g1 := hok (s.extract 0 i) (by omega) false (by rw [e1]; simp [h1])
          repeat' (first
    | (apply r_mvV; rfl)
    | (apply r_mvP; rfl)
    | (apply r_mvPL; rfl)
    | (apply r_mvS; rfl)
    | (apply r_mvSL; rfl)
    | (apply r_mvA; rfl)
    | (apply r_mvT; rfl)
    | (apply r_mvF; rfl)
    | (apply r_mvD; rfl)
    | (apply r_faddD; rfl)
    | (apply r_faddL; rfl)
    | (apply r_l; apply ld_kind; assumption; rfl)
    | (apply r_l; apply ld_mn; assumption; rfl)
    | (apply r_l; apply ld_mx; assumption; rfl)
    | (apply r_l; apply ld_subs; assumption; rfl)
    | (apply r_l; apply ld_set; assumption; rfl)
    | (apply r_l; apply ld_node; assumption; rfl)
    | (apply r_l; apply ld_kind'; assumption; rfl)
    | (apply r_l; apply ld_mn'; assumption; rfl)
    | (apply r_l; apply ld_mx'; assumption; rfl)
    | (apply r_l; apply ld_subs'; assumption; rfl)
    | (apply r_l; apply ld_node'; assumption; rfl)
    | (apply r_p; apply ix_sub0; rfl; rfl; exact hl0)
    | (apply r_l; apply ld_node'; exact hs0; rfl)
    | (apply r_slThi (m := i); rfl; rfl; rfl; exact hlt)
    | (apply r_slTlo (m := i); rfl; rfl; rfl; exact hlt)
    | (apply r_callA (ags := [nodeA (subs[0]'hl0), .d (.val (.string (s.extract 0 i)))]); rfl; exact hna; exact g1)
    | (apply r_ldL; rfl; rfl; rfl)
    | (apply r_eql; rfl; rfl; (first | (apply decide_eq_true; omega) | (apply decide_eq_false; omega) | rfl))
    | (apply r_leq; rfl; rfl; (first | (apply decide_eq_true; omega) | (apply decide_eq_false; omega) | rfl))
    | (apply r_geq; rfl; rfl; (first | (apply decide_eq_true; omega) | (apply decide_eq_false; omega) | rfl))
    | (apply r_add; rfl; rfl; rfl; omega)
    | (apply r_pickT; rfl)
    | (apply r_pickF; rfl)
    | (apply r_lenT; rfl)
    | (apply r_gT; rfl)
    | (apply r_gF'; rfl; rfl)
    | (apply r_gN'; rfl)
    | ((apply r_gS (o := default); rfl) <;> (intro h; try simp only [decide_eq_true_eq, decide_eq_false_iff_not, Bool.not_eq_true, Bool.not_eq_false] at h))
    | (apply r_box; ((conv => lhs; simp only [Nat.reduceAdd]) <;> rfl); rfl; rfl; rfl)
    | (apply r_p; rfl)
    | (apply r_nilK)
    | (apply r_nil)
    | (apply k_V; rfl)
    | (apply k_P; rfl)
    | (apply k_PL; rfl)
    | (apply k_S; rfl)
    | (apply k_SL; rfl)
    | (apply k_A; rfl)
    | (apply k_T; rfl)
    | (apply k_F; rfl)
    | (apply k_D; rfl; rotate_left; rfl)
    | (apply k_nil)
    | (apply e_ret (vs := [.d (.val _)]); rfl)
    | (apply e_ret; rfl)
    | (apply e_ret' (vs := [.d (.val _)]); rfl)
    | (apply e_ret'; rfl)
    | (apply w_seq)
    | (apply w_ops; ((conv => lhs; simp only [Nat.reduceAdd]) <;> rfl))
    | (apply w_condT; rfl)
    | (apply w_condF; rfl)
    | ((apply w_condS; rfl) <;> (intro h; try simp only [decide_eq_true_eq, decide_eq_false_iff_not, Bool.not_eq_true, Bool.not_eq_false] at h))
    | (apply e_thenN)
    | (apply w_block)
    | (apply e_thenR)
    | (apply e_thenX)
    | (apply e_blkN)
    | (apply e_blkR)
    | (apply e_blkE)
    | (apply w_exit)
    | (apply w_ret)
    | (apply w_skip)
    | (apply e_blkE'; rfl))
          all_goals
            apply e_thenK
            apply nxt
            · exact fun h => h1 h.2.1
            · refine wkR (by omega) rfl rfl ?_
              repeat' (first
    | exact FWk.nil
    | (apply FWk.i; rfl; (first | rfl | omega | (simp; done)))
    | (apply FWk.sl; rfl; rfl; rfl; rfl; omega; rfl)
    | (apply FWk.ptr; rfl; rfl; rfl; omega; rfl)
    | (apply FWk.d; rfl; rfl)
    | (apply FWk.a; rfl; rfl; rfl)
    | (apply FWk.slN; rfl; omega; rfl))
      · repeat' (first
    | (apply r_mvV; rfl)
    | (apply r_mvP; rfl)
    | (apply r_mvPL; rfl)
    | (apply r_mvS; rfl)
    | (apply r_mvSL; rfl)
    | (apply r_mvA; rfl)
    | (apply r_mvT; rfl)
    | (apply r_mvF; rfl)
    | (apply r_mvD; rfl)
    | (apply r_faddD; rfl)
    | (apply r_faddL; rfl)
    | (apply r_l; apply ld_kind; assumption; rfl)
    | (apply r_l; apply ld_mn; assumption; rfl)
    | (apply r_l; apply ld_mx; assumption; rfl)
    | (apply r_l; apply ld_subs; assumption; rfl)
    | (apply r_l; apply ld_set; assumption; rfl)
    | (apply r_l; apply ld_node; assumption; rfl)
    | (apply r_l; apply ld_kind'; assumption; rfl)
    | (apply r_l; apply ld_mn'; assumption; rfl)
    | (apply r_l; apply ld_mx'; assumption; rfl)
    | (apply r_l; apply ld_subs'; assumption; rfl)
    | (apply r_l; apply ld_node'; assumption; rfl)
    | (apply r_ldL; rfl; rfl; rfl)
    | (apply r_eql; rfl; rfl; (first | (apply decide_eq_true; omega) | (apply decide_eq_false; omega) | rfl))
    | (apply r_leq; rfl; rfl; (first | (apply decide_eq_true; omega) | (apply decide_eq_false; omega) | rfl))
    | (apply r_geq; rfl; rfl; (first | (apply decide_eq_true; omega) | (apply decide_eq_false; omega) | rfl))
    | (apply r_add; rfl; rfl; rfl; omega)
    | (apply r_pickT; rfl)
    | (apply r_pickF; rfl)
    | (apply r_lenT; rfl)
    | (apply r_gT; rfl)
    | (apply r_gF'; rfl; rfl)
    | (apply r_gN'; rfl)
    | ((apply r_gS (o := default); rfl) <;> (intro h; try simp only [decide_eq_true_eq, decide_eq_false_iff_not, Bool.not_eq_true, Bool.not_eq_false] at h))
    | (apply r_box; ((conv => lhs; simp only [Nat.reduceAdd]) <;> rfl); rfl; rfl; rfl)
    | (apply r_p; rfl)
    | (apply r_nilK)
    | (apply r_nil)
    | (apply k_V; rfl)
    | (apply k_P; rfl)
    | (apply k_PL; rfl)
    | (apply k_S; rfl)
    | (apply k_SL; rfl)
    | (apply k_A; rfl)
    | (apply k_T; rfl)
    | (apply k_F; rfl)
    | (apply k_D; rfl; rotate_left; rfl)
    | (apply k_nil)
    | (apply e_ret (vs := [.d (.val _)]); rfl)
    | (apply e_ret; rfl)
    | (apply e_ret' (vs := [.d (.val _)]); rfl)
    | (apply e_ret'; rfl)
    | (apply w_seq)
    | (apply w_ops; ((conv => lhs; simp only [Nat.reduceAdd]) <;> rfl))
    | (apply w_condT; rfl)
    | (apply w_condF; rfl)
    | ((apply w_condS; rfl) <;> (intro h; try simp only [decide_eq_true_eq, decide_eq_false_iff_not, Bool.not_eq_true, Bool.not_eq_false] at h))
    | (apply e_thenN)
    | (apply w_block)
    | (apply e_thenR)
    | (apply e_thenX)
    | (apply e_blkN)
    | (apply e_blkR)
    | (apply e_blkE)
    | (apply w_exit)
    | (apply w_ret)
    | (apply w_skip)
    | (apply e_blkE'; rfl))
        refine retB ?_
        exact (pre i hno (by omega)).symm
end Go.Sv
namespace Go.Sv
open Go
theorem lastG_mem {L : List Int} (h : L ≠ []) : lastG L ∈ L := by
  have hl : 0 < L.length := List.length_pos_iff.2 h
  unfold lastG
  rw [if_neg (by omega), List.getD_eq_getElem?_getD, List.getElem?_eq_getElem (by omega)]
  exact List.getElem_mem _
theorem lastG_nil : lastG [] = -1 := rfl
theorem lastG_app {L r : List Int} (h : r ≠ []) : lastG (L ++ r) = lastG r := by
  have hl : 0 < r.length := List.length_pos_iff.2 h
  unfold lastG
  have e : (L ++ r).length = L.length + r.length := List.length_append
  rw [if_neg (by rw [e]; omega), if_neg (by omega)]
  simp only [List.getD_eq_getElem?_getD, List.length_append]
  rw [List.getElem?_append_right (by omega), show L.length + r.length - 1 - L.length = r.length - 1 by omega]
theorem idxTo_in (q : List Bool) : ∀ (m : Nat), ∀ x ∈ idxTo q m, 0 ≤ x ∧ x < (m : Int)
  | 0, x, h => by simp [idxTo] at h
  | m + 1, x, h => by
    rw [idxTo] at h
    split at h
    · rcases List.mem_append.1 h with h | h
      · have := idxTo_in q m x h; omega
      · simp at h; omega
    · have := idxTo_in q m x h; omega
end Go.Sv
namespace Go.Sv
open Go Go.Proofs
def x39 : XC := (.seq (.ops 2 [
    (0, ⟨(some 2), none, .box (.t 0)⟩),
    (1, ⟨(some 4), none, .mv (.k (.d (.val (.bool false))))⟩)] (some [1, 2])) (.seq (.seq (.ops 2 [
    (0, ⟨(some 6), none, .fadd 0 (.t 2)⟩),
    (1, ⟨(some 7), none, .load none (.t 6)⟩)] (some [1, 2, 7])) (.block 0 (.seq (.ops 2 [
    (0, ⟨(some 9), none, .arith .eql (.t 7) (.k (.d (.val (.int .i64 1))))⟩),
    (1, ⟨(some 8), none, .mv (.t 9)⟩)] (some [1, 2, 7, 8])) (.cond (.t 8) (.seq (.ops 3 [
    (0, ⟨(some 10), none, .mv (.t 1)⟩),
    (1, ⟨(some 11), none, .arith .eql (.t 10) (.k (.d (.val (.string ⟨#[]⟩))))⟩),
    (2, ⟨(some 4), none, .mv (.t 11)⟩)] (some [4])) .ret) (.seq (.ops 2 [
    (0, ⟨(some 13), none, .arith .eql (.t 7) (.k (.d (.val (.int .i64 2))))⟩),
    (1, ⟨(some 12), none, .mv (.t 13)⟩)] (some [1, 2, 7, 12])) (.cond (.t 12) (.seq (.ops 11 [
    (0, ⟨(some 14), none, .mv (.t 1)⟩),
    (1, ⟨(some 15), none, .lenT (.t 14)⟩),
    (2, ⟨(some 16), none, .arith .eql (.t 15) (.k (.d (.val (.int .i64 1))))⟩),
    (3, ⟨(some 17), none, .mv (.t 16)⟩),
    (4, ⟨(some 18), (some (17, true)), .fadd 1 (.t 2)⟩),
    (5, ⟨(some 19), (some (17, true)), .load (some 4) (.t 18)⟩),
    (6, ⟨(some 20), (some (17, true)), .mv (.t 1)⟩),
    (7, ⟨(some 21), (some (17, true)), .idxT (.t 20) (.k (.d (.val (.int .i64 0))))⟩),
    (8, ⟨(some 22), (some (17, true)), .call 89 [(.t 19), (.t 21)] none false⟩),
    (9, ⟨(some 23), none, .pick (.t 17) (.t 22) (.k (.d (.val (.bool false))))⟩),
    (10, ⟨(some 4), none, .mv (.t 23)⟩)] (some [4])) .ret) (.seq (.ops 2 [
    (0, ⟨(some 25), none, .arith .eql (.t 7) (.k (.d (.val (.int .i64 3))))⟩),
    (1, ⟨(some 24), none, .mv (.t 25)⟩)] (some [1, 2, 7, 24])) (.cond (.t 24) (.seq (.ops 5 [
    (0, ⟨(some 26), none, .fadd 7 (.t 2)⟩),
    (1, ⟨(some 27), none, .load none (.t 26)⟩),
    (2, ⟨(some 28), none, .mv (.t 1)⟩),
    (3, ⟨(some 29), none, .call 90 [(.t 27), (.t 28)] none false⟩),
    (4, ⟨(some 4), none, .mv (.t 29)⟩)] (some [4])) .ret) (.seq (.ops 2 [
    (0, ⟨(some 31), none, .arith .eql (.t 7) (.k (.d (.val (.int .i64 4))))⟩),
    (1, ⟨(some 30), none, .mv (.t 31)⟩)] (some [1, 2, 7, 30])) (.cond (.t 30) (.seq (.seq (.ops 1 [
    (0, ⟨(some 5), none, .mv (.k (.d (.val (.int .i64 0))))⟩)] (some [1, 2, 5])) (.block 1 (.loop (.seq (.seq (.ops 5 [
    (0, ⟨(some 32), none, .mv (.t 5)⟩),
    (1, ⟨(some 33), none, .fadd 7 (.t 2)⟩),
    (2, ⟨(some 34), none, .load none (.t 33)⟩),
    (3, ⟨(some 35), none, .lenS (.t 34)⟩),
    (4, ⟨(some 36), none, .arith .lss (.t 32) (.t 35)⟩)] (some [1, 2, 5, 36])) (.cond (.t 36) .skip (.exit 1))) (.seq (.block 2 (.seq (.ops 7 [
    (0, ⟨(some 39), none, .fadd 7 (.t 2)⟩),
    (1, ⟨(some 40), none, .load none (.t 39)⟩),
    (2, ⟨(some 41), none, .mv (.t 5)⟩),
    (3, ⟨(some 42), none, .idxS 8 (.t 40) (.t 41)⟩),
    (4, ⟨(some 43), none, .load (some 8) (.t 42)⟩),
    (5, ⟨(some 44), none, .mv (.t 1)⟩),
    (6, ⟨(some 45), none, .call 39 [(.t 43), (.t 44)] none false⟩)] (some [1, 2, 5, 45])) (.cond (.t 45) (.seq (.ops 1 [
    (0, ⟨(some 4), none, .mv (.k (.d (.val (.bool true))))⟩)] (some [4])) .ret) .skip))) (.ops 3 [
    (0, ⟨(some 37), none, .mv (.t 5)⟩),
    (1, ⟨(some 38), none, .arith .add (.t 37) (.k (.d (.val (.int .i64 1))))⟩),
    (2, ⟨(some 5), none, .mv (.t 38)⟩)] (some [1, 2, 5]))))))) (.seq (.ops 1 [
    (0, ⟨(some 4), none, .mv (.k (.d (.val (.bool false))))⟩)] (some [4])) .ret)) (.seq (.ops 2 [
    (0, ⟨(some 47), none, .arith .eql (.t 7) (.k (.d (.val (.int .i64 5))))⟩),
    (1, ⟨(some 46), none, .mv (.t 47)⟩)] (some [1, 2, 46])) (.cond (.t 46) (.seq (.ops 4 [
    (0, ⟨(some 48), none, .load (some 8) (.t 2)⟩),
    (1, ⟨(some 49), none, .mv (.t 1)⟩),
    (2, ⟨(some 50), none, .call 91 [(.t 48), (.t 49), (.k (.d (.val (.int .i64 0))))] none false⟩),
    (3, ⟨(some 4), none, .mv (.t 50)⟩)] (some [4])) .ret) .skip)))))))))))) (.seq (.ops 1 [
    (0, ⟨(some 4), none, .mv (.k (.d (.val (.bool false))))⟩)] (some [4])) .ret)))
def md39 : FuncId → Option Nat × Bool
  | _ => (none, false)
def od39 : Nat → List (List Nat) × List Nat × Option (List Nat)
  | 0 => ([], [], some [1, 2])
  | 1 => ([], [], some [1, 2, 7])
  | 2 => ([], [], some [1, 2, 7, 8])
  | 3 => ([], [], some [4])
  | 4 => ([], [], some [1, 2, 7, 12])
  | 5 => ([[], [0], [0, 1], [0, 1, 2], [0, 1, 2, 3], [0, 1, 2, 3, 4], [0, 1, 2, 3], [0, 1, 2, 3, 6], [0, 1, 2, 3, 4, 5, 6, 7], [0, 1, 2, 3, 4, 5, 6, 7, 8], [0, 1, 2, 3, 4, 5, 6, 7, 8, 9]], [0, 1, 2, 3, 4, 5, 6, 7, 8, 9, 10], some [4])
  | 6 => ([], [], some [1, 2, 7, 24])
  | 7 => ([], [], some [4])
  | 8 => ([], [], some [1, 2, 7, 30])
  | 9 => ([], [], some [1, 2, 5])
  | 10 => ([], [], some [1, 2, 5, 36])
  | 11 => ([], [], some [1, 2, 5])
  | 12 => ([], [], some [1, 2, 5, 45])
  | 13 => ([], [], some [4])
  | 14 => ([], [], some [4])
  | 15 => ([], [], some [1, 2, 46])
  | 16 => ([], [], some [4])
  | 17 => ([], [], some [4])
  | _ => ([], [], none)
theorem b39 {ags : List AV} {row : Option (List DV)} {r : AV} {row' nw : Option (List DV)} (hal : ags.length ≤ 51) (hrow : row'.isSome = true → row.isSome = true) (h : xwp Try.prog x39 (retK [.tmp 4] row.isSome r row' nw) (St.init ags row)) : Good Try.prog 39 ags row r row' nw :=
  good_of_body' (md := md39) (od := od39) Try.f39 (by kernel_rfl) (by kernel_rfl) (by kernel_rfl) (by kernel_rfl) (by kernel_rfl) hal hrow h

def x4 : XC := (.seq (.ops 2 [
    (0, ⟨(some 2), none, .box (.t 0)⟩),
    (1, ⟨(some 4), none, .mv (.k (.d (.val (.bool false))))⟩)] (some [1, 2])) (.seq (.seq (.ops 23 [
    (0, ⟨(some 5), none, .call 29 [] none false⟩),
    (1, ⟨(some 6), none, .un .not (.t 5)⟩),
    (2, ⟨(some 7), none, .mv (.t 6)⟩),
    (3, ⟨(some 8), (some (7, false)), .load (some 8) (.t 2)⟩),
    (4, ⟨(some 9), (some (7, false)), .mv (.t 1)⟩),
    (5, ⟨(some 10), (some (7, false)), .call 30 [(.t 8), (.t 9)] none false⟩),
    (6, ⟨(some 11), (some (7, false)), .un .not (.t 10)⟩),
    (7, ⟨(some 12), none, .pick (.t 7) (.k (.d (.val (.bool true)))) (.t 11)⟩),
    (8, ⟨(some 13), none, .mv (.t 12)⟩),
    (9, ⟨(some 14), (some (13, false)), .mv (.t 1)⟩),
    (10, ⟨(some 15), (some (13, false)), .lenT (.t 14)⟩),
    (11, ⟨(some 16), (some (13, false)), .arith .gtr (.t 15) (.k (.d (.val (.int .i64 6))))⟩),
    (12, ⟨(some 17), none, .pick (.t 13) (.k (.d (.val (.bool true)))) (.t 16)⟩),
    (13, ⟨(some 18), none, .mv (.t 17)⟩),
    (14, ⟨(some 19), (some (18, false)), .load (some 8) (.t 2)⟩),
    (15, ⟨(some 20), (some (18, false)), .call 32 [(.t 19)] none false⟩),
    (16, ⟨(some 21), (some (18, false)), .un .not (.t 20)⟩),
    (17, ⟨(some 22), none, .pick (.t 18) (.k (.d (.val (.bool true)))) (.t 21)⟩),
    (18, ⟨(some 23), none, .mv (.t 22)⟩),
    (19, ⟨(some 24), (some (23, false)), .load (some 8) (.t 2)⟩),
    (20, ⟨(some 25), (some (23, false)), .call 38 [(.t 24)] none false⟩),
    (21, ⟨(some 26), (some (23, false)), .arith .gtr (.t 25) (.k (.d (.val (.int .i64 60))))⟩),
    (22, ⟨(some 27), none, .pick (.t 23) (.k (.d (.val (.bool true)))) (.t 26)⟩)] (some [1, 2, 27])) (.cond (.t 27) (.seq (.ops 2 [
    (0, ⟨(some 28), none, .call 29 [] none false⟩),
    (1, ⟨(some 4), none, .mv (.t 28)⟩)] (some [4])) .ret) .skip)) (.seq (.ops 8 [
    (0, ⟨(some 29), none, .load (some 8) (.t 2)⟩),
    (1, ⟨(some 30), none, .mv (.t 1)⟩),
    (2, ⟨(some 31), none, .call 33 [(.t 29), (.t 30)] none false⟩),
    (3, ⟨(some 32), none, .load (some 8) (.t 2)⟩),
    (4, ⟨(some 33), none, .mv (.t 1)⟩),
    (5, ⟨(some 34), none, .call 39 [(.t 32), (.t 33)] none false⟩),
    (6, ⟨(some 35), none, .beq false (.t 31) (.t 34)⟩),
    (7, ⟨(some 4), none, .mv (.t 35)⟩)] (some [4])) .ret)))
def md4 : FuncId → Option Nat × Bool
  | _ => (none, false)
def od4 : Nat → List (List Nat) × List Nat × Option (List Nat)
  | 0 => ([], [], some [1, 2])
  | 1 => ([], [], some [1, 2, 27])
  | 2 => ([], [], some [4])
  | 3 => ([[], [], [0, 1], [], [], [0, 1, 2, 3, 4], [0, 1, 2, 3, 4, 5], [0, 1, 2, 3, 4, 5, 6]], [0, 1, 2, 3, 4, 5, 6, 7], some [4])
  | _ => ([], [], none)
theorem b4 {ags : List AV} {row : Option (List DV)} {r : AV} {row' nw : Option (List DV)} (hal : ags.length ≤ 36) (hrow : row'.isSome = true → row.isSome = true) (h : xwp Try.prog x4 (retK [.tmp 4] row.isSome r row' nw) (St.init ags row)) : Good Try.prog 4 ags row r row' nw :=
  good_of_body' (md := md4) (od := od4) Try.f4 (by kernel_rfl) (by kernel_rfl) (by kernel_rfl) (by kernel_rfl) (by kernel_rfl) hal hrow h

set_option maxRecDepth 100000
set_option maxHeartbeats 4000000
theorem altL_drop (l : List T) (w : List Nat) (i : Nat) (h : i < l.length) : altL (l.drop i) w ↔ L l[i] w ∨ altL (l.drop (i + 1)) w := by
  rw [List.drop_eq_getElem_cons h, altL]
attribute [local irreducible] W E R KP thenK blockK retK Good xwp aRun
theorem is_good : ∀ (n : Nat) (t : T), t.cnt ≤ n → n ≤ 1000000 → okT t → IsOK t := by
  intro n
  induction n with
  | zero => intro t ht; have := cnt_pos t; omega
  | succ n ih =>
  intro t ht hc hok s hs bb hb
  obtain ⟨k, a, b, c, d, mn, mx, subs⟩ := t
  have hR := okT_R hok
  simp only [okT, okN] at hok
  obtain ⟨⟨ha, hbw, hcc, hd, hpl⟩, hoks⟩ := hok
  have ih' : ∀ i (h : i < subs.length), IsOK subs[i] := by
    intro i h
    refine ih _ ?_ (by omega) (okL_get subs i h hoks)
    have := cntL_get subs i h
    simp only [T.cnt] at ht
    omega
  have hlen : subs.length ≤ 1000000 := by
    have := cntL_len subs
    simp only [T.cnt] at ht
    omega
  have e0 : nodeA (.node k a b c d mn mx subs) = .agg [.i k, .d (.val (.int .u64 a)), .d (.val (.int .u64 b)), .d (.val (.int .u64 c)), .d (.val (.int .u64 d)), .i mn, .i mx, .d (.sl (encL subs) subs.length)] := rfl
  by_cases h1 : k = 1
  · rw [e0]
    refine b39 (by simp) (by simp) (w_init ?_)
    unfold x39
    repeat' (first
    | (apply r_mvV; rfl)
    | (apply r_mvP; rfl)
    | (apply r_mvPL; rfl)
    | (apply r_mvS; rfl)
    | (apply r_mvSL; rfl)
    | (apply r_mvA; rfl)
    | (apply r_mvT; rfl)
    | (apply r_mvF; rfl)
    | (apply r_mvD; rfl)
    | (apply r_faddD; rfl)
    | (apply r_faddL; rfl)
    | (apply r_eqS0; rfl; rfl; rfl)
    | (apply r_ldL; rfl; rfl; rfl)
    | (apply r_eql; rfl; rfl; (first | (apply decide_eq_true; omega) | (apply decide_eq_false; omega) | rfl))
    | (apply r_lss; rfl; rfl; (first | (apply decide_eq_true; omega) | (apply decide_eq_false; omega) | rfl))
    | (apply r_add; rfl; rfl; rfl; omega)
    | (apply r_pickT; rfl)
    | (apply r_pickF; rfl)
    | (apply r_lenD; rfl)
    | (apply r_lenL; rfl)
    | (apply r_len0; rfl)
    | (apply r_lenT; rfl)
    | (apply r_gT; rfl)
    | (apply r_gF'; rfl; rfl)
    | (apply r_gN'; rfl)
    | ((apply r_gS (o := default); rfl) <;> (intro h; try simp only [decide_eq_true_eq, decide_eq_false_iff_not, Bool.not_eq_true, Bool.not_eq_false] at h))
    | (apply r_box; ((conv => lhs; simp only [Nat.reduceAdd]) <;> rfl); rfl; rfl; rfl)
    | (apply r_p; rfl)
    | (apply r_nilK)
    | (apply r_nil)
    | (apply k_V; rfl)
    | (apply k_P; rfl)
    | (apply k_PL; rfl)
    | (apply k_S; rfl)
    | (apply k_SL; rfl)
    | (apply k_A; rfl)
    | (apply k_T; rfl)
    | (apply k_F; rfl)
    | (apply k_D; rfl; rotate_left; rfl)
    | (apply k_nil)
    | (apply e_ret (vs := [.d (.val _)]); rfl)
    | (apply e_ret; rfl)
    | (apply e_ret' (vs := [.d (.val _)]); rfl)
    | (apply e_ret'; rfl)
    | (apply w_seq)
    | (apply w_ops; ((conv => lhs; simp only [Nat.reduceAdd]) <;> rfl))
    | (apply w_condT; rfl)
    | (apply w_condF; rfl)
    | ((apply w_condS; rfl) <;> (intro h; try simp only [decide_eq_true_eq, decide_eq_false_iff_not, Bool.not_eq_true, Bool.not_eq_false] at h))
    | (apply e_thenN)
    | (apply w_block)
    | (apply e_thenR)
    | (apply e_thenX)
    | (apply e_blkN)
    | (apply e_blkR)
    | (apply e_blkE)
    | (apply w_exit)
    | (apply w_ret)
    | (apply w_skip)
    | (apply e_blkE'; rfl))
    refine retB ?_
    rw [Bool.eq_iff_iff, hb, L, if_pos h1, wd_nil]; simp
  by_cases h2 : k = 2
  · rw [L, if_neg h1, if_pos h2] at hb
    by_cases h1s : s.size = 1
    · have e1 : wd s = [byteN s 0] := by simp only [wd, h1s]; exact word_one s 0
      have hin := in_good ha hbw hcc hd (byteN s 0) (byteN_lt s 0)
      have hv : inG a b c d (byteN s 0) = bb := by
        rw [Bool.eq_iff_iff, hb, e1]
        constructor
        · intro h; exact ⟨_, rfl, h⟩
        · rintro ⟨x, e, h⟩; cases e; exact h
      rw [hv] at hin
      rw [e0]
      refine b39 (by simp) (by simp) (w_init ?_)
      unfold x39
      repeat' (first
    | (apply r_mvV; rfl)
    | (apply r_mvP; rfl)
    | (apply r_mvPL; rfl)
    | (apply r_mvS; rfl)
    | (apply r_mvSL; rfl)
    | (apply r_mvA; rfl)
    | (apply r_mvT; rfl)
    | (apply r_mvF; rfl)
    | (apply r_mvD; rfl)
    | (apply r_faddD; rfl)
    | (apply r_faddL; rfl)
    | (apply r_idxT (j := 0); rfl; rfl; omega)
    | (apply r_callA (ags := [setA a b c d, .d (.val (.int .u8 (byteN s 0 : Nat)))]); rfl; rfl; exact hin)
    | (apply r_ldL; rfl; rfl; rfl)
    | (apply r_eql; rfl; rfl; (first | (apply decide_eq_true; omega) | (apply decide_eq_false; omega) | rfl))
    | (apply r_lss; rfl; rfl; (first | (apply decide_eq_true; omega) | (apply decide_eq_false; omega) | rfl))
    | (apply r_add; rfl; rfl; rfl; omega)
    | (apply r_pickT; rfl)
    | (apply r_pickF; rfl)
    | (apply r_lenD; rfl)
    | (apply r_lenL; rfl)
    | (apply r_len0; rfl)
    | (apply r_lenT; rfl)
    | (apply r_gT; rfl)
    | (apply r_gF'; rfl; rfl)
    | (apply r_gN'; rfl)
    | ((apply r_gS (o := default); rfl) <;> (intro h; try simp only [decide_eq_true_eq, decide_eq_false_iff_not, Bool.not_eq_true, Bool.not_eq_false] at h))
    | (apply r_box; ((conv => lhs; simp only [Nat.reduceAdd]) <;> rfl); rfl; rfl; rfl)
    | (apply r_p; rfl)
    | (apply r_nilK)
    | (apply r_nil)
    | (apply k_V; rfl)
    | (apply k_P; rfl)
    | (apply k_PL; rfl)
    | (apply k_S; rfl)
    | (apply k_SL; rfl)
    | (apply k_A; rfl)
    | (apply k_T; rfl)
    | (apply k_F; rfl)
    | (apply k_D; rfl; rotate_left; rfl)
    | (apply k_nil)
    | (apply e_ret (vs := [.d (.val _)]); rfl)
    | (apply e_ret; rfl)
    | (apply e_ret' (vs := [.d (.val _)]); rfl)
    | (apply e_ret'; rfl)
    | (apply w_seq)
    | (apply w_ops; ((conv => lhs; simp only [Nat.reduceAdd]) <;> rfl))
    | (apply w_condT; rfl)
    | (apply w_condF; rfl)
    | ((apply w_condS; rfl) <;> (intro h; try simp only [decide_eq_true_eq, decide_eq_false_iff_not, Bool.not_eq_true, Bool.not_eq_false] at h))
    | (apply e_thenN)
    | (apply w_block)
    | (apply e_thenR)
    | (apply e_thenX)
    | (apply e_blkN)
    | (apply e_blkR)
    | (apply e_blkE)
    | (apply w_exit)
    | (apply w_ret)
    | (apply w_skip)
    | (apply e_blkE'; rfl))
      exact retB rfl
    · have hbf : bb = false := by
        cases hbb : bb with
        | false => rfl
        | true =>
          obtain ⟨x, e, _⟩ := hb.1 hbb
          have h3 := congrArg List.length e
          rw [word_len] at h3
          simp at h3
          omega
      subst hbf
      rw [e0]
      refine b39 (by simp) (by simp) (w_init ?_)
      unfold x39
      repeat' (first
    | (apply r_mvV; rfl)
    | (apply r_mvP; rfl)
    | (apply r_mvPL; rfl)
    | (apply r_mvS; rfl)
    | (apply r_mvSL; rfl)
    | (apply r_mvA; rfl)
    | (apply r_mvT; rfl)
    | (apply r_mvF; rfl)
    | (apply r_mvD; rfl)
    | (apply r_faddD; rfl)
    | (apply r_faddL; rfl)
    | (apply r_l; apply ld_kind; assumption; rfl)
    | (apply r_l; apply ld_mn; assumption; rfl)
    | (apply r_l; apply ld_mx; assumption; rfl)
    | (apply r_l; apply ld_subs; assumption; rfl)
    | (apply r_l; apply ld_set; assumption; rfl)
    | (apply r_l; apply ld_node; assumption; rfl)
    | (apply r_l; apply ld_kind'; assumption; rfl)
    | (apply r_l; apply ld_mn'; assumption; rfl)
    | (apply r_l; apply ld_mx'; assumption; rfl)
    | (apply r_l; apply ld_subs'; assumption; rfl)
    | (apply r_l; apply ld_node'; assumption; rfl)
    | (apply r_ldL; rfl; rfl; rfl)
    | (apply r_eql; rfl; rfl; (first | (apply decide_eq_true; omega) | (apply decide_eq_false; omega) | rfl))
    | (apply r_lss; rfl; rfl; (first | (apply decide_eq_true; omega) | (apply decide_eq_false; omega) | rfl))
    | (apply r_add; rfl; rfl; rfl; omega)
    | (apply r_pickT; rfl)
    | (apply r_pickF; rfl)
    | (apply r_lenD; rfl)
    | (apply r_lenL; rfl)
    | (apply r_len0; rfl)
    | (apply r_lenT; rfl)
    | (apply r_gT; rfl)
    | (apply r_gF'; rfl; rfl)
    | (apply r_gN'; rfl)
    | ((apply r_gS (o := default); rfl) <;> (intro h; try simp only [decide_eq_true_eq, decide_eq_false_iff_not, Bool.not_eq_true, Bool.not_eq_false] at h))
    | (apply r_box; ((conv => lhs; simp only [Nat.reduceAdd]) <;> rfl); rfl; rfl; rfl)
    | (apply r_p; rfl)
    | (apply r_nilK)
    | (apply r_nil)
    | (apply k_V; rfl)
    | (apply k_P; rfl)
    | (apply k_PL; rfl)
    | (apply k_S; rfl)
    | (apply k_SL; rfl)
    | (apply k_A; rfl)
    | (apply k_T; rfl)
    | (apply k_F; rfl)
    | (apply k_D; rfl; rotate_left; rfl)
    | (apply k_nil)
    | (apply e_ret (vs := [.d (.val _)]); rfl)
    | (apply e_ret; rfl)
    | (apply e_ret' (vs := [.d (.val _)]); rfl)
    | (apply e_ret'; rfl)
    | (apply w_seq)
    | (apply w_ops; ((conv => lhs; simp only [Nat.reduceAdd]) <;> rfl))
    | (apply w_condT; rfl)
    | (apply w_condF; rfl)
    | ((apply w_condS; rfl) <;> (intro h; try simp only [decide_eq_true_eq, decide_eq_false_iff_not, Bool.not_eq_true, Bool.not_eq_false] at h))
    | (apply e_thenN)
    | (apply w_block)
    | (apply e_thenR)
    | (apply e_thenX)
    | (apply e_blkN)
    | (apply e_blkR)
    | (apply e_blkE)
    | (apply w_exit)
    | (apply w_ret)
    | (apply w_skip)
    | (apply e_blkE'; rfl))
      exact retB rfl
  by_cases h3 : k = 3
  · rw [L, if_neg h1, if_neg h2, if_pos h3] at hb
    have hrow := row_good subs hlen (fun t ht => by
      obtain ⟨i, hi, rfl⟩ := List.mem_iff_getElem.1 ht
      exact ih' i hi) s hs bb hb
    rw [e0]
    refine b39 (by simp) (by simp) (w_init ?_)
    unfold x39
    repeat' (first
    | (apply r_mvV; rfl)
    | (apply r_mvP; rfl)
    | (apply r_mvPL; rfl)
    | (apply r_mvS; rfl)
    | (apply r_mvSL; rfl)
    | (apply r_mvA; rfl)
    | (apply r_mvT; rfl)
    | (apply r_mvF; rfl)
    | (apply r_mvD; rfl)
    | (apply r_faddD; rfl)
    | (apply r_faddL; rfl)
    | (apply r_callA; rfl; rfl; exact hrow)
    | (apply r_ldL; rfl; rfl; rfl)
    | (apply r_eql; rfl; rfl; (first | (apply decide_eq_true; omega) | (apply decide_eq_false; omega) | rfl))
    | (apply r_lss; rfl; rfl; (first | (apply decide_eq_true; omega) | (apply decide_eq_false; omega) | rfl))
    | (apply r_add; rfl; rfl; rfl; omega)
    | (apply r_pickT; rfl)
    | (apply r_pickF; rfl)
    | (apply r_lenD; rfl)
    | (apply r_lenL; rfl)
    | (apply r_len0; rfl)
    | (apply r_lenT; rfl)
    | (apply r_gT; rfl)
    | (apply r_gF'; rfl; rfl)
    | (apply r_gN'; rfl)
    | ((apply r_gS (o := default); rfl) <;> (intro h; try simp only [decide_eq_true_eq, decide_eq_false_iff_not, Bool.not_eq_true, Bool.not_eq_false] at h))
    | (apply r_box; ((conv => lhs; simp only [Nat.reduceAdd]) <;> rfl); rfl; rfl; rfl)
    | (apply r_p; rfl)
    | (apply r_nilK)
    | (apply r_nil)
    | (apply k_V; rfl)
    | (apply k_P; rfl)
    | (apply k_PL; rfl)
    | (apply k_S; rfl)
    | (apply k_SL; rfl)
    | (apply k_A; rfl)
    | (apply k_T; rfl)
    | (apply k_F; rfl)
    | (apply k_D; rfl; rotate_left; rfl)
    | (apply k_nil)
    | (apply e_ret (vs := [.d (.val _)]); rfl)
    | (apply e_ret; rfl)
    | (apply e_ret' (vs := [.d (.val _)]); rfl)
    | (apply e_ret'; rfl)
    | (apply w_seq)
    | (apply w_ops; ((conv => lhs; simp only [Nat.reduceAdd]) <;> rfl))
    | (apply w_condT; rfl)
    | (apply w_condF; rfl)
    | ((apply w_condS; rfl) <;> (intro h; try simp only [decide_eq_true_eq, decide_eq_false_iff_not, Bool.not_eq_true, Bool.not_eq_false] at h))
    | (apply e_thenN)
    | (apply w_block)
    | (apply e_thenR)
    | (apply e_thenX)
    | (apply e_blkN)
    | (apply e_blkR)
    | (apply e_blkE)
    | (apply w_exit)
    | (apply w_ret)
    | (apply w_skip)
    | (apply e_blkE'; rfl))
    exact retB rfl
  by_cases h4 : k = 4
  · rw [L, if_neg h1, if_neg h2, if_neg h3, if_pos h4] at hb
    rw [e0]
    refine b39 (by simp) (by simp) (w_init ?_)
    unfold x39
    repeat' (first
    | (apply r_mvV; rfl)
    | (apply r_mvP; rfl)
    | (apply r_mvPL; rfl)
    | (apply r_mvS; rfl)
    | (apply r_mvSL; rfl)
    | (apply r_mvA; rfl)
    | (apply r_mvT; rfl)
    | (apply r_mvF; rfl)
    | (apply r_mvD; rfl)
    | (apply r_faddD; rfl)
    | (apply r_faddL; rfl)
    | (apply r_l; apply ld_kind; assumption; rfl)
    | (apply r_l; apply ld_mn; assumption; rfl)
    | (apply r_l; apply ld_mx; assumption; rfl)
    | (apply r_l; apply ld_subs; assumption; rfl)
    | (apply r_l; apply ld_set; assumption; rfl)
    | (apply r_l; apply ld_node; assumption; rfl)
    | (apply r_l; apply ld_kind'; assumption; rfl)
    | (apply r_l; apply ld_mn'; assumption; rfl)
    | (apply r_l; apply ld_mx'; assumption; rfl)
    | (apply r_l; apply ld_subs'; assumption; rfl)
    | (apply r_l; apply ld_node'; assumption; rfl)
    | (apply r_ldL; rfl; rfl; rfl)
    | (apply r_eql; rfl; rfl; (first | (apply decide_eq_true; omega) | (apply decide_eq_false; omega) | rfl))
    | (apply r_lss; rfl; rfl; (first | (apply decide_eq_true; omega) | (apply decide_eq_false; omega) | rfl))
    | (apply r_add; rfl; rfl; rfl; omega)
    | (apply r_pickT; rfl)
    | (apply r_pickF; rfl)
    | (apply r_lenD; rfl)
    | (apply r_lenL; rfl)
    | (apply r_len0; rfl)
    | (apply r_lenT; rfl)
    | (apply r_gT; rfl)
    | (apply r_gF'; rfl; rfl)
    | (apply r_gN'; rfl)
    | ((apply r_gS (o := default); rfl) <;> (intro h; try simp only [decide_eq_true_eq, decide_eq_false_iff_not, Bool.not_eq_true, Bool.not_eq_false] at h))
    | (apply r_box; ((conv => lhs; simp only [Nat.reduceAdd]) <;> rfl); rfl; rfl; rfl)
    | (apply r_p; rfl)
    | (apply r_nilK)
    | (apply r_nil)
    | (apply k_V; rfl)
    | (apply k_P; rfl)
    | (apply k_PL; rfl)
    | (apply k_S; rfl)
    | (apply k_SL; rfl)
    | (apply k_A; rfl)
    | (apply k_T; rfl)
    | (apply k_F; rfl)
    | (apply k_D; rfl; rotate_left; rfl)
    | (apply k_nil)
    | (apply e_ret (vs := [.d (.val _)]); rfl)
    | (apply e_ret; rfl)
    | (apply e_ret' (vs := [.d (.val _)]); rfl)
    | (apply e_ret'; rfl)
    | (apply w_seq)
    | (apply w_ops; ((conv => lhs; simp only [Nat.reduceAdd]) <;> rfl))
    | (apply w_condT; rfl)
    | (apply w_condF; rfl)
    | ((apply w_condS; rfl) <;> (intro h; try simp only [decide_eq_true_eq, decide_eq_false_iff_not, Bool.not_eq_true, Bool.not_eq_false] at h))
    | (apply e_thenN)
    | (apply w_block)
    | (apply e_thenR)
    | (apply e_thenX)
    | (apply e_blkN)
    | (apply e_blkR)
    | (apply e_blkE)
    | (apply w_exit)
    | (apply w_ret)
    | (apply w_skip)
    | (apply e_blkE'; rfl))
    apply w_loopI (S := fun i : Nat => ⟨((Fr.nil.put 1 (.d (.val (.string s)))).put 2 (.ptrL 1 0)).put 5 (.i i), Heap.nil.put 1 [.i k, .d (.val (.int .u64 a)), .d (.val (.int .u64 b)), .d (.val (.int .u64 c)), .d (.val (.int .u64 d)), .i mn, .i mx, .d (.sl (encL subs) subs.length)], Frz.lo 100, 100⟩) (m := fun i => subs.length - i) (I := fun i => i ≤ subs.length ∧ (altL subs (wd s) ↔ altL (subs.drop i) (wd s))) (i0 := 0)
    · exact ⟨Nat.zero_le _, by simp⟩
    · refine wkR (by omega) rfl rfl ?_
      repeat' (first
    | exact FWk.nil
    | (apply FWk.i; rfl; (first | rfl | omega | (simp; done)))
    | (apply FWk.sl; rfl; rfl; rfl; rfl; omega; rfl)
    | (apply FWk.ptr; rfl; rfl; rfl; omega; rfl)
    | (apply FWk.d; rfl; rfl)
    | (apply FWk.a; rfl; rfl; rfl)
    | (apply FWk.slN; rfl; omega; rfl))
    rintro i K ⟨hi, hm⟩ hK
    dsimp only
    rcases Nat.lt_or_ge i subs.length with hlt | hge
    · have hsb := NodeAt.sub hlt
      have hdr := altL_drop subs (wd s) i hlt
      have hna : [nodeA subs[i], .d (.val (.string s))].all AV.nrm = true := by rw [List.all_cons, nodeA_nrm]; rfl
      by_cases hli : L subs[i] (wd s)
      · have g1 := ih' i hlt s hs true (by simp [hli])
        repeat' (first
    | (apply r_mvV; rfl)
    | (apply r_mvP; rfl)
    | (apply r_mvPL; rfl)
    | (apply r_mvS; rfl)
    | (apply r_mvSL; rfl)
    | (apply r_mvA; rfl)
    | (apply r_mvT; rfl)
    | (apply r_mvF; rfl)
    | (apply r_mvD; rfl)
    | (apply r_faddD; rfl)
    | (apply r_faddL; rfl)
    | (apply r_l; apply ld_kind; assumption; rfl)
    | (apply r_l; apply ld_mn; assumption; rfl)
    | (apply r_l; apply ld_mx; assumption; rfl)
    | (apply r_l; apply ld_subs; assumption; rfl)
    | (apply r_l; apply ld_set; assumption; rfl)
    | (apply r_l; apply ld_node; assumption; rfl)
    | (apply r_l; apply ld_kind'; assumption; rfl)
    | (apply r_l; apply ld_mn'; assumption; rfl)
    | (apply r_l; apply ld_mx'; assumption; rfl)
    | (apply r_l; apply ld_subs'; assumption; rfl)
    | (apply r_l; apply ld_node'; assumption; rfl)
    | (apply r_p; apply ix_sub; rfl; rfl; omega)
    | (apply r_callA (ags := [nodeA subs[i], .d (.val (.string s))]); rfl; exact hna; exact g1)
    | (apply r_ldL; rfl; rfl; rfl)
    | (apply r_eql; rfl; rfl; (first | (apply decide_eq_true; omega) | (apply decide_eq_false; omega) | rfl))
    | (apply r_lss; rfl; rfl; (first | (apply decide_eq_true; omega) | (apply decide_eq_false; omega) | rfl))
    | (apply r_add; rfl; rfl; rfl; omega)
    | (apply r_pickT; rfl)
    | (apply r_pickF; rfl)
    | (apply r_lenD; rfl)
    | (apply r_lenL; rfl)
    | (apply r_len0; rfl)
    | (apply r_lenT; rfl)
    | (apply r_gT; rfl)
    | (apply r_gF'; rfl; rfl)
    | (apply r_gN'; rfl)
    | ((apply r_gS (o := default); rfl) <;> (intro h; try simp only [decide_eq_true_eq, decide_eq_false_iff_not, Bool.not_eq_true, Bool.not_eq_false] at h))
    | (apply r_box; ((conv => lhs; simp only [Nat.reduceAdd]) <;> rfl); rfl; rfl; rfl)
    | (apply r_p; rfl)
    | (apply r_nilK)
    | (apply r_nil)
    | (apply k_V; rfl)
    | (apply k_P; rfl)
    | (apply k_PL; rfl)
    | (apply k_S; rfl)
    | (apply k_SL; rfl)
    | (apply k_A; rfl)
    | (apply k_T; rfl)
    | (apply k_F; rfl)
    | (apply k_D; rfl; rotate_left; rfl)
    | (apply k_nil)
    | (apply e_ret (vs := [.d (.val _)]); rfl)
    | (apply e_ret; rfl)
    | (apply e_ret' (vs := [.d (.val _)]); rfl)
    | (apply e_ret'; rfl)
    | (apply w_seq)
    | (apply w_ops; ((conv => lhs; simp only [Nat.reduceAdd]) <;> rfl))
    | (apply w_condT; rfl)
    | (apply w_condF; rfl)
    | ((apply w_condS; rfl) <;> (intro h; try simp only [decide_eq_true_eq, decide_eq_false_iff_not, Bool.not_eq_true, Bool.not_eq_false] at h))
    | (apply e_thenN)
    | (apply w_block)
    | (apply e_thenR)
    | (apply e_thenX)
    | (apply e_blkN)
    | (apply e_blkR)
    | (apply e_blkE)
    | (apply w_exit)
    | (apply w_ret)
    | (apply w_skip)
    | (apply e_blkE'; rfl))
        refine retB ?_
        symm; exact hb.2 (hm.2 (hdr.2 (.inl hli)))
      · have g1 := ih' i hlt s hs false (by simp [hli])
        repeat' (first
    | (apply r_mvV; rfl)
    | (apply r_mvP; rfl)
    | (apply r_mvPL; rfl)
    | (apply r_mvS; rfl)
    | (apply r_mvSL; rfl)
    | (apply r_mvA; rfl)
    | (apply r_mvT; rfl)
    | (apply r_mvF; rfl)
    | (apply r_mvD; rfl)
    | (apply r_faddD; rfl)
    | (apply r_faddL; rfl)
    | (apply r_l; apply ld_kind; assumption; rfl)
    | (apply r_l; apply ld_mn; assumption; rfl)
    | (apply r_l; apply ld_mx; assumption; rfl)
    | (apply r_l; apply ld_subs; assumption; rfl)
    | (apply r_l; apply ld_set; assumption; rfl)
    | (apply r_l; apply ld_node; assumption; rfl)
    | (apply r_l; apply ld_kind'; assumption; rfl)
    | (apply r_l; apply ld_mn'; assumption; rfl)
    | (apply r_l; apply ld_mx'; assumption; rfl)
    | (apply r_l; apply ld_subs'; assumption; rfl)
    | (apply r_l; apply ld_node'; assumption; rfl)
    | (apply r_p; apply ix_sub; rfl; rfl; omega)
    | (apply r_callA (ags := [nodeA subs[i], .d (.val (.string s))]); rfl; exact hna; exact g1)
    | (apply r_ldL; rfl; rfl; rfl)
    | (apply r_eql; rfl; rfl; (first | (apply decide_eq_true; omega) | (apply decide_eq_false; omega) | rfl))
    | (apply r_lss; rfl; rfl; (first | (apply decide_eq_true; omega) | (apply decide_eq_false; omega) | rfl))
    | (apply r_add; rfl; rfl; rfl; omega)
    | (apply r_pickT; rfl)
    | (apply r_pickF; rfl)
    | (apply r_lenD; rfl)
    | (apply r_lenL; rfl)
    | (apply r_len0; rfl)
    | (apply r_lenT; rfl)
    | (apply r_gT; rfl)
    | (apply r_gF'; rfl; rfl)
    | (apply r_gN'; rfl)
    | ((apply r_gS (o := default); rfl) <;> (intro h; try simp only [decide_eq_true_eq, decide_eq_false_iff_not, Bool.not_eq_true, Bool.not_eq_false] at h))
    | (apply r_box; ((conv => lhs; simp only [Nat.reduceAdd]) <;> rfl); rfl; rfl; rfl)
    | (apply r_p; rfl)
    | (apply r_nilK)
    | (apply r_nil)
    | (apply k_V; rfl)
    | (apply k_P; rfl)
    | (apply k_PL; rfl)
    | (apply k_S; rfl)
    | (apply k_SL; rfl)
    | (apply k_A; rfl)
    | (apply k_T; rfl)
    | (apply k_F; rfl)
    | (apply k_D; rfl; rotate_left; rfl)
    | (apply k_nil)
    | (apply e_ret (vs := [.d (.val _)]); rfl)
    | (apply e_ret; rfl)
    | (apply e_ret' (vs := [.d (.val _)]); rfl)
    | (apply e_ret'; rfl)
    | (apply w_seq)
    | (apply w_ops; ((conv => lhs; simp only [Nat.reduceAdd]) <;> rfl))
    | (apply w_condT; rfl)
    | (apply w_condF; rfl)
    | ((apply w_condS; rfl) <;> (intro h; try simp only [decide_eq_true_eq, decide_eq_false_iff_not, Bool.not_eq_true, Bool.not_eq_false] at h))
    | (apply e_thenN)
    | (apply w_block)
    | (apply e_thenR)
    | (apply e_thenX)
    | (apply e_blkN)
    | (apply e_blkR)
    | (apply e_blkE)
    | (apply w_exit)
    | (apply w_ret)
    | (apply w_skip)
    | (apply e_blkE'; rfl))
        apply e_thenK
        apply hK (i + 1)
        · refine ⟨by omega, hm.trans (hdr.trans ?_)⟩
          simp [hli]
        · omega
        · refine wkR (by omega) rfl rfl ?_
          repeat' (first
    | exact FWk.nil
    | (apply FWk.i; rfl; (first | rfl | omega | (simp; done)))
    | (apply FWk.sl; rfl; rfl; rfl; rfl; omega; rfl)
    | (apply FWk.ptr; rfl; rfl; rfl; omega; rfl)
    | (apply FWk.d; rfl; rfl)
    | (apply FWk.a; rfl; rfl; rfl)
    | (apply FWk.slN; rfl; omega; rfl))
    · repeat' (first
    | (apply r_mvV; rfl)
    | (apply r_mvP; rfl)
    | (apply r_mvPL; rfl)
    | (apply r_mvS; rfl)
    | (apply r_mvSL; rfl)
    | (apply r_mvA; rfl)
    | (apply r_mvT; rfl)
    | (apply r_mvF; rfl)
    | (apply r_mvD; rfl)
    | (apply r_faddD; rfl)
    | (apply r_faddL; rfl)
    | (apply r_l; apply ld_kind; assumption; rfl)
    | (apply r_l; apply ld_mn; assumption; rfl)
    | (apply r_l; apply ld_mx; assumption; rfl)
    | (apply r_l; apply ld_subs; assumption; rfl)
    | (apply r_l; apply ld_set; assumption; rfl)
    | (apply r_l; apply ld_node; assumption; rfl)
    | (apply r_l; apply ld_kind'; assumption; rfl)
    | (apply r_l; apply ld_mn'; assumption; rfl)
    | (apply r_l; apply ld_mx'; assumption; rfl)
    | (apply r_l; apply ld_subs'; assumption; rfl)
    | (apply r_l; apply ld_node'; assumption; rfl)
    | (apply r_ldL; rfl; rfl; rfl)
    | (apply r_eql; rfl; rfl; (first | (apply decide_eq_true; omega) | (apply decide_eq_false; omega) | rfl))
    | (apply r_lss; rfl; rfl; (first | (apply decide_eq_true; omega) | (apply decide_eq_false; omega) | rfl))
    | (apply r_add; rfl; rfl; rfl; omega)
    | (apply r_pickT; rfl)
    | (apply r_pickF; rfl)
    | (apply r_lenD; rfl)
    | (apply r_lenL; rfl)
    | (apply r_len0; rfl)
    | (apply r_lenT; rfl)
    | (apply r_gT; rfl)
    | (apply r_gF'; rfl; rfl)
    | (apply r_gN'; rfl)
    | ((apply r_gS (o := default); rfl) <;> (intro h; try simp only [decide_eq_true_eq, decide_eq_false_iff_not, Bool.not_eq_true, Bool.not_eq_false] at h))
    | (apply r_box; ((conv => lhs; simp only [Nat.reduceAdd]) <;> rfl); rfl; rfl; rfl)
    | (apply r_p; rfl)
    | (apply r_nilK)
    | (apply r_nil)
    | (apply k_V; rfl)
    | (apply k_P; rfl)
    | (apply k_PL; rfl)
    | (apply k_S; rfl)
    | (apply k_SL; rfl)
    | (apply k_A; rfl)
    | (apply k_T; rfl)
    | (apply k_F; rfl)
    | (apply k_D; rfl; rotate_left; rfl)
    | (apply k_nil)
    | (apply e_ret (vs := [.d (.val _)]); rfl)
    | (apply e_ret; rfl)
    | (apply e_ret' (vs := [.d (.val _)]); rfl)
    | (apply e_ret'; rfl)
    | (apply w_seq)
    | (apply w_ops; ((conv => lhs; simp only [Nat.reduceAdd]) <;> rfl))
    | (apply w_condT; rfl)
    | (apply w_condF; rfl)
    | ((apply w_condS; rfl) <;> (intro h; try simp only [decide_eq_true_eq, decide_eq_false_iff_not, Bool.not_eq_true, Bool.not_eq_false] at h))
    | (apply e_thenN)
    | (apply w_block)
    | (apply e_thenR)
    | (apply e_thenX)
    | (apply e_blkN)
    | (apply e_blkR)
    | (apply e_blkE)
    | (apply w_exit)
    | (apply w_ret)
    | (apply w_skip)
    | (apply e_blkE'; rfl))
      refine retB ?_
      symm
      cases hbb : bb with
      | false => rfl
      | true =>
        have := hm.1 (hb.1 hbb)
        rw [List.drop_of_length_le (by omega), altL] at this
        exact this.elim
  by_cases h5 : k = 5
  · have hR5 := hR h5
    have hl0 : 0 < subs.length := by
      simp [plainT, h5] at hpl
      omega
    obtain ⟨m, rfl⟩ := Int.eq_ofNat_of_zero_le hR5.1.1
    have hbo : bb = true ↔ oftenP (L (subs[0]'hl0)) (m : Nat) mx 0 (wd s) := by
      rw [hb, L, if_neg h1, if_neg h2, if_neg h3, if_neg h4, if_pos h5]
      have e : fstL subs = L (subs[0]'hl0) := by
        match subs, hl0 with
        | t :: l, _ => rfl
      rw [e]
      unfold oftenP
      refine exists_congr fun r => ?_
      rw [show ((0 : Nat) : Int) + (r : Int) = r by omega]
    have hof := often_good (k := k) (a := a) (b := b) (c := c) (d := d) (mx := mx) (mn := m) (subs := subs) (by omega) hR5.2 hl0 (ih' 0 hl0) (s.size + m + 1) s 0 hs (by omega) (by omega) (by omega) bb hbo
    have hna : [nodeA (.node k a b c d (m : Nat) mx subs), .d (.val (.string s)), .i (0 : Nat)].all AV.nrm = true := by rw [List.all_cons, nodeA_nrm]; rfl
    rw [e0]
    refine b39 (by simp) (by simp) (w_init ?_)
    unfold x39
    repeat' (first
    | (apply r_mvV; rfl)
    | (apply r_mvP; rfl)
    | (apply r_mvPL; rfl)
    | (apply r_mvS; rfl)
    | (apply r_mvSL; rfl)
    | (apply r_mvA; rfl)
    | (apply r_mvT; rfl)
    | (apply r_mvF; rfl)
    | (apply r_mvD; rfl)
    | (apply r_faddD; rfl)
    | (apply r_faddL; rfl)
    | (apply r_ldL (v := nodeA (.node k a b c d (m : Nat) mx subs)); rfl; rfl; rfl)
    | (apply r_callA (ags := [nodeA (.node k a b c d (m : Nat) mx subs), .d (.val (.string s)), .i (0 : Nat)]); rfl; exact hna; exact hof)
    | (apply r_ldL; rfl; rfl; rfl)
    | (apply r_eql; rfl; rfl; (first | (apply decide_eq_true; omega) | (apply decide_eq_false; omega) | rfl))
    | (apply r_lss; rfl; rfl; (first | (apply decide_eq_true; omega) | (apply decide_eq_false; omega) | rfl))
    | (apply r_add; rfl; rfl; rfl; omega)
    | (apply r_pickT; rfl)
    | (apply r_pickF; rfl)
    | (apply r_lenD; rfl)
    | (apply r_lenL; rfl)
    | (apply r_len0; rfl)
    | (apply r_lenT; rfl)
    | (apply r_gT; rfl)
    | (apply r_gF'; rfl; rfl)
    | (apply r_gN'; rfl)
    | ((apply r_gS (o := default); rfl) <;> (intro h; try simp only [decide_eq_true_eq, decide_eq_false_iff_not, Bool.not_eq_true, Bool.not_eq_false] at h))
    | (apply r_box; ((conv => lhs; simp only [Nat.reduceAdd]) <;> rfl); rfl; rfl; rfl)
    | (apply r_p; rfl)
    | (apply r_nilK)
    | (apply r_nil)
    | (apply k_V; rfl)
    | (apply k_P; rfl)
    | (apply k_PL; rfl)
    | (apply k_S; rfl)
    | (apply k_SL; rfl)
    | (apply k_A; rfl)
    | (apply k_T; rfl)
    | (apply k_F; rfl)
    | (apply k_D; rfl; rotate_left; rfl)
    | (apply k_nil)
    | (apply e_ret (vs := [.d (.val _)]); rfl)
    | (apply e_ret; rfl)
    | (apply e_ret' (vs := [.d (.val _)]); rfl)
    | (apply e_ret'; rfl)
    | (apply w_seq)
    | (apply w_ops; ((conv => lhs; simp only [Nat.reduceAdd]) <;> rfl))
    | (apply w_condT; rfl)
    | (apply w_condF; rfl)
    | ((apply w_condS; rfl) <;> (intro h; try simp only [decide_eq_true_eq, decide_eq_false_iff_not, Bool.not_eq_true, Bool.not_eq_false] at h))
    | (apply e_thenN)
    | (apply w_block)
    | (apply e_thenR)
    | (apply e_thenX)
    | (apply e_blkN)
    | (apply e_blkR)
    | (apply e_blkE)
    | (apply w_exit)
    | (apply w_ret)
    | (apply w_skip)
    | (apply e_blkE'; rfl))
    exact retB rfl
  · exfalso
    have := (plainT_kind hpl).1
    omega
theorem last_full (s : ByteArray) (t : T) (hf : fitsT t 12 = true) (hok : okT t) : decide (lastG (allG s t 0) = s.size) = true ↔ L t (wd s) := by
  rw [decide_eq_true_eq]
  have h0 := allG_eq (s := s) (t := t) hf (j := 0) (Nat.zero_le _)
  have ha := at_ends s t hok 0 (Nat.zero_le _) s.size
  rw [show ((0 : Nat) : Int) = 0 from rfl] at h0
  rw [h0]
  generalize stepG s t ((List.replicate (s.size + 1) false).set 0 true) = q at ha ⊢
  have hm : L t (wd s) ↔ At q s.size := by rw [ha]; exact ⟨fun h => ⟨Nat.zero_le _, Nat.le_refl _, h⟩, fun h => h.2.2⟩
  rw [hm, idxTo]
  by_cases hq : q.getD s.size false = true
  · rw [if_pos hq, lastG_app (by simp)]
    exact ⟨fun _ => hq, fun _ => by simp [lastG]⟩
  · rw [if_neg hq]
    constructor
    · intro h
      exfalso
      by_cases he : idxTo q s.size = []
      · rw [he] at h
        have : lastG ([] : List Int) = -1 := rfl
        omega
      · have := idxTo_in q s.size _ (lastG_mem he)
        omega
    · intro h; exact absurd h hq
theorem law4 (t : T) (s : ByteArray) (ht : inT t) (hs : s.size ≤ 9223372036854775807) : Good Try.prog 4 [nodeA t, .d (.val (.string s))] none (.b true) none none := by
  have haw := awake11_good
  have h30 := few30_good s hs t ht
  by_cases hf : few11 s t = true
  case neg =>
    have hf : few11 s t = false := by simpa using hf
    rw [hf] at h30
    clear ht hf
    obtain ⟨k, a, b, c, d, mn, mx, subs⟩ := t
    have e0 : nodeA (.node k a b c d mn mx subs) = .agg [.i k, .d (.val (.int .u64 a)), .d (.val (.int .u64 b)), .d (.val (.int .u64 c)), .d (.val (.int .u64 d)), .i mn, .i mx, .d (.sl (encL subs) subs.length)] := rfl
    rw [e0] at h30 ⊢
    refine b4 (by simp) (by simp) (w_init ?_)
    unfold x4
    repeat' (first
    | (apply r_mvV; rfl)
    | (apply r_mvP; rfl)
    | (apply r_mvPL; rfl)
    | (apply r_mvS; rfl)
    | (apply r_mvSL; rfl)
    | (apply r_mvA; rfl)
    | (apply r_mvT; rfl)
    | (apply r_mvF; rfl)
    | (apply r_mvD; rfl)
    | (apply r_l; apply ld_kind; assumption; rfl)
    | (apply r_l; apply ld_mn; assumption; rfl)
    | (apply r_l; apply ld_mx; assumption; rfl)
    | (apply r_l; apply ld_subs; assumption; rfl)
    | (apply r_l; apply ld_set; assumption; rfl)
    | (apply r_l; apply ld_node; assumption; rfl)
    | (apply r_l; apply ld_kind'; assumption; rfl)
    | (apply r_l; apply ld_mn'; assumption; rfl)
    | (apply r_l; apply ld_mx'; assumption; rfl)
    | (apply r_l; apply ld_subs'; assumption; rfl)
    | (apply r_l; apply ld_node'; assumption; rfl)
    | (apply r_callA; rfl; rfl; exact haw)
    | (apply r_callA; rfl; rfl; exact h30)
    | (apply r_ldL; rfl; rfl; rfl)
    | (apply r_gtr; rfl; rfl; (first | (apply decide_eq_true; omega) | (apply decide_eq_false; omega) | rfl))
    | (apply r_not; rfl; rfl)
    | (apply r_beq; rfl; rfl; rfl)
    | (apply r_pickT; rfl)
    | (apply r_pickF; rfl)
    | (apply r_lenT; rfl)
    | (apply r_gT; rfl)
    | (apply r_gF'; rfl; rfl)
    | (apply r_gN'; rfl)
    | ((apply r_gS (o := default); rfl) <;> (intro h; try simp only [decide_eq_true_eq, decide_eq_false_iff_not, Bool.not_eq_true, Bool.not_eq_false] at h))
    | (apply r_box; ((conv => lhs; simp only [Nat.reduceAdd]) <;> rfl); rfl; rfl; rfl)
    | (apply r_nilK)
    | (apply r_nil)
    | (apply k_V; rfl)
    | (apply k_P; rfl)
    | (apply k_PL; rfl)
    | (apply k_S; rfl)
    | (apply k_SL; rfl)
    | (apply k_A; rfl)
    | (apply k_T; rfl)
    | (apply k_F; rfl)
    | (apply k_D; rfl; rotate_left; rfl)
    | (apply k_nil)
    | (apply e_ret (vs := [.d (.val _)]); rfl)
    | (apply e_ret; rfl)
    | (apply e_ret' (vs := [.d (.val _)]); rfl)
    | (apply e_ret'; rfl)
    | (apply w_seq)
    | (apply w_ops; ((conv => lhs; simp only [Nat.reduceAdd]) <;> rfl))
    | (apply w_condT; rfl)
    | (apply w_condF; rfl)
    | ((apply w_condS; rfl) <;> (intro h; try simp only [decide_eq_true_eq, decide_eq_false_iff_not, Bool.not_eq_true, Bool.not_eq_false] at h))
    | (apply e_thenN)
    | (apply w_block)
    | (apply e_thenR)
    | (apply e_thenX)
    | (apply e_blkN)
    | (apply e_blkR)
    | (apply e_blkE)
    | (apply w_exit)
    | (apply w_ret)
    | (apply w_skip)
    | (apply e_blkE'; rfl))
    all_goals exact retB rfl
  rw [hf] at h30
  simp only [few11, Bool.and_eq_true, decide_eq_true_eq] at hf
  obtain ⟨hf1, hf2, _⟩ := hf
  have hc := few_cnt hf1
  have h32 := right8_good t (by omega)
  by_cases h6 : s.size ≤ 6
  case neg =>
    clear ht hf1 hc h32
    obtain ⟨k, a, b, c, d, mn, mx, subs⟩ := t
    have e0 : nodeA (.node k a b c d mn mx subs) = .agg [.i k, .d (.val (.int .u64 a)), .d (.val (.int .u64 b)), .d (.val (.int .u64 c)), .d (.val (.int .u64 d)), .i mn, .i mx, .d (.sl (encL subs) subs.length)] := rfl
    rw [e0] at h30 ⊢
    refine b4 (by simp) (by simp) (w_init ?_)
    unfold x4
    repeat' (first
    | (apply r_mvV; rfl)
    | (apply r_mvP; rfl)
    | (apply r_mvPL; rfl)
    | (apply r_mvS; rfl)
    | (apply r_mvSL; rfl)
    | (apply r_mvA; rfl)
    | (apply r_mvT; rfl)
    | (apply r_mvF; rfl)
    | (apply r_mvD; rfl)
    | (apply r_l; apply ld_kind; assumption; rfl)
    | (apply r_l; apply ld_mn; assumption; rfl)
    | (apply r_l; apply ld_mx; assumption; rfl)
    | (apply r_l; apply ld_subs; assumption; rfl)
    | (apply r_l; apply ld_set; assumption; rfl)
    | (apply r_l; apply ld_node; assumption; rfl)
    | (apply r_l; apply ld_kind'; assumption; rfl)
    | (apply r_l; apply ld_mn'; assumption; rfl)
    | (apply r_l; apply ld_mx'; assumption; rfl)
    | (apply r_l; apply ld_subs'; assumption; rfl)
    | (apply r_l; apply ld_node'; assumption; rfl)
    | (apply r_callA; rfl; rfl; exact haw)
    | (apply r_callA; rfl; rfl; exact h30)
    | (apply r_ldL; rfl; rfl; rfl)
    | (apply r_gtr; rfl; rfl; (first | (apply decide_eq_true; omega) | (apply decide_eq_false; omega) | rfl))
    | (apply r_not; rfl; rfl)
    | (apply r_beq; rfl; rfl; rfl)
    | (apply r_pickT; rfl)
    | (apply r_pickF; rfl)
    | (apply r_lenT; rfl)
    | (apply r_gT; rfl)
    | (apply r_gF'; rfl; rfl)
    | (apply r_gN'; rfl)
    | ((apply r_gS (o := default); rfl) <;> (intro h; try simp only [decide_eq_true_eq, decide_eq_false_iff_not, Bool.not_eq_true, Bool.not_eq_false] at h))
    | (apply r_box; ((conv => lhs; simp only [Nat.reduceAdd]) <;> rfl); rfl; rfl; rfl)
    | (apply r_nilK)
    | (apply r_nil)
    | (apply k_V; rfl)
    | (apply k_P; rfl)
    | (apply k_PL; rfl)
    | (apply k_S; rfl)
    | (apply k_SL; rfl)
    | (apply k_A; rfl)
    | (apply k_T; rfl)
    | (apply k_F; rfl)
    | (apply k_D; rfl; rotate_left; rfl)
    | (apply k_nil)
    | (apply e_ret (vs := [.d (.val _)]); rfl)
    | (apply e_ret; rfl)
    | (apply e_ret' (vs := [.d (.val _)]); rfl)
    | (apply e_ret'; rfl)
    | (apply w_seq)
    | (apply w_ops; ((conv => lhs; simp only [Nat.reduceAdd]) <;> rfl))
    | (apply w_condT; rfl)
    | (apply w_condF; rfl)
    | ((apply w_condS; rfl) <;> (intro h; try simp only [decide_eq_true_eq, decide_eq_false_iff_not, Bool.not_eq_true, Bool.not_eq_false] at h))
    | (apply e_thenN)
    | (apply w_block)
    | (apply e_thenR)
    | (apply e_thenX)
    | (apply e_blkN)
    | (apply e_blkR)
    | (apply e_blkE)
    | (apply w_exit)
    | (apply w_ret)
    | (apply w_skip)
    | (apply e_blkE'; rfl))
    all_goals exact retB rfl
  by_cases hr : rightT t = true
  case neg =>
    have hr : rightT t = false := by simpa using hr
    rw [hr] at h32
    clear ht hr
    obtain ⟨k, a, b, c, d, mn, mx, subs⟩ := t
    have e0 : nodeA (.node k a b c d mn mx subs) = .agg [.i k, .d (.val (.int .u64 a)), .d (.val (.int .u64 b)), .d (.val (.int .u64 c)), .d (.val (.int .u64 d)), .i mn, .i mx, .d (.sl (encL subs) subs.length)] := rfl
    rw [e0] at h30 h32 ⊢
    refine b4 (by simp) (by simp) (w_init ?_)
    unfold x4
    repeat' (first
    | (apply r_mvV; rfl)
    | (apply r_mvP; rfl)
    | (apply r_mvPL; rfl)
    | (apply r_mvS; rfl)
    | (apply r_mvSL; rfl)
    | (apply r_mvA; rfl)
    | (apply r_mvT; rfl)
    | (apply r_mvF; rfl)
    | (apply r_mvD; rfl)
    | (apply r_l; apply ld_kind; assumption; rfl)
    | (apply r_l; apply ld_mn; assumption; rfl)
    | (apply r_l; apply ld_mx; assumption; rfl)
    | (apply r_l; apply ld_subs; assumption; rfl)
    | (apply r_l; apply ld_set; assumption; rfl)
    | (apply r_l; apply ld_node; assumption; rfl)
    | (apply r_l; apply ld_kind'; assumption; rfl)
    | (apply r_l; apply ld_mn'; assumption; rfl)
    | (apply r_l; apply ld_mx'; assumption; rfl)
    | (apply r_l; apply ld_subs'; assumption; rfl)
    | (apply r_l; apply ld_node'; assumption; rfl)
    | (apply r_callA; rfl; rfl; exact haw)
    | (apply r_callA; rfl; rfl; exact h30)
    | (apply r_callA; rfl; rfl; exact h32)
    | (apply r_ldL; rfl; rfl; rfl)
    | (apply r_gtr; rfl; rfl; (first | (apply decide_eq_true; omega) | (apply decide_eq_false; omega) | rfl))
    | (apply r_not; rfl; rfl)
    | (apply r_beq; rfl; rfl; rfl)
    | (apply r_pickT; rfl)
    | (apply r_pickF; rfl)
    | (apply r_lenT; rfl)
    | (apply r_gT; rfl)
    | (apply r_gF'; rfl; rfl)
    | (apply r_gN'; rfl)
    | ((apply r_gS (o := default); rfl) <;> (intro h; try simp only [decide_eq_true_eq, decide_eq_false_iff_not, Bool.not_eq_true, Bool.not_eq_false] at h))
    | (apply r_box; ((conv => lhs; simp only [Nat.reduceAdd]) <;> rfl); rfl; rfl; rfl)
    | (apply r_nilK)
    | (apply r_nil)
    | (apply k_V; rfl)
    | (apply k_P; rfl)
    | (apply k_PL; rfl)
    | (apply k_S; rfl)
    | (apply k_SL; rfl)
    | (apply k_A; rfl)
    | (apply k_T; rfl)
    | (apply k_F; rfl)
    | (apply k_D; rfl; rotate_left; rfl)
    | (apply k_nil)
    | (apply e_ret (vs := [.d (.val _)]); rfl)
    | (apply e_ret; rfl)
    | (apply e_ret' (vs := [.d (.val _)]); rfl)
    | (apply e_ret'; rfl)
    | (apply w_seq)
    | (apply w_ops; ((conv => lhs; simp only [Nat.reduceAdd]) <;> rfl))
    | (apply w_condT; rfl)
    | (apply w_condF; rfl)
    | ((apply w_condS; rfl) <;> (intro h; try simp only [decide_eq_true_eq, decide_eq_false_iff_not, Bool.not_eq_true, Bool.not_eq_false] at h))
    | (apply e_thenN)
    | (apply w_block)
    | (apply e_thenR)
    | (apply e_thenX)
    | (apply e_blkN)
    | (apply e_blkR)
    | (apply e_blkE)
    | (apply w_exit)
    | (apply w_ret)
    | (apply w_skip)
    | (apply e_blkE'; rfl))
    all_goals exact retB rfl
  have hfi : fitsT t 12 = true := by rw [← right_fits]; exact hr
  have hok : okT t := ok_of_right ht hr
  rw [hr] at h32
  have h38 := wide_good 1000000 t (by omega) (by omega) hok
  by_cases hw : wideT t ≤ 60
  case neg =>
    clear ht hr hfi hok
    obtain ⟨k, a, b, c, d, mn, mx, subs⟩ := t
    have e0 : nodeA (.node k a b c d mn mx subs) = .agg [.i k, .d (.val (.int .u64 a)), .d (.val (.int .u64 b)), .d (.val (.int .u64 c)), .d (.val (.int .u64 d)), .i mn, .i mx, .d (.sl (encL subs) subs.length)] := rfl
    rw [e0] at h30 h32 h38 ⊢
    refine b4 (by simp) (by simp) (w_init ?_)
    unfold x4
    repeat' (first
    | (apply r_mvV; rfl)
    | (apply r_mvP; rfl)
    | (apply r_mvPL; rfl)
    | (apply r_mvS; rfl)
    | (apply r_mvSL; rfl)
    | (apply r_mvA; rfl)
    | (apply r_mvT; rfl)
    | (apply r_mvF; rfl)
    | (apply r_mvD; rfl)
    | (apply r_l; apply ld_kind; assumption; rfl)
    | (apply r_l; apply ld_mn; assumption; rfl)
    | (apply r_l; apply ld_mx; assumption; rfl)
    | (apply r_l; apply ld_subs; assumption; rfl)
    | (apply r_l; apply ld_set; assumption; rfl)
    | (apply r_l; apply ld_node; assumption; rfl)
    | (apply r_l; apply ld_kind'; assumption; rfl)
    | (apply r_l; apply ld_mn'; assumption; rfl)
    | (apply r_l; apply ld_mx'; assumption; rfl)
    | (apply r_l; apply ld_subs'; assumption; rfl)
    | (apply r_l; apply ld_node'; assumption; rfl)
    | (apply r_callA; rfl; rfl; exact haw)
    | (apply r_callA; rfl; rfl; exact h30)
    | (apply r_callA; rfl; rfl; exact h32)
    | (apply r_callA; rfl; rfl; exact h38)
    | (apply r_ldL; rfl; rfl; rfl)
    | (apply r_gtr; rfl; rfl; (first | (apply decide_eq_true; omega) | (apply decide_eq_false; omega) | rfl))
    | (apply r_not; rfl; rfl)
    | (apply r_beq; rfl; rfl; rfl)
    | (apply r_pickT; rfl)
    | (apply r_pickF; rfl)
    | (apply r_lenT; rfl)
    | (apply r_gT; rfl)
    | (apply r_gF'; rfl; rfl)
    | (apply r_gN'; rfl)
    | ((apply r_gS (o := default); rfl) <;> (intro h; try simp only [decide_eq_true_eq, decide_eq_false_iff_not, Bool.not_eq_true, Bool.not_eq_false] at h))
    | (apply r_box; ((conv => lhs; simp only [Nat.reduceAdd]) <;> rfl); rfl; rfl; rfl)
    | (apply r_nilK)
    | (apply r_nil)
    | (apply k_V; rfl)
    | (apply k_P; rfl)
    | (apply k_PL; rfl)
    | (apply k_S; rfl)
    | (apply k_SL; rfl)
    | (apply k_A; rfl)
    | (apply k_T; rfl)
    | (apply k_F; rfl)
    | (apply k_D; rfl; rotate_left; rfl)
    | (apply k_nil)
    | (apply e_ret (vs := [.d (.val _)]); rfl)
    | (apply e_ret; rfl)
    | (apply e_ret' (vs := [.d (.val _)]); rfl)
    | (apply e_ret'; rfl)
    | (apply w_seq)
    | (apply w_ops; ((conv => lhs; simp only [Nat.reduceAdd]) <;> rfl))
    | (apply w_condT; rfl)
    | (apply w_condF; rfl)
    | ((apply w_condS; rfl) <;> (intro h; try simp only [decide_eq_true_eq, decide_eq_false_iff_not, Bool.not_eq_true, Bool.not_eq_false] at h))
    | (apply e_thenN)
    | (apply w_block)
    | (apply e_thenR)
    | (apply e_thenX)
    | (apply e_blkN)
    | (apply e_blkR)
    | (apply e_blkE)
    | (apply w_exit)
    | (apply w_ret)
    | (apply w_skip)
    | (apply e_blkE'; rfl))
    all_goals exact retB rfl
  have h33 := match_good s (by omega) t (by omega) (fun _ => hok)
  have h39 := is_good 1000000 t (by omega) (by omega) hok s (by omega) _ (last_full s t hfi hok)
  clear ht hr hfi hok hc hf1
  generalize decide (lastG (allG s t 0) = s.size) = q at h33 h39
  obtain ⟨k, a, b, c, d, mn, mx, subs⟩ := t
  have e0 : nodeA (.node k a b c d mn mx subs) = .agg [.i k, .d (.val (.int .u64 a)), .d (.val (.int .u64 b)), .d (.val (.int .u64 c)), .d (.val (.int .u64 d)), .i mn, .i mx, .d (.sl (encL subs) subs.length)] := rfl
  rw [e0] at h30 h32 h38 h33 h39 ⊢
  refine b4 (by simp) (by simp) (w_init ?_)
  unfold x4
  repeat' (first
    | (apply r_mvV; rfl)
    | (apply r_mvP; rfl)
    | (apply r_mvPL; rfl)
    | (apply r_mvS; rfl)
    | (apply r_mvSL; rfl)
    | (apply r_mvA; rfl)
    | (apply r_mvT; rfl)
    | (apply r_mvF; rfl)
    | (apply r_mvD; rfl)
    | (apply r_l; apply ld_kind; assumption; rfl)
    | (apply r_l; apply ld_mn; assumption; rfl)
    | (apply r_l; apply ld_mx; assumption; rfl)
    | (apply r_l; apply ld_subs; assumption; rfl)
    | (apply r_l; apply ld_set; assumption; rfl)
    | (apply r_l; apply ld_node; assumption; rfl)
    | (apply r_l; apply ld_kind'; assumption; rfl)
    | (apply r_l; apply ld_mn'; assumption; rfl)
    | (apply r_l; apply ld_mx'; assumption; rfl)
    | (apply r_l; apply ld_subs'; assumption; rfl)
    | (apply r_l; apply ld_node'; assumption; rfl)
    | (apply r_callA; rfl; rfl; exact haw)
    | (apply r_callA; rfl; rfl; exact h30)
    | (apply r_callA; rfl; rfl; exact h32)
    | (apply r_callA; rfl; rfl; exact h38)
    | (apply r_callA; rfl; rfl; exact h33)
    | (apply r_callA; rfl; rfl; exact h39)
    | (apply r_ldL; rfl; rfl; rfl)
    | (apply r_gtr; rfl; rfl; (first | (apply decide_eq_true; omega) | (apply decide_eq_false; omega) | rfl))
    | (apply r_not; rfl; rfl)
    | (apply r_beq; rfl; rfl; rfl)
    | (apply r_pickT; rfl)
    | (apply r_pickF; rfl)
    | (apply r_lenT; rfl)
    | (apply r_gT; rfl)
    | (apply r_gF'; rfl; rfl)
    | (apply r_gN'; rfl)
    | ((apply r_gS (o := default); rfl) <;> (intro h; try simp only [decide_eq_true_eq, decide_eq_false_iff_not, Bool.not_eq_true, Bool.not_eq_false] at h))
    | (apply r_box; ((conv => lhs; simp only [Nat.reduceAdd]) <;> rfl); rfl; rfl; rfl)
    | (apply r_nilK)
    | (apply r_nil)
    | (apply k_V; rfl)
    | (apply k_P; rfl)
    | (apply k_PL; rfl)
    | (apply k_S; rfl)
    | (apply k_SL; rfl)
    | (apply k_A; rfl)
    | (apply k_T; rfl)
    | (apply k_F; rfl)
    | (apply k_D; rfl; rotate_left; rfl)
    | (apply k_nil)
    | (apply e_ret (vs := [.d (.val _)]); rfl)
    | (apply e_ret; rfl)
    | (apply e_ret' (vs := [.d (.val _)]); rfl)
    | (apply e_ret'; rfl)
    | (apply w_seq)
    | (apply w_ops; ((conv => lhs; simp only [Nat.reduceAdd]) <;> rfl))
    | (apply w_condT; rfl)
    | (apply w_condF; rfl)
    | ((apply w_condS; rfl) <;> (intro h; try simp only [decide_eq_true_eq, decide_eq_false_iff_not, Bool.not_eq_true, Bool.not_eq_false] at h))
    | (apply e_thenN)
    | (apply w_block)
    | (apply e_thenR)
    | (apply e_thenX)
    | (apply e_blkN)
    | (apply e_blkR)
    | (apply e_blkE)
    | (apply w_exit)
    | (apply w_ret)
    | (apply w_skip)
    | (apply e_blkE'; rfl))
  all_goals exact retB (by simp)
end Go.Sv
