/- A part of the proof of the law EndsParts: that it answers true for every input, and that the input reads behind the call as before (no condition). -/
import Derived.Test.YtcnlgmajkclgjaaC3
set_option linter.all false
set_option linter.unusedSectionVars false
set_option linter.unusedVariables false
set_option linter.unusedSimpArgs false
namespace Go.Sv
open Go Go.Proofs
set_option maxRecDepth 100000
theorem awake11_ev : evF tabA (spP 100) 100 40 29 [] none = some (.b true, none, none) := by kernel_rfl
theorem awake11_good : Good Try.prog 29 [] none (.b true) none none := evF_sound tabA_ok (spP_ok 100) 40 29 [] none _ _ _ awake11_ev
end Go.Sv
namespace Go.Sv
open Go Go.Proofs
def x3 : XC := (.seq (.ops 2 [
    (0, ⟨(some 3), none, .box (.t 0)⟩),
    (1, ⟨(some 6), none, .mv (.k (.d (.val (.bool false))))⟩)] (some [1, 2, 3])) (.seq (.seq (.ops 8 [
    (0, ⟨(some 9), none, .call 29 [] none false⟩),
    (1, ⟨(some 10), none, .un .not (.t 9)⟩),
    (2, ⟨(some 11), none, .mv (.t 10)⟩),
    (3, ⟨(some 12), (some (11, false)), .load (some 8) (.t 3)⟩),
    (4, ⟨(some 13), (some (11, false)), .mv (.t 1)⟩),
    (5, ⟨(some 14), (some (11, false)), .call 30 [(.t 12), (.t 13)] none false⟩),
    (6, ⟨(some 15), (some (11, false)), .un .not (.t 14)⟩),
    (7, ⟨(some 16), none, .pick (.t 11) (.k (.d (.val (.bool true)))) (.t 15)⟩)] (some [1, 2, 3, 16])) (.cond (.t 16) (.seq (.ops 2 [
    (0, ⟨(some 17), none, .call 29 [] none false⟩),
    (1, ⟨(some 6), none, .mv (.t 17)⟩)] (some [6])) .ret) .skip)) (.seq (.ops 9 [
    (0, ⟨(some 19), none, .load (some 8) (.t 3)⟩),
    (1, ⟨(some 20), none, .mv (.t 1)⟩),
    (2, ⟨(some 21), none, .mv (.t 2)⟩),
    (3, ⟨(some 22), none, .call 31 [(.t 19), (.t 20), (.t 21)] none false⟩),
    (4, ⟨(some 18), none, .mv (.t 22)⟩),
    (5, ⟨(some 23), none, .ext (.t 18) 0⟩),
    (6, ⟨(some 24), none, .ext (.t 18) 1⟩),
    (7, ⟨(some 7), none, .mv (.t 23)⟩),
    (8, ⟨(some 8), none, .mv (.t 24)⟩)] (some [1, 2, 3, 7, 8])) (.seq (.block 0 (.seq (.ops 4 [
    (0, ⟨(some 26), none, .load (some 8) (.t 3)⟩),
    (1, ⟨(some 27), none, .call 32 [(.t 26)] none false⟩),
    (2, ⟨(some 28), none, .un .not (.t 27)⟩),
    (3, ⟨(some 25), none, .mv (.t 28)⟩)] (some [1, 2, 3, 7, 8, 25])) (.cond (.t 25) (.seq (.ops 14 [
    (0, ⟨(some 29), none, .mv (.t 7)⟩),
    (1, ⟨(some 30), none, .lenS (.t 29)⟩),
    (2, ⟨(some 31), none, .arith .eql (.t 30) (.k (.d (.val (.int .i64 0))))⟩),
    (3, ⟨(some 32), none, .mv (.t 31)⟩),
    (4, ⟨(some 33), (some (32, true)), .mv (.t 8)⟩),
    (5, ⟨(some 34), (some (32, true)), .arith .eql (.t 33) (.k (.d (.val (.int .i64 1))))⟩),
    (6, ⟨(some 35), none, .pick (.t 32) (.t 34) (.k (.d (.val (.bool false))))⟩),
    (7, ⟨(some 36), none, .mv (.t 35)⟩),
    (8, ⟨(some 37), (some (36, true)), .load (some 8) (.t 3)⟩),
    (9, ⟨(some 38), (some (36, true)), .mv (.t 1)⟩),
    (10, ⟨(some 39), (some (36, true)), .call 33 [(.t 37), (.t 38)] none false⟩),
    (11, ⟨(some 40), (some (36, true)), .un .not (.t 39)⟩),
    (12, ⟨(some 41), none, .pick (.t 36) (.t 40) (.k (.d (.val (.bool false))))⟩),
    (13, ⟨(some 6), none, .mv (.t 41)⟩)] (some [6])) .ret) (.seq (.ops 9 [
    (0, ⟨(some 43), none, .mv (.t 2)⟩),
    (1, ⟨(some 44), none, .arith .lss (.t 43) (.k (.d (.val (.int .i64 0))))⟩),
    (2, ⟨(some 45), none, .mv (.t 44)⟩),
    (3, ⟨(some 46), (some (45, false)), .mv (.t 2)⟩),
    (4, ⟨(some 47), (some (45, false)), .mv (.t 1)⟩),
    (5, ⟨(some 48), (some (45, false)), .lenT (.t 47)⟩),
    (6, ⟨(some 49), (some (45, false)), .arith .gtr (.t 46) (.t 48)⟩),
    (7, ⟨(some 50), none, .pick (.t 45) (.k (.d (.val (.bool true)))) (.t 49)⟩),
    (8, ⟨(some 42), none, .mv (.t 50)⟩)] (some [1, 2, 3, 7, 8, 42])) (.cond (.t 42) (.seq (.ops 15 [
    (0, ⟨(some 51), none, .mv (.t 7)⟩),
    (1, ⟨(some 52), none, .lenS (.t 51)⟩),
    (2, ⟨(some 53), none, .arith .eql (.t 52) (.k (.d (.val (.int .i64 0))))⟩),
    (3, ⟨(some 54), none, .mv (.t 53)⟩),
    (4, ⟨(some 55), (some (54, true)), .mv (.t 8)⟩),
    (5, ⟨(some 56), (some (54, true)), .arith .eql (.t 55) (.k (.d (.val (.int .i64 2))))⟩),
    (6, ⟨(some 57), none, .pick (.t 54) (.t 56) (.k (.d (.val (.bool false))))⟩),
    (7, ⟨(some 58), none, .mv (.t 57)⟩),
    (8, ⟨(some 59), (some (58, true)), .load (some 8) (.t 3)⟩),
    (9, ⟨(some 60), (some (58, true)), .mv (.t 1)⟩),
    (10, ⟨(some 61), (some (58, true)), .mv (.t 2)⟩),
    (11, ⟨(some 62), (some (58, true)), .call 34 [(.t 59), (.t 60), (.t 61)] none false⟩),
    (12, ⟨(some 63), (some (58, true)), .arith .eql (.t 62) (.k (.d (.val (.int .i64 (-1)))))⟩),
    (13, ⟨(some 64), none, .pick (.t 58) (.t 63) (.k (.d (.val (.bool false))))⟩),
    (14, ⟨(some 6), none, .mv (.t 64)⟩)] (some [6])) .ret) .skip))))) (.seq (.ops 22 [
    (0, ⟨(some 65), none, .mv (.t 8)⟩),
    (1, ⟨(some 66), none, .arith .eql (.t 65) (.k (.d (.val (.int .i64 0))))⟩),
    (2, ⟨(some 67), none, .mv (.t 66)⟩),
    (3, ⟨(some 68), (some (67, true)), .mv (.t 7)⟩),
    (4, ⟨(some 69), (some (67, true)), .load (some 8) (.t 3)⟩),
    (5, ⟨(some 70), (some (67, true)), .mv (.t 1)⟩),
    (6, ⟨(some 71), (some (67, true)), .mv (.t 2)⟩),
    (7, ⟨(some 72), (some (67, true)), .call 36 [(.t 69), (.t 70), (.t 71)] none false⟩),
    (8, ⟨(some 73), (some (67, true)), .call 35 [(.t 68), (.t 72)] none false⟩),
    (9, ⟨(some 74), none, .pick (.t 67) (.t 73) (.k (.d (.val (.bool false))))⟩),
    (10, ⟨(some 75), none, .mv (.t 74)⟩),
    (11, ⟨(some 76), (some (75, true)), .load (some 8) (.t 3)⟩),
    (12, ⟨(some 77), (some (75, true)), .mv (.t 1)⟩),
    (13, ⟨(some 78), (some (75, true)), .mv (.t 2)⟩),
    (14, ⟨(some 79), (some (75, true)), .call 34 [(.t 76), (.t 77), (.t 78)] none false⟩),
    (15, ⟨(some 80), (some (75, true)), .load (some 8) (.t 3)⟩),
    (16, ⟨(some 81), (some (75, true)), .mv (.t 1)⟩),
    (17, ⟨(some 82), (some (75, true)), .mv (.t 2)⟩),
    (18, ⟨(some 83), (some (75, true)), .call 37 [(.t 80), (.t 81), (.t 82)] none false⟩),
    (19, ⟨(some 84), (some (75, true)), .arith .eql (.t 79) (.t 83)⟩),
    (20, ⟨(some 85), none, .pick (.t 75) (.t 84) (.k (.d (.val (.bool false))))⟩),
    (21, ⟨(some 6), none, .mv (.t 85)⟩)] (some [6])) .ret)))))
def md3 : FuncId → Option Nat × Bool
  | _ => (none, false)
def od3 : Nat → List (List Nat) × List Nat × Option (List Nat)
  | 0 => ([], [], some [1, 2, 3])
  | 1 => ([], [], some [1, 2, 3, 16])
  | 2 => ([], [], some [6])
  | 3 => ([], [], some [1, 2, 3, 7, 8])
  | 4 => ([], [], some [1, 2, 3, 7, 8, 25])
  | 5 => ([], [], some [6])
  | 6 => ([], [], some [1, 2, 3, 7, 8, 42])
  | 7 => ([], [], some [6])
  | 8 => ([[], [0], [0, 1], [0, 1, 2], [0, 1, 2], [0, 1, 2], [0, 1, 2], [0, 1, 2, 4, 5, 6], [0, 1, 2, 3, 4, 5, 6, 7], [0, 1, 2, 3, 4, 5, 6, 7, 8], [0, 1, 2, 3, 4, 5, 6, 7, 8, 9], [0, 1, 2, 3, 4, 5, 6, 7, 8, 9, 10], [0, 1, 2, 3, 4, 5, 6, 7, 8, 9, 10], [0, 1, 2, 3, 4, 5, 6, 7, 8, 9, 10], [0, 1, 2, 3, 4, 5, 6, 7, 8, 9, 10, 11, 12, 13], [0, 1, 2, 3, 4, 5, 6, 7, 8, 9, 10], [0, 1, 2, 3, 4, 5, 6, 7, 8, 9, 10], [0, 1, 2, 3, 4, 5, 6, 7, 8, 9, 10], [0, 1, 2, 3, 4, 5, 6, 7, 8, 9, 10, 11, 12, 13, 14, 15, 16, 17], [0, 1, 2, 3, 4, 5, 6, 7, 8, 9, 10, 11, 12, 13, 14, 15, 16, 17, 18], [0, 1, 2, 3, 4, 5, 6, 7, 8, 9, 10, 11, 12, 13, 14, 15, 16, 17, 18, 19], [0, 1, 2, 3, 4, 5, 6, 7, 8, 9, 10, 11, 12, 13, 14, 15, 16, 17, 18, 19, 20]], [0, 1, 2, 3, 4, 5, 6, 7, 8, 9, 10, 11, 12, 13, 14, 15, 16, 17, 18, 19, 20, 21], some [6])
  | _ => ([], [], none)
theorem b3 {ags : List AV} {row : Option (List DV)} {r : AV} {row' nw : Option (List DV)} (hal : ags.length ≤ 86) (hrow : row'.isSome = true → row.isSome = true) (h : xwp Try.prog x3 (retK [.tmp 6] row.isSome r row' nw) (St.init ags row)) : Good Try.prog 3 ags row r row' nw :=
  good_of_body' (md := md3) (od := od3) Try.f3 (by kernel_rfl) (by kernel_rfl) (by kernel_rfl) (by kernel_rfl) (by kernel_rfl) hal hrow h

set_option maxRecDepth 100000
set_option maxHeartbeats 4000000
attribute [local irreducible] W E R KP thenK blockK retK Good xwp aRun
def few11 (s : ByteArray) (t : T) : Bool := decide (sizeT t 601 ≤ 200) && (decide (s.size ≤ 40) && (!rightT t || decide (wideT t ≤ 3000)))
theorem few_cnt {t : T} (h : sizeT t 601 ≤ 200) : t.cnt ≤ 200 := by
  have := sizeT_cnt t 601 (by omega)
  omega
theorem few30_good (s : ByteArray) (hs : s.size ≤ 9223372036854775807) (t : T) (ht : inT t) : Good Try.prog 30 [nodeA t, .d (.val (.string s))] none (.b (few11 s t)) none none := by
  have h45 := few_good t
  by_cases hf : sizeT t 601 ≤ 200
  case neg =>
    have ev : few11 s t = false := by simp [few11, hf]
    rw [ev]
    rw [show decide (sizeT t 601 ≤ 200) = false by simp [hf]] at h45
    clear ht ev hf
    obtain ⟨k, a, b, c, d, mn, mx, subs⟩ := t
    have e0 : nodeA (.node k a b c d mn mx subs) = .agg [.i k, .d (.val (.int .u64 a)), .d (.val (.int .u64 b)), .d (.val (.int .u64 c)), .d (.val (.int .u64 d)), .i mn, .i mx, .d (.sl (encL subs) subs.length)] := rfl
    rw [e0] at h45 ⊢
    refine b30 (by simp) (by simp) (w_init ?_)
    unfold x30
    repeat' (first
    | (apply r_mvV; rfl)
    | (apply r_mvP; rfl)
    | (apply r_mvPL; rfl)
    | (apply r_mvS; rfl)
    | (apply r_mvSL; rfl)
    | (apply r_mvA; rfl)
    | (apply r_mvT; rfl)
    | (apply r_mvF; rfl)
    | (apply r_mvD; rfl)
    | (apply r_l; apply ld_kind; assumption; rfl)
    | (apply r_l; apply ld_mn; assumption; rfl)
    | (apply r_l; apply ld_mx; assumption; rfl)
    | (apply r_l; apply ld_subs; assumption; rfl)
    | (apply r_l; apply ld_set; assumption; rfl)
    | (apply r_l; apply ld_node; assumption; rfl)
    | (apply r_l; apply ld_kind'; assumption; rfl)
    | (apply r_l; apply ld_mn'; assumption; rfl)
    | (apply r_l; apply ld_mx'; assumption; rfl)
    | (apply r_l; apply ld_subs'; assumption; rfl)
    | (apply r_l; apply ld_node'; assumption; rfl)
    | (apply r_callA; rfl; rfl; exact h45)
    | (apply r_ldL; rfl; rfl; rfl)
    | (apply r_leq; rfl; rfl; (first | (apply decide_eq_true; omega) | (apply decide_eq_false; omega) | rfl))
    | (apply r_not; rfl; rfl)
    | (apply r_pickT; rfl)
    | (apply r_pickF; rfl)
    | (apply r_lenT; rfl)
    | (apply r_gT; rfl)
    | (apply r_gF'; rfl; rfl)
    | (apply r_gN'; rfl)
    | ((apply r_gS (o := default); rfl) <;> (intro h; try simp only [decide_eq_true_eq, decide_eq_false_iff_not, Bool.not_eq_true, Bool.not_eq_false] at h))
    | (apply r_box; ((conv => lhs; simp only [Nat.reduceAdd]) <;> rfl); rfl; rfl; rfl)
    | (apply r_nilK)
    | (apply r_nil)
    | (apply k_V; rfl)
    | (apply k_P; rfl)
    | (apply k_PL; rfl)
    | (apply k_S; rfl)
    | (apply k_SL; rfl)
    | (apply k_A; rfl)
    | (apply k_T; rfl)
    | (apply k_F; rfl)
    | (apply k_D; rfl; rotate_left; rfl)
    | (apply k_nil)
    | (apply e_ret (vs := [.d (.val _)]); rfl)
    | (apply e_ret; rfl)
    | (apply e_ret' (vs := [.d (.val _)]); rfl)
    | (apply e_ret'; rfl)
    | (apply w_seq)
    | (apply w_ops; ((conv => lhs; simp only [Nat.reduceAdd]) <;> rfl))
    | (apply e_thenN)
    | (apply w_block)
    | (apply e_thenR)
    | (apply e_thenX)
    | (apply e_blkN)
    | (apply e_blkR)
    | (apply e_blkE)
    | (apply w_exit)
    | (apply w_ret)
    | (apply w_skip)
    | (apply e_blkE'; rfl))
    exact retB rfl
  have hc := few_cnt hf
  have h32 := right8_good t (by omega)
  rw [show decide (sizeT t 601 ≤ 200) = true by simp [hf]] at h45
  by_cases h40 : s.size ≤ 40
  case neg =>
    have ev : few11 s t = false := by simp [few11, h40]
    rw [ev]
    clear ht ev hf hc h32
    obtain ⟨k, a, b, c, d, mn, mx, subs⟩ := t
    have e0 : nodeA (.node k a b c d mn mx subs) = .agg [.i k, .d (.val (.int .u64 a)), .d (.val (.int .u64 b)), .d (.val (.int .u64 c)), .d (.val (.int .u64 d)), .i mn, .i mx, .d (.sl (encL subs) subs.length)] := rfl
    rw [e0] at h45 ⊢
    refine b30 (by simp) (by simp) (w_init ?_)
    unfold x30
    repeat' (first
    | (apply r_mvV; rfl)
    | (apply r_mvP; rfl)
    | (apply r_mvPL; rfl)
    | (apply r_mvS; rfl)
    | (apply r_mvSL; rfl)
    | (apply r_mvA; rfl)
    | (apply r_mvT; rfl)
    | (apply r_mvF; rfl)
    | (apply r_mvD; rfl)
    | (apply r_l; apply ld_kind; assumption; rfl)
    | (apply r_l; apply ld_mn; assumption; rfl)
    | (apply r_l; apply ld_mx; assumption; rfl)
    | (apply r_l; apply ld_subs; assumption; rfl)
    | (apply r_l; apply ld_set; assumption; rfl)
    | (apply r_l; apply ld_node; assumption; rfl)
    | (apply r_l; apply ld_kind'; assumption; rfl)
    | (apply r_l; apply ld_mn'; assumption; rfl)
    | (apply r_l; apply ld_mx'; assumption; rfl)
    | (apply r_l; apply ld_subs'; assumption; rfl)
    | (apply r_l; apply ld_node'; assumption; rfl)
    | (apply r_callA; rfl; rfl; exact h45)
    | (apply r_ldL; rfl; rfl; rfl)
    | (apply r_leq; rfl; rfl; (first | (apply decide_eq_true; omega) | (apply decide_eq_false; omega) | rfl))
    | (apply r_not; rfl; rfl)
    | (apply r_pickT; rfl)
    | (apply r_pickF; rfl)
    | (apply r_lenT; rfl)
    | (apply r_gT; rfl)
    | (apply r_gF'; rfl; rfl)
    | (apply r_gN'; rfl)
    | ((apply r_gS (o := default); rfl) <;> (intro h; try simp only [decide_eq_true_eq, decide_eq_false_iff_not, Bool.not_eq_true, Bool.not_eq_false] at h))
    | (apply r_box; ((conv => lhs; simp only [Nat.reduceAdd]) <;> rfl); rfl; rfl; rfl)
    | (apply r_nilK)
    | (apply r_nil)
    | (apply k_V; rfl)
    | (apply k_P; rfl)
    | (apply k_PL; rfl)
    | (apply k_S; rfl)
    | (apply k_SL; rfl)
    | (apply k_A; rfl)
    | (apply k_T; rfl)
    | (apply k_F; rfl)
    | (apply k_D; rfl; rotate_left; rfl)
    | (apply k_nil)
    | (apply e_ret (vs := [.d (.val _)]); rfl)
    | (apply e_ret; rfl)
    | (apply e_ret' (vs := [.d (.val _)]); rfl)
    | (apply e_ret'; rfl)
    | (apply w_seq)
    | (apply w_ops; ((conv => lhs; simp only [Nat.reduceAdd]) <;> rfl))
    | (apply e_thenN)
    | (apply w_block)
    | (apply e_thenR)
    | (apply e_thenX)
    | (apply e_blkN)
    | (apply e_blkR)
    | (apply e_blkE)
    | (apply w_exit)
    | (apply w_ret)
    | (apply w_skip)
    | (apply e_blkE'; rfl))
    exact retB rfl
  by_cases hr : rightT t = true
  case neg =>
    have hr : rightT t = false := by simpa using hr
    have ev : few11 s t = true := by simp [few11, hf, h40, hr]
    rw [ev]
    rw [hr] at h32
    clear ht ev hf hc hr
    obtain ⟨k, a, b, c, d, mn, mx, subs⟩ := t
    have e0 : nodeA (.node k a b c d mn mx subs) = .agg [.i k, .d (.val (.int .u64 a)), .d (.val (.int .u64 b)), .d (.val (.int .u64 c)), .d (.val (.int .u64 d)), .i mn, .i mx, .d (.sl (encL subs) subs.length)] := rfl
    rw [e0] at h45 h32 ⊢
    refine b30 (by simp) (by simp) (w_init ?_)
    unfold x30
    repeat' (first
    | (apply r_mvV; rfl)
    | (apply r_mvP; rfl)
    | (apply r_mvPL; rfl)
    | (apply r_mvS; rfl)
    | (apply r_mvSL; rfl)
    | (apply r_mvA; rfl)
    | (apply r_mvT; rfl)
    | (apply r_mvF; rfl)
    | (apply r_mvD; rfl)
    | (apply r_l; apply ld_kind; assumption; rfl)
    | (apply r_l; apply ld_mn; assumption; rfl)
    | (apply r_l; apply ld_mx; assumption; rfl)
    | (apply r_l; apply ld_subs; assumption; rfl)
    | (apply r_l; apply ld_set; assumption; rfl)
    | (apply r_l; apply ld_node; assumption; rfl)
    | (apply r_l; apply ld_kind'; assumption; rfl)
    | (apply r_l; apply ld_mn'; assumption; rfl)
    | (apply r_l; apply ld_mx'; assumption; rfl)
    | (apply r_l; apply ld_subs'; assumption; rfl)
    | (apply r_l; apply ld_node'; assumption; rfl)
    | (apply r_callA; rfl; rfl; exact h45)
    | (apply r_callA; rfl; rfl; exact h32)
    | (apply r_ldL; rfl; rfl; rfl)
    | (apply r_leq; rfl; rfl; (first | (apply decide_eq_true; omega) | (apply decide_eq_false; omega) | rfl))
    | (apply r_not; rfl; rfl)
    | (apply r_pickT; rfl)
    | (apply r_pickF; rfl)
    | (apply r_lenT; rfl)
    | (apply r_gT; rfl)
    | (apply r_gF'; rfl; rfl)
    | (apply r_gN'; rfl)
    | ((apply r_gS (o := default); rfl) <;> (intro h; try simp only [decide_eq_true_eq, decide_eq_false_iff_not, Bool.not_eq_true, Bool.not_eq_false] at h))
    | (apply r_box; ((conv => lhs; simp only [Nat.reduceAdd]) <;> rfl); rfl; rfl; rfl)
    | (apply r_nilK)
    | (apply r_nil)
    | (apply k_V; rfl)
    | (apply k_P; rfl)
    | (apply k_PL; rfl)
    | (apply k_S; rfl)
    | (apply k_SL; rfl)
    | (apply k_A; rfl)
    | (apply k_T; rfl)
    | (apply k_F; rfl)
    | (apply k_D; rfl; rotate_left; rfl)
    | (apply k_nil)
    | (apply e_ret (vs := [.d (.val _)]); rfl)
    | (apply e_ret; rfl)
    | (apply e_ret' (vs := [.d (.val _)]); rfl)
    | (apply e_ret'; rfl)
    | (apply w_seq)
    | (apply w_ops; ((conv => lhs; simp only [Nat.reduceAdd]) <;> rfl))
    | (apply e_thenN)
    | (apply w_block)
    | (apply e_thenR)
    | (apply e_thenX)
    | (apply e_blkN)
    | (apply e_blkR)
    | (apply e_blkE)
    | (apply w_exit)
    | (apply w_ret)
    | (apply w_skip)
    | (apply e_blkE'; rfl))
    exact retB rfl
  have hok := ok_of_right ht hr
  have h38 := wide_good 1000000 t (by omega) (by omega) hok
  have ev : few11 s t = decide (wideT t ≤ 3000) := by simp [few11, hf, h40, hr]
  rw [ev]
  rw [hr] at h32
  have hw := wideT_in t hok
  generalize wideT t = wt at h38 hw ⊢
  clear ht ev hf hc hr hok
  obtain ⟨k, a, b, c, d, mn, mx, subs⟩ := t
  have e0 : nodeA (.node k a b c d mn mx subs) = .agg [.i k, .d (.val (.int .u64 a)), .d (.val (.int .u64 b)), .d (.val (.int .u64 c)), .d (.val (.int .u64 d)), .i mn, .i mx, .d (.sl (encL subs) subs.length)] := rfl
  rw [e0] at h45 h32 h38 ⊢
  refine b30 (by simp) (by simp) (w_init ?_)
  unfold x30
  repeat' (first
    | (apply r_mvV; rfl)
    | (apply r_mvP; rfl)
    | (apply r_mvPL; rfl)
    | (apply r_mvS; rfl)
    | (apply r_mvSL; rfl)
    | (apply r_mvA; rfl)
    | (apply r_mvT; rfl)
    | (apply r_mvF; rfl)
    | (apply r_mvD; rfl)
    | (apply r_l; apply ld_kind; assumption; rfl)
    | (apply r_l; apply ld_mn; assumption; rfl)
    | (apply r_l; apply ld_mx; assumption; rfl)
    | (apply r_l; apply ld_subs; assumption; rfl)
    | (apply r_l; apply ld_set; assumption; rfl)
    | (apply r_l; apply ld_node; assumption; rfl)
    | (apply r_l; apply ld_kind'; assumption; rfl)
    | (apply r_l; apply ld_mn'; assumption; rfl)
    | (apply r_l; apply ld_mx'; assumption; rfl)
    | (apply r_l; apply ld_subs'; assumption; rfl)
    | (apply r_l; apply ld_node'; assumption; rfl)
    | (apply r_callA; rfl; rfl; exact h45)
    | (apply r_callA; rfl; rfl; exact h32)
    | (apply r_callA; rfl; rfl; exact h38)
    | (apply r_ldL; rfl; rfl; rfl)
    | (apply r_leq; rfl; rfl; (first | (apply decide_eq_true; omega) | (apply decide_eq_false; omega) | rfl))
    | (apply r_not; rfl; rfl)
    | (apply r_pickT; rfl)
    | (apply r_pickF; rfl)
    | (apply r_lenT; rfl)
    | (apply r_gT; rfl)
    | (apply r_gF'; rfl; rfl)
    | (apply r_gN'; rfl)
    | ((apply r_gS (o := default); rfl) <;> (intro h; try simp only [decide_eq_true_eq, decide_eq_false_iff_not, Bool.not_eq_true, Bool.not_eq_false] at h))
    | (apply r_box; ((conv => lhs; simp only [Nat.reduceAdd]) <;> rfl); rfl; rfl; rfl)
    | (apply r_nilK)
    | (apply r_nil)
    | (apply k_V; rfl)
    | (apply k_P; rfl)
    | (apply k_PL; rfl)
    | (apply k_S; rfl)
    | (apply k_SL; rfl)
    | (apply k_A; rfl)
    | (apply k_T; rfl)
    | (apply k_F; rfl)
    | (apply k_D; rfl; rotate_left; rfl)
    | (apply k_nil)
    | (apply e_ret (vs := [.d (.val _)]); rfl)
    | (apply e_ret; rfl)
    | (apply e_ret' (vs := [.d (.val _)]); rfl)
    | (apply e_ret'; rfl)
    | (apply w_seq)
    | (apply w_ops; ((conv => lhs; simp only [Nat.reduceAdd]) <;> rfl))
    | (apply e_thenN)
    | (apply w_block)
    | (apply e_thenR)
    | (apply e_thenX)
    | (apply e_blkN)
    | (apply e_blkR)
    | (apply e_blkE)
    | (apply w_exit)
    | (apply w_ret)
    | (apply w_skip)
    | (apply e_blkE'; rfl))
  all_goals exact retB rfl
theorem all_ref (s : ByteArray) (t : T) (hf : fitsT t 12 = true) (hok : okT t) (j : Nat) (hj : j ≤ s.size) : allG s t j = rallG s t j := by
  have : 0 ≤ ((j : Nat) : Int) ∧ ((j : Nat) : Int) ≤ s.size := by omega
  simp only [allG, hf, this, and_self, if_true, Int.toNat_natCast, rallG]
  rw [step_ref s t hok (by simp)]
theorem law3 (t : T) (s : ByteArray) (n : Int) (ht : inT t) (hs : s.size ≤ 9223372036854775807) (hn : inW n) : Good Try.prog 3 [nodeA t, .d (.val (.string s)), .i n] none (.b true) none none := by
  have haw := awake11_good
  have h30 := few30_good s hs t ht
  have hna : [nodeA t].all AV.nrm = true := by rw [List.all_cons, nodeA_nrm]; rfl
  unfold inW at hn
  by_cases hf : few11 s t = true
  case neg =>
    have hf : few11 s t = false := by simpa using hf
    rw [hf] at h30
    clear ht hf
    obtain ⟨k, a, b, c, d, mn, mx, subs⟩ := t
    have e0 : nodeA (.node k a b c d mn mx subs) = .agg [.i k, .d (.val (.int .u64 a)), .d (.val (.int .u64 b)), .d (.val (.int .u64 c)), .d (.val (.int .u64 d)), .i mn, .i mx, .d (.sl (encL subs) subs.length)] := rfl
    rw [e0] at h30 ⊢
    refine b3 (by simp) (by simp) (w_init ?_)
    unfold x3
    repeat' (first
    | (apply r_mvV; rfl)
    | (apply r_mvP; rfl)
    | (apply r_mvPL; rfl)
    | (apply r_mvS; rfl)
    | (apply r_mvSL; rfl)
    | (apply r_mvA; rfl)
    | (apply r_mvT; rfl)
    | (apply r_mvF; rfl)
    | (apply r_mvD; rfl)
    | (apply r_l; apply ld_kind; assumption; rfl)
    | (apply r_l; apply ld_mn; assumption; rfl)
    | (apply r_l; apply ld_mx; assumption; rfl)
    | (apply r_l; apply ld_subs; assumption; rfl)
    | (apply r_l; apply ld_set; assumption; rfl)
    | (apply r_l; apply ld_node; assumption; rfl)
    | (apply r_l; apply ld_kind'; assumption; rfl)
    | (apply r_l; apply ld_mn'; assumption; rfl)
    | (apply r_l; apply ld_mx'; assumption; rfl)
    | (apply r_l; apply ld_subs'; assumption; rfl)
    | (apply r_l; apply ld_node'; assumption; rfl)
    | (apply r_callA; rfl; rfl; exact haw)
    | (apply r_callA; rfl; rfl; exact h30)
    | (apply r_ldL; rfl; rfl; rfl)
    | (apply r_eql; rfl; rfl; (first | (apply decide_eq_true; omega) | (apply decide_eq_false; omega) | rfl))
    | (apply r_lss; rfl; rfl; (first | (apply decide_eq_true; omega) | (apply decide_eq_false; omega) | rfl))
    | (apply r_gtr; rfl; rfl; (first | (apply decide_eq_true; omega) | (apply decide_eq_false; omega) | rfl))
    | (apply r_not; rfl; rfl)
    | (apply r_pickT; rfl)
    | (apply r_pickF; rfl)
    | (apply r_lenD; rfl)
    | (apply r_lenL; rfl)
    | (apply r_len0; rfl)
    | (apply r_lenT; rfl)
    | (apply r_ext; rfl; rfl)
    | (apply r_gT; rfl)
    | (apply r_gF'; rfl; rfl)
    | (apply r_gN'; rfl)
    | ((apply r_gS (o := default); rfl) <;> (intro h; try simp only [decide_eq_true_eq, decide_eq_false_iff_not, Bool.not_eq_true, Bool.not_eq_false] at h))
    | (apply r_box; ((conv => lhs; simp only [Nat.reduceAdd]) <;> rfl); rfl; rfl; rfl)
    | (apply r_nilK)
    | (apply r_nil)
    | (apply k_V; rfl)
    | (apply k_P; rfl)
    | (apply k_PL; rfl)
    | (apply k_S; rfl)
    | (apply k_SL; rfl)
    | (apply k_A; rfl)
    | (apply k_T; rfl)
    | (apply k_F; rfl)
    | (apply k_D; rfl; rotate_left; rfl)
    | (apply k_nil)
    | (apply e_ret (vs := [.d (.val _)]); rfl)
    | (apply e_ret; rfl)
    | (apply e_ret' (vs := [.d (.val _)]); rfl)
    | (apply e_ret'; rfl)
    | (apply w_seq)
    | (apply w_ops; ((conv => lhs; simp only [Nat.reduceAdd]) <;> rfl))
    | (apply w_condT; rfl)
    | (apply w_condF; rfl)
    | ((apply w_condS; rfl) <;> (intro h; try simp only [decide_eq_true_eq, decide_eq_false_iff_not, Bool.not_eq_true, Bool.not_eq_false] at h))
    | (apply e_thenN)
    | (apply w_block)
    | (apply e_thenR)
    | (apply e_thenX)
    | (apply e_blkN)
    | (apply e_blkR)
    | (apply e_blkE)
    | (apply w_exit)
    | (apply w_ret)
    | (apply w_skip)
    | (apply e_blkE'; rfl))
    exact retB rfl
  rw [hf] at h30
  simp only [few11, Bool.and_eq_true, decide_eq_true_eq] at hf
  obtain ⟨hf1, hf2, _⟩ := hf
  have hc := few_cnt hf1
  have h32 := right8_good t (by omega)
  have hok12 : fitsT t 12 = true → okT t := fun h => ok_of_right ht (by rw [right_fits]; exact h)
  have h31 := all_good s (by omega) t (by omega) hok12 n
  have h33 := match_good s (by omega) t (by omega) hok12
  have h34 := longest_good s (by omega) t (by omega) hok12 n
  by_cases hr : rightT t = true
  case neg =>
    have hr : rightT t = false := by simpa using hr
    have hfi : fitsT t 12 = false := by rw [← right_fits]; exact hr
    have hg : ∀ m, allG s t m = [] := fun m => by simp [allG, hfi]
    have he : allE s t n = 1 := by simp [allE, hfi]
    have hm : decide (lastG (allG s t 0) = s.size) = false := by
      rw [hg]; simp [lastG]
    rw [hr] at h32
    rw [hg, he] at h31
    rw [hm] at h33
    clear ht hok12 hr hfi hg he hm h34 hc hf1
    obtain ⟨k, a, b, c, d, mn, mx, subs⟩ := t
    have e0 : nodeA (.node k a b c d mn mx subs) = .agg [.i k, .d (.val (.int .u64 a)), .d (.val (.int .u64 b)), .d (.val (.int .u64 c)), .d (.val (.int .u64 d)), .i mn, .i mx, .d (.sl (encL subs) subs.length)] := rfl
    rw [e0] at h30 h31 h32 h33 ⊢
    refine b3 (by simp) (by simp) (w_init ?_)
    unfold x3
    repeat' (first
    | (apply r_mvV; rfl)
    | (apply r_mvP; rfl)
    | (apply r_mvPL; rfl)
    | (apply r_mvS; rfl)
    | (apply r_mvSL; rfl)
    | (apply r_mvA; rfl)
    | (apply r_mvT; rfl)
    | (apply r_mvF; rfl)
    | (apply r_mvD; rfl)
    | (apply r_l; apply ld_kind; assumption; rfl)
    | (apply r_l; apply ld_mn; assumption; rfl)
    | (apply r_l; apply ld_mx; assumption; rfl)
    | (apply r_l; apply ld_subs; assumption; rfl)
    | (apply r_l; apply ld_set; assumption; rfl)
    | (apply r_l; apply ld_node; assumption; rfl)
    | (apply r_l; apply ld_kind'; assumption; rfl)
    | (apply r_l; apply ld_mn'; assumption; rfl)
    | (apply r_l; apply ld_mx'; assumption; rfl)
    | (apply r_l; apply ld_subs'; assumption; rfl)
    | (apply r_l; apply ld_node'; assumption; rfl)
    | (apply r_callA; rfl; rfl; exact haw)
    | (apply r_callA; rfl; rfl; exact h30)
    | (apply r_callA; rfl; rfl; exact h31)
    | (apply r_callA; rfl; rfl; exact h32)
    | (apply r_callA; rfl; rfl; exact h33)
    | (apply r_ldL; rfl; rfl; rfl)
    | (apply r_eql; rfl; rfl; (first | (apply decide_eq_true; omega) | (apply decide_eq_false; omega) | rfl))
    | (apply r_lss; rfl; rfl; (first | (apply decide_eq_true; omega) | (apply decide_eq_false; omega) | rfl))
    | (apply r_gtr; rfl; rfl; (first | (apply decide_eq_true; omega) | (apply decide_eq_false; omega) | rfl))
    | (apply r_not; rfl; rfl)
    | (apply r_pickT; rfl)
    | (apply r_pickF; rfl)
    | (apply r_lenD; rfl)
    | (apply r_lenL; rfl)
    | (apply r_len0; rfl)
    | (apply r_lenT; rfl)
    | (apply r_ext; rfl; rfl)
    | (apply r_gT; rfl)
    | (apply r_gF'; rfl; rfl)
    | (apply r_gN'; rfl)
    | ((apply r_gS (o := default); rfl) <;> (intro h; try simp only [decide_eq_true_eq, decide_eq_false_iff_not, Bool.not_eq_true, Bool.not_eq_false] at h))
    | (apply r_box; ((conv => lhs; simp only [Nat.reduceAdd]) <;> rfl); rfl; rfl; rfl)
    | (apply r_nilK)
    | (apply r_nil)
    | (apply k_V; rfl)
    | (apply k_P; rfl)
    | (apply k_PL; rfl)
    | (apply k_S; rfl)
    | (apply k_SL; rfl)
    | (apply k_A; rfl)
    | (apply k_T; rfl)
    | (apply k_F; rfl)
    | (apply k_D; rfl; rotate_left; rfl)
    | (apply k_nil)
    | (apply e_ret (vs := [.d (.val _)]); rfl)
    | (apply e_ret; rfl)
    | (apply e_ret' (vs := [.d (.val _)]); rfl)
    | (apply e_ret'; rfl)
    | (apply w_seq)
    | (apply w_ops; ((conv => lhs; simp only [Nat.reduceAdd]) <;> rfl))
    | (apply w_condT; rfl)
    | (apply w_condF; rfl)
    | ((apply w_condS; rfl) <;> (intro h; try simp only [decide_eq_true_eq, decide_eq_false_iff_not, Bool.not_eq_true, Bool.not_eq_false] at h))
    | (apply e_thenN)
    | (apply w_block)
    | (apply e_thenR)
    | (apply e_thenX)
    | (apply e_blkN)
    | (apply e_blkR)
    | (apply e_blkE)
    | (apply w_exit)
    | (apply w_ret)
    | (apply w_skip)
    | (apply e_blkE'; rfl))
    exact retB rfl
  have hfi : fitsT t 12 = true := by rw [← right_fits]; exact hr
  rw [hr] at h32
  by_cases hfr : 0 ≤ n ∧ n ≤ s.size
  case neg =>
    have hg : allG s t n = [] := by simp only [allG, hfr, and_false, if_false]
    have he : allE s t n = 2 := by simp only [allE, hfi, hfr, if_true, if_false]
    have hlast : lastG ([] : List Int) = -1 := rfl
    rw [hg, he] at h31
    rw [hg, hlast] at h34
    clear ht hok12 hr hfi hg he h33 hc hf1
    obtain ⟨k, a, b, c, d, mn, mx, subs⟩ := t
    have e0 : nodeA (.node k a b c d mn mx subs) = .agg [.i k, .d (.val (.int .u64 a)), .d (.val (.int .u64 b)), .d (.val (.int .u64 c)), .d (.val (.int .u64 d)), .i mn, .i mx, .d (.sl (encL subs) subs.length)] := rfl
    rw [e0] at h30 h31 h32 h34 ⊢
    refine b3 (by simp) (by simp) (w_init ?_)
    unfold x3
    repeat' (first
    | (apply r_mvV; rfl)
    | (apply r_mvP; rfl)
    | (apply r_mvPL; rfl)
    | (apply r_mvS; rfl)
    | (apply r_mvSL; rfl)
    | (apply r_mvA; rfl)
    | (apply r_mvT; rfl)
    | (apply r_mvF; rfl)
    | (apply r_mvD; rfl)
    | (apply r_l; apply ld_kind; assumption; rfl)
    | (apply r_l; apply ld_mn; assumption; rfl)
    | (apply r_l; apply ld_mx; assumption; rfl)
    | (apply r_l; apply ld_subs; assumption; rfl)
    | (apply r_l; apply ld_set; assumption; rfl)
    | (apply r_l; apply ld_node; assumption; rfl)
    | (apply r_l; apply ld_kind'; assumption; rfl)
    | (apply r_l; apply ld_mn'; assumption; rfl)
    | (apply r_l; apply ld_mx'; assumption; rfl)
    | (apply r_l; apply ld_subs'; assumption; rfl)
    | (apply r_l; apply ld_node'; assumption; rfl)
    | (apply r_callA; rfl; rfl; exact haw)
    | (apply r_callA; rfl; rfl; exact h30)
    | (apply r_callA; rfl; rfl; exact h31)
    | (apply r_callA; rfl; rfl; exact h32)
    | (apply r_callA; rfl; rfl; exact h34)
    | (apply r_ldL; rfl; rfl; rfl)
    | (apply r_eql; rfl; rfl; (first | (apply decide_eq_true; omega) | (apply decide_eq_false; omega) | rfl))
    | (apply r_lss; rfl; rfl; (first | (apply decide_eq_true; omega) | (apply decide_eq_false; omega) | rfl))
    | (apply r_gtr; rfl; rfl; (first | (apply decide_eq_true; omega) | (apply decide_eq_false; omega) | rfl))
    | (apply r_not; rfl; rfl)
    | (apply r_pickT; rfl)
    | (apply r_pickF; rfl)
    | (apply r_lenD; rfl)
    | (apply r_lenL; rfl)
    | (apply r_len0; rfl)
    | (apply r_lenT; rfl)
    | (apply r_ext; rfl; rfl)
    | (apply r_gT; rfl)
    | (apply r_gF'; rfl; rfl)
    | (apply r_gN'; rfl)
    | ((apply r_gS (o := default); rfl) <;> (intro h; try simp only [decide_eq_true_eq, decide_eq_false_iff_not, Bool.not_eq_true, Bool.not_eq_false] at h))
    | (apply r_box; ((conv => lhs; simp only [Nat.reduceAdd]) <;> rfl); rfl; rfl; rfl)
    | (apply r_nilK)
    | (apply r_nil)
    | (apply k_V; rfl)
    | (apply k_P; rfl)
    | (apply k_PL; rfl)
    | (apply k_S; rfl)
    | (apply k_SL; rfl)
    | (apply k_A; rfl)
    | (apply k_T; rfl)
    | (apply k_F; rfl)
    | (apply k_D; rfl; rotate_left; rfl)
    | (apply k_nil)
    | (apply e_ret (vs := [.d (.val _)]); rfl)
    | (apply e_ret; rfl)
    | (apply e_ret' (vs := [.d (.val _)]); rfl)
    | (apply e_ret'; rfl)
    | (apply w_seq)
    | (apply w_ops; ((conv => lhs; simp only [Nat.reduceAdd]) <;> rfl))
    | (apply w_condT; rfl)
    | (apply w_condF; rfl)
    | ((apply w_condS; rfl) <;> (intro h; try simp only [decide_eq_true_eq, decide_eq_false_iff_not, Bool.not_eq_true, Bool.not_eq_false] at h))
    | (apply e_thenN)
    | (apply w_block)
    | (apply e_thenR)
    | (apply e_thenX)
    | (apply e_blkN)
    | (apply e_blkR)
    | (apply e_blkE)
    | (apply w_exit)
    | (apply w_ret)
    | (apply w_skip)
    | (apply e_blkE'; rfl))
    all_goals exact retB rfl
  obtain ⟨j, rfl⟩ := Int.eq_ofNat_of_zero_le hfr.1
  have hok := hok12 hfi
  have hj : j ≤ s.size := by omega
  have h36 := all36_good s (by omega) t (by omega) hok j hj
  have h37 := longest37_good s (by omega) t (by omega) hok j hj
  have heq := all_ref s t hfi hok j hj
  have he : allE s t (j : Nat) = 0 := by simp only [allE, hfi, hfr, and_self, if_true]
  rw [heq, he] at h31
  rw [heq] at h34
  have hL : (rallG s t j).length ≤ 1000001 := Nat.le_trans (idxTo_len _ _) (by omega)
  have h35 := same_good (rallG s t j) (rallG s t j) hL
  rw [show decide (rallG s t j = rallG s t j) = true by simp] at h35
  generalize rallG s t j = LL at h31 h34 h35 h36 h37 hL
  clear ht hok12 hr hfi heq he h33 hc hf1 hok
  obtain ⟨k, a, b, c, d, mn, mx, subs⟩ := t
  have e0 : nodeA (.node k a b c d mn mx subs) = .agg [.i k, .d (.val (.int .u64 a)), .d (.val (.int .u64 b)), .d (.val (.int .u64 c)), .d (.val (.int .u64 d)), .i mn, .i mx, .d (.sl (encL subs) subs.length)] := rfl
  rw [e0] at h30 h31 h32 h34 h36 h37 ⊢
  refine b3 (by simp) (by simp) (w_init ?_)
  unfold x3
  repeat' (first
    | (apply r_mvV; rfl)
    | (apply r_mvP; rfl)
    | (apply r_mvPL; rfl)
    | (apply r_mvS; rfl)
    | (apply r_mvSL; rfl)
    | (apply r_mvA; rfl)
    | (apply r_mvT; rfl)
    | (apply r_mvF; rfl)
    | (apply r_mvD; rfl)
    | (apply r_l; apply ld_kind; assumption; rfl)
    | (apply r_l; apply ld_mn; assumption; rfl)
    | (apply r_l; apply ld_mx; assumption; rfl)
    | (apply r_l; apply ld_subs; assumption; rfl)
    | (apply r_l; apply ld_set; assumption; rfl)
    | (apply r_l; apply ld_node; assumption; rfl)
    | (apply r_l; apply ld_kind'; assumption; rfl)
    | (apply r_l; apply ld_mn'; assumption; rfl)
    | (apply r_l; apply ld_mx'; assumption; rfl)
    | (apply r_l; apply ld_subs'; assumption; rfl)
    | (apply r_l; apply ld_node'; assumption; rfl)
    | (apply r_callA; rfl; rfl; exact haw)
    | (apply r_callA; rfl; rfl; exact h30)
    | (apply r_callA; rfl; rfl; exact h31)
    | (apply r_callA; rfl; rfl; exact h32)
    | (apply r_callA; rfl; rfl; exact h34)
    | (apply r_callA; rfl; rfl; exact h35)
    | (apply r_callA; rfl; rfl; exact h36)
    | (apply r_callA; rfl; rfl; exact h37)
    | (apply r_ldL; rfl; rfl; rfl)
    | (apply r_eql; rfl; rfl; (first | (apply decide_eq_true; omega) | (apply decide_eq_false; omega) | rfl))
    | (apply r_lss; rfl; rfl; (first | (apply decide_eq_true; omega) | (apply decide_eq_false; omega) | rfl))
    | (apply r_gtr; rfl; rfl; (first | (apply decide_eq_true; omega) | (apply decide_eq_false; omega) | rfl))
    | (apply r_not; rfl; rfl)
    | (apply r_pickT; rfl)
    | (apply r_pickF; rfl)
    | (apply r_lenD; rfl)
    | (apply r_lenL; rfl)
    | (apply r_len0; rfl)
    | (apply r_lenT; rfl)
    | (apply r_ext; rfl; rfl)
    | (apply r_gT; rfl)
    | (apply r_gF'; rfl; rfl)
    | (apply r_gN'; rfl)
    | ((apply r_gS (o := default); rfl) <;> (intro h; try simp only [decide_eq_true_eq, decide_eq_false_iff_not, Bool.not_eq_true, Bool.not_eq_false] at h))
    | (apply r_box; ((conv => lhs; simp only [Nat.reduceAdd]) <;> rfl); rfl; rfl; rfl)
    | (apply r_nilK)
    | (apply r_nil)
    | (apply k_V; rfl)
    | (apply k_P; rfl)
    | (apply k_PL; rfl)
    | (apply k_S; rfl)
    | (apply k_SL; rfl)
    | (apply k_A; rfl)
    | (apply k_T; rfl)
    | (apply k_F; rfl)
    | (apply k_D; rfl; rotate_left; rfl)
    | (apply k_nil)
    | (apply e_ret (vs := [.d (.val _)]); rfl)
    | (apply e_ret; rfl)
    | (apply e_ret' (vs := [.d (.val _)]); rfl)
    | (apply e_ret'; rfl)
    | (apply w_seq)
    | (apply w_ops; ((conv => lhs; simp only [Nat.reduceAdd]) <;> rfl))
    | (apply w_condT; rfl)
    | (apply w_condF; rfl)
    | ((apply w_condS; rfl) <;> (intro h; try simp only [decide_eq_true_eq, decide_eq_false_iff_not, Bool.not_eq_true, Bool.not_eq_false] at h))
    | (apply e_thenN)
    | (apply w_block)
    | (apply e_thenR)
    | (apply e_thenX)
    | (apply e_blkN)
    | (apply e_blkR)
    | (apply e_blkE)
    | (apply w_exit)
    | (apply w_ret)
    | (apply w_skip)
    | (apply e_blkE'; rfl))
  all_goals exact retB rfl
end Go.Sv
namespace Go.Sv
open Go Go.Proofs
def x7 : XC := (.seq (.ops 2 [
    (0, ⟨(some 4), none, .box (.t 0)⟩),
    (1, ⟨(some 8), none, .mv (.k (.d (.val (.bool false))))⟩)] (some [1, 2, 3, 4])) (.seq (.seq (.ops 25 [
    (0, ⟨(some 15), none, .call 29 [] none false⟩),
    (1, ⟨(some 16), none, .un .not (.t 15)⟩),
    (2, ⟨(some 17), none, .mv (.t 16)⟩),
    (3, ⟨(some 18), (some (17, false)), .load (some 8) (.t 4)⟩),
    (4, ⟨(some 19), (some (17, false)), .mv (.t 1)⟩),
    (5, ⟨(some 20), (some (17, false)), .mv (.t 2)⟩),
    (6, ⟨(some 21), (some (17, false)), .arith .add (.t 19) (.t 20)⟩),
    (7, ⟨(some 22), (some (17, false)), .call 30 [(.t 18), (.t 21)] none false⟩),
    (8, ⟨(some 23), (some (17, false)), .un .not (.t 22)⟩),
    (9, ⟨(some 24), none, .pick (.t 17) (.k (.d (.val (.bool true)))) (.t 23)⟩),
    (10, ⟨(some 25), none, .mv (.t 24)⟩),
    (11, ⟨(some 26), (some (25, false)), .load (some 8) (.t 4)⟩),
    (12, ⟨(some 27), (some (25, false)), .call 32 [(.t 26)] none false⟩),
    (13, ⟨(some 28), (some (25, false)), .un .not (.t 27)⟩),
    (14, ⟨(some 29), none, .pick (.t 25) (.k (.d (.val (.bool true)))) (.t 28)⟩),
    (15, ⟨(some 30), none, .mv (.t 29)⟩),
    (16, ⟨(some 31), (some (30, false)), .mv (.t 3)⟩),
    (17, ⟨(some 32), (some (30, false)), .arith .lss (.t 31) (.k (.d (.val (.int .i64 0))))⟩),
    (18, ⟨(some 33), none, .pick (.t 30) (.k (.d (.val (.bool true)))) (.t 32)⟩),
    (19, ⟨(some 34), none, .mv (.t 33)⟩),
    (20, ⟨(some 35), (some (34, false)), .mv (.t 3)⟩),
    (21, ⟨(some 36), (some (34, false)), .mv (.t 1)⟩),
    (22, ⟨(some 37), (some (34, false)), .lenT (.t 36)⟩),
    (23, ⟨(some 38), (some (34, false)), .arith .gtr (.t 35) (.t 37)⟩),
    (24, ⟨(some 39), none, .pick (.t 34) (.k (.d (.val (.bool true)))) (.t 38)⟩)] (some [1, 2, 3, 4, 39])) (.cond (.t 39) (.seq (.ops 2 [
    (0, ⟨(some 40), none, .call 29 [] none false⟩),
    (1, ⟨(some 8), none, .mv (.t 40)⟩)] (some [8])) .ret) .skip)) (.seq (.ops 9 [
    (0, ⟨(some 42), none, .load (some 8) (.t 4)⟩),
    (1, ⟨(some 43), none, .mv (.t 1)⟩),
    (2, ⟨(some 44), none, .mv (.t 3)⟩),
    (3, ⟨(some 45), none, .call 31 [(.t 42), (.t 43), (.t 44)] none false⟩),
    (4, ⟨(some 41), none, .mv (.t 45)⟩),
    (5, ⟨(some 46), none, .ext (.t 41) 0⟩),
    (6, ⟨(some 47), none, .ext (.t 41) 1⟩),
    (7, ⟨(some 9), none, .mv (.t 46)⟩),
    (8, ⟨(some 10), none, .mv (.t 47)⟩)] (some [1, 2, 3, 4, 9, 10])) (.seq (.ops 11 [
    (0, ⟨(some 49), none, .load (some 8) (.t 4)⟩),
    (1, ⟨(some 50), none, .mv (.t 1)⟩),
    (2, ⟨(some 51), none, .mv (.t 2)⟩),
    (3, ⟨(some 52), none, .arith .add (.t 50) (.t 51)⟩),
    (4, ⟨(some 53), none, .mv (.t 3)⟩),
    (5, ⟨(some 54), none, .call 31 [(.t 49), (.t 52), (.t 53)] none false⟩),
    (6, ⟨(some 48), none, .mv (.t 54)⟩),
    (7, ⟨(some 55), none, .ext (.t 48) 0⟩),
    (8, ⟨(some 56), none, .ext (.t 48) 1⟩),
    (9, ⟨(some 11), none, .mv (.t 55)⟩),
    (10, ⟨(some 12), none, .mv (.t 56)⟩)] (some [1, 9, 10, 11, 12])) (.seq (.seq (.ops 22 [
    (0, ⟨(some 57), none, .mv (.t 10)⟩),
    (1, ⟨(some 58), none, .arith .neq (.t 57) (.k (.d (.val (.int .i64 0))))⟩),
    (2, ⟨(some 59), none, .mv (.t 58)⟩),
    (3, ⟨(some 60), (some (59, false)), .mv (.t 12)⟩),
    (4, ⟨(some 61), (some (59, false)), .arith .neq (.t 60) (.k (.d (.val (.int .i64 0))))⟩),
    (5, ⟨(some 62), none, .pick (.t 59) (.k (.d (.val (.bool true)))) (.t 61)⟩),
    (6, ⟨(some 63), none, .mv (.t 62)⟩),
    (7, ⟨(some 64), (some (63, false)), .mv (.t 11)⟩),
    (8, ⟨(some 65), (some (63, false)), .lenS (.t 64)⟩),
    (9, ⟨(some 66), (some (63, false)), .mv (.t 9)⟩),
    (10, ⟨(some 67), (some (63, false)), .lenS (.t 66)⟩),
    (11, ⟨(some 68), (some (63, false)), .arith .lss (.t 65) (.t 67)⟩),
    (12, ⟨(some 69), none, .pick (.t 63) (.k (.d (.val (.bool true)))) (.t 68)⟩),
    (13, ⟨(some 70), none, .mv (.t 69)⟩),
    (14, ⟨(some 71), (some (70, false)), .mv (.t 9)⟩),
    (15, ⟨(some 72), (some (70, false)), .mv (.t 11)⟩),
    (16, ⟨(some 73), (some (70, false)), .mv (.t 9)⟩),
    (17, ⟨(some 74), (some (70, false)), .lenS (.t 73)⟩),
    (18, ⟨(some 75), (some (70, false)), .slS 1 (.t 72) none (some (.t 74))⟩),
    (19, ⟨(some 76), (some (70, false)), .call 35 [(.t 71), (.t 75)] none false⟩),
    (20, ⟨(some 77), (some (70, false)), .un .not (.t 76)⟩),
    (21, ⟨(some 78), none, .pick (.t 70) (.k (.d (.val (.bool true)))) (.t 77)⟩)] (some [1, 9, 11, 78])) (.cond (.t 78) (.seq (.ops 1 [
    (0, ⟨(some 8), none, .mv (.k (.d (.val (.bool false))))⟩)] (some [8])) .ret) .skip)) (.seq (.seq (.ops 6 [
    (0, ⟨(some 79), none, .mv (.t 11)⟩),
    (1, ⟨(some 80), none, .mv (.t 9)⟩),
    (2, ⟨(some 81), none, .lenS (.t 80)⟩),
    (3, ⟨(some 82), none, .slS 1 (.t 79) (some (.t 81)) none⟩),
    (4, ⟨(some 83), none, .lenS (.t 82)⟩),
    (5, ⟨(some 84), none, .mv (.k (.d (.val (.int .i64 0))))⟩)] (some [1, 82, 83, 84])) (.block 0 (.loop (.seq (.ops 1 [
    (0, ⟨(some 85), none, .arith .lss (.t 84) (.t 83)⟩)] (some [1, 82, 83, 84, 85])) (.seq (.cond (.t 85) .skip (.exit 0)) (.seq (.block 1 (.seq (.ops 3 [
    (0, ⟨(some 86), none, .idxS 1 (.t 82) (.t 84)⟩),
    (1, ⟨(some 87), none, .load none (.t 86)⟩),
    (2, ⟨(some 14), none, .mv (.t 87)⟩)] (some [1, 14, 82, 83, 84])) (.seq (.ops 4 [
    (0, ⟨(some 88), none, .mv (.t 14)⟩),
    (1, ⟨(some 89), none, .mv (.t 1)⟩),
    (2, ⟨(some 90), none, .lenT (.t 89)⟩),
    (3, ⟨(some 91), none, .arith .leq (.t 88) (.t 90)⟩)] (some [1, 82, 83, 84, 91])) (.cond (.t 91) (.seq (.ops 1 [
    (0, ⟨(some 8), none, .mv (.k (.d (.val (.bool false))))⟩)] (some [8])) .ret) .skip)))) (.ops 2 [
    (0, ⟨(some 92), none, .arith .add (.t 84) (.k (.d (.val (.int .i64 1))))⟩),
    (1, ⟨(some 84), none, .mv (.t 92)⟩)] (some [1, 82, 83, 84])))))))) (.seq (.ops 1 [
    (0, ⟨(some 8), none, .mv (.k (.d (.val (.bool true))))⟩)] (some [8])) .ret)))))))
def md7 : FuncId → Option Nat × Bool
  | _ => (none, false)
def od7 : Nat → List (List Nat) × List Nat × Option (List Nat)
  | 0 => ([], [], some [1, 2, 3, 4])
  | 1 => ([], [], some [1, 2, 3, 4, 39])
  | 2 => ([], [], some [8])
  | 3 => ([], [], some [1, 2, 3, 4, 9, 10])
  | 4 => ([], [], some [1, 9, 10, 11, 12])
  | 5 => ([], [], some [1, 9, 11, 78])
  | 6 => ([], [], some [8])
  | 7 => ([], [], some [1, 82, 83, 84])
  | 8 => ([], [], some [1, 82, 83, 84, 85])
  | 9 => ([], [], some [1, 14, 82, 83, 84])
  | 10 => ([], [], some [1, 82, 83, 84, 91])
  | 11 => ([], [], some [8])
  | 12 => ([], [], some [1, 82, 83, 84])
  | 13 => ([], [], some [8])
  | _ => ([], [], none)
theorem b7 {ags : List AV} {row : Option (List DV)} {r : AV} {row' nw : Option (List DV)} (hal : ags.length ≤ 93) (hrow : row'.isSome = true → row.isSome = true) (h : xwp Try.prog x7 (retK [.tmp 8] row.isSome r row' nw) (St.init ags row)) : Good Try.prog 7 ags row r row' nw :=
  good_of_body' (md := md7) (od := od7) Try.f7 (by kernel_rfl) (by kernel_rfl) (by kernel_rfl) (by kernel_rfl) (by kernel_rfl) hal hrow h

section
variable {P : Program} {Q : Cont} {fr : Fr} {C : Heap} {Z Z' : Frz} {nx : Nat} {base n d : Nat} {l : List (Nat × XO)} {kp : Option (List Nat)} {x i y s : X}
theorem r_addS {a b : ByteArray} (hx : x.ev fr = .d (.val (.string a))) (hy : y.ev fr = .d (.val (.string b))) (h : a.size + b.size ≤ 9223372036854775807) (k : R P l base kp Q nx (fr.put d (.d (.val (.string (a ++ b))))) C Z) : R P ((n, ⟨some d, none, .arith .add x y⟩) :: l) base kp Q nx fr C Z := by
  refine r_p ?_ k
  have h' : ((a.size + b.size : Nat) : Int) ≤ 9223372036854775807 := by omega
  simp only [xp, hx, hy, arith, h', if_true, Option.map_some]
theorem r_slI {L : List Int} {e : Int} {m k0 : Nat} (hx : x.ev fr = .d (.sl (encI L) k0)) (hi : i.ev fr = .i e) (hm : e = (m : Nat)) (hk : L.length = k0) (hle : m ≤ k0) (k : R P l base kp Q nx (fr.put d (.d (.sl (encI (L.take m)) m))) C Z) : R P ((n, ⟨some d, none, .slS 1 x none (some i)⟩) :: l) base kp Q nx fr C Z := by
  subst hm hk
  refine r_p ?_ k
  have h1 : (encI L).length = L.length * 1 := by rw [encI_len]; omega
  simp only [xp, hx, h1, hiOf, loOf, hi, intUpto]
  rw [if_pos (by simp), if_pos (by omega)]
  simp only [Int.toNat_natCast, Option.bind_some, Option.map_some, Nat.zero_mul, List.drop_zero, Nat.sub_zero, Nat.mul_one]
  split
  · rename_i e; subst e; simp [encI]
  · simp [encI, List.map_take]
theorem r_slIlo {L : List Int} {e : Int} {m k0 k1 : Nat} (hx : x.ev fr = .d (.sl (encI L) k0)) (hi : i.ev fr = .i e) (hm : e = (m : Nat)) (hk : L.length = k0) (hle : m ≤ k0) (h1 : k0 - m = k1) (k : R P l base kp Q nx (fr.put d (.d (.sl (encI (L.drop m)) k1))) C Z) : R P ((n, ⟨some d, none, .slS 1 x (some i) none⟩) :: l) base kp Q nx fr C Z := by
  subst hm hk h1
  refine r_p ?_ k
  have h1 : (encI L).length = L.length * 1 := by rw [encI_len]; omega
  simp only [xp, hx, h1, hiOf, loOf, hi, intUpto]
  rw [if_pos (by simp), Option.bind_some, if_pos (by omega)]
  simp only [Int.toNat_natCast, Option.map_some, Nat.mul_one]
  split
  · rename_i e; rw [← e]; simp [encI]
  · simp only [encI, List.map_drop]
    rw [List.take_of_length_le (by simp)]
end
theorem idxTo_more (q : List Bool) (m : Nat) : ∀ k, ∃ r, idxTo q (m + k) = idxTo q m ++ r ∧ ∀ x ∈ r, (m : Int) ≤ x
  | 0 => ⟨[], by simp, by simp⟩
  | k + 1 => by
    obtain ⟨r, h1, h2⟩ := idxTo_more q m k
    rw [← Nat.add_assoc, idxTo]
    split
    · refine ⟨r ++ [((m + k : Nat) : Int)], by rw [h1, List.append_assoc], fun x hx => ?_⟩
      rcases List.mem_append.1 hx with hx | hx
      · exact h2 x hx
      · simp at hx; omega
    · exact ⟨r, h1, h2⟩
theorem idxTo_congr {q q' : List Bool} : ∀ (m : Nat), (∀ i, i < m → (At q i ↔ At q' i)) → idxTo q m = idxTo q' m
  | 0, _ => rfl
  | m + 1, h => by
    have ih := idxTo_congr m fun i hi => h i (by omega)
    have hm := h m (by omega)
    unfold At at hm
    simp only [idxTo, ih]
    by_cases h1 : q.getD m false = true
    · rw [if_pos h1, if_pos (hm.1 h1)]
    · rw [if_neg h1, if_neg (fun h2 => h1 (hm.2 h2))]
theorem byteN_app (s m : ByteArray) (i : Nat) (h : i < s.size) : byteN (s ++ m) i = byteN s i := by
  have e : (s ++ m).data = s.data ++ m.data := by simp
  have h' : i < s.data.size := h
  simp only [byteN, e, Array.getD_eq_getD_getElem?]
  rw [Array.getElem?_append_left h']
theorem size_app (s m : ByteArray) : (s ++ m).size = s.size + m.size := ByteArray.size_append
theorem word_more (s m : ByteArray) (i j : Nat) (h : j ≤ s.size) : word (s ++ m) i j = word s i j := by
  unfold word
  refine List.map_congr_left fun k hk => ?_
  have := List.mem_range'.1 hk
  obtain ⟨a, h1, h2⟩ := this
  exact byteN_app s m k (by omega)
theorem at_ends (s : ByteArray) (t : T) (hok : okT t) (j : Nat) (hj : j ≤ s.size) (k : Nat) : At (stepG s t ((List.replicate (s.size + 1) false).set j true)) k ↔ j ≤ k ∧ k ≤ s.size ∧ L t (word s j k) := by
  have hl : ((List.replicate (s.size + 1) false).set j true).length = s.size + 1 := by simp
  rw [(stepG_goes s t hok _ hl).2 k]
  constructor
  · rintro ⟨i, h1, h2, h3, h4⟩
    rw [at_set i (by simp; omega)] at h2
    rcases h2 with ⟨rfl, _⟩ | ⟨_, h⟩
    · exact ⟨h1, h3, h4⟩
    · exact absurd h (at_rep _ _)
  · rintro ⟨h1, h2, h3⟩
    exact ⟨j, h1, (at_set j (by simp; omega)).2 (.inl ⟨rfl, rfl⟩), h2, h3⟩
theorem allG_eq {s : ByteArray} {t : T} (hf : fitsT t 12 = true) {j : Nat} (hj : j ≤ s.size) : allG s t j = idxTo (stepG s t ((List.replicate (s.size + 1) false).set j true)) (s.size + 1) := by
  have : 0 ≤ ((j : Nat) : Int) ∧ ((j : Nat) : Int) ≤ s.size := by omega
  simp only [allG, hf, this, and_self, if_true, Int.toNat_natCast]
theorem longer (s m : ByteArray) (t : T) (hf : fitsT t 12 = true) (hok : okT t) (j : Nat) (hj : j ≤ s.size) : ∃ r, allG (s ++ m) t j = allG s t j ++ r ∧ ∀ x ∈ r, ((s.size : Nat) : Int) < x := by
  rw [allG_eq hf hj, allG_eq (s := s ++ m) hf (by rw [size_app]; omega)]
  obtain ⟨r, h1, h2⟩ := idxTo_more (stepG (s ++ m) t ((List.replicate ((s ++ m).size + 1) false).set j true)) (s.size + 1) m.size
  refine ⟨r, ?_, fun x hx => by have := h2 x hx; omega⟩
  have e1 : s.size + 1 + m.size = (s ++ m).size + 1 := by rw [size_app]; omega
  rw [e1] at h1
  rw [h1]
  congr 1
  refine idxTo_congr _ fun i hi => ?_
  rw [at_ends (s ++ m) t hok j (by rw [size_app]; omega) i, at_ends s t hok j hj i]
  rw [size_app, word_more s m j i (by omega)]
  constructor
  · rintro ⟨a, _, c⟩; exact ⟨a, by omega, c⟩
  · rintro ⟨a, b, c⟩; exact ⟨a, by omega, c⟩
set_option maxRecDepth 100000
set_option maxHeartbeats 4000000
attribute [local irreducible] W E R KP thenK blockK retK Good xwp aRun
theorem law7 (t : T) (s m : ByteArray) (n : Int) (ht : inT t) (hs : s.size ≤ 140737488355328) (hm : m.size ≤ 140737488355328) (hn : inW n) : Good Try.prog 7 [nodeA t, .d (.val (.string s)), .d (.val (.string m)), .i n] none (.b true) none none := by
  have haw := awake11_good
  have hsz := size_app s m
  have h30 := few30_good (s ++ m) (by omega) t ht
  unfold inW at hn
  by_cases hf : few11 (s ++ m) t = true
  case neg =>
    have hf : few11 (s ++ m) t = false := by simpa using hf
    rw [hf] at h30
    clear ht hf
    obtain ⟨k, a, b, c, d, mn, mx, subs⟩ := t
    have e0 : nodeA (.node k a b c d mn mx subs) = .agg [.i k, .d (.val (.int .u64 a)), .d (.val (.int .u64 b)), .d (.val (.int .u64 c)), .d (.val (.int .u64 d)), .i mn, .i mx, .d (.sl (encL subs) subs.length)] := rfl
    rw [e0] at h30 ⊢
    refine b7 (by simp) (by simp) (w_init ?_)
    unfold x7
    repeat' (first
    | (apply r_mvV; rfl)
    | (apply r_mvP; rfl)
    | (apply r_mvPL; rfl)
    | (apply r_mvS; rfl)
    | (apply r_mvSL; rfl)
    | (apply r_mvA; rfl)
    | (apply r_mvT; rfl)
    | (apply r_mvF; rfl)
    | (apply r_mvD; rfl)
    | (apply r_l; apply ld_kind; assumption; rfl)
    | (apply r_l; apply ld_mn; assumption; rfl)
    | (apply r_l; apply ld_mx; assumption; rfl)
    | (apply r_l; apply ld_subs; assumption; rfl)
    | (apply r_l; apply ld_set; assumption; rfl)
    | (apply r_l; apply ld_node; assumption; rfl)
    | (apply r_l; apply ld_kind'; assumption; rfl)
    | (apply r_l; apply ld_mn'; assumption; rfl)
    | (apply r_l; apply ld_mx'; assumption; rfl)
    | (apply r_l; apply ld_subs'; assumption; rfl)
    | (apply r_l; apply ld_node'; assumption; rfl)
    | (apply r_callA; rfl; rfl; exact haw)
    | (apply r_callA; rfl; rfl; exact h30)
    | (apply r_addS; rfl; rfl; omega)
    | (apply r_ldL; rfl; rfl; rfl)
    | (apply r_neq; rfl; rfl; (first | (apply decide_eq_true; omega) | (apply decide_eq_false; omega) | rfl))
    | (apply r_lss; rfl; rfl; (first | (apply decide_eq_true; omega) | (apply decide_eq_false; omega) | rfl))
    | (apply r_leq; rfl; rfl; (first | (apply decide_eq_true; omega) | (apply decide_eq_false; omega) | rfl))
    | (apply r_gtr; rfl; rfl; (first | (apply decide_eq_true; omega) | (apply decide_eq_false; omega) | rfl))
    | (apply r_add; rfl; rfl; rfl; omega)
    | (apply r_not; rfl; rfl)
    | (apply r_pickT; rfl)
    | (apply r_pickF; rfl)
    | (apply r_lenD; rfl)
    | (apply r_lenL; rfl)
    | (apply r_len0; rfl)
    | (apply r_lenT; rfl)
    | (apply r_ext; rfl; rfl)
    | (apply r_gT; rfl)
    | (apply r_gF'; rfl; rfl)
    | (apply r_gN'; rfl)
    | ((apply r_gS (o := default); rfl) <;> (intro h; try simp only [decide_eq_true_eq, decide_eq_false_iff_not, Bool.not_eq_true, Bool.not_eq_false] at h))
    | (apply r_box; ((conv => lhs; simp only [Nat.reduceAdd]) <;> rfl); rfl; rfl; rfl)
    | (apply r_p; rfl)
    | (apply r_nilK)
    | (apply r_nil)
    | (apply k_V; rfl)
    | (apply k_P; rfl)
    | (apply k_PL; rfl)
    | (apply k_S; rfl)
    | (apply k_SL; rfl)
    | (apply k_A; rfl)
    | (apply k_T; rfl)
    | (apply k_F; rfl)
    | (apply k_D; rfl; rotate_left; rfl)
    | (apply k_nil)
    | (apply e_ret (vs := [.d (.val _)]); rfl)
    | (apply e_ret; rfl)
    | (apply e_ret' (vs := [.d (.val _)]); rfl)
    | (apply e_ret'; rfl)
    | (apply w_seq)
    | (apply w_ops; ((conv => lhs; simp only [Nat.reduceAdd]) <;> rfl))
    | (apply w_condT; rfl)
    | (apply w_condF; rfl)
    | ((apply w_condS; rfl) <;> (intro h; try simp only [decide_eq_true_eq, decide_eq_false_iff_not, Bool.not_eq_true, Bool.not_eq_false] at h))
    | (apply e_thenN)
    | (apply w_block)
    | (apply e_thenR)
    | (apply e_thenX)
    | (apply e_blkN)
    | (apply e_blkR)
    | (apply e_blkE)
    | (apply w_exit)
    | (apply w_ret)
    | (apply w_skip)
    | (apply e_blkE'; rfl))
    exact retB rfl
  rw [hf] at h30
  simp only [few11, Bool.and_eq_true, decide_eq_true_eq] at hf
  obtain ⟨hf1, hf2, _⟩ := hf
  have hc := few_cnt hf1
  have h32 := right8_good t (by omega)
  by_cases hr : rightT t = true
  case neg =>
    have hr : rightT t = false := by simpa using hr
    rw [hr] at h32
    clear ht hr
    obtain ⟨k, a, b, c, d, mn, mx, subs⟩ := t
    have e0 : nodeA (.node k a b c d mn mx subs) = .agg [.i k, .d (.val (.int .u64 a)), .d (.val (.int .u64 b)), .d (.val (.int .u64 c)), .d (.val (.int .u64 d)), .i mn, .i mx, .d (.sl (encL subs) subs.length)] := rfl
    rw [e0] at h30 h32 ⊢
    refine b7 (by simp) (by simp) (w_init ?_)
    unfold x7
    repeat' (first
    | (apply r_mvV; rfl)
    | (apply r_mvP; rfl)
    | (apply r_mvPL; rfl)
    | (apply r_mvS; rfl)
    | (apply r_mvSL; rfl)
    | (apply r_mvA; rfl)
    | (apply r_mvT; rfl)
    | (apply r_mvF; rfl)
    | (apply r_mvD; rfl)
    | (apply r_l; apply ld_kind; assumption; rfl)
    | (apply r_l; apply ld_mn; assumption; rfl)
    | (apply r_l; apply ld_mx; assumption; rfl)
    | (apply r_l; apply ld_subs; assumption; rfl)
    | (apply r_l; apply ld_set; assumption; rfl)
    | (apply r_l; apply ld_node; assumption; rfl)
    | (apply r_l; apply ld_kind'; assumption; rfl)
    | (apply r_l; apply ld_mn'; assumption; rfl)
    | (apply r_l; apply ld_mx'; assumption; rfl)
    | (apply r_l; apply ld_subs'; assumption; rfl)
    | (apply r_l; apply ld_node'; assumption; rfl)
    | (apply r_callA; rfl; rfl; exact haw)
    | (apply r_callA; rfl; rfl; exact h30)
    | (apply r_callA; rfl; rfl; exact h32)
    | (apply r_addS; rfl; rfl; omega)
    | (apply r_ldL; rfl; rfl; rfl)
    | (apply r_neq; rfl; rfl; (first | (apply decide_eq_true; omega) | (apply decide_eq_false; omega) | rfl))
    | (apply r_lss; rfl; rfl; (first | (apply decide_eq_true; omega) | (apply decide_eq_false; omega) | rfl))
    | (apply r_leq; rfl; rfl; (first | (apply decide_eq_true; omega) | (apply decide_eq_false; omega) | rfl))
    | (apply r_gtr; rfl; rfl; (first | (apply decide_eq_true; omega) | (apply decide_eq_false; omega) | rfl))
    | (apply r_add; rfl; rfl; rfl; omega)
    | (apply r_not; rfl; rfl)
    | (apply r_pickT; rfl)
    | (apply r_pickF; rfl)
    | (apply r_lenD; rfl)
    | (apply r_lenL; rfl)
    | (apply r_len0; rfl)
    | (apply r_lenT; rfl)
    | (apply r_ext; rfl; rfl)
    | (apply r_gT; rfl)
    | (apply r_gF'; rfl; rfl)
    | (apply r_gN'; rfl)
    | ((apply r_gS (o := default); rfl) <;> (intro h; try simp only [decide_eq_true_eq, decide_eq_false_iff_not, Bool.not_eq_true, Bool.not_eq_false] at h))
    | (apply r_box; ((conv => lhs; simp only [Nat.reduceAdd]) <;> rfl); rfl; rfl; rfl)
    | (apply r_p; rfl)
    | (apply r_nilK)
    | (apply r_nil)
    | (apply k_V; rfl)
    | (apply k_P; rfl)
    | (apply k_PL; rfl)
    | (apply k_S; rfl)
    | (apply k_SL; rfl)
    | (apply k_A; rfl)
    | (apply k_T; rfl)
    | (apply k_F; rfl)
    | (apply k_D; rfl; rotate_left; rfl)
    | (apply k_nil)
    | (apply e_ret (vs := [.d (.val _)]); rfl)
    | (apply e_ret; rfl)
    | (apply e_ret' (vs := [.d (.val _)]); rfl)
    | (apply e_ret'; rfl)
    | (apply w_seq)
    | (apply w_ops; ((conv => lhs; simp only [Nat.reduceAdd]) <;> rfl))
    | (apply w_condT; rfl)
    | (apply w_condF; rfl)
    | ((apply w_condS; rfl) <;> (intro h; try simp only [decide_eq_true_eq, decide_eq_false_iff_not, Bool.not_eq_true, Bool.not_eq_false] at h))
    | (apply e_thenN)
    | (apply w_block)
    | (apply e_thenR)
    | (apply e_thenX)
    | (apply e_blkN)
    | (apply e_blkR)
    | (apply e_blkE)
    | (apply w_exit)
    | (apply w_ret)
    | (apply w_skip)
    | (apply e_blkE'; rfl))
    exact retB rfl
  have hfi : fitsT t 12 = true := by rw [← right_fits]; exact hr
  have hok : okT t := ok_of_right ht hr
  rw [hr] at h32
  by_cases hfr : 0 ≤ n ∧ n ≤ s.size
  case neg =>
    clear ht hr hfi hok
    obtain ⟨k, a, b, c, d, mn, mx, subs⟩ := t
    have e0 : nodeA (.node k a b c d mn mx subs) = .agg [.i k, .d (.val (.int .u64 a)), .d (.val (.int .u64 b)), .d (.val (.int .u64 c)), .d (.val (.int .u64 d)), .i mn, .i mx, .d (.sl (encL subs) subs.length)] := rfl
    rw [e0] at h30 h32 ⊢
    refine b7 (by simp) (by simp) (w_init ?_)
    unfold x7
    by_cases hneg : n < 0
    · repeat' (first
    | (apply r_mvV; rfl)
    | (apply r_mvP; rfl)
    | (apply r_mvPL; rfl)
    | (apply r_mvS; rfl)
    | (apply r_mvSL; rfl)
    | (apply r_mvA; rfl)
    | (apply r_mvT; rfl)
    | (apply r_mvF; rfl)
    | (apply r_mvD; rfl)
    | (apply r_l; apply ld_kind; assumption; rfl)
    | (apply r_l; apply ld_mn; assumption; rfl)
    | (apply r_l; apply ld_mx; assumption; rfl)
    | (apply r_l; apply ld_subs; assumption; rfl)
    | (apply r_l; apply ld_set; assumption; rfl)
    | (apply r_l; apply ld_node; assumption; rfl)
    | (apply r_l; apply ld_kind'; assumption; rfl)
    | (apply r_l; apply ld_mn'; assumption; rfl)
    | (apply r_l; apply ld_mx'; assumption; rfl)
    | (apply r_l; apply ld_subs'; assumption; rfl)
    | (apply r_l; apply ld_node'; assumption; rfl)
    | (apply r_callA; rfl; rfl; exact haw)
    | (apply r_callA; rfl; rfl; exact h30)
    | (apply r_callA; rfl; rfl; exact h32)
    | (apply r_addS; rfl; rfl; omega)
    | (apply r_ldL; rfl; rfl; rfl)
    | (apply r_neq; rfl; rfl; (first | (apply decide_eq_true; omega) | (apply decide_eq_false; omega) | rfl))
    | (apply r_lss; rfl; rfl; (first | (apply decide_eq_true; omega) | (apply decide_eq_false; omega) | rfl))
    | (apply r_leq; rfl; rfl; (first | (apply decide_eq_true; omega) | (apply decide_eq_false; omega) | rfl))
    | (apply r_gtr; rfl; rfl; (first | (apply decide_eq_true; omega) | (apply decide_eq_false; omega) | rfl))
    | (apply r_add; rfl; rfl; rfl; omega)
    | (apply r_not; rfl; rfl)
    | (apply r_pickT; rfl)
    | (apply r_pickF; rfl)
    | (apply r_lenD; rfl)
    | (apply r_lenL; rfl)
    | (apply r_len0; rfl)
    | (apply r_lenT; rfl)
    | (apply r_ext; rfl; rfl)
    | (apply r_gT; rfl)
    | (apply r_gF'; rfl; rfl)
    | (apply r_gN'; rfl)
    | ((apply r_gS (o := default); rfl) <;> (intro h; try simp only [decide_eq_true_eq, decide_eq_false_iff_not, Bool.not_eq_true, Bool.not_eq_false] at h))
    | (apply r_box; ((conv => lhs; simp only [Nat.reduceAdd]) <;> rfl); rfl; rfl; rfl)
    | (apply r_p; rfl)
    | (apply r_nilK)
    | (apply r_nil)
    | (apply k_V; rfl)
    | (apply k_P; rfl)
    | (apply k_PL; rfl)
    | (apply k_S; rfl)
    | (apply k_SL; rfl)
    | (apply k_A; rfl)
    | (apply k_T; rfl)
    | (apply k_F; rfl)
    | (apply k_D; rfl; rotate_left; rfl)
    | (apply k_nil)
    | (apply e_ret (vs := [.d (.val _)]); rfl)
    | (apply e_ret; rfl)
    | (apply e_ret' (vs := [.d (.val _)]); rfl)
    | (apply e_ret'; rfl)
    | (apply w_seq)
    | (apply w_ops; ((conv => lhs; simp only [Nat.reduceAdd]) <;> rfl))
    | (apply w_condT; rfl)
    | (apply w_condF; rfl)
    | ((apply w_condS; rfl) <;> (intro h; try simp only [decide_eq_true_eq, decide_eq_false_iff_not, Bool.not_eq_true, Bool.not_eq_false] at h))
    | (apply e_thenN)
    | (apply w_block)
    | (apply e_thenR)
    | (apply e_thenX)
    | (apply e_blkN)
    | (apply e_blkR)
    | (apply e_blkE)
    | (apply w_exit)
    | (apply w_ret)
    | (apply w_skip)
    | (apply e_blkE'; rfl))
      exact retB rfl
    · repeat' (first
    | (apply r_mvV; rfl)
    | (apply r_mvP; rfl)
    | (apply r_mvPL; rfl)
    | (apply r_mvS; rfl)
    | (apply r_mvSL; rfl)
    | (apply r_mvA; rfl)
    | (apply r_mvT; rfl)
    | (apply r_mvF; rfl)
    | (apply r_mvD; rfl)
    | (apply r_l; apply ld_kind; assumption; rfl)
    | (apply r_l; apply ld_mn; assumption; rfl)
    | (apply r_l; apply ld_mx; assumption; rfl)
    | (apply r_l; apply ld_subs; assumption; rfl)
    | (apply r_l; apply ld_set; assumption; rfl)
    | (apply r_l; apply ld_node; assumption; rfl)
    | (apply r_l; apply ld_kind'; assumption; rfl)
    | (apply r_l; apply ld_mn'; assumption; rfl)
    | (apply r_l; apply ld_mx'; assumption; rfl)
    | (apply r_l; apply ld_subs'; assumption; rfl)
    | (apply r_l; apply ld_node'; assumption; rfl)
    | (apply r_callA; rfl; rfl; exact haw)
    | (apply r_callA; rfl; rfl; exact h30)
    | (apply r_callA; rfl; rfl; exact h32)
    | (apply r_addS; rfl; rfl; omega)
    | (apply r_ldL; rfl; rfl; rfl)
    | (apply r_neq; rfl; rfl; (first | (apply decide_eq_true; omega) | (apply decide_eq_false; omega) | rfl))
    | (apply r_lss; rfl; rfl; (first | (apply decide_eq_true; omega) | (apply decide_eq_false; omega) | rfl))
    | (apply r_leq; rfl; rfl; (first | (apply decide_eq_true; omega) | (apply decide_eq_false; omega) | rfl))
    | (apply r_gtr; rfl; rfl; (first | (apply decide_eq_true; omega) | (apply decide_eq_false; omega) | rfl))
    | (apply r_add; rfl; rfl; rfl; omega)
    | (apply r_not; rfl; rfl)
    | (apply r_pickT; rfl)
    | (apply r_pickF; rfl)
    | (apply r_lenD; rfl)
    | (apply r_lenL; rfl)
    | (apply r_len0; rfl)
    | (apply r_lenT; rfl)
    | (apply r_ext; rfl; rfl)
    | (apply r_gT; rfl)
    | (apply r_gF'; rfl; rfl)
    | (apply r_gN'; rfl)
    | ((apply r_gS (o := default); rfl) <;> (intro h; try simp only [decide_eq_true_eq, decide_eq_false_iff_not, Bool.not_eq_true, Bool.not_eq_false] at h))
    | (apply r_box; ((conv => lhs; simp only [Nat.reduceAdd]) <;> rfl); rfl; rfl; rfl)
    | (apply r_p; rfl)
    | (apply r_nilK)
    | (apply r_nil)
    | (apply k_V; rfl)
    | (apply k_P; rfl)
    | (apply k_PL; rfl)
    | (apply k_S; rfl)
    | (apply k_SL; rfl)
    | (apply k_A; rfl)
    | (apply k_T; rfl)
    | (apply k_F; rfl)
    | (apply k_D; rfl; rotate_left; rfl)
    | (apply k_nil)
    | (apply e_ret (vs := [.d (.val _)]); rfl)
    | (apply e_ret; rfl)
    | (apply e_ret' (vs := [.d (.val _)]); rfl)
    | (apply e_ret'; rfl)
    | (apply w_seq)
    | (apply w_ops; ((conv => lhs; simp only [Nat.reduceAdd]) <;> rfl))
    | (apply w_condT; rfl)
    | (apply w_condF; rfl)
    | ((apply w_condS; rfl) <;> (intro h; try simp only [decide_eq_true_eq, decide_eq_false_iff_not, Bool.not_eq_true, Bool.not_eq_false] at h))
    | (apply e_thenN)
    | (apply w_block)
    | (apply e_thenR)
    | (apply e_thenX)
    | (apply e_blkN)
    | (apply e_blkR)
    | (apply e_blkE)
    | (apply w_exit)
    | (apply w_ret)
    | (apply w_skip)
    | (apply e_blkE'; rfl))
      exact retB rfl
  obtain ⟨j, rfl⟩ := Int.eq_ofNat_of_zero_le hfr.1
  have hj : j ≤ s.size := by omega
  have h31 := all_good s (by omega) t (by omega) (fun _ => hok) j
  have h31' := all_good (s ++ m) (by omega) t (by omega) (fun _ => hok) j
  have he : allE s t (j : Nat) = 0 := by simp only [allE, hfi, hfr, and_self, if_true]
  have he' : allE (s ++ m) t (j : Nat) = 0 := by
    have : 0 ≤ ((j : Nat) : Int) ∧ ((j : Nat) : Int) ≤ (s ++ m).size := by omega
    simp only [allE, hfi, this, and_self, if_true]
  obtain ⟨r, hl1, hl2⟩ := longer s m t hfi hok j hj
  have hL : (allG s t j).length ≤ 1000001 := by rw [allG_eq hfi hj]; exact Nat.le_trans (idxTo_len _ _) (by omega)
  have hL2 : (allG (s ++ m) t j).length ≤ 1000001 := by rw [allG_eq hfi (by omega)]; exact Nat.le_trans (idxTo_len _ _) (by omega)
  rw [he] at h31
  rw [he'] at h31'
  rw [hl1] at h31' hL2
  generalize allG s t j = LL at h31 h31' hL hL2
  have h35 := same_good LL LL hL
  rw [show decide (LL = LL) = true by simp] at h35
  have htk : (LL ++ r).take LL.length = LL := by simp
  have hdr : (LL ++ r).drop LL.length = r := by simp
  have hlen2 : (LL ++ r).length = LL.length + r.length := by simp
  clear ht hr hfi hok he he' hl1
  obtain ⟨k, a, b, c, d, mn, mx, subs⟩ := t
  have e0 : nodeA (.node k a b c d mn mx subs) = .agg [.i k, .d (.val (.int .u64 a)), .d (.val (.int .u64 b)), .d (.val (.int .u64 c)), .d (.val (.int .u64 d)), .i mn, .i mx, .d (.sl (encL subs) subs.length)] := rfl
  rw [e0] at h30 h31 h31' h32 ⊢
  refine b7 (by simp) (by simp) (w_init ?_)
  unfold x7
  repeat' (first
    | (apply r_mvV; rfl)
    | (apply r_mvP; rfl)
    | (apply r_mvPL; rfl)
    | (apply r_mvS; rfl)
    | (apply r_mvSL; rfl)
    | (apply r_mvA; rfl)
    | (apply r_mvT; rfl)
    | (apply r_mvF; rfl)
    | (apply r_mvD; rfl)
    | (apply r_l; apply ld_kind; assumption; rfl)
    | (apply r_l; apply ld_mn; assumption; rfl)
    | (apply r_l; apply ld_mx; assumption; rfl)
    | (apply r_l; apply ld_subs; assumption; rfl)
    | (apply r_l; apply ld_set; assumption; rfl)
    | (apply r_l; apply ld_node; assumption; rfl)
    | (apply r_l; apply ld_kind'; assumption; rfl)
    | (apply r_l; apply ld_mn'; assumption; rfl)
    | (apply r_l; apply ld_mx'; assumption; rfl)
    | (apply r_l; apply ld_subs'; assumption; rfl)
    | (apply r_l; apply ld_node'; assumption; rfl)
    | (apply r_callA; rfl; rfl; exact haw)
    | (apply r_callA; rfl; rfl; exact h30)
    | (apply r_callA; rfl; rfl; exact h31)
    | (apply r_callA; rfl; rfl; exact h31')
    | (apply r_callA; rfl; rfl; exact h32)
    | (apply r_addS; rfl; rfl; omega)
    | (apply r_slI (m := LL.length); rfl; rfl; rfl; rfl; omega; rw [htk])
    | (apply r_callA; rfl; rfl; exact h35)
    | (apply r_slIlo (m := LL.length) (k1 := r.length); rfl; rfl; rfl; rfl; omega; omega; rw [hdr])
    | (apply r_ldL; rfl; rfl; rfl)
    | (apply r_neq; rfl; rfl; (first | (apply decide_eq_true; omega) | (apply decide_eq_false; omega) | rfl))
    | (apply r_lss; rfl; rfl; (first | (apply decide_eq_true; omega) | (apply decide_eq_false; omega) | rfl))
    | (apply r_leq; rfl; rfl; (first | (apply decide_eq_true; omega) | (apply decide_eq_false; omega) | rfl))
    | (apply r_gtr; rfl; rfl; (first | (apply decide_eq_true; omega) | (apply decide_eq_false; omega) | rfl))
    | (apply r_add; rfl; rfl; rfl; omega)
    | (apply r_not; rfl; rfl)
    | (apply r_pickT; rfl)
    | (apply r_pickF; rfl)
    | (apply r_lenD; rfl)
    | (apply r_lenL; rfl)
    | (apply r_len0; rfl)
    | (apply r_lenT; rfl)
    | (apply r_ext; rfl; rfl)
    | (apply r_gT; rfl)
    | (apply r_gF'; rfl; rfl)
    | (apply r_gN'; rfl)
    | ((apply r_gS (o := default); rfl) <;> (intro h; try simp only [decide_eq_true_eq, decide_eq_false_iff_not, Bool.not_eq_true, Bool.not_eq_false] at h))
    | (apply r_box; ((conv => lhs; simp only [Nat.reduceAdd]) <;> rfl); rfl; rfl; rfl)
    | (apply r_p; rfl)
    | (apply r_nilK)
    | (apply r_nil)
    | (apply k_V; rfl)
    | (apply k_P; rfl)
    | (apply k_PL; rfl)
    | (apply k_S; rfl)
    | (apply k_SL; rfl)
    | (apply k_A; rfl)
    | (apply k_T; rfl)
    | (apply k_F; rfl)
    | (apply k_D; rfl; rotate_left; rfl)
    | (apply k_nil)
    | (apply e_ret (vs := [.d (.val _)]); rfl)
    | (apply e_ret; rfl)
    | (apply e_ret' (vs := [.d (.val _)]); rfl)
    | (apply e_ret'; rfl)
    | (apply w_seq)
    | (apply w_ops; ((conv => lhs; simp only [Nat.reduceAdd]) <;> rfl))
    | (apply w_condT; rfl)
    | (apply w_condF; rfl)
    | ((apply w_condS; rfl) <;> (intro h; try simp only [decide_eq_true_eq, decide_eq_false_iff_not, Bool.not_eq_true, Bool.not_eq_false] at h))
    | (apply e_thenN)
    | (apply w_block)
    | (apply e_thenR)
    | (apply e_thenX)
    | (apply e_blkN)
    | (apply e_blkR)
    | (apply e_blkE)
    | (apply w_exit)
    | (apply w_ret)
    | (apply w_skip)
    | (apply e_blkE'; rfl))
  apply w_loopI (S := fun i : Nat => ⟨(((Fr.nil.put 1 (.d (.val (.string s)))).put 82 (.d (.sl (encI r) r.length))).put 83 (.i r.length)).put 84 (.i i), Heap.nil, Frz.lo 200, 200⟩) (m := fun i => r.length - i) (I := fun i => i ≤ r.length) (i0 := 0)
  · exact Nat.zero_le _
  · refine wk0 (by omega) ?_
    repeat' (first
    | exact FWk.nil
    | (apply FWk.i; rfl; (first | rfl | omega | (simp; done)))
    | (apply FWk.sl; rfl; rfl; rfl; rfl; omega; rfl)
    | (apply FWk.ptr; rfl; rfl; rfl; omega; rfl)
    | (apply FWk.d; rfl; rfl)
    | (apply FWk.a; rfl; rfl; rfl)
    | (apply FWk.slN; rfl; omega; rfl))
  intro i K hi hK
  dsimp only
  rcases Nat.lt_or_ge i r.length with hlt | hge
  · have hg := List.getElem?_eq_getElem hlt
    have hgt := hl2 _ (List.getElem_mem hlt)
    repeat' (first
    | (apply r_mvV; rfl)
    | (apply r_mvP; rfl)
    | (apply r_mvPL; rfl)
    | (apply r_mvS; rfl)
    | (apply r_mvSL; rfl)
    | (apply r_mvA; rfl)
    | (apply r_mvT; rfl)
    | (apply r_mvF; rfl)
    | (apply r_mvD; rfl)
    | (apply r_ixI (j := i); rfl; rfl; rfl; rfl; omega)
    | (apply r_ldI; rfl; exact hg)
    | (apply r_ldL; rfl; rfl; rfl)
    | (apply r_neq; rfl; rfl; (first | (apply decide_eq_true; omega) | (apply decide_eq_false; omega) | rfl))
    | (apply r_lss; rfl; rfl; (first | (apply decide_eq_true; omega) | (apply decide_eq_false; omega) | rfl))
    | (apply r_leq; rfl; rfl; (first | (apply decide_eq_true; omega) | (apply decide_eq_false; omega) | rfl))
    | (apply r_gtr; rfl; rfl; (first | (apply decide_eq_true; omega) | (apply decide_eq_false; omega) | rfl))
    | (apply r_add; rfl; rfl; rfl; omega)
    | (apply r_not; rfl; rfl)
    | (apply r_pickT; rfl)
    | (apply r_pickF; rfl)
    | (apply r_lenD; rfl)
    | (apply r_lenL; rfl)
    | (apply r_len0; rfl)
    | (apply r_lenT; rfl)
    | (apply r_ext; rfl; rfl)
    | (apply r_gT; rfl)
    | (apply r_gF'; rfl; rfl)
    | (apply r_gN'; rfl)
    | ((apply r_gS (o := default); rfl) <;> (intro h; try simp only [decide_eq_true_eq, decide_eq_false_iff_not, Bool.not_eq_true, Bool.not_eq_false] at h))
    | (apply r_box; ((conv => lhs; simp only [Nat.reduceAdd]) <;> rfl); rfl; rfl; rfl)
    | (apply r_p; rfl)
    | (apply r_nilK)
    | (apply r_nil)
    | (apply k_V; rfl)
    | (apply k_P; rfl)
    | (apply k_PL; rfl)
    | (apply k_S; rfl)
    | (apply k_SL; rfl)
    | (apply k_A; rfl)
    | (apply k_T; rfl)
    | (apply k_F; rfl)
    | (apply k_D; rfl; rotate_left; rfl)
    | (apply k_nil)
    | (apply e_ret (vs := [.d (.val _)]); rfl)
    | (apply e_ret; rfl)
    | (apply e_ret' (vs := [.d (.val _)]); rfl)
    | (apply e_ret'; rfl)
    | (apply w_seq)
    | (apply w_ops; ((conv => lhs; simp only [Nat.reduceAdd]) <;> rfl))
    | (apply w_condT; rfl)
    | (apply w_condF; rfl)
    | ((apply w_condS; rfl) <;> (intro h; try simp only [decide_eq_true_eq, decide_eq_false_iff_not, Bool.not_eq_true, Bool.not_eq_false] at h))
    | (apply e_thenN)
    | (apply w_block)
    | (apply e_thenR)
    | (apply e_thenX)
    | (apply e_blkN)
    | (apply e_blkR)
    | (apply e_blkE)
    | (apply w_exit)
    | (apply w_ret)
    | (apply w_skip)
    | (apply e_blkE'; rfl))
    apply e_thenK
    apply hK (i + 1)
    · omega
    · omega
    · refine wk0 (by omega) ?_
      repeat' (first
    | exact FWk.nil
    | (apply FWk.i; rfl; (first | rfl | omega | (simp; done)))
    | (apply FWk.sl; rfl; rfl; rfl; rfl; omega; rfl)
    | (apply FWk.ptr; rfl; rfl; rfl; omega; rfl)
    | (apply FWk.d; rfl; rfl)
    | (apply FWk.a; rfl; rfl; rfl)
    | (apply FWk.slN; rfl; omega; rfl))
  · repeat' (first
    | (apply r_mvV; rfl)
    | (apply r_mvP; rfl)
    | (apply r_mvPL; rfl)
    | (apply r_mvS; rfl)
    | (apply r_mvSL; rfl)
    | (apply r_mvA; rfl)
    | (apply r_mvT; rfl)
    | (apply r_mvF; rfl)
    | (apply r_mvD; rfl)
    | (apply r_ldL; rfl; rfl; rfl)
    | (apply r_neq; rfl; rfl; (first | (apply decide_eq_true; omega) | (apply decide_eq_false; omega) | rfl))
    | (apply r_lss; rfl; rfl; (first | (apply decide_eq_true; omega) | (apply decide_eq_false; omega) | rfl))
    | (apply r_leq; rfl; rfl; (first | (apply decide_eq_true; omega) | (apply decide_eq_false; omega) | rfl))
    | (apply r_gtr; rfl; rfl; (first | (apply decide_eq_true; omega) | (apply decide_eq_false; omega) | rfl))
    | (apply r_add; rfl; rfl; rfl; omega)
    | (apply r_not; rfl; rfl)
    | (apply r_pickT; rfl)
    | (apply r_pickF; rfl)
    | (apply r_lenD; rfl)
    | (apply r_lenL; rfl)
    | (apply r_len0; rfl)
    | (apply r_lenT; rfl)
    | (apply r_ext; rfl; rfl)
    | (apply r_gT; rfl)
    | (apply r_gF'; rfl; rfl)
    | (apply r_gN'; rfl)
    | ((apply r_gS (o := default); rfl) <;> (intro h; try simp only [decide_eq_true_eq, decide_eq_false_iff_not, Bool.not_eq_true, Bool.not_eq_false] at h))
    | (apply r_box; ((conv => lhs; simp only [Nat.reduceAdd]) <;> rfl); rfl; rfl; rfl)
    | (apply r_p; rfl)
    | (apply r_nilK)
    | (apply r_nil)
    | (apply k_V; rfl)
    | (apply k_P; rfl)
    | (apply k_PL; rfl)
    | (apply k_S; rfl)
    | (apply k_SL; rfl)
    | (apply k_A; rfl)
    | (apply k_T; rfl)
    | (apply k_F; rfl)
    | (apply k_D; rfl; rotate_left; rfl)
    | (apply k_nil)
    | (apply e_ret (vs := [.d (.val _)]); rfl)
    | (apply e_ret; rfl)
    | (apply e_ret' (vs := [.d (.val _)]); rfl)
    | (apply e_ret'; rfl)
    | (apply w_seq)
    | (apply w_ops; ((conv => lhs; simp only [Nat.reduceAdd]) <;> rfl))
    | (apply w_condT; rfl)
    | (apply w_condF; rfl)
    | ((apply w_condS; rfl) <;> (intro h; try simp only [decide_eq_true_eq, decide_eq_false_iff_not, Bool.not_eq_true, Bool.not_eq_false] at h))
    | (apply e_thenN)
    | (apply w_block)
    | (apply e_thenR)
    | (apply e_thenX)
    | (apply e_blkN)
    | (apply e_blkR)
    | (apply e_blkE)
    | (apply w_exit)
    | (apply w_ret)
    | (apply w_skip)
    | (apply e_blkE'; rfl))
    exact retB rfl
end Go.Sv
namespace Go.Sv
open Go Go.Proofs
def x9 : XC := (.seq (.ops 2 [
    (0, ⟨(some 2), none, .box (.t 0)⟩),
    (1, ⟨(some 4), none, .mv (.k (.d (.val (.bool false))))⟩)] (some [1, 2])) (.seq (.ops 5 [
    (0, ⟨(some 12), none, .load (some 8) (.t 2)⟩),
    (1, ⟨(some 13), none, .mkrow [(.int .i64 0), (.int .u64 0), (.int .u64 0), (.int .u64 0), (.int .u64 0), (.int .i64 0), (.int .i64 0), (.slice none 0 0)] 1 8 [(0, 8, (.t 12))]⟩),
    (2, ⟨(some 14), none, .build [(.int .i64 0), (.int .u64 0), (.int .u64 0), (.int .u64 0), (.int .u64 0), (.int .i64 0), (.int .i64 0), (.slice none 0 0)] [(0, 1, (.k (.d (.val (.int .i64 5))))), (6, 1, (.k (.d (.val (.int .i64 (-1)))))), (7, 1, (.t 13))]⟩),
    (3, ⟨(some 5), none, .alloc [(.int .i64 0), (.int .u64 0), (.int .u64 0), (.int .u64 0), (.int .u64 0), (.int .i64 0), (.int .i64 0), (.slice none 0 0)]⟩),
    (4, ⟨none, none, .store 8 (.t 5) (.t 14)⟩)] (some [1, 2, 5])) (.seq (.ops 9 [
    (0, ⟨(some 15), none, .build [(.int .i64 0), (.int .u64 0), (.int .u64 0), (.int .u64 0), (.int .u64 0), (.int .i64 0), (.int .i64 0), (.slice none 0 0)] [(0, 1, (.k (.d (.val (.int .i64 1)))))]⟩),
    (1, ⟨(some 16), none, .load (some 8) (.t 2)⟩),
    (2, ⟨(some 17), none, .load (some 8) (.t 5)⟩),
    (3, ⟨(some 18), none, .mkrow [(.int .i64 0), (.int .u64 0), (.int .u64 0), (.int .u64 0), (.int .u64 0), (.int .i64 0), (.int .i64 0), (.slice none 0 0)] 2 8 [(0, 8, (.t 16)), (8, 8, (.t 17))]⟩),
    (4, ⟨(some 19), none, .build [(.int .i64 0), (.int .u64 0), (.int .u64 0), (.int .u64 0), (.int .u64 0), (.int .i64 0), (.int .i64 0), (.slice none 0 0)] [(0, 1, (.k (.d (.val (.int .i64 3))))), (7, 1, (.t 18))]⟩),
    (5, ⟨(some 20), none, .mkrow [(.int .i64 0), (.int .u64 0), (.int .u64 0), (.int .u64 0), (.int .u64 0), (.int .i64 0), (.int .i64 0), (.slice none 0 0)] 2 8 [(0, 8, (.t 15)), (8, 8, (.t 19))]⟩),
    (6, ⟨(some 21), none, .build [(.int .i64 0), (.int .u64 0), (.int .u64 0), (.int .u64 0), (.int .u64 0), (.int .i64 0), (.int .i64 0), (.slice none 0 0)] [(0, 1, (.k (.d (.val (.int .i64 4))))), (7, 1, (.t 20))]⟩),
    (7, ⟨(some 6), none, .alloc [(.int .i64 0), (.int .u64 0), (.int .u64 0), (.int .u64 0), (.int .u64 0), (.int .i64 0), (.int .i64 0), (.slice none 0 0)]⟩),
    (8, ⟨none, none, .store 8 (.t 6) (.t 21)⟩)] (some [1, 5, 6])) (.seq (.seq (.ops 13 [
    (0, ⟨(some 22), none, .call 29 [] none false⟩),
    (1, ⟨(some 23), none, .un .not (.t 22)⟩),
    (2, ⟨(some 24), none, .mv (.t 23)⟩),
    (3, ⟨(some 25), (some (24, false)), .load (some 8) (.t 6)⟩),
    (4, ⟨(some 26), (some (24, false)), .mv (.t 1)⟩),
    (5, ⟨(some 27), (some (24, false)), .call 30 [(.t 25), (.t 26)] none false⟩),
    (6, ⟨(some 28), (some (24, false)), .un .not (.t 27)⟩),
    (7, ⟨(some 29), none, .pick (.t 24) (.k (.d (.val (.bool true)))) (.t 28)⟩),
    (8, ⟨(some 30), none, .mv (.t 29)⟩),
    (9, ⟨(some 31), (some (30, false)), .load (some 8) (.t 6)⟩),
    (10, ⟨(some 32), (some (30, false)), .call 32 [(.t 31)] none false⟩),
    (11, ⟨(some 33), (some (30, false)), .un .not (.t 32)⟩),
    (12, ⟨(some 34), none, .pick (.t 30) (.k (.d (.val (.bool true)))) (.t 33)⟩)] (some [1, 5, 6, 34])) (.cond (.t 34) (.seq (.ops 2 [
    (0, ⟨(some 35), none, .call 29 [] none false⟩),
    (1, ⟨(some 4), none, .mv (.t 35)⟩)] (some [4])) .ret) .skip)) (.seq (.seq (.ops 4 [
    (0, ⟨(some 36), none, .mv (.t 1)⟩),
    (1, ⟨(some 37), none, .lenT (.t 36)⟩),
    (2, ⟨(some 38), none, .arith .add (.t 37) (.k (.d (.val (.int .i64 1))))⟩),
    (3, ⟨(some 39), none, .mv (.k (.d (.val (.int .i64 0))))⟩)] (some [1, 5, 6, 38, 39])) (.block 0 (.loop (.seq (.ops 1 [
    (0, ⟨(some 40), none, .arith .lss (.t 39) (.t 38)⟩)] (some [1, 5, 6, 38, 39, 40])) (.seq (.cond (.t 40) .skip (.exit 0)) (.seq (.block 1 (.seq (.ops 2 [
    (0, ⟨(some 41), none, .mv (.t 39)⟩),
    (1, ⟨(some 7), none, .mv (.t 41)⟩)] (some [1, 5, 6, 7, 38, 39])) (.seq (.ops 9 [
    (0, ⟨(some 43), none, .load (some 8) (.t 5)⟩),
    (1, ⟨(some 44), none, .mv (.t 1)⟩),
    (2, ⟨(some 45), none, .mv (.t 7)⟩),
    (3, ⟨(some 46), none, .call 31 [(.t 43), (.t 44), (.t 45)] none false⟩),
    (4, ⟨(some 42), none, .mv (.t 46)⟩),
    (5, ⟨(some 47), none, .ext (.t 42) 0⟩),
    (6, ⟨(some 48), none, .ext (.t 42) 1⟩),
    (7, ⟨(some 8), none, .mv (.t 47)⟩),
    (8, ⟨(some 9), none, .mv (.t 48)⟩)] (some [1, 5, 6, 7, 8, 9, 38, 39])) (.seq (.ops 9 [
    (0, ⟨(some 50), none, .load (some 8) (.t 6)⟩),
    (1, ⟨(some 51), none, .mv (.t 1)⟩),
    (2, ⟨(some 52), none, .mv (.t 7)⟩),
    (3, ⟨(some 53), none, .call 31 [(.t 50), (.t 51), (.t 52)] none false⟩),
    (4, ⟨(some 49), none, .mv (.t 53)⟩),
    (5, ⟨(some 54), none, .ext (.t 49) 0⟩),
    (6, ⟨(some 55), none, .ext (.t 49) 1⟩),
    (7, ⟨(some 10), none, .mv (.t 54)⟩),
    (8, ⟨(some 11), none, .mv (.t 55)⟩)] (some [1, 5, 6, 7, 8, 9, 10, 11, 38, 39])) (.seq (.ops 24 [
    (0, ⟨(some 56), none, .mv (.t 9)⟩),
    (1, ⟨(some 57), none, .arith .neq (.t 56) (.k (.d (.val (.int .i64 0))))⟩),
    (2, ⟨(some 58), none, .mv (.t 57)⟩),
    (3, ⟨(some 59), (some (58, false)), .mv (.t 11)⟩),
    (4, ⟨(some 60), (some (58, false)), .arith .neq (.t 59) (.k (.d (.val (.int .i64 0))))⟩),
    (5, ⟨(some 61), none, .pick (.t 58) (.k (.d (.val (.bool true)))) (.t 60)⟩),
    (6, ⟨(some 62), none, .mv (.t 61)⟩),
    (7, ⟨(some 63), (some (62, false)), .mv (.t 8)⟩),
    (8, ⟨(some 64), (some (62, false)), .mv (.t 10)⟩),
    (9, ⟨(some 65), (some (62, false)), .call 35 [(.t 63), (.t 64)] none false⟩),
    (10, ⟨(some 66), (some (62, false)), .un .not (.t 65)⟩),
    (11, ⟨(some 67), none, .pick (.t 62) (.k (.d (.val (.bool true)))) (.t 66)⟩),
    (12, ⟨(some 68), none, .mv (.t 67)⟩),
    (13, ⟨(some 69), (some (68, false)), .mv (.t 8)⟩),
    (14, ⟨(some 70), (some (68, false)), .lenS (.t 69)⟩),
    (15, ⟨(some 71), (some (68, false)), .arith .eql (.t 70) (.k (.d (.val (.int .i64 0))))⟩),
    (16, ⟨(some 72), none, .pick (.t 68) (.k (.d (.val (.bool true)))) (.t 71)⟩),
    (17, ⟨(some 73), none, .mv (.t 72)⟩),
    (18, ⟨(some 74), (some (73, false)), .mv (.t 8)⟩),
    (19, ⟨(some 75), (some (73, false)), .idxS 1 (.t 74) (.k (.d (.val (.int .i64 0))))⟩),
    (20, ⟨(some 76), (some (73, false)), .load none (.t 75)⟩),
    (21, ⟨(some 77), (some (73, false)), .mv (.t 7)⟩),
    (22, ⟨(some 78), (some (73, false)), .arith .neq (.t 76) (.t 77)⟩),
    (23, ⟨(some 79), none, .pick (.t 73) (.k (.d (.val (.bool true)))) (.t 78)⟩)] (some [1, 5, 6, 38, 39, 79])) (.cond (.t 79) (.seq (.ops 1 [
    (0, ⟨(some 4), none, .mv (.k (.d (.val (.bool false))))⟩)] (some [4])) .ret) .skip)))))) (.ops 2 [
    (0, ⟨(some 80), none, .arith .add (.t 39) (.k (.d (.val (.int .i64 1))))⟩),
    (1, ⟨(some 39), none, .mv (.t 80)⟩)] (some [1, 5, 6, 38, 39])))))))) (.seq (.ops 1 [
    (0, ⟨(some 4), none, .mv (.k (.d (.val (.bool true))))⟩)] (some [4])) .ret))))))
def md9 : FuncId → Option Nat × Bool
  | _ => (none, false)
def od9 : Nat → List (List Nat) × List Nat × Option (List Nat)
  | 0 => ([], [], some [1, 2])
  | 1 => ([], [], some [1, 2, 5])
  | 2 => ([], [], some [1, 5, 6])
  | 3 => ([], [], some [1, 5, 6, 34])
  | 4 => ([], [], some [4])
  | 5 => ([], [], some [1, 5, 6, 38, 39])
  | 6 => ([], [], some [1, 5, 6, 38, 39, 40])
  | 7 => ([], [], some [1, 5, 6, 7, 38, 39])
  | 8 => ([], [], some [1, 5, 6, 7, 8, 9, 38, 39])
  | 9 => ([], [], some [1, 5, 6, 7, 8, 9, 10, 11, 38, 39])
  | 10 => ([], [], some [1, 5, 6, 38, 39, 79])
  | 11 => ([], [], some [4])
  | 12 => ([], [], some [1, 5, 6, 38, 39])
  | 13 => ([], [], some [4])
  | _ => ([], [], none)
theorem b9 {ags : List AV} {row : Option (List DV)} {r : AV} {row' nw : Option (List DV)} (hal : ags.length ≤ 81) (hrow : row'.isSome = true → row.isSome = true) (h : xwp Try.prog x9 (retK [.tmp 4] row.isSome r row' nw) (St.init ags row)) : Good Try.prog 9 ags row r row' nw :=
  good_of_body' (md := md9) (od := od9) Try.f9 (by kernel_rfl) (by kernel_rfl) (by kernel_rfl) (by kernel_rfl) (by kernel_rfl) hal hrow h

theorem openL_sub (k : Int) : ∀ (l : List T) (m : Int), 0 ≤ openL k l m → m ≤ openL k l m ∧ ∀ i (h : i < l.length), 0 ≤ openT l[i] ∧ openT l[i] ≤ openL k l m
  | [], m, h => ⟨by simp [openL], fun i h => by simp at h⟩
  | t :: l, m, h => by
    simp only [openL] at h ⊢
    split at h
    · omega
    · rename_i hn
      rw [if_neg hn]
      obtain ⟨h1, h2⟩ := openL_sub k l _ h
      generalize openL k l (max m (if roundG k t.kind = true then openT t + 1 else openT t)) = q at h1 h2 ⊢
      have h3 : openT t ≤ (if roundG k t.kind = true then openT t + 1 else openT t) := by split <;> omega
      refine ⟨by omega, fun i hi => ?_⟩
      cases i with
      | zero =>
        simp only [List.getElem_cons_zero]
        omega
      | succ i => simpa using h2 i (by simpa using hi)
theorem right_sub {k a b c d mn mx : Int} {subs : List T} (h : rightT (.node k a b c d mn mx subs) = true) (i : Nat) (hi : i < subs.length) : rightT subs[i] = true := by
  simp only [rightT, openT] at h
  split at h
  · simp only [Bool.and_eq_true, decide_eq_true_eq] at h
    have := (openL_sub k subs 0 h.1).2 i hi
    simp only [rightT, Bool.and_eq_true, decide_eq_true_eq]; omega
  · simp at h
theorem idxTo_none (q : List Bool) : ∀ (m : Nat), (∀ i, i < m → ¬ At q i) → idxTo q m = []
  | 0, _ => rfl
  | m + 1, h => by
    rw [idxTo, if_neg (show ¬ q.getD m false = true from h m (by omega)), idxTo_none q m fun i hi => h i (by omega)]
theorem idxTo_first (q : List Bool) (j m : Nat) (hj : j < m) (h1 : At q j) (h2 : ∀ i, i < j → ¬ At q i) : ∃ r, idxTo q m = (j : Int) :: r := by
  obtain ⟨r, h3, _⟩ := idxTo_more q (j + 1) (m - (j + 1))
  rw [show j + 1 + (m - (j + 1)) = m by omega, idxTo, if_pos (show q.getD j false = true from h1), idxTo_none q j h2] at h3
  exact ⟨r, h3⟩
theorem same_ends {s : ByteArray} {t u : T} (ht : okT t) (hu : okT u) (hft : fitsT t 12 = true) (hfu : fitsT u 12 = true) (h : ∀ w, L t w ↔ L u w) {j : Nat} (hj : j ≤ s.size) : allG s t j = allG s u j := by
  rw [allG_eq hft hj, allG_eq hfu hj]
  refine idxTo_congr _ fun i hi => ?_
  rw [at_ends s t ht j hj i, at_ends s u hu j hj i]
  simp only [h]
def starT (t : T) : T := .node 5 0 0 0 0 0 (-1) [t]
def moreT (t : T) : T := .node 4 0 0 0 0 0 0 [.node 1 0 0 0 0 0 0 [], .node 3 0 0 0 0 0 0 [t, starT t]]
theorem star_more (t : T) (w : List Nat) : L (starT t) w ↔ L (moreT t) w := by
  have hs : ∀ w, L (starT t) w ↔ ∃ r : Nat, powL (L t) r w := by
    intro w
    simp only [starT, L]
    simp only [show ¬ (5 : Int) = 1 by omega, show ¬ (5 : Int) = 2 by omega, show ¬ (5 : Int) = 3 by omega, show ¬ (5 : Int) = 4 by omega, if_true, if_false, fstL]
    constructor
    · rintro ⟨r, _, _, h⟩; exact ⟨r, h⟩
    · rintro ⟨r, h⟩; exact ⟨r, by omega, .inl (by omega), h⟩
  have hm : L (moreT t) w ↔ w = [] ∨ ∃ u v, w = u ++ v ∧ L t u ∧ L (starT t) v := by
    simp only [moreT, L, altL, catL]
    simp only [show ¬ (4 : Int) = 1 by omega, show ¬ (4 : Int) = 2 by omega, show ¬ (4 : Int) = 3 by omega, show ¬ (3 : Int) = 1 by omega, show ¬ (3 : Int) = 2 by omega, if_true, if_false, or_false]
    refine or_congr Iff.rfl ⟨?_, ?_⟩
    · rintro ⟨u, v, rfl, h1, u', v', rfl, h2, rfl⟩
      exact ⟨u, _, rfl, h1, by simpa using h2⟩
    · rintro ⟨u, v, rfl, h1, h2⟩
      exact ⟨u, v, rfl, h1, v, [], by simp, h2, rfl⟩
  rw [hm, hs]
  constructor
  · rintro ⟨r, h⟩
    cases r with
    | zero => exact .inl h
    | succ r =>
      obtain ⟨u, v, e, h1, h2⟩ := h
      exact .inr ⟨u, v, e, h1, (hs v).2 ⟨r, h2⟩⟩
  · rintro (h | ⟨u, v, e, h1, h2⟩)
    · exact ⟨0, h⟩
    · obtain ⟨r, h3⟩ := (hs v).1 h2
      exact ⟨r + 1, u, v, e, h1, h3⟩
theorem star_nil (t : T) : L (starT t) [] := (star_more t []).2 (by
  simp only [moreT, L, altL]
  simp)
set_option maxRecDepth 100000
set_option maxHeartbeats 4000000
attribute [local irreducible] W E R KP thenK blockK retK Good xwp aRun
theorem law9 (t : T) (s : ByteArray) (ht : inT t) (hs : s.size ≤ 9223372036854775807) : Good Try.prog 9 [nodeA t, .d (.val (.string s))] none (.b true) none none := by
  have haw := awake11_good
  have hin : inT (moreT t) := by
    have z : inW 0 := by unfold inW; omega
    have m1 : inW (-1) := by unfold inW; omega
    have o : okW 0 := by unfold okW; omega
    have k1 : inW 1 := by unfold inW; omega
    have k3 : inW 3 := by unfold inW; omega
    have k4 : inW 4 := by unfold inW; omega
    have k5 : inW 5 := by unfold inW; omega
    simp only [moreT, starT, inT, inL, z, m1, o, k1, k3, k4, k5, ht, and_self]
  have h30 := few30_good s hs (moreT t) hin
  have hcv : ∀ k a b c d mn mx subs, t = .node k a b c d mn mx subs → True := fun _ _ _ _ _ _ _ _ _ => trivial
  by_cases hf : few11 s (moreT t) = true
  case neg =>
    have hf : few11 s (moreT t) = false := by simpa using hf
    rw [hf] at h30
    clear ht hf hin
    obtain ⟨k, a, b, c, d, mn, mx, subs⟩ := t
    have e0 : nodeA (.node k a b c d mn mx subs) = .agg [.i k, .d (.val (.int .u64 a)), .d (.val (.int .u64 b)), .d (.val (.int .u64 c)), .d (.val (.int .u64 d)), .i mn, .i mx, .d (.sl (encL subs) subs.length)] := rfl
    rw [e0]
    refine b9 (by simp) (by simp) (w_init ?_)
    unfold x9
    repeat' (first
    | (apply r_mvV; rfl)
    | (apply r_mvP; rfl)
    | (apply r_mvPL; rfl)
    | (apply r_mvS; rfl)
    | (apply r_mvSL; rfl)
    | (apply r_mvA; rfl)
    | (apply r_mvT; rfl)
    | (apply r_mvF; rfl)
    | (apply r_mvD; rfl)
    | (apply r_ldL (v := .agg [.i k, .d (.val (.int .u64 a)), .d (.val (.int .u64 b)), .d (.val (.int .u64 c)), .d (.val (.int .u64 d)), .i mn, .i mx, .d (.sl (encL subs) subs.length)]); rfl; rfl; rfl)
    | (apply r_ldL (v := .agg [.i 5, .d (.val (.int .u64 0)), .d (.val (.int .u64 0)), .d (.val (.int .u64 0)), .d (.val (.int .u64 0)), .i 0, .i (-1), .slL 4 0 1 8]); rfl; rfl; rfl)
    | (apply r_ldL (v := .agg [.i 4, .d (.val (.int .u64 0)), .d (.val (.int .u64 0)), .d (.val (.int .u64 0)), .d (.val (.int .u64 0)), .i 0, .i 0, .slL 13 0 2 8]); rfl; rfl; rfl)
    | (apply r_n (v := .slL 4 0 1 8) (r := [.i k, .d (.val (.int .u64 a)), .d (.val (.int .u64 b)), .d (.val (.int .u64 c)), .d (.val (.int .u64 d)), .i mn, .i mx, .d (.sl (encL subs) subs.length)]); rfl)
    | (apply r_n (v := .slL 11 0 2 8) (r := [.i k, .d (.val (.int .u64 a)), .d (.val (.int .u64 b)), .d (.val (.int .u64 c)), .d (.val (.int .u64 d)), .i mn, .i mx, .d (.sl (encL subs) subs.length), .i 5, .d (.val (.int .u64 0)), .d (.val (.int .u64 0)), .d (.val (.int .u64 0)), .d (.val (.int .u64 0)), .i 0, .i (-1), .slL 4 0 1 8]); rfl)
    | (apply r_n (v := .slL 13 0 2 8) (r := [.i 1, .d (.val (.int .u64 0)), .d (.val (.int .u64 0)), .d (.val (.int .u64 0)), .d (.val (.int .u64 0)), .i 0, .i 0, .d (.val (.slice none 0 0)), .i 3, .d (.val (.int .u64 0)), .d (.val (.int .u64 0)), .d (.val (.int .u64 0)), .d (.val (.int .u64 0)), .i 0, .i 0, .slL 11 0 2 8]); rfl)
    | (apply r_p (v := .agg [.i 5, .d (.val (.int .u64 0)), .d (.val (.int .u64 0)), .d (.val (.int .u64 0)), .d (.val (.int .u64 0)), .i 0, .i (-1), .slL 4 0 1 8]); rfl)
    | (apply r_p (v := .agg [.i 1, .d (.val (.int .u64 0)), .d (.val (.int .u64 0)), .d (.val (.int .u64 0)), .d (.val (.int .u64 0)), .i 0, .i 0, .d (.val (.slice none 0 0))]); rfl)
    | (apply r_p (v := .agg [.i 3, .d (.val (.int .u64 0)), .d (.val (.int .u64 0)), .d (.val (.int .u64 0)), .d (.val (.int .u64 0)), .i 0, .i 0, .slL 11 0 2 8]); rfl)
    | (apply r_p (v := .agg [.i 4, .d (.val (.int .u64 0)), .d (.val (.int .u64 0)), .d (.val (.int .u64 0)), .d (.val (.int .u64 0)), .i 0, .i 0, .slL 13 0 2 8]); rfl)
    | (apply r_callA (ags := []); rfl; rfl; exact haw)
    | (apply r_call (bs := [nodeA (moreT (.node k a b c d mn mx subs)), .d (.val (.string s))]) (us := [13, 11, 4]); rfl; rfl; exact h30; rfl)
    | (apply r_ldL; rfl; rfl; rfl)
    | (apply r_eql; rfl; rfl; (first | (apply decide_eq_true; omega) | (apply decide_eq_false; omega) | rfl))
    | (apply r_neq; rfl; rfl; (first | (apply decide_eq_true; omega) | (apply decide_eq_false; omega) | rfl))
    | (apply r_lss; rfl; rfl; (first | (apply decide_eq_true; omega) | (apply decide_eq_false; omega) | rfl))
    | (apply r_add; rfl; rfl; rfl; omega)
    | (apply r_not; rfl; rfl)
    | (apply r_pickT; rfl)
    | (apply r_pickF; rfl)
    | (apply r_lenD; rfl)
    | (apply r_lenL; rfl)
    | (apply r_len0; rfl)
    | (apply r_lenT; rfl)
    | (apply r_ext; rfl; rfl)
    | (apply r_gT; rfl)
    | (apply r_gF'; rfl; rfl)
    | (apply r_gN'; rfl)
    | ((apply r_gS (o := default); rfl) <;> (intro h; try simp only [decide_eq_true_eq, decide_eq_false_iff_not, Bool.not_eq_true, Bool.not_eq_false] at h))
    | (apply r_alloc; ((conv => lhs; simp only [Nat.reduceAdd]) <;> rfl); rfl)
    | (apply r_box; ((conv => lhs; simp only [Nat.reduceAdd]) <;> rfl); rfl; rfl; rfl)
    | (apply r_stL; rfl; rfl; rfl; rfl; (first | rfl | (simp only [z_nil, z_add] <;> rfl)); rfl; rfl)
    | (apply r_p; rfl)
    | (apply r_nilK)
    | (apply r_nil)
    | (apply k_V; rfl)
    | (apply k_P; rfl)
    | (apply k_PL; rfl)
    | (apply k_S; rfl)
    | (apply k_SL; rfl)
    | (apply k_A; rfl)
    | (apply k_T; rfl)
    | (apply k_F; rfl)
    | (apply k_D; rfl; rotate_left; rfl)
    | (apply k_nil)
    | (apply e_ret (vs := [.d (.val _)]); rfl)
    | (apply e_ret; rfl)
    | (apply e_ret' (vs := [.d (.val _)]); rfl)
    | (apply e_ret'; rfl)
    | (apply w_seq)
    | (apply w_ops; ((conv => lhs; simp only [Nat.reduceAdd]) <;> rfl))
    | (apply w_condT; rfl)
    | (apply w_condF; rfl)
    | ((apply w_condS; rfl) <;> (intro h; try simp only [decide_eq_true_eq, decide_eq_false_iff_not, Bool.not_eq_true, Bool.not_eq_false] at h))
    | (apply e_thenN)
    | (apply w_block)
    | (apply e_thenR)
    | (apply e_thenX)
    | (apply e_blkN)
    | (apply e_blkR)
    | (apply e_blkE)
    | (apply w_exit)
    | (apply w_ret)
    | (apply w_skip)
    | (apply e_blkE'; rfl))
    exact retB rfl
  rw [hf] at h30
  simp only [few11, Bool.and_eq_true, decide_eq_true_eq] at hf
  obtain ⟨hf1, hf2, _⟩ := hf
  have hc := few_cnt hf1
  have h32 := right8_good (moreT t) (by omega)
  by_cases hr : rightT (moreT t) = true
  case neg =>
    have hr : rightT (moreT t) = false := by simpa using hr
    rw [hr] at h32
    clear ht hin hr hf1 hc
    obtain ⟨k, a, b, c, d, mn, mx, subs⟩ := t
    have e0 : nodeA (.node k a b c d mn mx subs) = .agg [.i k, .d (.val (.int .u64 a)), .d (.val (.int .u64 b)), .d (.val (.int .u64 c)), .d (.val (.int .u64 d)), .i mn, .i mx, .d (.sl (encL subs) subs.length)] := rfl
    rw [e0]
    refine b9 (by simp) (by simp) (w_init ?_)
    unfold x9
    repeat' (first
    | (apply r_mvV; rfl)
    | (apply r_mvP; rfl)
    | (apply r_mvPL; rfl)
    | (apply r_mvS; rfl)
    | (apply r_mvSL; rfl)
    | (apply r_mvA; rfl)
    | (apply r_mvT; rfl)
    | (apply r_mvF; rfl)
    | (apply r_mvD; rfl)
    | (apply r_ldL (v := .agg [.i k, .d (.val (.int .u64 a)), .d (.val (.int .u64 b)), .d (.val (.int .u64 c)), .d (.val (.int .u64 d)), .i mn, .i mx, .d (.sl (encL subs) subs.length)]); rfl; rfl; rfl)
    | (apply r_ldL (v := .agg [.i 5, .d (.val (.int .u64 0)), .d (.val (.int .u64 0)), .d (.val (.int .u64 0)), .d (.val (.int .u64 0)), .i 0, .i (-1), .slL 4 0 1 8]); rfl; rfl; rfl)
    | (apply r_ldL (v := .agg [.i 4, .d (.val (.int .u64 0)), .d (.val (.int .u64 0)), .d (.val (.int .u64 0)), .d (.val (.int .u64 0)), .i 0, .i 0, .slL 13 0 2 8]); rfl; rfl; rfl)
    | (apply r_n (v := .slL 4 0 1 8) (r := [.i k, .d (.val (.int .u64 a)), .d (.val (.int .u64 b)), .d (.val (.int .u64 c)), .d (.val (.int .u64 d)), .i mn, .i mx, .d (.sl (encL subs) subs.length)]); rfl)
    | (apply r_n (v := .slL 11 0 2 8) (r := [.i k, .d (.val (.int .u64 a)), .d (.val (.int .u64 b)), .d (.val (.int .u64 c)), .d (.val (.int .u64 d)), .i mn, .i mx, .d (.sl (encL subs) subs.length), .i 5, .d (.val (.int .u64 0)), .d (.val (.int .u64 0)), .d (.val (.int .u64 0)), .d (.val (.int .u64 0)), .i 0, .i (-1), .slL 4 0 1 8]); rfl)
    | (apply r_n (v := .slL 13 0 2 8) (r := [.i 1, .d (.val (.int .u64 0)), .d (.val (.int .u64 0)), .d (.val (.int .u64 0)), .d (.val (.int .u64 0)), .i 0, .i 0, .d (.val (.slice none 0 0)), .i 3, .d (.val (.int .u64 0)), .d (.val (.int .u64 0)), .d (.val (.int .u64 0)), .d (.val (.int .u64 0)), .i 0, .i 0, .slL 11 0 2 8]); rfl)
    | (apply r_p (v := .agg [.i 5, .d (.val (.int .u64 0)), .d (.val (.int .u64 0)), .d (.val (.int .u64 0)), .d (.val (.int .u64 0)), .i 0, .i (-1), .slL 4 0 1 8]); rfl)
    | (apply r_p (v := .agg [.i 1, .d (.val (.int .u64 0)), .d (.val (.int .u64 0)), .d (.val (.int .u64 0)), .d (.val (.int .u64 0)), .i 0, .i 0, .d (.val (.slice none 0 0))]); rfl)
    | (apply r_p (v := .agg [.i 3, .d (.val (.int .u64 0)), .d (.val (.int .u64 0)), .d (.val (.int .u64 0)), .d (.val (.int .u64 0)), .i 0, .i 0, .slL 11 0 2 8]); rfl)
    | (apply r_p (v := .agg [.i 4, .d (.val (.int .u64 0)), .d (.val (.int .u64 0)), .d (.val (.int .u64 0)), .d (.val (.int .u64 0)), .i 0, .i 0, .slL 13 0 2 8]); rfl)
    | (apply r_callA (ags := []); rfl; rfl; exact haw)
    | (apply r_call (bs := [nodeA (moreT (.node k a b c d mn mx subs)), .d (.val (.string s))]) (us := [13, 11, 4]); rfl; rfl; exact h30; rfl)
    | (apply r_call (bs := [nodeA (moreT (.node k a b c d mn mx subs))]) (us := [13, 11, 4]); rfl; rfl; exact h32; rfl)
    | (apply r_ldL; rfl; rfl; rfl)
    | (apply r_eql; rfl; rfl; (first | (apply decide_eq_true; omega) | (apply decide_eq_false; omega) | rfl))
    | (apply r_neq; rfl; rfl; (first | (apply decide_eq_true; omega) | (apply decide_eq_false; omega) | rfl))
    | (apply r_lss; rfl; rfl; (first | (apply decide_eq_true; omega) | (apply decide_eq_false; omega) | rfl))
    | (apply r_add; rfl; rfl; rfl; omega)
    | (apply r_not; rfl; rfl)
    | (apply r_pickT; rfl)
    | (apply r_pickF; rfl)
    | (apply r_lenD; rfl)
    | (apply r_lenL; rfl)
    | (apply r_len0; rfl)
    | (apply r_lenT; rfl)
    | (apply r_ext; rfl; rfl)
    | (apply r_gT; rfl)
    | (apply r_gF'; rfl; rfl)
    | (apply r_gN'; rfl)
    | ((apply r_gS (o := default); rfl) <;> (intro h; try simp only [decide_eq_true_eq, decide_eq_false_iff_not, Bool.not_eq_true, Bool.not_eq_false] at h))
    | (apply r_alloc; ((conv => lhs; simp only [Nat.reduceAdd]) <;> rfl); rfl)
    | (apply r_box; ((conv => lhs; simp only [Nat.reduceAdd]) <;> rfl); rfl; rfl; rfl)
    | (apply r_stL; rfl; rfl; rfl; rfl; (first | rfl | (simp only [z_nil, z_add] <;> rfl)); rfl; rfl)
    | (apply r_p; rfl)
    | (apply r_nilK)
    | (apply r_nil)
    | (apply k_V; rfl)
    | (apply k_P; rfl)
    | (apply k_PL; rfl)
    | (apply k_S; rfl)
    | (apply k_SL; rfl)
    | (apply k_A; rfl)
    | (apply k_T; rfl)
    | (apply k_F; rfl)
    | (apply k_D; rfl; rotate_left; rfl)
    | (apply k_nil)
    | (apply e_ret (vs := [.d (.val _)]); rfl)
    | (apply e_ret; rfl)
    | (apply e_ret' (vs := [.d (.val _)]); rfl)
    | (apply e_ret'; rfl)
    | (apply w_seq)
    | (apply w_ops; ((conv => lhs; simp only [Nat.reduceAdd]) <;> rfl))
    | (apply w_condT; rfl)
    | (apply w_condF; rfl)
    | ((apply w_condS; rfl) <;> (intro h; try simp only [decide_eq_true_eq, decide_eq_false_iff_not, Bool.not_eq_true, Bool.not_eq_false] at h))
    | (apply e_thenN)
    | (apply w_block)
    | (apply e_thenR)
    | (apply e_thenX)
    | (apply e_blkN)
    | (apply e_blkR)
    | (apply e_blkE)
    | (apply w_exit)
    | (apply w_ret)
    | (apply w_skip)
    | (apply e_blkE'; rfl))
    exact retB rfl
  have hokm : okT (moreT t) := ok_of_right hin hr
  have hfm : fitsT (moreT t) 12 = true := by rw [← right_fits]; exact hr
  have hrc : rightT (.node 3 0 0 0 0 0 0 [t, starT t]) = true := right_sub hr 1 (by simp)
  have hrs : rightT (starT t) = true := right_sub hrc 1 (by simp)
  have hfs : fitsT (starT t) 12 = true := by rw [← right_fits]; exact hrs
  have hins : inT (starT t) := by
    simp only [moreT, inT, inL] at hin
    exact hin.2.2.2.2.2.2.2.2.1.2.2.2.2.2.2.2.2.1
  have hoks : okT (starT t) := ok_of_right hins hrs
  have hcs : (starT t).cnt ≤ 200 := by
    have : (starT t).cnt ≤ (moreT t).cnt := by simp [moreT, starT, T.cnt, cntL]; omega
    omega
  rw [hr] at h32
  have hall : ∀ j, j ≤ s.size → ∃ r, allG s (starT t) j = (j : Int) :: r ∧ allG s (moreT t) j = (j : Int) :: r ∧ ((j : Int) :: r).length ≤ 1000001 := by
    intro j hj
    have h1 : At (stepG s (starT t) ((List.replicate (s.size + 1) false).set j true)) j := (at_ends s _ hoks j hj j).2 ⟨Nat.le_refl _, hj, by rw [word_nil]; exact star_nil t⟩
    obtain ⟨r, h2⟩ := idxTo_first _ j (s.size + 1) (by omega) h1 fun i hi h => by
      have := (at_ends s _ hoks j hj i).1 h; omega
    have h3 := allG_eq (s := s) (t := starT t) hfs hj
    rw [h2] at h3
    refine ⟨r, h3, by rw [← same_ends hoks hokm hfs hfm (star_more t) hj]; exact h3, ?_⟩
    rw [← h2]
    exact Nat.le_trans (idxTo_len _ _) (by omega)
  have h31 : ∀ j : Nat, j ≤ s.size → ∃ r, Good Try.prog 31 [nodeA (starT t), .d (.val (.string s)), .i j] none (.tup [.d (.sl (encI ((j : Int) :: r)) ((j : Int) :: r).length), .i 0]) none none ∧ Good Try.prog 31 [nodeA (moreT t), .d (.val (.string s)), .i j] none (.tup [.d (.sl (encI ((j : Int) :: r)) ((j : Int) :: r).length), .i 0]) none none ∧ ((j : Int) :: r).length ≤ 1000001 := by
    intro j hj
    obtain ⟨r, h1, h2, h3⟩ := hall j hj
    have g1 := all_good s (by omega) (starT t) (by omega) (fun _ => hoks) j
    have g2 := all_good s (by omega) (moreT t) (by omega) (fun _ => hokm) j
    have hfr : 0 ≤ ((j : Nat) : Int) ∧ ((j : Nat) : Int) ≤ s.size := by omega
    rw [h1, show allE s (starT t) (j : Nat) = 0 by simp only [allE, hfs, hfr, and_self, if_true]] at g1
    rw [h2, show allE s (moreT t) (j : Nat) = 0 by simp only [allE, hfm, hfr, and_self, if_true]] at g2
    exact ⟨r, g1, g2, h3⟩
  clear ht hin hr hf1 hc hokm hfm hrc hrs hfs hins hoks hcs hall hcv
  obtain ⟨k, a, b, c, d, mn, mx, subs⟩ := t
  have e0 : nodeA (.node k a b c d mn mx subs) = .agg [.i k, .d (.val (.int .u64 a)), .d (.val (.int .u64 b)), .d (.val (.int .u64 c)), .d (.val (.int .u64 d)), .i mn, .i mx, .d (.sl (encL subs) subs.length)] := rfl
  rw [e0]
  refine b9 (by simp) (by simp) (w_init ?_)
  unfold x9
  repeat' (first
    | (apply r_mvV; rfl)
    | (apply r_mvP; rfl)
    | (apply r_mvPL; rfl)
    | (apply r_mvS; rfl)
    | (apply r_mvSL; rfl)
    | (apply r_mvA; rfl)
    | (apply r_mvT; rfl)
    | (apply r_mvF; rfl)
    | (apply r_mvD; rfl)
    | (apply r_ldL (v := .agg [.i k, .d (.val (.int .u64 a)), .d (.val (.int .u64 b)), .d (.val (.int .u64 c)), .d (.val (.int .u64 d)), .i mn, .i mx, .d (.sl (encL subs) subs.length)]); rfl; rfl; rfl)
    | (apply r_ldL (v := .agg [.i 5, .d (.val (.int .u64 0)), .d (.val (.int .u64 0)), .d (.val (.int .u64 0)), .d (.val (.int .u64 0)), .i 0, .i (-1), .slL 4 0 1 8]); rfl; rfl; rfl)
    | (apply r_ldL (v := .agg [.i 4, .d (.val (.int .u64 0)), .d (.val (.int .u64 0)), .d (.val (.int .u64 0)), .d (.val (.int .u64 0)), .i 0, .i 0, .slL 13 0 2 8]); rfl; rfl; rfl)
    | (apply r_n (v := .slL 4 0 1 8) (r := [.i k, .d (.val (.int .u64 a)), .d (.val (.int .u64 b)), .d (.val (.int .u64 c)), .d (.val (.int .u64 d)), .i mn, .i mx, .d (.sl (encL subs) subs.length)]); rfl)
    | (apply r_n (v := .slL 11 0 2 8) (r := [.i k, .d (.val (.int .u64 a)), .d (.val (.int .u64 b)), .d (.val (.int .u64 c)), .d (.val (.int .u64 d)), .i mn, .i mx, .d (.sl (encL subs) subs.length), .i 5, .d (.val (.int .u64 0)), .d (.val (.int .u64 0)), .d (.val (.int .u64 0)), .d (.val (.int .u64 0)), .i 0, .i (-1), .slL 4 0 1 8]); rfl)
    | (apply r_n (v := .slL 13 0 2 8) (r := [.i 1, .d (.val (.int .u64 0)), .d (.val (.int .u64 0)), .d (.val (.int .u64 0)), .d (.val (.int .u64 0)), .i 0, .i 0, .d (.val (.slice none 0 0)), .i 3, .d (.val (.int .u64 0)), .d (.val (.int .u64 0)), .d (.val (.int .u64 0)), .d (.val (.int .u64 0)), .i 0, .i 0, .slL 11 0 2 8]); rfl)
    | (apply r_p (v := .agg [.i 5, .d (.val (.int .u64 0)), .d (.val (.int .u64 0)), .d (.val (.int .u64 0)), .d (.val (.int .u64 0)), .i 0, .i (-1), .slL 4 0 1 8]); rfl)
    | (apply r_p (v := .agg [.i 1, .d (.val (.int .u64 0)), .d (.val (.int .u64 0)), .d (.val (.int .u64 0)), .d (.val (.int .u64 0)), .i 0, .i 0, .d (.val (.slice none 0 0))]); rfl)
    | (apply r_p (v := .agg [.i 3, .d (.val (.int .u64 0)), .d (.val (.int .u64 0)), .d (.val (.int .u64 0)), .d (.val (.int .u64 0)), .i 0, .i 0, .slL 11 0 2 8]); rfl)
    | (apply r_p (v := .agg [.i 4, .d (.val (.int .u64 0)), .d (.val (.int .u64 0)), .d (.val (.int .u64 0)), .d (.val (.int .u64 0)), .i 0, .i 0, .slL 13 0 2 8]); rfl)
    | (apply r_callA (ags := []); rfl; rfl; exact haw)
    | (apply r_call (bs := [nodeA (moreT (.node k a b c d mn mx subs)), .d (.val (.string s))]) (us := [13, 11, 4]); rfl; rfl; exact h30; rfl)
    | (apply r_call (bs := [nodeA (moreT (.node k a b c d mn mx subs))]) (us := [13, 11, 4]); rfl; rfl; exact h32; rfl)
    | (apply r_ldL; rfl; rfl; rfl)
    | (apply r_eql; rfl; rfl; (first | (apply decide_eq_true; omega) | (apply decide_eq_false; omega) | rfl))
    | (apply r_neq; rfl; rfl; (first | (apply decide_eq_true; omega) | (apply decide_eq_false; omega) | rfl))
    | (apply r_lss; rfl; rfl; (first | (apply decide_eq_true; omega) | (apply decide_eq_false; omega) | rfl))
    | (apply r_add; rfl; rfl; rfl; omega)
    | (apply r_not; rfl; rfl)
    | (apply r_pickT; rfl)
    | (apply r_pickF; rfl)
    | (apply r_lenD; rfl)
    | (apply r_lenL; rfl)
    | (apply r_len0; rfl)
    | (apply r_lenT; rfl)
    | (apply r_ext; rfl; rfl)
    | (apply r_gT; rfl)
    | (apply r_gF'; rfl; rfl)
    | (apply r_gN'; rfl)
    | ((apply r_gS (o := default); rfl) <;> (intro h; try simp only [decide_eq_true_eq, decide_eq_false_iff_not, Bool.not_eq_true, Bool.not_eq_false] at h))
    | (apply r_alloc; ((conv => lhs; simp only [Nat.reduceAdd]) <;> rfl); rfl)
    | (apply r_box; ((conv => lhs; simp only [Nat.reduceAdd]) <;> rfl); rfl; rfl; rfl)
    | (apply r_stL; rfl; rfl; rfl; rfl; (first | rfl | (simp only [z_nil, z_add] <;> rfl)); rfl; rfl)
    | (apply r_p; rfl)
    | (apply r_nilK)
    | (apply r_nil)
    | (apply k_V; rfl)
    | (apply k_P; rfl)
    | (apply k_PL; rfl)
    | (apply k_S; rfl)
    | (apply k_SL; rfl)
    | (apply k_A; rfl)
    | (apply k_T; rfl)
    | (apply k_F; rfl)
    | (apply k_D; rfl; rotate_left; rfl)
    | (apply k_nil)
    | (apply e_ret (vs := [.d (.val _)]); rfl)
    | (apply e_ret; rfl)
    | (apply e_ret' (vs := [.d (.val _)]); rfl)
    | (apply e_ret'; rfl)
    | (apply w_seq)
    | (apply w_ops; ((conv => lhs; simp only [Nat.reduceAdd]) <;> rfl))
    | (apply w_condT; rfl)
    | (apply w_condF; rfl)
    | ((apply w_condS; rfl) <;> (intro h; try simp only [decide_eq_true_eq, decide_eq_false_iff_not, Bool.not_eq_true, Bool.not_eq_false] at h))
    | (apply e_thenN)
    | (apply w_block)
    | (apply e_thenR)
    | (apply e_thenX)
    | (apply e_blkN)
    | (apply e_blkR)
    | (apply e_blkE)
    | (apply w_exit)
    | (apply w_ret)
    | (apply w_skip)
    | (apply e_blkE'; rfl))
  apply w_loopF (S := fun i : Nat => ⟨((((Fr.nil.put 1 (.d (.val (.string s)))).put 5 (.ptrL 6 0)).put 6 (.ptrL 15 0)).put 38 (.i ((s.size + 1 : Nat) : Int))).put 39 (.i i), rowsOf [(6, (encN (starT (.node k a b c d mn mx subs))).map AV.d), (15, (encN (moreT (.node k a b c d mn mx subs))).map AV.d)], Frz.lo 200, 200⟩) (m := fun i => s.size + 1 - i) (I := fun i => i ≤ s.size + 1) (i0 := 0)
  · exact Nat.zero_le _
  · refine fzRow (b := 6) (r' := (encN (starT (.node k a b c d mn mx subs))).map AV.d) (u := [4]) rfl rfl (fzRow (b := 15) (r' := (encN (moreT (.node k a b c d mn mx subs))).map AV.d) (u := [13, 11, 4]) rfl rfl (wkRs (by omega) ?_ ?_).f)
    · intro p hp
      simp only [List.mem_cons, List.not_mem_nil, or_false] at hp
      rcases hp with rfl | rfl
      · exact ⟨by omega, rfl, rfl⟩
      · exact ⟨by omega, rfl, rfl⟩
    · repeat' (first
    | exact FWk.nil
    | (apply FWk.i; rfl; (first | rfl | omega | (simp; done)))
    | (apply FWk.sl; rfl; rfl; rfl; rfl; omega; rfl)
    | (apply FWk.ptr; rfl; rfl; rfl; omega; rfl)
    | (apply FWk.d; rfl; rfl)
    | (apply FWk.a; rfl; rfl; rfl)
    | (apply FWk.slN; rfl; omega; rfl))
  intro i K hi hK
  dsimp only
  rcases Nat.lt_or_ge i (s.size + 1) with hlt | hge
  · obtain ⟨r, g1, g2, g3⟩ := h31 i (by omega)
    have h35 := same_good ((i : Int) :: r) ((i : Int) :: r) g3
    rw [show decide ((i : Int) :: r = (i : Int) :: r) = true by simp] at h35
    repeat' (first
    | (apply r_mvV; rfl)
    | (apply r_mvP; rfl)
    | (apply r_mvPL; rfl)
    | (apply r_mvS; rfl)
    | (apply r_mvSL; rfl)
    | (apply r_mvA; rfl)
    | (apply r_mvT; rfl)
    | (apply r_mvF; rfl)
    | (apply r_mvD; rfl)
    | (apply r_ldL (v := nodeA (starT (.node k a b c d mn mx subs))); rfl; rfl; rfl)
    | (apply r_ldL (v := nodeA (moreT (.node k a b c d mn mx subs))); rfl; rfl; rfl)
    | (apply r_callA (ags := [nodeA (starT (.node k a b c d mn mx subs)), .d (.val (.string s)), .i i]); rfl; rfl; exact g1)
    | (apply r_callA (ags := [nodeA (moreT (.node k a b c d mn mx subs)), .d (.val (.string s)), .i i]); rfl; rfl; exact g2)
    | (apply r_callA; rfl; rfl; exact h35)
    | (apply r_ixI (j := 0); rfl; rfl; rfl; rfl; simp)
    | (apply r_ldI; rfl; rfl)
    | (apply r_ldL; rfl; rfl; rfl)
    | (apply r_eql; rfl; rfl; (first | (apply decide_eq_true; omega) | (apply decide_eq_false; omega) | rfl))
    | (apply r_neq; rfl; rfl; (first | (apply decide_eq_true; omega) | (apply decide_eq_false; omega) | rfl))
    | (apply r_lss; rfl; rfl; (first | (apply decide_eq_true; omega) | (apply decide_eq_false; omega) | rfl))
    | (apply r_add; rfl; rfl; rfl; omega)
    | (apply r_not; rfl; rfl)
    | (apply r_pickT; rfl)
    | (apply r_pickF; rfl)
    | (apply r_lenD; rfl)
    | (apply r_lenL; rfl)
    | (apply r_len0; rfl)
    | (apply r_lenT; rfl)
    | (apply r_ext; rfl; rfl)
    | (apply r_gT; rfl)
    | (apply r_gF'; rfl; rfl)
    | (apply r_gN'; rfl)
    | ((apply r_gS (o := default); rfl) <;> (intro h; try simp only [decide_eq_true_eq, decide_eq_false_iff_not, Bool.not_eq_true, Bool.not_eq_false] at h))
    | (apply r_alloc; ((conv => lhs; simp only [Nat.reduceAdd]) <;> rfl); rfl)
    | (apply r_box; ((conv => lhs; simp only [Nat.reduceAdd]) <;> rfl); rfl; rfl; rfl)
    | (apply r_stL; rfl; rfl; rfl; rfl; (first | rfl | (simp only [z_nil, z_add] <;> rfl)); rfl; rfl)
    | (apply r_p; rfl)
    | (apply r_nilK)
    | (apply r_nil)
    | (apply k_V; rfl)
    | (apply k_P; rfl)
    | (apply k_PL; rfl)
    | (apply k_S; rfl)
    | (apply k_SL; rfl)
    | (apply k_A; rfl)
    | (apply k_T; rfl)
    | (apply k_F; rfl)
    | (apply k_D; rfl; rotate_left; rfl)
    | (apply k_nil)
    | (apply e_ret (vs := [.d (.val _)]); rfl)
    | (apply e_ret; rfl)
    | (apply e_ret' (vs := [.d (.val _)]); rfl)
    | (apply e_ret'; rfl)
    | (apply w_seq)
    | (apply w_ops; ((conv => lhs; simp only [Nat.reduceAdd]) <;> rfl))
    | (apply w_condT; rfl)
    | (apply w_condF; rfl)
    | ((apply w_condS; rfl) <;> (intro h; try simp only [decide_eq_true_eq, decide_eq_false_iff_not, Bool.not_eq_true, Bool.not_eq_false] at h))
    | (apply e_thenN)
    | (apply w_block)
    | (apply e_thenR)
    | (apply e_thenX)
    | (apply e_blkN)
    | (apply e_blkR)
    | (apply e_blkE)
    | (apply w_exit)
    | (apply w_ret)
    | (apply w_skip)
    | (apply e_blkE'; rfl))
    apply e_thenK
    apply hK (i + 1)
    · omega
    · omega
    · refine (wkRs (by omega) ?_ ?_).f
      · intro p hp
        simp only [List.mem_cons, List.not_mem_nil, or_false] at hp
        rcases hp with rfl | rfl
        · exact ⟨by omega, rfl, rfl⟩
        · exact ⟨by omega, rfl, rfl⟩
      · repeat' (first
    | exact FWk.nil
    | (apply FWk.i; rfl; (first | rfl | omega | (simp; done)))
    | (apply FWk.sl; rfl; rfl; rfl; rfl; omega; rfl)
    | (apply FWk.ptr; rfl; rfl; rfl; omega; rfl)
    | (apply FWk.d; rfl; rfl)
    | (apply FWk.a; rfl; rfl; rfl)
    | (apply FWk.slN; rfl; omega; rfl))
  · repeat' (first
    | (apply r_mvV; rfl)
    | (apply r_mvP; rfl)
    | (apply r_mvPL; rfl)
    | (apply r_mvS; rfl)
    | (apply r_mvSL; rfl)
    | (apply r_mvA; rfl)
    | (apply r_mvT; rfl)
    | (apply r_mvF; rfl)
    | (apply r_mvD; rfl)
    | (apply r_ldL; rfl; rfl; rfl)
    | (apply r_eql; rfl; rfl; (first | (apply decide_eq_true; omega) | (apply decide_eq_false; omega) | rfl))
    | (apply r_neq; rfl; rfl; (first | (apply decide_eq_true; omega) | (apply decide_eq_false; omega) | rfl))
    | (apply r_lss; rfl; rfl; (first | (apply decide_eq_true; omega) | (apply decide_eq_false; omega) | rfl))
    | (apply r_add; rfl; rfl; rfl; omega)
    | (apply r_not; rfl; rfl)
    | (apply r_pickT; rfl)
    | (apply r_pickF; rfl)
    | (apply r_lenD; rfl)
    | (apply r_lenL; rfl)
    | (apply r_len0; rfl)
    | (apply r_lenT; rfl)
    | (apply r_ext; rfl; rfl)
    | (apply r_gT; rfl)
    | (apply r_gF'; rfl; rfl)
    | (apply r_gN'; rfl)
    | ((apply r_gS (o := default); rfl) <;> (intro h; try simp only [decide_eq_true_eq, decide_eq_false_iff_not, Bool.not_eq_true, Bool.not_eq_false] at h))
    | (apply r_alloc; ((conv => lhs; simp only [Nat.reduceAdd]) <;> rfl); rfl)
    | (apply r_box; ((conv => lhs; simp only [Nat.reduceAdd]) <;> rfl); rfl; rfl; rfl)
    | (apply r_stL; rfl; rfl; rfl; rfl; (first | rfl | (simp only [z_nil, z_add] <;> rfl)); rfl; rfl)
    | (apply r_p; rfl)
    | (apply r_nilK)
    | (apply r_nil)
    | (apply k_V; rfl)
    | (apply k_P; rfl)
    | (apply k_PL; rfl)
    | (apply k_S; rfl)
    | (apply k_SL; rfl)
    | (apply k_A; rfl)
    | (apply k_T; rfl)
    | (apply k_F; rfl)
    | (apply k_D; rfl; rotate_left; rfl)
    | (apply k_nil)
    | (apply e_ret (vs := [.d (.val _)]); rfl)
    | (apply e_ret; rfl)
    | (apply e_ret' (vs := [.d (.val _)]); rfl)
    | (apply e_ret'; rfl)
    | (apply w_seq)
    | (apply w_ops; ((conv => lhs; simp only [Nat.reduceAdd]) <;> rfl))
    | (apply w_condT; rfl)
    | (apply w_condF; rfl)
    | ((apply w_condS; rfl) <;> (intro h; try simp only [decide_eq_true_eq, decide_eq_false_iff_not, Bool.not_eq_true, Bool.not_eq_false] at h))
    | (apply e_thenN)
    | (apply w_block)
    | (apply e_thenR)
    | (apply e_thenX)
    | (apply e_blkN)
    | (apply e_blkR)
    | (apply e_blkE)
    | (apply w_exit)
    | (apply w_ret)
    | (apply w_skip)
    | (apply e_blkE'; rfl))
    exact retB rfl
end Go.Sv
namespace Go.Sv
open Go
theorem lastG_mem {L : List Int} (h : L ≠ []) : lastG L ∈ L := by
  have hl : 0 < L.length := List.length_pos_iff.2 h
  unfold lastG
  rw [if_neg (by omega), List.getD_eq_getElem?_getD, List.getElem?_eq_getElem (by omega)]
  exact List.getElem_mem _
theorem lastG_nil : lastG [] = -1 := rfl
theorem lastG_app {L r : List Int} (h : r ≠ []) : lastG (L ++ r) = lastG r := by
  have hl : 0 < r.length := List.length_pos_iff.2 h
  unfold lastG
  have e : (L ++ r).length = L.length + r.length := List.length_append
  rw [if_neg (by rw [e]; omega), if_neg (by omega)]
  simp only [List.getD_eq_getElem?_getD, List.length_append]
  rw [List.getElem?_append_right (by omega), show L.length + r.length - 1 - L.length = r.length - 1 by omega]
theorem idxTo_in (q : List Bool) : ∀ (m : Nat), ∀ x ∈ idxTo q m, 0 ≤ x ∧ x < (m : Int)
  | 0, x, h => by simp [idxTo] at h
  | m + 1, x, h => by
    rw [idxTo] at h
    split at h
    · rcases List.mem_append.1 h with h | h
      · have := idxTo_in q m x h; omega
      · simp at h; omega
    · have := idxTo_in q m x h; omega
end Go.Sv
namespace Go.Sv
open Go
theorem mem_idxTo (q : List Bool) (x : Int) : ∀ (m : Nat), x ∈ idxTo q m ↔ ∃ k : Nat, k < m ∧ At q k ∧ x = (k : Int)
  | 0 => by simp [idxTo]
  | m + 1 => by
    rw [idxTo]
    have ih := mem_idxTo q x m
    by_cases h : q.getD m false = true
    · rw [if_pos h, List.mem_append, ih, List.mem_singleton]
      constructor
      · rintro (⟨k, h1, h2, h3⟩ | h1)
        · exact ⟨k, by omega, h2, h3⟩
        · exact ⟨m, by omega, h, h1⟩
      · rintro ⟨k, h1, h2, h3⟩
        by_cases e : k = m
        · subst e; exact .inr h3
        · exact .inl ⟨k, by omega, h2, h3⟩
    · rw [if_neg h, ih]
      constructor
      · rintro ⟨k, h1, h2, h3⟩; exact ⟨k, by omega, h2, h3⟩
      · rintro ⟨k, h1, h2, h3⟩
        refine ⟨k, ?_, h2, h3⟩
        rcases Nat.lt_or_ge k m with h4 | h4
        · exact h4
        · exfalso
          have : k = m := by omega
          subst this; exact h h2
theorem mem_allG {s : ByteArray} {t : T} (hf : fitsT t 12 = true) (hok : okT t) {j : Nat} (hj : j ≤ s.size) (x : Int) : x ∈ allG s t j ↔ ∃ k : Nat, x = (k : Int) ∧ j ≤ k ∧ k ≤ s.size ∧ L t (word s j k) := by
  rw [allG_eq hf hj, mem_idxTo]
  constructor
  · rintro ⟨k, h1, h2, h3⟩
    exact ⟨k, h3, (at_ends s t hok j hj k).1 h2⟩
  · rintro ⟨k, h1, h2⟩
    exact ⟨k, by omega, (at_ends s t hok j hj k).2 h2, h1⟩
def altT (t u : T) : T := .node 4 0 0 0 0 0 0 [t, u]
def catT (t u : T) : T := .node 3 0 0 0 0 0 0 [t, u]
theorem L_altT (t u : T) (w : List Nat) : L (altT t u) w ↔ L t w ∨ L u w := by
  simp only [altT, L, altL]
  simp only [show ¬ (4 : Int) = 1 by omega, show ¬ (4 : Int) = 2 by omega, show ¬ (4 : Int) = 3 by omega, if_true, if_false, or_false]
theorem L_catT (t u : T) (w : List Nat) : L (catT t u) w ↔ ∃ a b, w = a ++ b ∧ L t a ∧ L u b := by
  simp only [catT, L, catL]
  simp only [show ¬ (3 : Int) = 1 by omega, show ¬ (3 : Int) = 2 by omega, if_true, if_false]
  constructor
  · rintro ⟨u, v, rfl, h1, u', v', rfl, h2, rfl⟩
    exact ⟨u, _, rfl, h1, by simpa using h2⟩
  · rintro ⟨u, v, rfl, h1, h2⟩
    exact ⟨u, v, rfl, h1, v, [], by simp, h2, rfl⟩
theorem idx_of {s : ByteArray} {t : T} (hf : fitsT t 12 = true) (hok : okT t) {j : Nat} (hj : j ≤ s.size) {p : List Bool} (h : ∀ k, k ≤ s.size → (At p k ↔ ((k : Nat) : Int) ∈ allG s t j)) : allG s t j = idxTo p (s.size + 1) := by
  rw [allG_eq hf hj]
  refine idxTo_congr _ fun i hi => ?_
  rw [h i (by omega), allG_eq hf hj, mem_idxTo]
  constructor
  · intro h1; exact ⟨i, hi, h1, rfl⟩
  · rintro ⟨k, h1, h2, h3⟩
    have : k = i := by omega
    subst this; exact h2
theorem alt_mem {s : ByteArray} {t u : T} (hft : fitsT t 12 = true) (hfu : fitsT u 12 = true) (hfa : fitsT (altT t u) 12 = true) (ht : okT t) (hu : okT u) (ha : okT (altT t u)) {j : Nat} (hj : j ≤ s.size) (x : Int) : x ∈ allG s (altT t u) j ↔ x ∈ allG s u j ∨ x ∈ allG s t j := by
  rw [mem_allG hfa ha hj, mem_allG hft ht hj, mem_allG hfu hu hj]
  constructor
  · rintro ⟨k, h1, h2, h3, h4⟩
    rcases (L_altT t u _).1 h4 with h | h
    · exact .inr ⟨k, h1, h2, h3, h⟩
    · exact .inl ⟨k, h1, h2, h3, h⟩
  · rintro (⟨k, h1, h2, h3, h4⟩ | ⟨k, h1, h2, h3, h4⟩)
    · exact ⟨k, h1, h2, h3, (L_altT t u _).2 (.inr h4)⟩
    · exact ⟨k, h1, h2, h3, (L_altT t u _).2 (.inl h4)⟩
theorem cat_mem {s : ByteArray} {t u : T} (hft : fitsT t 12 = true) (hfu : fitsT u 12 = true) (hfc : fitsT (catT t u) 12 = true) (ht : okT t) (hu : okT u) (hc : okT (catT t u)) {j : Nat} (hj : j ≤ s.size) (x : Int) : x ∈ allG s (catT t u) j ↔ ∃ i : Nat, ((i : Nat) : Int) ∈ allG s t j ∧ x ∈ allG s u i := by
  rw [mem_allG hfc hc hj]
  constructor
  · rintro ⟨k, h1, h2, h3, h4⟩
    obtain ⟨a, b, e, g1, g2⟩ := (L_catT t u _).1 h4
    obtain ⟨q1, q2, q3⟩ := word_split s h2 e
    refine ⟨j + a.length, (mem_allG hft ht hj _).2 ⟨_, rfl, by omega, by omega, q2 ▸ g1⟩, (mem_allG hfu hu (by omega) _).2 ⟨k, h1, q1, h3, q3 ▸ g2⟩⟩
  · rintro ⟨i, h1, h2⟩
    obtain ⟨i', e, h3, h4, h5⟩ := (mem_allG hft ht hj _).1 h1
    have : i' = i := by omega
    subst this
    obtain ⟨k, e2, h6, h7, h8⟩ := (mem_allG hfu hu h4 _).1 h2
    exact ⟨k, e2, by omega, h7, (L_catT t u _).2 ⟨_, _, (word_app s h3 h6).symm, h5, h8⟩⟩
end Go.Sv
namespace Go.Sv
open Go Go.Proofs
def x8 : XC := (.seq (.ops 3 [
    (0, ⟨(some 4), none, .box (.t 0)⟩),
    (1, ⟨(some 5), none, .box (.t 1)⟩),
    (2, ⟨(some 8), none, .mv (.k (.d (.val (.bool false))))⟩)] (some [2, 3, 4, 5])) (.seq (.ops 12 [
    (5, ⟨(some 41), none, .load (some 8) (.t 5)⟩),
    (4, ⟨(some 40), none, .load (some 8) (.t 4)⟩),
    (0, ⟨(some 36), none, .load (some 8) (.t 4)⟩),
    (1, ⟨(some 37), none, .load (some 8) (.t 5)⟩),
    (2, ⟨(some 38), none, .mkrow [(.int .i64 0), (.int .u64 0), (.int .u64 0), (.int .u64 0), (.int .u64 0), (.int .i64 0), (.int .i64 0), (.slice none 0 0)] 2 8 [(0, 8, (.t 36)), (8, 8, (.t 37))]⟩),
    (3, ⟨(some 39), none, .build [(.int .i64 0), (.int .u64 0), (.int .u64 0), (.int .u64 0), (.int .u64 0), (.int .i64 0), (.int .i64 0), (.slice none 0 0)] [(0, 1, (.k (.d (.val (.int .i64 4))))), (7, 1, (.t 38))]⟩),
    (8, ⟨(some 9), none, .alloc [(.int .i64 0), (.int .u64 0), (.int .u64 0), (.int .u64 0), (.int .u64 0), (.int .i64 0), (.int .i64 0), (.slice none 0 0)]⟩),
    (9, ⟨(some 10), none, .alloc [(.int .i64 0), (.int .u64 0), (.int .u64 0), (.int .u64 0), (.int .u64 0), (.int .i64 0), (.int .i64 0), (.slice none 0 0)]⟩),
    (10, ⟨none, none, .storeA 8 (.t 9) (.t 39) [4, 5]⟩),
    (6, ⟨(some 42), none, .mkrow [(.int .i64 0), (.int .u64 0), (.int .u64 0), (.int .u64 0), (.int .u64 0), (.int .i64 0), (.int .i64 0), (.slice none 0 0)] 2 8 [(0, 8, (.t 40)), (8, 8, (.t 41))]⟩),
    (7, ⟨(some 43), none, .build [(.int .i64 0), (.int .u64 0), (.int .u64 0), (.int .u64 0), (.int .u64 0), (.int .i64 0), (.int .i64 0), (.slice none 0 0)] [(0, 1, (.k (.d (.val (.int .i64 3))))), (7, 1, (.t 42))]⟩),
    (11, ⟨none, none, .store 8 (.t 10) (.t 43)⟩)] (some [2, 3, 4, 5, 9, 10])) (.seq (.seq (.ops 28 [
    (0, ⟨(some 44), none, .call 29 [] none false⟩),
    (1, ⟨(some 45), none, .un .not (.t 44)⟩),
    (2, ⟨(some 46), none, .mv (.t 45)⟩),
    (3, ⟨(some 47), (some (46, false)), .load (some 8) (.t 9)⟩),
    (4, ⟨(some 48), (some (46, false)), .mv (.t 2)⟩),
    (5, ⟨(some 49), (some (46, false)), .call 30 [(.t 47), (.t 48)] none false⟩),
    (6, ⟨(some 50), (some (46, false)), .un .not (.t 49)⟩),
    (7, ⟨(some 51), none, .pick (.t 46) (.k (.d (.val (.bool true)))) (.t 50)⟩),
    (8, ⟨(some 52), none, .mv (.t 51)⟩),
    (9, ⟨(some 53), (some (52, false)), .load (some 8) (.t 9)⟩),
    (10, ⟨(some 54), (some (52, false)), .call 32 [(.t 53)] none false⟩),
    (11, ⟨(some 55), (some (52, false)), .un .not (.t 54)⟩),
    (12, ⟨(some 56), none, .pick (.t 52) (.k (.d (.val (.bool true)))) (.t 55)⟩),
    (13, ⟨(some 57), none, .mv (.t 56)⟩),
    (14, ⟨(some 58), (some (57, false)), .load (some 8) (.t 10)⟩),
    (15, ⟨(some 59), (some (57, false)), .call 32 [(.t 58)] none false⟩),
    (16, ⟨(some 60), (some (57, false)), .un .not (.t 59)⟩),
    (17, ⟨(some 61), none, .pick (.t 57) (.k (.d (.val (.bool true)))) (.t 60)⟩),
    (18, ⟨(some 62), none, .mv (.t 61)⟩),
    (19, ⟨(some 63), (some (62, false)), .mv (.t 3)⟩),
    (20, ⟨(some 64), (some (62, false)), .arith .lss (.t 63) (.k (.d (.val (.int .i64 0))))⟩),
    (21, ⟨(some 65), none, .pick (.t 62) (.k (.d (.val (.bool true)))) (.t 64)⟩),
    (22, ⟨(some 66), none, .mv (.t 65)⟩),
    (23, ⟨(some 67), (some (66, false)), .mv (.t 3)⟩),
    (24, ⟨(some 68), (some (66, false)), .mv (.t 2)⟩),
    (25, ⟨(some 69), (some (66, false)), .lenT (.t 68)⟩),
    (26, ⟨(some 70), (some (66, false)), .arith .gtr (.t 67) (.t 69)⟩),
    (27, ⟨(some 71), none, .pick (.t 66) (.k (.d (.val (.bool true)))) (.t 70)⟩)] (some [2, 3, 4, 5, 9, 10, 71])) (.cond (.t 71) (.seq (.ops 2 [
    (0, ⟨(some 72), none, .call 29 [] none false⟩),
    (1, ⟨(some 8), none, .mv (.t 72)⟩)] (some [8])) .ret) .skip)) (.seq (.ops 9 [
    (0, ⟨(some 74), none, .load (some 8) (.t 4)⟩),
    (1, ⟨(some 75), none, .mv (.t 2)⟩),
    (2, ⟨(some 76), none, .mv (.t 3)⟩),
    (3, ⟨(some 77), none, .call 31 [(.t 74), (.t 75), (.t 76)] none false⟩),
    (4, ⟨(some 73), none, .mv (.t 77)⟩),
    (5, ⟨(some 78), none, .ext (.t 73) 0⟩),
    (6, ⟨(some 79), none, .ext (.t 73) 1⟩),
    (7, ⟨(some 11), none, .mv (.t 78)⟩),
    (8, ⟨(some 12), none, .mv (.t 79)⟩)] (some [2, 3, 5, 9, 10, 11])) (.seq (.ops 9 [
    (0, ⟨(some 81), none, .load (some 8) (.t 5)⟩),
    (1, ⟨(some 82), none, .mv (.t 2)⟩),
    (2, ⟨(some 83), none, .mv (.t 3)⟩),
    (3, ⟨(some 84), none, .call 31 [(.t 81), (.t 82), (.t 83)] none false⟩),
    (4, ⟨(some 80), none, .mv (.t 84)⟩),
    (5, ⟨(some 85), none, .ext (.t 80) 0⟩),
    (6, ⟨(some 86), none, .ext (.t 80) 1⟩),
    (7, ⟨(some 13), none, .mv (.t 85)⟩),
    (8, ⟨(some 14), none, .mv (.t 86)⟩)] (some [2, 3, 5, 9, 10, 11, 13])) (.seq (.ops 10 [
    (0, ⟨(some 87), none, .mv (.t 2)⟩),
    (1, ⟨(some 88), none, .lenT (.t 87)⟩),
    (2, ⟨(some 89), none, .arith .add (.t 88) (.k (.d (.val (.int .i64 1))))⟩),
    (3, ⟨(some 90), none, .mks [(.bool false)] 1 (.t 89) (.t 89)⟩),
    (4, ⟨(some 91), none, .mv (.t 2)⟩),
    (5, ⟨(some 92), none, .lenT (.t 91)⟩),
    (6, ⟨(some 93), none, .arith .add (.t 92) (.k (.d (.val (.int .i64 1))))⟩),
    (7, ⟨(some 94), none, .mks [(.bool false)] 1 (.t 93) (.t 93)⟩),
    (8, ⟨(some 15), none, .mv (.t 90)⟩),
    (9, ⟨(some 16), none, .mv (.t 94)⟩)] (some [2, 3, 5, 9, 10, 11, 13, 15, 16])) (.seq (.seq (.ops 3 [
    (0, ⟨(some 95), none, .mv (.t 13)⟩),
    (1, ⟨(some 96), none, .lenS (.t 95)⟩),
    (2, ⟨(some 97), none, .mv (.k (.d (.val (.int .i64 0))))⟩)] (some [2, 3, 5, 9, 10, 11, 15, 16, 95, 96, 97])) (.block 0 (.loop (.seq (.ops 1 [
    (0, ⟨(some 98), none, .arith .lss (.t 97) (.t 96)⟩)] (some [2, 3, 5, 9, 10, 11, 15, 16, 95, 96, 97, 98])) (.seq (.cond (.t 98) .skip (.exit 0)) (.seq (.block 1 (.seq (.ops 3 [
    (0, ⟨(some 99), none, .idxS 1 (.t 95) (.t 97)⟩),
    (1, ⟨(some 100), none, .load none (.t 99)⟩),
    (2, ⟨(some 18), none, .mv (.t 100)⟩)] (some [2, 3, 5, 9, 10, 11, 15, 16, 18, 95, 96, 97])) (.ops 4 [
    (0, ⟨(some 101), none, .mv (.t 15)⟩),
    (1, ⟨(some 102), none, .mv (.t 18)⟩),
    (2, ⟨(some 103), none, .idxS 1 (.t 101) (.t 102)⟩),
    (3, ⟨none, none, .store 1 (.t 103) (.k (.d (.val (.bool true))))⟩)] (some [2, 3, 5, 9, 10, 11, 15, 16, 95, 96, 97])))) (.ops 2 [
    (0, ⟨(some 104), none, .arith .add (.t 97) (.k (.d (.val (.int .i64 1))))⟩),
    (1, ⟨(some 97), none, .mv (.t 104)⟩)] (some [2, 3, 5, 9, 10, 11, 15, 16, 95, 96, 97])))))))) (.seq (.seq (.ops 3 [
    (0, ⟨(some 105), none, .mv (.t 11)⟩),
    (1, ⟨(some 106), none, .lenS (.t 105)⟩),
    (2, ⟨(some 107), none, .mv (.k (.d (.val (.int .i64 0))))⟩)] (some [2, 3, 5, 9, 10, 15, 16, 105, 106, 107])) (.block 2 (.loop (.seq (.ops 1 [
    (0, ⟨(some 108), none, .arith .lss (.t 107) (.t 106)⟩)] (some [2, 3, 5, 9, 10, 15, 16, 105, 106, 107, 108])) (.seq (.cond (.t 108) .skip (.exit 2)) (.seq (.block 3 (.seq (.ops 3 [
    (0, ⟨(some 109), none, .idxS 1 (.t 105) (.t 107)⟩),
    (1, ⟨(some 110), none, .load none (.t 109)⟩),
    (2, ⟨(some 20), none, .mv (.t 110)⟩)] (some [2, 3, 5, 9, 10, 15, 16, 20, 105, 106, 107])) (.seq (.ops 4 [
    (0, ⟨(some 111), none, .mv (.t 15)⟩),
    (1, ⟨(some 112), none, .mv (.t 20)⟩),
    (2, ⟨(some 113), none, .idxS 1 (.t 111) (.t 112)⟩),
    (3, ⟨none, none, .store 1 (.t 113) (.k (.d (.val (.bool true))))⟩)] (some [2, 3, 5, 9, 10, 15, 16, 20, 105, 106, 107])) (.seq (.ops 9 [
    (0, ⟨(some 115), none, .load (some 8) (.t 5)⟩),
    (1, ⟨(some 116), none, .mv (.t 2)⟩),
    (2, ⟨(some 117), none, .mv (.t 20)⟩),
    (3, ⟨(some 118), none, .call 31 [(.t 115), (.t 116), (.t 117)] none false⟩),
    (4, ⟨(some 114), none, .mv (.t 118)⟩),
    (5, ⟨(some 119), none, .ext (.t 114) 0⟩),
    (6, ⟨(some 120), none, .ext (.t 114) 1⟩),
    (7, ⟨(some 21), none, .mv (.t 119)⟩),
    (8, ⟨(some 22), none, .mv (.t 120)⟩)] (some [2, 3, 5, 9, 10, 15, 16, 21, 105, 106, 107])) (.seq (.ops 3 [
    (0, ⟨(some 121), none, .mv (.t 21)⟩),
    (1, ⟨(some 122), none, .lenS (.t 121)⟩),
    (2, ⟨(some 123), none, .mv (.k (.d (.val (.int .i64 0))))⟩)] (some [2, 3, 5, 9, 10, 15, 16, 105, 106, 107, 121, 122, 123])) (.block 4 (.loop (.seq (.ops 1 [
    (0, ⟨(some 124), none, .arith .lss (.t 123) (.t 122)⟩)] (some [2, 3, 5, 9, 10, 15, 16, 105, 106, 107, 121, 122, 123, 124])) (.seq (.cond (.t 124) .skip (.exit 4)) (.seq (.block 5 (.seq (.ops 3 [
    (0, ⟨(some 125), none, .idxS 1 (.t 121) (.t 123)⟩),
    (1, ⟨(some 126), none, .load none (.t 125)⟩),
    (2, ⟨(some 24), none, .mv (.t 126)⟩)] (some [2, 3, 5, 9, 10, 15, 16, 24, 105, 106, 107, 121, 122, 123])) (.ops 4 [
    (0, ⟨(some 127), none, .mv (.t 16)⟩),
    (1, ⟨(some 128), none, .mv (.t 24)⟩),
    (2, ⟨(some 129), none, .idxS 1 (.t 127) (.t 128)⟩),
    (3, ⟨none, none, .store 1 (.t 129) (.k (.d (.val (.bool true))))⟩)] (some [2, 3, 5, 9, 10, 15, 16, 105, 106, 107, 121, 122, 123])))) (.ops 2 [
    (0, ⟨(some 130), none, .arith .add (.t 123) (.k (.d (.val (.int .i64 1))))⟩),
    (1, ⟨(some 123), none, .mv (.t 130)⟩)] (some [2, 3, 5, 9, 10, 15, 16, 105, 106, 107, 121, 122, 123])))))))))))) (.ops 2 [
    (0, ⟨(some 131), none, .arith .add (.t 107) (.k (.d (.val (.int .i64 1))))⟩),
    (1, ⟨(some 107), none, .mv (.t 131)⟩)] (some [2, 3, 5, 9, 10, 15, 16, 105, 106, 107])))))))) (.seq (.ops 9 [
    (0, ⟨(some 133), none, .load (some 8) (.t 9)⟩),
    (1, ⟨(some 134), none, .mv (.t 2)⟩),
    (2, ⟨(some 135), none, .mv (.t 3)⟩),
    (3, ⟨(some 136), none, .call 31 [(.t 133), (.t 134), (.t 135)] none false⟩),
    (4, ⟨(some 132), none, .mv (.t 136)⟩),
    (5, ⟨(some 137), none, .ext (.t 132) 0⟩),
    (6, ⟨(some 138), none, .ext (.t 132) 1⟩),
    (7, ⟨(some 25), none, .mv (.t 137)⟩),
    (8, ⟨(some 26), none, .mv (.t 138)⟩)] (some [2, 3, 10, 15, 16, 25, 26])) (.seq (.ops 9 [
    (0, ⟨(some 140), none, .load (some 8) (.t 10)⟩),
    (1, ⟨(some 141), none, .mv (.t 2)⟩),
    (2, ⟨(some 142), none, .mv (.t 3)⟩),
    (3, ⟨(some 143), none, .call 31 [(.t 140), (.t 141), (.t 142)] none false⟩),
    (4, ⟨(some 139), none, .mv (.t 143)⟩),
    (5, ⟨(some 144), none, .ext (.t 139) 0⟩),
    (6, ⟨(some 145), none, .ext (.t 139) 1⟩),
    (7, ⟨(some 27), none, .mv (.t 144)⟩),
    (8, ⟨(some 28), none, .mv (.t 145)⟩)] (some [15, 16, 25, 26, 27, 28])) (.seq (.ops 2 [
    (0, ⟨(some 29), none, .mv (.k (.d (.val (.int .i64 0))))⟩),
    (1, ⟨(some 30), none, .mv (.k (.d (.val (.int .i64 0))))⟩)] (some [15, 16, 25, 26, 27, 28, 29, 30])) (.seq (.seq (.ops 3 [
    (0, ⟨(some 146), none, .mv (.t 15)⟩),
    (1, ⟨(some 147), none, .lenS (.t 146)⟩),
    (2, ⟨(some 148), none, .mv (.k (.d (.val (.int .i64 0))))⟩)] (some [15, 16, 25, 26, 27, 28, 29, 30, 147, 148])) (.block 6 (.loop (.seq (.ops 1 [
    (0, ⟨(some 149), none, .arith .lss (.t 148) (.t 147)⟩)] (some [15, 16, 25, 26, 27, 28, 29, 30, 147, 148, 149])) (.seq (.cond (.t 149) .skip (.exit 6)) (.seq (.block 7 (.seq (.ops 2 [
    (0, ⟨(some 150), none, .mv (.t 148)⟩),
    (1, ⟨(some 31), none, .mv (.t 150)⟩)] (some [15, 16, 25, 26, 27, 28, 29, 30, 31, 147, 148])) (.seq (.seq (.ops 4 [
    (0, ⟨(some 151), none, .mv (.t 15)⟩),
    (1, ⟨(some 152), none, .mv (.t 31)⟩),
    (2, ⟨(some 153), none, .idxS 1 (.t 151) (.t 152)⟩),
    (3, ⟨(some 154), none, .load none (.t 153)⟩)] (some [15, 16, 25, 26, 27, 28, 29, 30, 31, 147, 148, 154])) (.cond (.t 154) (.ops 3 [
    (0, ⟨(some 155), none, .mv (.t 29)⟩),
    (1, ⟨(some 156), none, .arith .add (.t 155) (.k (.d (.val (.int .i64 1))))⟩),
    (2, ⟨(some 29), none, .mv (.t 156)⟩)] (some [15, 16, 25, 26, 27, 28, 29, 30, 31, 147, 148])) .skip)) (.seq (.ops 4 [
    (0, ⟨(some 157), none, .mv (.t 16)⟩),
    (1, ⟨(some 158), none, .mv (.t 31)⟩),
    (2, ⟨(some 159), none, .idxS 1 (.t 157) (.t 158)⟩),
    (3, ⟨(some 160), none, .load none (.t 159)⟩)] (some [15, 16, 25, 26, 27, 28, 29, 30, 147, 148, 160])) (.cond (.t 160) (.ops 3 [
    (0, ⟨(some 161), none, .mv (.t 30)⟩),
    (1, ⟨(some 162), none, .arith .add (.t 161) (.k (.d (.val (.int .i64 1))))⟩),
    (2, ⟨(some 30), none, .mv (.t 162)⟩)] (some [15, 16, 25, 26, 27, 28, 29, 30, 147, 148])) .skip))))) (.ops 2 [
    (0, ⟨(some 163), none, .arith .add (.t 148) (.k (.d (.val (.int .i64 1))))⟩),
    (1, ⟨(some 148), none, .mv (.t 163)⟩)] (some [15, 16, 25, 26, 27, 28, 29, 30, 147, 148])))))))) (.seq (.seq (.ops 18 [
    (0, ⟨(some 164), none, .mv (.t 26)⟩),
    (1, ⟨(some 165), none, .arith .neq (.t 164) (.k (.d (.val (.int .i64 0))))⟩),
    (2, ⟨(some 166), none, .mv (.t 165)⟩),
    (3, ⟨(some 167), (some (166, false)), .mv (.t 28)⟩),
    (4, ⟨(some 168), (some (166, false)), .arith .neq (.t 167) (.k (.d (.val (.int .i64 0))))⟩),
    (5, ⟨(some 169), none, .pick (.t 166) (.k (.d (.val (.bool true)))) (.t 168)⟩),
    (6, ⟨(some 170), none, .mv (.t 169)⟩),
    (7, ⟨(some 171), (some (170, false)), .mv (.t 25)⟩),
    (8, ⟨(some 172), (some (170, false)), .lenS (.t 171)⟩),
    (9, ⟨(some 173), (some (170, false)), .mv (.t 29)⟩),
    (10, ⟨(some 174), (some (170, false)), .arith .neq (.t 172) (.t 173)⟩),
    (11, ⟨(some 175), none, .pick (.t 170) (.k (.d (.val (.bool true)))) (.t 174)⟩),
    (12, ⟨(some 176), none, .mv (.t 175)⟩),
    (13, ⟨(some 177), (some (176, false)), .mv (.t 27)⟩),
    (14, ⟨(some 178), (some (176, false)), .lenS (.t 177)⟩),
    (15, ⟨(some 179), (some (176, false)), .mv (.t 30)⟩),
    (16, ⟨(some 180), (some (176, false)), .arith .neq (.t 178) (.t 179)⟩),
    (17, ⟨(some 181), none, .pick (.t 176) (.k (.d (.val (.bool true)))) (.t 180)⟩)] (some [15, 16, 25, 27, 181])) (.cond (.t 181) (.seq (.ops 1 [
    (0, ⟨(some 8), none, .mv (.k (.d (.val (.bool false))))⟩)] (some [8])) .ret) .skip)) (.seq (.seq (.ops 3 [
    (0, ⟨(some 182), none, .mv (.t 25)⟩),
    (1, ⟨(some 183), none, .lenS (.t 182)⟩),
    (2, ⟨(some 184), none, .mv (.k (.d (.val (.int .i64 0))))⟩)] (some [15, 16, 27, 182, 183, 184])) (.block 8 (.loop (.seq (.ops 1 [
    (0, ⟨(some 185), none, .arith .lss (.t 184) (.t 183)⟩)] (some [15, 16, 27, 182, 183, 184, 185])) (.seq (.cond (.t 185) .skip (.exit 8)) (.seq (.block 9 (.seq (.ops 3 [
    (0, ⟨(some 186), none, .idxS 1 (.t 182) (.t 184)⟩),
    (1, ⟨(some 187), none, .load none (.t 186)⟩),
    (2, ⟨(some 33), none, .mv (.t 187)⟩)] (some [15, 16, 27, 33, 182, 183, 184])) (.seq (.ops 5 [
    (0, ⟨(some 188), none, .mv (.t 15)⟩),
    (1, ⟨(some 189), none, .mv (.t 33)⟩),
    (2, ⟨(some 190), none, .idxS 1 (.t 188) (.t 189)⟩),
    (3, ⟨(some 191), none, .load none (.t 190)⟩),
    (4, ⟨(some 192), none, .un .not (.t 191)⟩)] (some [15, 16, 27, 182, 183, 184, 192])) (.cond (.t 192) (.seq (.ops 1 [
    (0, ⟨(some 8), none, .mv (.k (.d (.val (.bool false))))⟩)] (some [8])) .ret) .skip)))) (.ops 2 [
    (0, ⟨(some 193), none, .arith .add (.t 184) (.k (.d (.val (.int .i64 1))))⟩),
    (1, ⟨(some 184), none, .mv (.t 193)⟩)] (some [15, 16, 27, 182, 183, 184])))))))) (.seq (.seq (.ops 3 [
    (0, ⟨(some 194), none, .mv (.t 27)⟩),
    (1, ⟨(some 195), none, .lenS (.t 194)⟩),
    (2, ⟨(some 196), none, .mv (.k (.d (.val (.int .i64 0))))⟩)] (some [16, 194, 195, 196])) (.block 10 (.loop (.seq (.ops 1 [
    (0, ⟨(some 197), none, .arith .lss (.t 196) (.t 195)⟩)] (some [16, 194, 195, 196, 197])) (.seq (.cond (.t 197) .skip (.exit 10)) (.seq (.block 11 (.seq (.ops 3 [
    (0, ⟨(some 198), none, .idxS 1 (.t 194) (.t 196)⟩),
    (1, ⟨(some 199), none, .load none (.t 198)⟩),
    (2, ⟨(some 35), none, .mv (.t 199)⟩)] (some [16, 35, 194, 195, 196])) (.seq (.ops 5 [
    (0, ⟨(some 200), none, .mv (.t 16)⟩),
    (1, ⟨(some 201), none, .mv (.t 35)⟩),
    (2, ⟨(some 202), none, .idxS 1 (.t 200) (.t 201)⟩),
    (3, ⟨(some 203), none, .load none (.t 202)⟩),
    (4, ⟨(some 204), none, .un .not (.t 203)⟩)] (some [16, 194, 195, 196, 204])) (.cond (.t 204) (.seq (.ops 1 [
    (0, ⟨(some 8), none, .mv (.k (.d (.val (.bool false))))⟩)] (some [8])) .ret) .skip)))) (.ops 2 [
    (0, ⟨(some 205), none, .arith .add (.t 196) (.k (.d (.val (.int .i64 1))))⟩),
    (1, ⟨(some 196), none, .mv (.t 205)⟩)] (some [16, 194, 195, 196])))))))) (.seq (.ops 1 [
    (0, ⟨(some 8), none, .mv (.k (.d (.val (.bool true))))⟩)] (some [8])) .ret))))))))))))))))
def md8 : FuncId → Option Nat × Bool
  | _ => (none, false)
def od8 : Nat → List (List Nat) × List Nat × Option (List Nat)
  | 0 => ([], [], some [2, 3, 4, 5])
  | 1 => ([[], [], [0, 1], [0, 1, 2], [], [], [4, 5], [4, 5, 6], [], [], [0, 1, 2, 3, 8, 9], [0, 1, 2, 3, 4, 5, 6, 7, 8, 9, 10]], [5, 4, 0, 1, 2, 3, 8, 9, 10, 6, 7, 11], some [2, 3, 4, 5, 9, 10])
  | 2 => ([], [], some [2, 3, 4, 5, 9, 10, 71])
  | 3 => ([], [], some [8])
  | 4 => ([], [], some [2, 3, 5, 9, 10, 11])
  | 5 => ([], [], some [2, 3, 5, 9, 10, 11, 13])
  | 6 => ([[], [0], [0, 1], [0, 1, 2], [], [4], [4, 5], [4, 5, 6], [0, 1, 2, 3], [0, 1, 2, 3, 4, 5, 6, 7, 8]], [0, 1, 2, 3, 4, 5, 6, 7, 8, 9], some [2, 3, 5, 9, 10, 11, 13, 15, 16])
  | 7 => ([], [], some [2, 3, 5, 9, 10, 11, 15, 16, 95, 96, 97])
  | 8 => ([], [], some [2, 3, 5, 9, 10, 11, 15, 16, 95, 96, 97, 98])
  | 9 => ([], [], some [2, 3, 5, 9, 10, 11, 15, 16, 18, 95, 96, 97])
  | 10 => ([], [], some [2, 3, 5, 9, 10, 11, 15, 16, 95, 96, 97])
  | 11 => ([], [], some [2, 3, 5, 9, 10, 11, 15, 16, 95, 96, 97])
  | 12 => ([], [], some [2, 3, 5, 9, 10, 15, 16, 105, 106, 107])
  | 13 => ([], [], some [2, 3, 5, 9, 10, 15, 16, 105, 106, 107, 108])
  | 14 => ([], [], some [2, 3, 5, 9, 10, 15, 16, 20, 105, 106, 107])
  | 15 => ([], [], some [2, 3, 5, 9, 10, 15, 16, 20, 105, 106, 107])
  | 16 => ([], [], some [2, 3, 5, 9, 10, 15, 16, 21, 105, 106, 107])
  | 17 => ([], [], some [2, 3, 5, 9, 10, 15, 16, 105, 106, 107, 121, 122, 123])
  | 18 => ([], [], some [2, 3, 5, 9, 10, 15, 16, 105, 106, 107, 121, 122, 123, 124])
  | 19 => ([], [], some [2, 3, 5, 9, 10, 15, 16, 24, 105, 106, 107, 121, 122, 123])
  | 20 => ([], [], some [2, 3, 5, 9, 10, 15, 16, 105, 106, 107, 121, 122, 123])
  | 21 => ([], [], some [2, 3, 5, 9, 10, 15, 16, 105, 106, 107, 121, 122, 123])
  | 22 => ([], [], some [2, 3, 5, 9, 10, 15, 16, 105, 106, 107])
  | 23 => ([], [], some [2, 3, 10, 15, 16, 25, 26])
  | 24 => ([], [], some [15, 16, 25, 26, 27, 28])
  | 25 => ([], [], some [15, 16, 25, 26, 27, 28, 29, 30])
  | 26 => ([], [], some [15, 16, 25, 26, 27, 28, 29, 30, 147, 148])
  | 27 => ([], [], some [15, 16, 25, 26, 27, 28, 29, 30, 147, 148, 149])
  | 28 => ([], [], some [15, 16, 25, 26, 27, 28, 29, 30, 31, 147, 148])
  | 29 => ([], [], some [15, 16, 25, 26, 27, 28, 29, 30, 31, 147, 148, 154])
  | 30 => ([], [], some [15, 16, 25, 26, 27, 28, 29, 30, 31, 147, 148])
  | 31 => ([], [], some [15, 16, 25, 26, 27, 28, 29, 30, 147, 148, 160])
  | 32 => ([], [], some [15, 16, 25, 26, 27, 28, 29, 30, 147, 148])
  | 33 => ([], [], some [15, 16, 25, 26, 27, 28, 29, 30, 147, 148])
  | 34 => ([], [], some [15, 16, 25, 27, 181])
  | 35 => ([], [], some [8])
  | 36 => ([], [], some [15, 16, 27, 182, 183, 184])
  | 37 => ([], [], some [15, 16, 27, 182, 183, 184, 185])
  | 38 => ([], [], some [15, 16, 27, 33, 182, 183, 184])
  | 39 => ([], [], some [15, 16, 27, 182, 183, 184, 192])
  | 40 => ([], [], some [8])
  | 41 => ([], [], some [15, 16, 27, 182, 183, 184])
  | 42 => ([], [], some [16, 194, 195, 196])
  | 43 => ([], [], some [16, 194, 195, 196, 197])
  | 44 => ([], [], some [16, 35, 194, 195, 196])
  | 45 => ([], [], some [16, 194, 195, 196, 204])
  | 46 => ([], [], some [8])
  | 47 => ([], [], some [16, 194, 195, 196])
  | 48 => ([], [], some [8])
  | _ => ([], [], none)
theorem b8 {ags : List AV} {row : Option (List DV)} {r : AV} {row' nw : Option (List DV)} (hal : ags.length ≤ 206) (hrow : row'.isSome = true → row.isSome = true) (h : xwp Try.prog x8 (retK [.tmp 8] row.isSome r row' nw) (St.init ags row)) : Good Try.prog 8 ags row r row' nw :=
  good_of_body' (md := md8) (od := od8) Try.f8 (by kernel_rfl) (by kernel_rfl) (by kernel_rfl) (by kernel_rfl) (by kernel_rfl) hal hrow h

theorem fzB' {fr : Fr} {C : Heap} {Z : Frz} {nx : Nat} {k b m : Nat} {p : List Bool} (hx : X.ev fr (.t k) = .slL b 0 m 1) (hC : C b = some ((encB p).map AV.d)) (hm : p.length = m) (h0 : 0 < m) {st' : St} (hw : Wkf ⟨fr.put k (.d (.sl (encB p) m)), C, Z.add [b], nx⟩ st') : Wkf ⟨fr, C, Z, nx⟩ st' := by
  refine fz1' (k := k) (v := .d (.sl (encB p) m)) (u := [b]) ?_ hw
  rw [hx]
  simp only [convA, conv_slB (ex := fun _ => false) rfl hC hm h0, Option.map_some]
theorem ends_get {s : ByteArray} {t : T} (hf : fitsT t 12 = true) (hok : okT t) {j : Nat} (hj : j ≤ s.size) (i : Nat) (hi : i < (allG s t j).length) : ∃ kk : Nat, kk ≤ s.size ∧ (allG s t j)[i]? = some ((kk : Nat) : Int) := by
  obtain ⟨k, h1, h2, h3, h4⟩ := (mem_allG hf hok hj _).1 (List.getElem_mem hi)
  exact ⟨k, h3, by rw [List.getElem?_eq_getElem hi, h1]⟩
theorem mark_step {p : List Bool} {l : List Int} {i kk : Nat} {A : Nat → Prop} (hk : kk < p.length) (hi : l[i]? = some ((kk : Nat) : Int)) (h : ∀ k : Nat, At p k ↔ A k ∨ ∃ i', i' < i ∧ l[i']? = some ((k : Nat) : Int)) : ∀ k : Nat, At (p.set kk true) k ↔ A k ∨ ∃ i', i' < i + 1 ∧ l[i']? = some ((k : Nat) : Int) := by
  intro k
  rw [at_set k hk, h k]
  constructor
  · rintro (⟨rfl, _⟩ | ⟨_, h1 | ⟨i', h1, h2⟩⟩)
    · exact .inr ⟨i, by omega, hi⟩
    · exact .inl h1
    · exact .inr ⟨i', by omega, h2⟩
  · rintro (h1 | ⟨i', h1, h2⟩)
    · by_cases e : k = kk
      · exact .inl ⟨e, rfl⟩
      · exact .inr ⟨e, .inl h1⟩
    · by_cases e : k = kk
      · exact .inl ⟨e, rfl⟩
      · refine .inr ⟨e, .inr ⟨i', ?_, h2⟩⟩
        by_cases e2 : i' = i
        · subst e2; rw [hi] at h2; simp at h2; omega
        · omega
theorem mem_lt {l : List Int} {x : Int} : (∃ i', i' < l.length ∧ l[i']? = some x) ↔ x ∈ l := by
  rw [List.mem_iff_getElem?]
  constructor
  · rintro ⟨i, _, h⟩; exact ⟨i, h⟩
  · rintro ⟨i, h⟩; exact ⟨i, (List.getElem?_eq_some_iff.1 h).1, h⟩
theorem ends_len {s : ByteArray} {t : T} (hf : fitsT t 12 = true) {j : Nat} (hj : j ≤ s.size) : (allG s t j).length ≤ s.size + 1 := by
  rw [allG_eq hf hj]; exact idxTo_len _ _
theorem idx_get {p : List Bool} {l : List Int} {n : Nat} (e : l = idxTo p (n + 1)) (hpl : p.length = n + 1) (i : Nat) (hi : i < l.length) : ∃ kk : Nat, kk ≤ n ∧ l[i]? = some ((kk : Nat) : Int) ∧ p[kk]? = some true := by
  subst e
  have h1 := List.getElem_mem hi
  rw [mem_idxTo] at h1
  obtain ⟨k, h1, h2, h3⟩ := h1
  refine ⟨k, by omega, by rw [List.getElem?_eq_getElem hi, h3], ?_⟩
  unfold At at h2
  rw [List.getD_eq_getElem?_getD, List.getElem?_eq_getElem (by omega)] at h2
  rw [List.getElem?_eq_getElem (by omega)]
  simpa using h2
set_option maxRecDepth 100000
set_option maxHeartbeats 4000000
attribute [local irreducible] W E R KP thenK blockK retK Good xwp aRun
theorem law8 (t u : T) (s : ByteArray) (n : Int) (ht : inT t) (hu : inT u) (hs : s.size ≤ 9223372036854775807) (hn : inW n) : Good Try.prog 8 [nodeA t, nodeA u, .d (.val (.string s)), .i n] none (.b true) none none := by
  have haw := awake11_good
  have z : inW 0 := by unfold inW; omega
  have o : okW 0 := by unfold okW; omega
  have k3 : inW 3 := by unfold inW; omega
  have k4 : inW 4 := by unfold inW; omega
  have hina : inT (altT t u) := by simp only [altT, inT, inL, z, o, k4, ht, hu, and_self]
  have hinc : inT (catT t u) := by simp only [catT, inT, inL, z, o, k3, ht, hu, and_self]
  have h30 := few30_good s hs (altT t u) hina
  clear z o k3 k4
  unfold inW at hn
  by_cases hf : few11 s (altT t u) = true
  case neg =>
    have hf : few11 s (altT t u) = false := by simpa using hf
    rw [hf] at h30
    clear ht hu hf hina hinc
    obtain ⟨k, a, b, c, d, mn, mx, subs⟩ := t
    obtain ⟨k2, a2, b2, c2, d2, mn2, mx2, subs2⟩ := u
    have e0 : nodeA (.node k a b c d mn mx subs) = .agg [.i k, .d (.val (.int .u64 a)), .d (.val (.int .u64 b)), .d (.val (.int .u64 c)), .d (.val (.int .u64 d)), .i mn, .i mx, .d (.sl (encL subs) subs.length)] := rfl
    have e1 : nodeA (.node k2 a2 b2 c2 d2 mn2 mx2 subs2) = .agg [.i k2, .d (.val (.int .u64 a2)), .d (.val (.int .u64 b2)), .d (.val (.int .u64 c2)), .d (.val (.int .u64 d2)), .i mn2, .i mx2, .d (.sl (encL subs2) subs2.length)] := rfl
    rw [e0, e1]
    refine b8 (by simp) (by simp) (w_init ?_)
    unfold x8
    repeat' (first
    | (apply r_mvV; rfl)
    | (apply r_mvP; rfl)
    | (apply r_mvPL; rfl)
    | (apply r_mvS; rfl)
    | (apply r_mvSL; rfl)
    | (apply r_mvA; rfl)
    | (apply r_mvT; rfl)
    | (apply r_mvF; rfl)
    | (apply r_mvD; rfl)
    | (apply r_ldL (v := .agg [.i k, .d (.val (.int .u64 a)), .d (.val (.int .u64 b)), .d (.val (.int .u64 c)), .d (.val (.int .u64 d)), .i mn, .i mx, .d (.sl (encL subs) subs.length)]); rfl; rfl; rfl)
    | (apply r_ldL (v := .agg [.i k2, .d (.val (.int .u64 a2)), .d (.val (.int .u64 b2)), .d (.val (.int .u64 c2)), .d (.val (.int .u64 d2)), .i mn2, .i mx2, .d (.sl (encL subs2) subs2.length)]); rfl; rfl; rfl)
    | (apply r_ldL (v := .agg [.i 4, .d (.val (.int .u64 0)), .d (.val (.int .u64 0)), .d (.val (.int .u64 0)), .d (.val (.int .u64 0)), .i 0, .i 0, .slL 6 0 2 8]); rfl; rfl; rfl)
    | (apply r_ldL (v := .agg [.i 3, .d (.val (.int .u64 0)), .d (.val (.int .u64 0)), .d (.val (.int .u64 0)), .d (.val (.int .u64 0)), .i 0, .i 0, .slL 10 0 2 8]); rfl; rfl; rfl)
    | (apply r_n (v := .slL 6 0 2 8) (r := [.i k, .d (.val (.int .u64 a)), .d (.val (.int .u64 b)), .d (.val (.int .u64 c)), .d (.val (.int .u64 d)), .i mn, .i mx, .d (.sl (encL subs) subs.length), .i k2, .d (.val (.int .u64 a2)), .d (.val (.int .u64 b2)), .d (.val (.int .u64 c2)), .d (.val (.int .u64 d2)), .i mn2, .i mx2, .d (.sl (encL subs2) subs2.length)]); rfl)
    | (apply r_n (v := .slL 10 0 2 8) (r := [.i k, .d (.val (.int .u64 a)), .d (.val (.int .u64 b)), .d (.val (.int .u64 c)), .d (.val (.int .u64 d)), .i mn, .i mx, .d (.sl (encL subs) subs.length), .i k2, .d (.val (.int .u64 a2)), .d (.val (.int .u64 b2)), .d (.val (.int .u64 c2)), .d (.val (.int .u64 d2)), .i mn2, .i mx2, .d (.sl (encL subs2) subs2.length)]); rfl)
    | (apply r_p (v := .agg [.i 4, .d (.val (.int .u64 0)), .d (.val (.int .u64 0)), .d (.val (.int .u64 0)), .d (.val (.int .u64 0)), .i 0, .i 0, .slL 6 0 2 8]); rfl)
    | (apply r_p (v := .agg [.i 3, .d (.val (.int .u64 0)), .d (.val (.int .u64 0)), .d (.val (.int .u64 0)), .d (.val (.int .u64 0)), .i 0, .i 0, .slL 10 0 2 8]); rfl)
    | (apply r_callA (ags := []); rfl; rfl; exact haw)
    | (apply r_call (bs := [nodeA (altT (.node k a b c d mn mx subs) (.node k2 a2 b2 c2 d2 mn2 mx2 subs2)), .d (.val (.string s))]) (us := [6]); rfl; rfl; exact h30; rfl)
    | (apply r_ldL; rfl; rfl; rfl)
    | (apply r_neq; rfl; rfl; (first | (apply decide_eq_true; omega) | (apply decide_eq_false; omega) | rfl))
    | (apply r_lss; rfl; rfl; (first | (apply decide_eq_true; omega) | (apply decide_eq_false; omega) | rfl))
    | (apply r_gtr; rfl; rfl; (first | (apply decide_eq_true; omega) | (apply decide_eq_false; omega) | rfl))
    | (apply r_add; rfl; rfl; rfl; omega)
    | (apply r_not; rfl; rfl)
    | (apply r_pickT; rfl)
    | (apply r_pickF; rfl)
    | (apply r_lenD; rfl)
    | (apply r_lenL; rfl)
    | (apply r_len0; rfl)
    | (apply r_lenT; rfl)
    | (apply r_ext; rfl; rfl)
    | (apply r_gT; rfl)
    | (apply r_gF'; rfl; rfl)
    | (apply r_gN'; rfl)
    | ((apply r_gS (o := default); rfl) <;> (intro h; try simp only [decide_eq_true_eq, decide_eq_false_iff_not, Bool.not_eq_true, Bool.not_eq_false] at h))
    | (apply r_alloc; ((conv => lhs; simp only [Nat.reduceAdd]) <;> rfl); rfl)
    | (apply r_box; ((conv => lhs; simp only [Nat.reduceAdd]) <;> rfl); rfl; rfl; rfl)
    | (apply r_avS; rfl)
    | (apply r_stL; rfl; rfl; rfl; rfl; (first | rfl | (simp only [z_nil, z_add] <;> rfl)); rfl; rfl)
    | (apply r_p; rfl)
    | (apply r_nilK)
    | (apply r_nil)
    | (apply k_V; rfl)
    | (apply k_P; rfl)
    | (apply k_PL; rfl)
    | (apply k_S; rfl)
    | (apply k_SL; rfl)
    | (apply k_A; rfl)
    | (apply k_T; rfl)
    | (apply k_F; rfl)
    | (apply k_D; rfl; rotate_left; rfl)
    | (apply k_nil)
    | (apply e_ret (vs := [.d (.val _)]); rfl)
    | (apply e_ret; rfl)
    | (apply e_ret' (vs := [.d (.val _)]); rfl)
    | (apply e_ret'; rfl)
    | (apply w_seq)
    | (apply w_ops; ((conv => lhs; simp only [Nat.reduceAdd]) <;> rfl))
    | (apply w_condT; rfl)
    | (apply w_condF; rfl)
    | ((apply w_condS; rfl) <;> (intro h; try simp only [decide_eq_true_eq, decide_eq_false_iff_not, Bool.not_eq_true, Bool.not_eq_false] at h))
    | (apply e_thenN)
    | (apply w_block)
    | (apply e_thenR)
    | (apply e_thenX)
    | (apply e_blkN)
    | (apply e_blkR)
    | (apply e_blkE)
    | (apply w_exit)
    | (apply w_ret)
    | (apply w_skip)
    | (apply e_blkE'; rfl))
    exact retB rfl
  rw [hf] at h30
  simp only [few11, Bool.and_eq_true, decide_eq_true_eq] at hf
  obtain ⟨hf1, hf2, _⟩ := hf
  have hc := few_cnt hf1
  have hcc : (catT t u).cnt ≤ 200 := by
    have : (catT t u).cnt = (altT t u).cnt := by simp [catT, altT, T.cnt, cntL]
    omega
  have h32 := right8_good (altT t u) (by omega)
  have h32c := right8_good (catT t u) (by omega)
  by_cases hr : rightT (altT t u) = true
  case neg =>
    have hr : rightT (altT t u) = false := by simpa using hr
    rw [hr] at h32
    clear ht hu hina hinc hr hf1 hc hcc h32c
    obtain ⟨k, a, b, c, d, mn, mx, subs⟩ := t
    obtain ⟨k2, a2, b2, c2, d2, mn2, mx2, subs2⟩ := u
    have e0 : nodeA (.node k a b c d mn mx subs) = .agg [.i k, .d (.val (.int .u64 a)), .d (.val (.int .u64 b)), .d (.val (.int .u64 c)), .d (.val (.int .u64 d)), .i mn, .i mx, .d (.sl (encL subs) subs.length)] := rfl
    have e1 : nodeA (.node k2 a2 b2 c2 d2 mn2 mx2 subs2) = .agg [.i k2, .d (.val (.int .u64 a2)), .d (.val (.int .u64 b2)), .d (.val (.int .u64 c2)), .d (.val (.int .u64 d2)), .i mn2, .i mx2, .d (.sl (encL subs2) subs2.length)] := rfl
    rw [e0, e1]
    refine b8 (by simp) (by simp) (w_init ?_)
    unfold x8
    repeat' (first
    | (apply r_mvV; rfl)
    | (apply r_mvP; rfl)
    | (apply r_mvPL; rfl)
    | (apply r_mvS; rfl)
    | (apply r_mvSL; rfl)
    | (apply r_mvA; rfl)
    | (apply r_mvT; rfl)
    | (apply r_mvF; rfl)
    | (apply r_mvD; rfl)
    | (apply r_ldL (v := .agg [.i k, .d (.val (.int .u64 a)), .d (.val (.int .u64 b)), .d (.val (.int .u64 c)), .d (.val (.int .u64 d)), .i mn, .i mx, .d (.sl (encL subs) subs.length)]); rfl; rfl; rfl)
    | (apply r_ldL (v := .agg [.i k2, .d (.val (.int .u64 a2)), .d (.val (.int .u64 b2)), .d (.val (.int .u64 c2)), .d (.val (.int .u64 d2)), .i mn2, .i mx2, .d (.sl (encL subs2) subs2.length)]); rfl; rfl; rfl)
    | (apply r_ldL (v := .agg [.i 4, .d (.val (.int .u64 0)), .d (.val (.int .u64 0)), .d (.val (.int .u64 0)), .d (.val (.int .u64 0)), .i 0, .i 0, .slL 6 0 2 8]); rfl; rfl; rfl)
    | (apply r_ldL (v := .agg [.i 3, .d (.val (.int .u64 0)), .d (.val (.int .u64 0)), .d (.val (.int .u64 0)), .d (.val (.int .u64 0)), .i 0, .i 0, .slL 10 0 2 8]); rfl; rfl; rfl)
    | (apply r_n (v := .slL 6 0 2 8) (r := [.i k, .d (.val (.int .u64 a)), .d (.val (.int .u64 b)), .d (.val (.int .u64 c)), .d (.val (.int .u64 d)), .i mn, .i mx, .d (.sl (encL subs) subs.length), .i k2, .d (.val (.int .u64 a2)), .d (.val (.int .u64 b2)), .d (.val (.int .u64 c2)), .d (.val (.int .u64 d2)), .i mn2, .i mx2, .d (.sl (encL subs2) subs2.length)]); rfl)
    | (apply r_n (v := .slL 10 0 2 8) (r := [.i k, .d (.val (.int .u64 a)), .d (.val (.int .u64 b)), .d (.val (.int .u64 c)), .d (.val (.int .u64 d)), .i mn, .i mx, .d (.sl (encL subs) subs.length), .i k2, .d (.val (.int .u64 a2)), .d (.val (.int .u64 b2)), .d (.val (.int .u64 c2)), .d (.val (.int .u64 d2)), .i mn2, .i mx2, .d (.sl (encL subs2) subs2.length)]); rfl)
    | (apply r_p (v := .agg [.i 4, .d (.val (.int .u64 0)), .d (.val (.int .u64 0)), .d (.val (.int .u64 0)), .d (.val (.int .u64 0)), .i 0, .i 0, .slL 6 0 2 8]); rfl)
    | (apply r_p (v := .agg [.i 3, .d (.val (.int .u64 0)), .d (.val (.int .u64 0)), .d (.val (.int .u64 0)), .d (.val (.int .u64 0)), .i 0, .i 0, .slL 10 0 2 8]); rfl)
    | (apply r_callA (ags := []); rfl; rfl; exact haw)
    | (apply r_call (bs := [nodeA (altT (.node k a b c d mn mx subs) (.node k2 a2 b2 c2 d2 mn2 mx2 subs2)), .d (.val (.string s))]) (us := [6]); rfl; rfl; exact h30; rfl)
    | (apply r_call (bs := [nodeA (altT (.node k a b c d mn mx subs) (.node k2 a2 b2 c2 d2 mn2 mx2 subs2))]) (us := [6]); rfl; rfl; exact h32; rfl)
    | (apply r_ldL; rfl; rfl; rfl)
    | (apply r_neq; rfl; rfl; (first | (apply decide_eq_true; omega) | (apply decide_eq_false; omega) | rfl))
    | (apply r_lss; rfl; rfl; (first | (apply decide_eq_true; omega) | (apply decide_eq_false; omega) | rfl))
    | (apply r_gtr; rfl; rfl; (first | (apply decide_eq_true; omega) | (apply decide_eq_false; omega) | rfl))
    | (apply r_add; rfl; rfl; rfl; omega)
    | (apply r_not; rfl; rfl)
    | (apply r_pickT; rfl)
    | (apply r_pickF; rfl)
    | (apply r_lenD; rfl)
    | (apply r_lenL; rfl)
    | (apply r_len0; rfl)
    | (apply r_lenT; rfl)
    | (apply r_ext; rfl; rfl)
    | (apply r_gT; rfl)
    | (apply r_gF'; rfl; rfl)
    | (apply r_gN'; rfl)
    | ((apply r_gS (o := default); rfl) <;> (intro h; try simp only [decide_eq_true_eq, decide_eq_false_iff_not, Bool.not_eq_true, Bool.not_eq_false] at h))
    | (apply r_alloc; ((conv => lhs; simp only [Nat.reduceAdd]) <;> rfl); rfl)
    | (apply r_box; ((conv => lhs; simp only [Nat.reduceAdd]) <;> rfl); rfl; rfl; rfl)
    | (apply r_avS; rfl)
    | (apply r_stL; rfl; rfl; rfl; rfl; (first | rfl | (simp only [z_nil, z_add] <;> rfl)); rfl; rfl)
    | (apply r_p; rfl)
    | (apply r_nilK)
    | (apply r_nil)
    | (apply k_V; rfl)
    | (apply k_P; rfl)
    | (apply k_PL; rfl)
    | (apply k_S; rfl)
    | (apply k_SL; rfl)
    | (apply k_A; rfl)
    | (apply k_T; rfl)
    | (apply k_F; rfl)
    | (apply k_D; rfl; rotate_left; rfl)
    | (apply k_nil)
    | (apply e_ret (vs := [.d (.val _)]); rfl)
    | (apply e_ret; rfl)
    | (apply e_ret' (vs := [.d (.val _)]); rfl)
    | (apply e_ret'; rfl)
    | (apply w_seq)
    | (apply w_ops; ((conv => lhs; simp only [Nat.reduceAdd]) <;> rfl))
    | (apply w_condT; rfl)
    | (apply w_condF; rfl)
    | ((apply w_condS; rfl) <;> (intro h; try simp only [decide_eq_true_eq, decide_eq_false_iff_not, Bool.not_eq_true, Bool.not_eq_false] at h))
    | (apply e_thenN)
    | (apply w_block)
    | (apply e_thenR)
    | (apply e_thenX)
    | (apply e_blkN)
    | (apply e_blkR)
    | (apply e_blkE)
    | (apply w_exit)
    | (apply w_ret)
    | (apply w_skip)
    | (apply e_blkE'; rfl))
    exact retB rfl
  rw [hr] at h32
  by_cases hrc : rightT (catT t u) = true
  case neg =>
    have hrc : rightT (catT t u) = false := by simpa using hrc
    rw [hrc] at h32c
    clear ht hu hina hinc hr hrc hf1 hc hcc
    obtain ⟨k, a, b, c, d, mn, mx, subs⟩ := t
    obtain ⟨k2, a2, b2, c2, d2, mn2, mx2, subs2⟩ := u
    have e0 : nodeA (.node k a b c d mn mx subs) = .agg [.i k, .d (.val (.int .u64 a)), .d (.val (.int .u64 b)), .d (.val (.int .u64 c)), .d (.val (.int .u64 d)), .i mn, .i mx, .d (.sl (encL subs) subs.length)] := rfl
    have e1 : nodeA (.node k2 a2 b2 c2 d2 mn2 mx2 subs2) = .agg [.i k2, .d (.val (.int .u64 a2)), .d (.val (.int .u64 b2)), .d (.val (.int .u64 c2)), .d (.val (.int .u64 d2)), .i mn2, .i mx2, .d (.sl (encL subs2) subs2.length)] := rfl
    rw [e0, e1]
    refine b8 (by simp) (by simp) (w_init ?_)
    unfold x8
    repeat' (first
    | (apply r_mvV; rfl)
    | (apply r_mvP; rfl)
    | (apply r_mvPL; rfl)
    | (apply r_mvS; rfl)
    | (apply r_mvSL; rfl)
    | (apply r_mvA; rfl)
    | (apply r_mvT; rfl)
    | (apply r_mvF; rfl)
    | (apply r_mvD; rfl)
    | (apply r_ldL (v := .agg [.i k, .d (.val (.int .u64 a)), .d (.val (.int .u64 b)), .d (.val (.int .u64 c)), .d (.val (.int .u64 d)), .i mn, .i mx, .d (.sl (encL subs) subs.length)]); rfl; rfl; rfl)
    | (apply r_ldL (v := .agg [.i k2, .d (.val (.int .u64 a2)), .d (.val (.int .u64 b2)), .d (.val (.int .u64 c2)), .d (.val (.int .u64 d2)), .i mn2, .i mx2, .d (.sl (encL subs2) subs2.length)]); rfl; rfl; rfl)
    | (apply r_ldL (v := .agg [.i 4, .d (.val (.int .u64 0)), .d (.val (.int .u64 0)), .d (.val (.int .u64 0)), .d (.val (.int .u64 0)), .i 0, .i 0, .slL 6 0 2 8]); rfl; rfl; rfl)
    | (apply r_ldL (v := .agg [.i 3, .d (.val (.int .u64 0)), .d (.val (.int .u64 0)), .d (.val (.int .u64 0)), .d (.val (.int .u64 0)), .i 0, .i 0, .slL 10 0 2 8]); rfl; rfl; rfl)
    | (apply r_n (v := .slL 6 0 2 8) (r := [.i k, .d (.val (.int .u64 a)), .d (.val (.int .u64 b)), .d (.val (.int .u64 c)), .d (.val (.int .u64 d)), .i mn, .i mx, .d (.sl (encL subs) subs.length), .i k2, .d (.val (.int .u64 a2)), .d (.val (.int .u64 b2)), .d (.val (.int .u64 c2)), .d (.val (.int .u64 d2)), .i mn2, .i mx2, .d (.sl (encL subs2) subs2.length)]); rfl)
    | (apply r_n (v := .slL 10 0 2 8) (r := [.i k, .d (.val (.int .u64 a)), .d (.val (.int .u64 b)), .d (.val (.int .u64 c)), .d (.val (.int .u64 d)), .i mn, .i mx, .d (.sl (encL subs) subs.length), .i k2, .d (.val (.int .u64 a2)), .d (.val (.int .u64 b2)), .d (.val (.int .u64 c2)), .d (.val (.int .u64 d2)), .i mn2, .i mx2, .d (.sl (encL subs2) subs2.length)]); rfl)
    | (apply r_p (v := .agg [.i 4, .d (.val (.int .u64 0)), .d (.val (.int .u64 0)), .d (.val (.int .u64 0)), .d (.val (.int .u64 0)), .i 0, .i 0, .slL 6 0 2 8]); rfl)
    | (apply r_p (v := .agg [.i 3, .d (.val (.int .u64 0)), .d (.val (.int .u64 0)), .d (.val (.int .u64 0)), .d (.val (.int .u64 0)), .i 0, .i 0, .slL 10 0 2 8]); rfl)
    | (apply r_callA (ags := []); rfl; rfl; exact haw)
    | (apply r_call (bs := [nodeA (altT (.node k a b c d mn mx subs) (.node k2 a2 b2 c2 d2 mn2 mx2 subs2)), .d (.val (.string s))]) (us := [6]); rfl; rfl; exact h30; rfl)
    | (apply r_call (bs := [nodeA (altT (.node k a b c d mn mx subs) (.node k2 a2 b2 c2 d2 mn2 mx2 subs2))]) (us := [6]); rfl; rfl; exact h32; rfl)
    | (apply r_call (bs := [nodeA (catT (.node k a b c d mn mx subs) (.node k2 a2 b2 c2 d2 mn2 mx2 subs2))]) (us := [10]); rfl; rfl; exact h32c; rfl)
    | (apply r_ldL; rfl; rfl; rfl)
    | (apply r_neq; rfl; rfl; (first | (apply decide_eq_true; omega) | (apply decide_eq_false; omega) | rfl))
    | (apply r_lss; rfl; rfl; (first | (apply decide_eq_true; omega) | (apply decide_eq_false; omega) | rfl))
    | (apply r_gtr; rfl; rfl; (first | (apply decide_eq_true; omega) | (apply decide_eq_false; omega) | rfl))
    | (apply r_add; rfl; rfl; rfl; omega)
    | (apply r_not; rfl; rfl)
    | (apply r_pickT; rfl)
    | (apply r_pickF; rfl)
    | (apply r_lenD; rfl)
    | (apply r_lenL; rfl)
    | (apply r_len0; rfl)
    | (apply r_lenT; rfl)
    | (apply r_ext; rfl; rfl)
    | (apply r_gT; rfl)
    | (apply r_gF'; rfl; rfl)
    | (apply r_gN'; rfl)
    | ((apply r_gS (o := default); rfl) <;> (intro h; try simp only [decide_eq_true_eq, decide_eq_false_iff_not, Bool.not_eq_true, Bool.not_eq_false] at h))
    | (apply r_alloc; ((conv => lhs; simp only [Nat.reduceAdd]) <;> rfl); rfl)
    | (apply r_box; ((conv => lhs; simp only [Nat.reduceAdd]) <;> rfl); rfl; rfl; rfl)
    | (apply r_avS; rfl)
    | (apply r_stL; rfl; rfl; rfl; rfl; (first | rfl | (simp only [z_nil, z_add] <;> rfl)); rfl; rfl)
    | (apply r_p; rfl)
    | (apply r_nilK)
    | (apply r_nil)
    | (apply k_V; rfl)
    | (apply k_P; rfl)
    | (apply k_PL; rfl)
    | (apply k_S; rfl)
    | (apply k_SL; rfl)
    | (apply k_A; rfl)
    | (apply k_T; rfl)
    | (apply k_F; rfl)
    | (apply k_D; rfl; rotate_left; rfl)
    | (apply k_nil)
    | (apply e_ret (vs := [.d (.val _)]); rfl)
    | (apply e_ret; rfl)
    | (apply e_ret' (vs := [.d (.val _)]); rfl)
    | (apply e_ret'; rfl)
    | (apply w_seq)
    | (apply w_ops; ((conv => lhs; simp only [Nat.reduceAdd]) <;> rfl))
    | (apply w_condT; rfl)
    | (apply w_condF; rfl)
    | ((apply w_condS; rfl) <;> (intro h; try simp only [decide_eq_true_eq, decide_eq_false_iff_not, Bool.not_eq_true, Bool.not_eq_false] at h))
    | (apply e_thenN)
    | (apply w_block)
    | (apply e_thenR)
    | (apply e_thenX)
    | (apply e_blkN)
    | (apply e_blkR)
    | (apply e_blkE)
    | (apply w_exit)
    | (apply w_ret)
    | (apply w_skip)
    | (apply e_blkE'; rfl))
    exact retB rfl
  rw [hrc] at h32c
  by_cases hfr : 0 ≤ n ∧ n ≤ s.size
  case neg =>
    clear ht hu hina hinc hr hrc hf1 hc hcc
    obtain ⟨k, a, b, c, d, mn, mx, subs⟩ := t
    obtain ⟨k2, a2, b2, c2, d2, mn2, mx2, subs2⟩ := u
    have e0 : nodeA (.node k a b c d mn mx subs) = .agg [.i k, .d (.val (.int .u64 a)), .d (.val (.int .u64 b)), .d (.val (.int .u64 c)), .d (.val (.int .u64 d)), .i mn, .i mx, .d (.sl (encL subs) subs.length)] := rfl
    have e1 : nodeA (.node k2 a2 b2 c2 d2 mn2 mx2 subs2) = .agg [.i k2, .d (.val (.int .u64 a2)), .d (.val (.int .u64 b2)), .d (.val (.int .u64 c2)), .d (.val (.int .u64 d2)), .i mn2, .i mx2, .d (.sl (encL subs2) subs2.length)] := rfl
    rw [e0, e1]
    by_cases hneg : n < 0
    · refine b8 (by simp) (by simp) (w_init ?_)
      unfold x8
      repeat' (first
    | (apply r_mvV; rfl)
    | (apply r_mvP; rfl)
    | (apply r_mvPL; rfl)
    | (apply r_mvS; rfl)
    | (apply r_mvSL; rfl)
    | (apply r_mvA; rfl)
    | (apply r_mvT; rfl)
    | (apply r_mvF; rfl)
    | (apply r_mvD; rfl)
    | (apply r_ldL (v := .agg [.i k, .d (.val (.int .u64 a)), .d (.val (.int .u64 b)), .d (.val (.int .u64 c)), .d (.val (.int .u64 d)), .i mn, .i mx, .d (.sl (encL subs) subs.length)]); rfl; rfl; rfl)
    | (apply r_ldL (v := .agg [.i k2, .d (.val (.int .u64 a2)), .d (.val (.int .u64 b2)), .d (.val (.int .u64 c2)), .d (.val (.int .u64 d2)), .i mn2, .i mx2, .d (.sl (encL subs2) subs2.length)]); rfl; rfl; rfl)
    | (apply r_ldL (v := .agg [.i 4, .d (.val (.int .u64 0)), .d (.val (.int .u64 0)), .d (.val (.int .u64 0)), .d (.val (.int .u64 0)), .i 0, .i 0, .slL 6 0 2 8]); rfl; rfl; rfl)
    | (apply r_ldL (v := .agg [.i 3, .d (.val (.int .u64 0)), .d (.val (.int .u64 0)), .d (.val (.int .u64 0)), .d (.val (.int .u64 0)), .i 0, .i 0, .slL 10 0 2 8]); rfl; rfl; rfl)
    | (apply r_n (v := .slL 6 0 2 8) (r := [.i k, .d (.val (.int .u64 a)), .d (.val (.int .u64 b)), .d (.val (.int .u64 c)), .d (.val (.int .u64 d)), .i mn, .i mx, .d (.sl (encL subs) subs.length), .i k2, .d (.val (.int .u64 a2)), .d (.val (.int .u64 b2)), .d (.val (.int .u64 c2)), .d (.val (.int .u64 d2)), .i mn2, .i mx2, .d (.sl (encL subs2) subs2.length)]); rfl)
    | (apply r_n (v := .slL 10 0 2 8) (r := [.i k, .d (.val (.int .u64 a)), .d (.val (.int .u64 b)), .d (.val (.int .u64 c)), .d (.val (.int .u64 d)), .i mn, .i mx, .d (.sl (encL subs) subs.length), .i k2, .d (.val (.int .u64 a2)), .d (.val (.int .u64 b2)), .d (.val (.int .u64 c2)), .d (.val (.int .u64 d2)), .i mn2, .i mx2, .d (.sl (encL subs2) subs2.length)]); rfl)
    | (apply r_p (v := .agg [.i 4, .d (.val (.int .u64 0)), .d (.val (.int .u64 0)), .d (.val (.int .u64 0)), .d (.val (.int .u64 0)), .i 0, .i 0, .slL 6 0 2 8]); rfl)
    | (apply r_p (v := .agg [.i 3, .d (.val (.int .u64 0)), .d (.val (.int .u64 0)), .d (.val (.int .u64 0)), .d (.val (.int .u64 0)), .i 0, .i 0, .slL 10 0 2 8]); rfl)
    | (apply r_callA (ags := []); rfl; rfl; exact haw)
    | (apply r_call (bs := [nodeA (altT (.node k a b c d mn mx subs) (.node k2 a2 b2 c2 d2 mn2 mx2 subs2)), .d (.val (.string s))]) (us := [6]); rfl; rfl; exact h30; rfl)
    | (apply r_call (bs := [nodeA (altT (.node k a b c d mn mx subs) (.node k2 a2 b2 c2 d2 mn2 mx2 subs2))]) (us := [6]); rfl; rfl; exact h32; rfl)
    | (apply r_call (bs := [nodeA (catT (.node k a b c d mn mx subs) (.node k2 a2 b2 c2 d2 mn2 mx2 subs2))]) (us := [10]); rfl; rfl; exact h32c; rfl)
    | (apply r_ldL; rfl; rfl; rfl)
    | (apply r_neq; rfl; rfl; (first | (apply decide_eq_true; omega) | (apply decide_eq_false; omega) | rfl))
    | (apply r_lss; rfl; rfl; (first | (apply decide_eq_true; omega) | (apply decide_eq_false; omega) | rfl))
    | (apply r_gtr; rfl; rfl; (first | (apply decide_eq_true; omega) | (apply decide_eq_false; omega) | rfl))
    | (apply r_add; rfl; rfl; rfl; omega)
    | (apply r_not; rfl; rfl)
    | (apply r_pickT; rfl)
    | (apply r_pickF; rfl)
    | (apply r_lenD; rfl)
    | (apply r_lenL; rfl)
    | (apply r_len0; rfl)
    | (apply r_lenT; rfl)
    | (apply r_ext; rfl; rfl)
    | (apply r_gT; rfl)
    | (apply r_gF'; rfl; rfl)
    | (apply r_gN'; rfl)
    | ((apply r_gS (o := default); rfl) <;> (intro h; try simp only [decide_eq_true_eq, decide_eq_false_iff_not, Bool.not_eq_true, Bool.not_eq_false] at h))
    | (apply r_alloc; ((conv => lhs; simp only [Nat.reduceAdd]) <;> rfl); rfl)
    | (apply r_box; ((conv => lhs; simp only [Nat.reduceAdd]) <;> rfl); rfl; rfl; rfl)
    | (apply r_avS; rfl)
    | (apply r_stL; rfl; rfl; rfl; rfl; (first | rfl | (simp only [z_nil, z_add] <;> rfl)); rfl; rfl)
    | (apply r_p; rfl)
    | (apply r_nilK)
    | (apply r_nil)
    | (apply k_V; rfl)
    | (apply k_P; rfl)
    | (apply k_PL; rfl)
    | (apply k_S; rfl)
    | (apply k_SL; rfl)
    | (apply k_A; rfl)
    | (apply k_T; rfl)
    | (apply k_F; rfl)
    | (apply k_D; rfl; rotate_left; rfl)
    | (apply k_nil)
    | (apply e_ret (vs := [.d (.val _)]); rfl)
    | (apply e_ret; rfl)
    | (apply e_ret' (vs := [.d (.val _)]); rfl)
    | (apply e_ret'; rfl)
    | (apply w_seq)
    | (apply w_ops; ((conv => lhs; simp only [Nat.reduceAdd]) <;> rfl))
    | (apply w_condT; rfl)
    | (apply w_condF; rfl)
    | ((apply w_condS; rfl) <;> (intro h; try simp only [decide_eq_true_eq, decide_eq_false_iff_not, Bool.not_eq_true, Bool.not_eq_false] at h))
    | (apply e_thenN)
    | (apply w_block)
    | (apply e_thenR)
    | (apply e_thenX)
    | (apply e_blkN)
    | (apply e_blkR)
    | (apply e_blkE)
    | (apply w_exit)
    | (apply w_ret)
    | (apply w_skip)
    | (apply e_blkE'; rfl))
      exact retB rfl
    · refine b8 (by simp) (by simp) (w_init ?_)
      unfold x8
      repeat' (first
    | (apply r_mvV; rfl)
    | (apply r_mvP; rfl)
    | (apply r_mvPL; rfl)
    | (apply r_mvS; rfl)
    | (apply r_mvSL; rfl)
    | (apply r_mvA; rfl)
    | (apply r_mvT; rfl)
    | (apply r_mvF; rfl)
    | (apply r_mvD; rfl)
    | (apply r_ldL (v := .agg [.i k, .d (.val (.int .u64 a)), .d (.val (.int .u64 b)), .d (.val (.int .u64 c)), .d (.val (.int .u64 d)), .i mn, .i mx, .d (.sl (encL subs) subs.length)]); rfl; rfl; rfl)
    | (apply r_ldL (v := .agg [.i k2, .d (.val (.int .u64 a2)), .d (.val (.int .u64 b2)), .d (.val (.int .u64 c2)), .d (.val (.int .u64 d2)), .i mn2, .i mx2, .d (.sl (encL subs2) subs2.length)]); rfl; rfl; rfl)
    | (apply r_ldL (v := .agg [.i 4, .d (.val (.int .u64 0)), .d (.val (.int .u64 0)), .d (.val (.int .u64 0)), .d (.val (.int .u64 0)), .i 0, .i 0, .slL 6 0 2 8]); rfl; rfl; rfl)
    | (apply r_ldL (v := .agg [.i 3, .d (.val (.int .u64 0)), .d (.val (.int .u64 0)), .d (.val (.int .u64 0)), .d (.val (.int .u64 0)), .i 0, .i 0, .slL 10 0 2 8]); rfl; rfl; rfl)
    | (apply r_n (v := .slL 6 0 2 8) (r := [.i k, .d (.val (.int .u64 a)), .d (.val (.int .u64 b)), .d (.val (.int .u64 c)), .d (.val (.int .u64 d)), .i mn, .i mx, .d (.sl (encL subs) subs.length), .i k2, .d (.val (.int .u64 a2)), .d (.val (.int .u64 b2)), .d (.val (.int .u64 c2)), .d (.val (.int .u64 d2)), .i mn2, .i mx2, .d (.sl (encL subs2) subs2.length)]); rfl)
    | (apply r_n (v := .slL 10 0 2 8) (r := [.i k, .d (.val (.int .u64 a)), .d (.val (.int .u64 b)), .d (.val (.int .u64 c)), .d (.val (.int .u64 d)), .i mn, .i mx, .d (.sl (encL subs) subs.length), .i k2, .d (.val (.int .u64 a2)), .d (.val (.int .u64 b2)), .d (.val (.int .u64 c2)), .d (.val (.int .u64 d2)), .i mn2, .i mx2, .d (.sl (encL subs2) subs2.length)]); rfl)
    | (apply r_p (v := .agg [.i 4, .d (.val (.int .u64 0)), .d (.val (.int .u64 0)), .d (.val (.int .u64 0)), .d (.val (.int .u64 0)), .i 0, .i 0, .slL 6 0 2 8]); rfl)
    | (apply r_p (v := .agg [.i 3, .d (.val (.int .u64 0)), .d (.val (.int .u64 0)), .d (.val (.int .u64 0)), .d (.val (.int .u64 0)), .i 0, .i 0, .slL 10 0 2 8]); rfl)
    | (apply r_callA (ags := []); rfl; rfl; exact haw)
    | (apply r_call (bs := [nodeA (altT (.node k a b c d mn mx subs) (.node k2 a2 b2 c2 d2 mn2 mx2 subs2)), .d (.val (.string s))]) (us := [6]); rfl; rfl; exact h30; rfl)
    | (apply r_call (bs := [nodeA (altT (.node k a b c d mn mx subs) (.node k2 a2 b2 c2 d2 mn2 mx2 subs2))]) (us := [6]); rfl; rfl; exact h32; rfl)
    | (apply r_call (bs := [nodeA (catT (.node k a b c d mn mx subs) (.node k2 a2 b2 c2 d2 mn2 mx2 subs2))]) (us := [10]); rfl; rfl; exact h32c; rfl)
    | (apply r_ldL; rfl; rfl; rfl)
    | (apply r_neq; rfl; rfl; (first | (apply decide_eq_true; omega) | (apply decide_eq_false; omega) | rfl))
    | (apply r_lss; rfl; rfl; (first | (apply decide_eq_true; omega) | (apply decide_eq_false; omega) | rfl))
    | (apply r_gtr; rfl; rfl; (first | (apply decide_eq_true; omega) | (apply decide_eq_false; omega) | rfl))
    | (apply r_add; rfl; rfl; rfl; omega)
    | (apply r_not; rfl; rfl)
    | (apply r_pickT; rfl)
    | (apply r_pickF; rfl)
    | (apply r_lenD; rfl)
    | (apply r_lenL; rfl)
    | (apply r_len0; rfl)
    | (apply r_lenT; rfl)
    | (apply r_ext; rfl; rfl)
    | (apply r_gT; rfl)
    | (apply r_gF'; rfl; rfl)
    | (apply r_gN'; rfl)
    | ((apply r_gS (o := default); rfl) <;> (intro h; try simp only [decide_eq_true_eq, decide_eq_false_iff_not, Bool.not_eq_true, Bool.not_eq_false] at h))
    | (apply r_alloc; ((conv => lhs; simp only [Nat.reduceAdd]) <;> rfl); rfl)
    | (apply r_box; ((conv => lhs; simp only [Nat.reduceAdd]) <;> rfl); rfl; rfl; rfl)
    | (apply r_avS; rfl)
    | (apply r_stL; rfl; rfl; rfl; rfl; (first | rfl | (simp only [z_nil, z_add] <;> rfl)); rfl; rfl)
    | (apply r_p; rfl)
    | (apply r_nilK)
    | (apply r_nil)
    | (apply k_V; rfl)
    | (apply k_P; rfl)
    | (apply k_PL; rfl)
    | (apply k_S; rfl)
    | (apply k_SL; rfl)
    | (apply k_A; rfl)
    | (apply k_T; rfl)
    | (apply k_F; rfl)
    | (apply k_D; rfl; rotate_left; rfl)
    | (apply k_nil)
    | (apply e_ret (vs := [.d (.val _)]); rfl)
    | (apply e_ret; rfl)
    | (apply e_ret' (vs := [.d (.val _)]); rfl)
    | (apply e_ret'; rfl)
    | (apply w_seq)
    | (apply w_ops; ((conv => lhs; simp only [Nat.reduceAdd]) <;> rfl))
    | (apply w_condT; rfl)
    | (apply w_condF; rfl)
    | ((apply w_condS; rfl) <;> (intro h; try simp only [decide_eq_true_eq, decide_eq_false_iff_not, Bool.not_eq_true, Bool.not_eq_false] at h))
    | (apply e_thenN)
    | (apply w_block)
    | (apply e_thenR)
    | (apply e_thenX)
    | (apply e_blkN)
    | (apply e_blkR)
    | (apply e_blkE)
    | (apply w_exit)
    | (apply w_ret)
    | (apply w_skip)
    | (apply e_blkE'; rfl))
      exact retB rfl
  obtain ⟨j, rfl⟩ := Int.eq_ofNat_of_zero_le hfr.1
  have hj : j ≤ s.size := by omega
  have hrt : rightT t = true := right_sub hr 0 (by simp)
  have hru : rightT u = true := right_sub hr 1 (by simp)
  have hft : fitsT t 12 = true := by rw [← right_fits]; exact hrt
  have hfu : fitsT u 12 = true := by rw [← right_fits]; exact hru
  have hfa : fitsT (altT t u) 12 = true := by rw [← right_fits]; exact hr
  have hfc : fitsT (catT t u) 12 = true := by rw [← right_fits]; exact hrc
  have hokt : okT t := ok_of_right ht hrt
  have hoku : okT u := ok_of_right hu hru
  have hoka : okT (altT t u) := ok_of_right hina hr
  have hokc : okT (catT t u) := ok_of_right hinc hrc
  have hct : t.cnt ≤ 200 := by
    have : t.cnt ≤ (altT t u).cnt := by simp [altT, T.cnt, cntL]; omega
    omega
  have hcu : u.cnt ≤ 200 := by
    have : u.cnt ≤ (altT t u).cnt := by simp [altT, T.cnt, cntL]; omega
    omega
  have cont : ∀ (v : T), v.cnt ≤ 200 → okT v → fitsT v 12 = true → ∀ i : Nat, i ≤ s.size → Good Try.prog 31 [nodeA v, .d (.val (.string s)), .i i] none (.tup [.d (.sl (encI (allG s v i)) (allG s v i).length), .i 0]) none none := by
    intro v hv hok hf i hi
    have g := all_good s (by omega) v (by omega) (fun _ => hok) i
    have hfr : 0 ≤ ((i : Nat) : Int) ∧ ((i : Nat) : Int) ≤ s.size := by omega
    rwa [show allE s v (i : Nat) = 0 by simp only [allE, hf, hfr, and_self, if_true]] at g
  have gX := cont t hct hokt hft j hj
  have gU := cont u hcu hoku hfu
  have gY := gU j hj
  have gA := cont (altT t u) hc hoka hfa j hj
  have gC := cont (catT t u) hcc hokc hfc j hj
  have mA := fun x => alt_mem hft hfu hfa hokt hoku hoka hj x
  have mC := fun x => cat_mem hft hfu hfc hokt hoku hokc hj x
  have iA := fun (p : List Bool) => idx_of (p := p) hfa hoka hj
  have iC := fun (p : List Bool) => idx_of (p := p) hfc hokc hj
  have nX := fun i => ends_get hft hokt hj i
  have nY := fun i => ends_get hfu hoku hj i
  have nU := fun (a : Nat) (ha : a ≤ s.size) i => ends_get hfu hoku ha i
  have lX := ends_len hft hj
  have lY := ends_len hfu hj
  have lU := fun (a : Nat) (ha : a ≤ s.size) => ends_len hfu ha
  generalize hX : allG s t j = X at gX mA mC nX lX
  generalize hY : allG s u j = Y at gY mA nY lY
  generalize hGA : allG s (altT t u) j = GA at gA mA iA
  generalize hGC : allG s (catT t u) j = GC at gC mC iC
  generalize hGU : allG s u = U at gU mC nU lU
  clear cont hX hY hGA hGC hGU ht hu hina hinc hr hrc hf1 hc hcc hrt hru hft hfu hfa hfc hokt hoku hoka hokc hct hcu hfr
  obtain ⟨k, a, b, c, d, mn, mx, subs⟩ := t
  obtain ⟨k2, a2, b2, c2, d2, mn2, mx2, subs2⟩ := u
  have e0 : nodeA (.node k a b c d mn mx subs) = .agg [.i k, .d (.val (.int .u64 a)), .d (.val (.int .u64 b)), .d (.val (.int .u64 c)), .d (.val (.int .u64 d)), .i mn, .i mx, .d (.sl (encL subs) subs.length)] := rfl
  have e1 : nodeA (.node k2 a2 b2 c2 d2 mn2 mx2 subs2) = .agg [.i k2, .d (.val (.int .u64 a2)), .d (.val (.int .u64 b2)), .d (.val (.int .u64 c2)), .d (.val (.int .u64 d2)), .i mn2, .i mx2, .d (.sl (encL subs2) subs2.length)] := rfl
  rw [e0, e1]
  rw [e0] at gX
  rw [e1] at gY
  refine b8 (by simp) (by simp) (w_init ?_)
  unfold x8
  repeat' (first
    | (apply r_mvV; rfl)
    | (apply r_mvP; rfl)
    | (apply r_mvPL; rfl)
    | (apply r_mvS; rfl)
    | (apply r_mvSL; rfl)
    | (apply r_mvA; rfl)
    | (apply r_mvT; rfl)
    | (apply r_mvF; rfl)
    | (apply r_mvD; rfl)
    | (apply r_ldL (v := .agg [.i k, .d (.val (.int .u64 a)), .d (.val (.int .u64 b)), .d (.val (.int .u64 c)), .d (.val (.int .u64 d)), .i mn, .i mx, .d (.sl (encL subs) subs.length)]); rfl; rfl; rfl)
    | (apply r_ldL (v := .agg [.i k2, .d (.val (.int .u64 a2)), .d (.val (.int .u64 b2)), .d (.val (.int .u64 c2)), .d (.val (.int .u64 d2)), .i mn2, .i mx2, .d (.sl (encL subs2) subs2.length)]); rfl; rfl; rfl)
    | (apply r_ldL (v := .agg [.i 4, .d (.val (.int .u64 0)), .d (.val (.int .u64 0)), .d (.val (.int .u64 0)), .d (.val (.int .u64 0)), .i 0, .i 0, .slL 6 0 2 8]); rfl; rfl; rfl)
    | (apply r_ldL (v := .agg [.i 3, .d (.val (.int .u64 0)), .d (.val (.int .u64 0)), .d (.val (.int .u64 0)), .d (.val (.int .u64 0)), .i 0, .i 0, .slL 10 0 2 8]); rfl; rfl; rfl)
    | (apply r_n (v := .slL 6 0 2 8) (r := [.i k, .d (.val (.int .u64 a)), .d (.val (.int .u64 b)), .d (.val (.int .u64 c)), .d (.val (.int .u64 d)), .i mn, .i mx, .d (.sl (encL subs) subs.length), .i k2, .d (.val (.int .u64 a2)), .d (.val (.int .u64 b2)), .d (.val (.int .u64 c2)), .d (.val (.int .u64 d2)), .i mn2, .i mx2, .d (.sl (encL subs2) subs2.length)]); rfl)
    | (apply r_n (v := .slL 10 0 2 8) (r := [.i k, .d (.val (.int .u64 a)), .d (.val (.int .u64 b)), .d (.val (.int .u64 c)), .d (.val (.int .u64 d)), .i mn, .i mx, .d (.sl (encL subs) subs.length), .i k2, .d (.val (.int .u64 a2)), .d (.val (.int .u64 b2)), .d (.val (.int .u64 c2)), .d (.val (.int .u64 d2)), .i mn2, .i mx2, .d (.sl (encL subs2) subs2.length)]); rfl)
    | (apply r_p (v := .agg [.i 4, .d (.val (.int .u64 0)), .d (.val (.int .u64 0)), .d (.val (.int .u64 0)), .d (.val (.int .u64 0)), .i 0, .i 0, .slL 6 0 2 8]); rfl)
    | (apply r_p (v := .agg [.i 3, .d (.val (.int .u64 0)), .d (.val (.int .u64 0)), .d (.val (.int .u64 0)), .d (.val (.int .u64 0)), .i 0, .i 0, .slL 10 0 2 8]); rfl)
    | (apply r_callA (ags := []); rfl; rfl; exact haw)
    | (apply r_call (bs := [nodeA (altT (.node k a b c d mn mx subs) (.node k2 a2 b2 c2 d2 mn2 mx2 subs2)), .d (.val (.string s))]) (us := [6]); rfl; rfl; exact h30; rfl)
    | (apply r_call (bs := [nodeA (altT (.node k a b c d mn mx subs) (.node k2 a2 b2 c2 d2 mn2 mx2 subs2))]) (us := [6]); rfl; rfl; exact h32; rfl)
    | (apply r_call (bs := [nodeA (catT (.node k a b c d mn mx subs) (.node k2 a2 b2 c2 d2 mn2 mx2 subs2))]) (us := [10]); rfl; rfl; exact h32c; rfl)
    | (apply r_callA (ags := [.agg [.i k, .d (.val (.int .u64 a)), .d (.val (.int .u64 b)), .d (.val (.int .u64 c)), .d (.val (.int .u64 d)), .i mn, .i mx, .d (.sl (encL subs) subs.length)], .d (.val (.string s)), .i j]); rfl; rfl; exact gX)
    | (apply r_callA (ags := [.agg [.i k2, .d (.val (.int .u64 a2)), .d (.val (.int .u64 b2)), .d (.val (.int .u64 c2)), .d (.val (.int .u64 d2)), .i mn2, .i mx2, .d (.sl (encL subs2) subs2.length)], .d (.val (.string s)), .i j]); rfl; rfl; exact gY)
    | (apply r_mksB (m := s.size + 1); rfl; rfl; ((conv => lhs; simp only [Nat.reduceAdd]) <;> rfl); omega; omega)
    | (apply r_ldL; rfl; rfl; rfl)
    | (apply r_neq; rfl; rfl; (first | (apply decide_eq_true; omega) | (apply decide_eq_false; omega) | rfl))
    | (apply r_lss; rfl; rfl; (first | (apply decide_eq_true; omega) | (apply decide_eq_false; omega) | rfl))
    | (apply r_gtr; rfl; rfl; (first | (apply decide_eq_true; omega) | (apply decide_eq_false; omega) | rfl))
    | (apply r_add; rfl; rfl; rfl; omega)
    | (apply r_not; rfl; rfl)
    | (apply r_pickT; rfl)
    | (apply r_pickF; rfl)
    | (apply r_lenD; rfl)
    | (apply r_lenL; rfl)
    | (apply r_len0; rfl)
    | (apply r_lenT; rfl)
    | (apply r_ext; rfl; rfl)
    | (apply r_gT; rfl)
    | (apply r_gF'; rfl; rfl)
    | (apply r_gN'; rfl)
    | ((apply r_gS (o := default); rfl) <;> (intro h; try simp only [decide_eq_true_eq, decide_eq_false_iff_not, Bool.not_eq_true, Bool.not_eq_false] at h))
    | (apply r_alloc; ((conv => lhs; simp only [Nat.reduceAdd]) <;> rfl); rfl)
    | (apply r_box; ((conv => lhs; simp only [Nat.reduceAdd]) <;> rfl); rfl; rfl; rfl)
    | (apply r_avS; rfl)
    | (apply r_stL; rfl; rfl; rfl; rfl; (first | rfl | (simp only [z_nil, z_add] <;> rfl)); rfl; rfl)
    | (apply r_p; rfl)
    | (apply r_nilK)
    | (apply r_nil)
    | (apply k_V; rfl)
    | (apply k_P; rfl)
    | (apply k_PL; rfl)
    | (apply k_S; rfl)
    | (apply k_SL; rfl)
    | (apply k_A; rfl)
    | (apply k_T; rfl)
    | (apply k_F; rfl)
    | (apply k_D; rfl; rotate_left; rfl)
    | (apply k_nil)
    | (apply e_ret (vs := [.d (.val _)]); rfl)
    | (apply e_ret; rfl)
    | (apply e_ret' (vs := [.d (.val _)]); rfl)
    | (apply e_ret'; rfl)
    | (apply w_seq)
    | (apply w_ops; ((conv => lhs; simp only [Nat.reduceAdd]) <;> rfl))
    | (apply w_condT; rfl)
    | (apply w_condF; rfl)
    | ((apply w_condS; rfl) <;> (intro h; try simp only [decide_eq_true_eq, decide_eq_false_iff_not, Bool.not_eq_true, Bool.not_eq_false] at h))
    | (apply e_thenN)
    | (apply w_block)
    | (apply e_thenR)
    | (apply e_thenX)
    | (apply e_blkN)
    | (apply e_blkR)
    | (apply e_blkE)
    | (apply w_exit)
    | (apply w_ret)
    | (apply w_skip)
    | (apply e_blkE'; rfl))
  apply w_loopF (ι := Nat × List Bool) (S := fun q => ⟨(((((((((Fr.nil.put 2 (.d (.val (.string s)))).put 3 (.i j)).put 5 (.ptrL 2 0)).put 9 (.ptrL 12 0)).put 10 (.ptrL 13 0)).put 11 (.d (.sl (encI X) X.length))).put 15 (.slL 65 0 (s.size + 1) 1)).put 16 (.slL 69 0 (s.size + 1) 1)).put 95 (.d (.sl (encI Y) Y.length))).put 96 (.i Y.length) |>.put 97 (.i q.1), rowsOf [(2, [.i k2, .d (.val (.int .u64 a2)), .d (.val (.int .u64 b2)), .d (.val (.int .u64 c2)), .d (.val (.int .u64 d2)), .i mn2, .i mx2, .d (.sl (encL subs2) subs2.length)]), (12, (encN (altT (.node k a b c d mn mx subs) (.node k2 a2 b2 c2 d2 mn2 mx2 subs2))).map AV.d), (13, (encN (catT (.node k a b c d mn mx subs) (.node k2 a2 b2 c2 d2 mn2 mx2 subs2))).map AV.d), (65, (encB q.2).map AV.d), (69, (encB (List.replicate (s.size + 1) false)).map AV.d)], Frz.buts 200 [65, 69], 200⟩) (m := fun q => Y.length - q.1) (I := fun q => q.1 ≤ Y.length ∧ q.2.length = s.size + 1 ∧ ∀ k : Nat, At q.2 k ↔ False ∨ ∃ i', i' < q.1 ∧ Y[i']? = some ((k : Nat) : Int)) (i0 := (0, List.replicate (s.size + 1) false))
  · refine ⟨Nat.zero_le _, by simp, fun k => ?_⟩
    simp [at_rep]
  · refine fzRow (b := 12) (r' := (encN (altT (.node k a b c d mn mx subs) (.node k2 a2 b2 c2 d2 mn2 mx2 subs2))).map AV.d) (u := [6]) rfl rfl (fzRow (b := 13) (r' := (encN (catT (.node k a b c d mn mx subs) (.node k2 a2 b2 c2 d2 mn2 mx2 subs2))).map AV.d) (u := [10]) rfl rfl ?_)
    refine (wkL (by omega) (by intro q hq; simp only [List.mem_cons, List.not_mem_nil, or_false] at hq; rcases hq with rfl | rfl | rfl | rfl | rfl <;> first | exact ⟨by omega, rfl, encB_isD⟩ | exact ⟨by omega, rfl, rfl⟩) (by intro q hq; simp only [List.mem_cons, List.not_mem_nil, or_false] at hq; rcases hq with rfl | rfl <;> rfl) ?_).f
    repeat' (first
    | exact FWk.nil
    | (apply FWk.i; rfl; (first | rfl | omega | (simp; done)))
    | (apply FWk.sl; rfl; rfl; rfl; rfl; omega; rfl)
    | (apply FWk.ptr; rfl; rfl; rfl; omega; rfl)
    | (apply FWk.d; rfl; rfl)
    | (apply FWk.a; rfl; rfl; rfl)
    | (apply FWk.slN; rfl; omega; rfl))
  rintro ⟨i, p⟩ K ⟨hi, hpl, hp⟩ hK
  dsimp only at hi hpl hp ⊢
  rcases Nat.lt_or_ge i Y.length with hlt | hge
  · obtain ⟨kk, hkk, hyi⟩ := nY i hlt
    repeat' (first
    | (apply r_mvV; rfl)
    | (apply r_mvP; rfl)
    | (apply r_mvPL; rfl)
    | (apply r_mvS; rfl)
    | (apply r_mvSL; rfl)
    | (apply r_mvA; rfl)
    | (apply r_mvT; rfl)
    | (apply r_mvF; rfl)
    | (apply r_mvD; rfl)
    | (apply r_ixI (j := i); rfl; rfl; rfl; rfl; exact hlt)
    | (apply r_ldI; rfl; exact hyi)
    | (apply r_ixL; rfl; rfl; omega)
    | (apply r_stB; rfl; rfl; rfl; rfl; omega)
    | (apply r_ldL; rfl; rfl; rfl)
    | (apply r_neq; rfl; rfl; (first | (apply decide_eq_true; omega) | (apply decide_eq_false; omega) | rfl))
    | (apply r_lss; rfl; rfl; (first | (apply decide_eq_true; omega) | (apply decide_eq_false; omega) | rfl))
    | (apply r_gtr; rfl; rfl; (first | (apply decide_eq_true; omega) | (apply decide_eq_false; omega) | rfl))
    | (apply r_add; rfl; rfl; rfl; omega)
    | (apply r_not; rfl; rfl)
    | (apply r_pickT; rfl)
    | (apply r_pickF; rfl)
    | (apply r_lenD; rfl)
    | (apply r_lenL; rfl)
    | (apply r_len0; rfl)
    | (apply r_lenT; rfl)
    | (apply r_ext; rfl; rfl)
    | (apply r_gT; rfl)
    | (apply r_gF'; rfl; rfl)
    | (apply r_gN'; rfl)
    | ((apply r_gS (o := default); rfl) <;> (intro h; try simp only [decide_eq_true_eq, decide_eq_false_iff_not, Bool.not_eq_true, Bool.not_eq_false] at h))
    | (apply r_alloc; ((conv => lhs; simp only [Nat.reduceAdd]) <;> rfl); rfl)
    | (apply r_box; ((conv => lhs; simp only [Nat.reduceAdd]) <;> rfl); rfl; rfl; rfl)
    | (apply r_avS; rfl)
    | (apply r_stL; rfl; rfl; rfl; rfl; (first | rfl | (simp only [z_nil, z_add] <;> rfl)); rfl; rfl)
    | (apply r_p; rfl)
    | (apply r_nilK)
    | (apply r_nil)
    | (apply k_V; rfl)
    | (apply k_P; rfl)
    | (apply k_PL; rfl)
    | (apply k_S; rfl)
    | (apply k_SL; rfl)
    | (apply k_A; rfl)
    | (apply k_T; rfl)
    | (apply k_F; rfl)
    | (apply k_D; rfl; rotate_left; rfl)
    | (apply k_nil)
    | (apply e_ret (vs := [.d (.val _)]); rfl)
    | (apply e_ret; rfl)
    | (apply e_ret' (vs := [.d (.val _)]); rfl)
    | (apply e_ret'; rfl)
    | (apply w_seq)
    | (apply w_ops; ((conv => lhs; simp only [Nat.reduceAdd]) <;> rfl))
    | (apply w_condT; rfl)
    | (apply w_condF; rfl)
    | ((apply w_condS; rfl) <;> (intro h; try simp only [decide_eq_true_eq, decide_eq_false_iff_not, Bool.not_eq_true, Bool.not_eq_false] at h))
    | (apply e_thenN)
    | (apply w_block)
    | (apply e_thenR)
    | (apply e_thenX)
    | (apply e_blkN)
    | (apply e_blkR)
    | (apply e_blkE)
    | (apply w_exit)
    | (apply w_ret)
    | (apply w_skip)
    | (apply e_blkE'; rfl))
    apply e_thenK
    apply hK (i + 1, p.set kk true)
    · exact ⟨by dsimp only; omega, by simp [hpl], mark_step (by omega) hyi hp⟩
    · dsimp only; omega
    · dsimp only
      refine (wkL (by omega) (by intro q hq; simp only [List.mem_cons, List.not_mem_nil, or_false] at hq; rcases hq with rfl | rfl | rfl | rfl | rfl <;> first | exact ⟨by omega, rfl, encB_isD⟩ | exact ⟨by omega, rfl, rfl⟩) (by intro q hq; simp only [List.mem_cons, List.not_mem_nil, or_false] at hq; rcases hq with rfl | rfl <;> rfl) ?_).f
      repeat' (first
    | exact FWk.nil
    | (apply FWk.i; rfl; (first | rfl | omega | (simp; done)))
    | (apply FWk.sl; rfl; rfl; rfl; rfl; omega; rfl)
    | (apply FWk.ptr; rfl; rfl; rfl; omega; rfl)
    | (apply FWk.d; rfl; rfl)
    | (apply FWk.a; rfl; rfl; rfl)
    | (apply FWk.slN; rfl; omega; rfl))
  have ei : i = Y.length := by omega
  subst ei
  have hp : ∀ k : Nat, At p k ↔ ((k : Nat) : Int) ∈ Y := fun k => by rw [hp k, false_or]; exact mem_lt
  repeat' (first
    | (apply r_mvV; rfl)
    | (apply r_mvP; rfl)
    | (apply r_mvPL; rfl)
    | (apply r_mvS; rfl)
    | (apply r_mvSL; rfl)
    | (apply r_mvA; rfl)
    | (apply r_mvT; rfl)
    | (apply r_mvF; rfl)
    | (apply r_mvD; rfl)
    | (apply r_ldL; rfl; rfl; rfl)
    | (apply r_neq; rfl; rfl; (first | (apply decide_eq_true; omega) | (apply decide_eq_false; omega) | rfl))
    | (apply r_lss; rfl; rfl; (first | (apply decide_eq_true; omega) | (apply decide_eq_false; omega) | rfl))
    | (apply r_gtr; rfl; rfl; (first | (apply decide_eq_true; omega) | (apply decide_eq_false; omega) | rfl))
    | (apply r_add; rfl; rfl; rfl; omega)
    | (apply r_not; rfl; rfl)
    | (apply r_pickT; rfl)
    | (apply r_pickF; rfl)
    | (apply r_lenD; rfl)
    | (apply r_lenL; rfl)
    | (apply r_len0; rfl)
    | (apply r_lenT; rfl)
    | (apply r_ext; rfl; rfl)
    | (apply r_gT; rfl)
    | (apply r_gF'; rfl; rfl)
    | (apply r_gN'; rfl)
    | ((apply r_gS (o := default); rfl) <;> (intro h; try simp only [decide_eq_true_eq, decide_eq_false_iff_not, Bool.not_eq_true, Bool.not_eq_false] at h))
    | (apply r_alloc; ((conv => lhs; simp only [Nat.reduceAdd]) <;> rfl); rfl)
    | (apply r_box; ((conv => lhs; simp only [Nat.reduceAdd]) <;> rfl); rfl; rfl; rfl)
    | (apply r_avS; rfl)
    | (apply r_stL; rfl; rfl; rfl; rfl; (first | rfl | (simp only [z_nil, z_add] <;> rfl)); rfl; rfl)
    | (apply r_p; rfl)
    | (apply r_nilK)
    | (apply r_nil)
    | (apply k_V; rfl)
    | (apply k_P; rfl)
    | (apply k_PL; rfl)
    | (apply k_S; rfl)
    | (apply k_SL; rfl)
    | (apply k_A; rfl)
    | (apply k_T; rfl)
    | (apply k_F; rfl)
    | (apply k_D; rfl; rotate_left; rfl)
    | (apply k_nil)
    | (apply e_ret (vs := [.d (.val _)]); rfl)
    | (apply e_ret; rfl)
    | (apply e_ret' (vs := [.d (.val _)]); rfl)
    | (apply e_ret'; rfl)
    | (apply w_seq)
    | (apply w_ops; ((conv => lhs; simp only [Nat.reduceAdd]) <;> rfl))
    | (apply w_condT; rfl)
    | (apply w_condF; rfl)
    | ((apply w_condS; rfl) <;> (intro h; try simp only [decide_eq_true_eq, decide_eq_false_iff_not, Bool.not_eq_true, Bool.not_eq_false] at h))
    | (apply e_thenN)
    | (apply w_block)
    | (apply e_thenR)
    | (apply e_thenX)
    | (apply e_blkN)
    | (apply e_blkR)
    | (apply e_blkE)
    | (apply w_exit)
    | (apply w_ret)
    | (apply w_skip)
    | (apply e_blkE'; rfl))
  clear hK hge hi
  apply w_loopF (ι := Nat × List Bool × List Bool) (S := fun q => ⟨(((((((Fr.nil.put 2 (.d (.val (.string s)))).put 3 (.i j)).put 5 (.ptrL 2 0)).put 9 (.ptrL 12 0)).put 10 (.ptrL 13 0)).put 15 (.slL 65 0 (s.size + 1) 1)).put 16 (.slL 69 0 (s.size + 1) 1)).put 105 (.d (.sl (encI X) X.length)) |>.put 106 (.i X.length) |>.put 107 (.i q.1), rowsOf [(2, [.i k2, .d (.val (.int .u64 a2)), .d (.val (.int .u64 b2)), .d (.val (.int .u64 c2)), .d (.val (.int .u64 d2)), .i mn2, .i mx2, .d (.sl (encL subs2) subs2.length)]), (12, (encN (altT (.node k a b c d mn mx subs) (.node k2 a2 b2 c2 d2 mn2 mx2 subs2))).map AV.d), (13, (encN (catT (.node k a b c d mn mx subs) (.node k2 a2 b2 c2 d2 mn2 mx2 subs2))).map AV.d), (65, (encB q.2.1).map AV.d), (69, (encB q.2.2).map AV.d)], Frz.buts 400 [65, 69], 400⟩) (m := fun q => X.length - q.1) (I := fun q => q.1 ≤ X.length ∧ q.2.1.length = s.size + 1 ∧ q.2.2.length = s.size + 1 ∧ (∀ k : Nat, At q.2.1 k ↔ ((k : Nat) : Int) ∈ Y ∨ ∃ i', i' < q.1 ∧ X[i']? = some ((k : Nat) : Int)) ∧ (∀ k : Nat, At q.2.2 k ↔ ∃ i' a : Nat, i' < q.1 ∧ X[i']? = some ((a : Nat) : Int) ∧ ((k : Nat) : Int) ∈ U a)) (i0 := (0, p, List.replicate (s.size + 1) false))
  · refine ⟨Nat.zero_le _, hpl, by simp, fun k => ?_, fun k => ?_⟩
    · rw [hp k]; simp
    · simp [at_rep]
  · dsimp only
    refine (wkL (by omega) (by intro q hq; simp only [List.mem_cons, List.not_mem_nil, or_false] at hq; rcases hq with rfl | rfl | rfl | rfl | rfl <;> first | exact ⟨by omega, rfl, encB_isD⟩ | exact ⟨by omega, rfl, rfl⟩) (by intro q hq; simp only [List.mem_cons, List.not_mem_nil, or_false] at hq; rcases hq with rfl | rfl <;> rfl) ?_).f
    repeat' (first
    | exact FWk.nil
    | (apply FWk.i; rfl; (first | rfl | omega | (simp; done)))
    | (apply FWk.sl; rfl; rfl; rfl; rfl; omega; rfl)
    | (apply FWk.ptr; rfl; rfl; rfl; omega; rfl)
    | (apply FWk.d; rfl; rfl)
    | (apply FWk.a; rfl; rfl; rfl)
    | (apply FWk.slN; rfl; omega; rfl))
  rintro ⟨i, p, b'⟩ K ⟨hi, hpl, hbl, hp, hb⟩ hK
  dsimp only at hi hpl hbl hp hb ⊢
  rcases Nat.lt_or_ge i X.length with hlt | hge
  · obtain ⟨kk, hkk, hxi⟩ := nX i hlt
    have gz := gU kk hkk
    have nz := nU kk hkk
    have lz := lU kk hkk
    rw [e1] at gz
    repeat' (first
    | (apply r_mvV; rfl)
    | (apply r_mvP; rfl)
    | (apply r_mvPL; rfl)
    | (apply r_mvS; rfl)
    | (apply r_mvSL; rfl)
    | (apply r_mvA; rfl)
    | (apply r_mvT; rfl)
    | (apply r_mvF; rfl)
    | (apply r_mvD; rfl)
    | (apply r_ixI (j := i); rfl; rfl; rfl; rfl; exact hlt)
    | (apply r_ldI; rfl; exact hxi)
    | (apply r_ixL; rfl; rfl; omega)
    | (apply r_stB; rfl; rfl; rfl; rfl; omega)
    | (apply r_ldL (v := .agg [.i k2, .d (.val (.int .u64 a2)), .d (.val (.int .u64 b2)), .d (.val (.int .u64 c2)), .d (.val (.int .u64 d2)), .i mn2, .i mx2, .d (.sl (encL subs2) subs2.length)]); rfl; rfl; rfl)
    | (apply r_callA (ags := [.agg [.i k2, .d (.val (.int .u64 a2)), .d (.val (.int .u64 b2)), .d (.val (.int .u64 c2)), .d (.val (.int .u64 d2)), .i mn2, .i mx2, .d (.sl (encL subs2) subs2.length)], .d (.val (.string s)), .i kk]); rfl; rfl; exact gz)
    | (apply r_ldL; rfl; rfl; rfl)
    | (apply r_neq; rfl; rfl; (first | (apply decide_eq_true; omega) | (apply decide_eq_false; omega) | rfl))
    | (apply r_lss; rfl; rfl; (first | (apply decide_eq_true; omega) | (apply decide_eq_false; omega) | rfl))
    | (apply r_gtr; rfl; rfl; (first | (apply decide_eq_true; omega) | (apply decide_eq_false; omega) | rfl))
    | (apply r_add; rfl; rfl; rfl; omega)
    | (apply r_not; rfl; rfl)
    | (apply r_pickT; rfl)
    | (apply r_pickF; rfl)
    | (apply r_lenD; rfl)
    | (apply r_lenL; rfl)
    | (apply r_len0; rfl)
    | (apply r_lenT; rfl)
    | (apply r_ext; rfl; rfl)
    | (apply r_gT; rfl)
    | (apply r_gF'; rfl; rfl)
    | (apply r_gN'; rfl)
    | ((apply r_gS (o := default); rfl) <;> (intro h; try simp only [decide_eq_true_eq, decide_eq_false_iff_not, Bool.not_eq_true, Bool.not_eq_false] at h))
    | (apply r_alloc; ((conv => lhs; simp only [Nat.reduceAdd]) <;> rfl); rfl)
    | (apply r_box; ((conv => lhs; simp only [Nat.reduceAdd]) <;> rfl); rfl; rfl; rfl)
    | (apply r_avS; rfl)
    | (apply r_stL; rfl; rfl; rfl; rfl; (first | rfl | (simp only [z_nil, z_add] <;> rfl)); rfl; rfl)
    | (apply r_p; rfl)
    | (apply r_nilK)
    | (apply r_nil)
    | (apply k_V; rfl)
    | (apply k_P; rfl)
    | (apply k_PL; rfl)
    | (apply k_S; rfl)
    | (apply k_SL; rfl)
    | (apply k_A; rfl)
    | (apply k_T; rfl)
    | (apply k_F; rfl)
    | (apply k_D; rfl; rotate_left; rfl)
    | (apply k_nil)
    | (apply e_ret (vs := [.d (.val _)]); rfl)
    | (apply e_ret; rfl)
    | (apply e_ret' (vs := [.d (.val _)]); rfl)
    | (apply e_ret'; rfl)
    | (apply w_seq)
    | (apply w_ops; ((conv => lhs; simp only [Nat.reduceAdd]) <;> rfl))
    | (apply w_condT; rfl)
    | (apply w_condF; rfl)
    | ((apply w_condS; rfl) <;> (intro h; try simp only [decide_eq_true_eq, decide_eq_false_iff_not, Bool.not_eq_true, Bool.not_eq_false] at h))
    | (apply e_thenN)
    | (apply w_block)
    | (apply e_thenR)
    | (apply e_thenX)
    | (apply e_blkN)
    | (apply e_blkR)
    | (apply e_blkE)
    | (apply w_exit)
    | (apply w_ret)
    | (apply w_skip)
    | (apply e_blkE'; rfl))
    generalize hZ : U kk = ZZ at nz lz
    apply w_loopF (ι := Nat × List Bool) (S := fun q => ⟨(((((((Fr.nil.put 2 (.d (.val (.string s)))).put 3 (.i j)).put 5 (.ptrL 2 0)).put 9 (.ptrL 12 0)).put 10 (.ptrL 13 0)).put 15 (.slL 65 0 (s.size + 1) 1)).put 16 (.slL 69 0 (s.size + 1) 1)).put 105 (.d (.sl (encI X) X.length)) |>.put 106 (.i X.length) |>.put 107 (.i i) |>.put 121 (.d (.sl (encI ZZ) ZZ.length)) |>.put 122 (.i ZZ.length) |>.put 123 (.i q.1), rowsOf [(2, [.i k2, .d (.val (.int .u64 a2)), .d (.val (.int .u64 b2)), .d (.val (.int .u64 c2)), .d (.val (.int .u64 d2)), .i mn2, .i mx2, .d (.sl (encL subs2) subs2.length)]), (12, (encN (altT (.node k a b c d mn mx subs) (.node k2 a2 b2 c2 d2 mn2 mx2 subs2))).map AV.d), (13, (encN (catT (.node k a b c d mn mx subs) (.node k2 a2 b2 c2 d2 mn2 mx2 subs2))).map AV.d), (65, (encB (p.set kk true)).map AV.d), (69, (encB q.2).map AV.d)], Frz.buts 600 [65, 69], 600⟩) (m := fun q => ZZ.length - q.1) (I := fun q => q.1 ≤ ZZ.length ∧ q.2.length = s.size + 1 ∧ ∀ k : Nat, At q.2 k ↔ At b' k ∨ ∃ i', i' < q.1 ∧ ZZ[i']? = some ((k : Nat) : Int)) (i0 := (0, b'))
    · exact ⟨Nat.zero_le _, hbl, fun k => by simp⟩
    · dsimp only
      refine (wkL (by omega) (by intro q hq; simp only [List.mem_cons, List.not_mem_nil, or_false] at hq; rcases hq with rfl | rfl | rfl | rfl | rfl <;> first | exact ⟨by omega, rfl, encB_isD⟩ | exact ⟨by omega, rfl, rfl⟩) (by intro q hq; simp only [List.mem_cons, List.not_mem_nil, or_false] at hq; rcases hq with rfl | rfl <;> rfl) ?_).f
      repeat' (first
    | exact FWk.nil
    | (apply FWk.i; rfl; (first | rfl | omega | (simp; done)))
    | (apply FWk.sl; rfl; rfl; rfl; rfl; omega; rfl)
    | (apply FWk.ptr; rfl; rfl; rfl; omega; rfl)
    | (apply FWk.d; rfl; rfl)
    | (apply FWk.a; rfl; rfl; rfl)
    | (apply FWk.slN; rfl; omega; rfl))
    rintro ⟨i2, q⟩ K2 ⟨hi2, hql, hq⟩ hK2
    dsimp only at hi2 hql hq ⊢
    rcases Nat.lt_or_ge i2 ZZ.length with hlt2 | hge2
    · obtain ⟨k3, hk3, hzi⟩ := nz i2 hlt2
      repeat' (first
    | (apply r_mvV; rfl)
    | (apply r_mvP; rfl)
    | (apply r_mvPL; rfl)
    | (apply r_mvS; rfl)
    | (apply r_mvSL; rfl)
    | (apply r_mvA; rfl)
    | (apply r_mvT; rfl)
    | (apply r_mvF; rfl)
    | (apply r_mvD; rfl)
    | (apply r_ixI (j := i2); rfl; rfl; rfl; rfl; exact hlt2)
    | (apply r_ldI; rfl; exact hzi)
    | (apply r_ixL; rfl; rfl; omega)
    | (apply r_stB; rfl; rfl; rfl; rfl; omega)
    | (apply r_ldL; rfl; rfl; rfl)
    | (apply r_neq; rfl; rfl; (first | (apply decide_eq_true; omega) | (apply decide_eq_false; omega) | rfl))
    | (apply r_lss; rfl; rfl; (first | (apply decide_eq_true; omega) | (apply decide_eq_false; omega) | rfl))
    | (apply r_gtr; rfl; rfl; (first | (apply decide_eq_true; omega) | (apply decide_eq_false; omega) | rfl))
    | (apply r_add; rfl; rfl; rfl; omega)
    | (apply r_not; rfl; rfl)
    | (apply r_pickT; rfl)
    | (apply r_pickF; rfl)
    | (apply r_lenD; rfl)
    | (apply r_lenL; rfl)
    | (apply r_len0; rfl)
    | (apply r_lenT; rfl)
    | (apply r_ext; rfl; rfl)
    | (apply r_gT; rfl)
    | (apply r_gF'; rfl; rfl)
    | (apply r_gN'; rfl)
    | ((apply r_gS (o := default); rfl) <;> (intro h; try simp only [decide_eq_true_eq, decide_eq_false_iff_not, Bool.not_eq_true, Bool.not_eq_false] at h))
    | (apply r_alloc; ((conv => lhs; simp only [Nat.reduceAdd]) <;> rfl); rfl)
    | (apply r_box; ((conv => lhs; simp only [Nat.reduceAdd]) <;> rfl); rfl; rfl; rfl)
    | (apply r_avS; rfl)
    | (apply r_stL; rfl; rfl; rfl; rfl; (first | rfl | (simp only [z_nil, z_add] <;> rfl)); rfl; rfl)
    | (apply r_p; rfl)
    | (apply r_nilK)
    | (apply r_nil)
    | (apply k_V; rfl)
    | (apply k_P; rfl)
    | (apply k_PL; rfl)
    | (apply k_S; rfl)
    | (apply k_SL; rfl)
    | (apply k_A; rfl)
    | (apply k_T; rfl)
    | (apply k_F; rfl)
    | (apply k_D; rfl; rotate_left; rfl)
    | (apply k_nil)
    | (apply e_ret (vs := [.d (.val _)]); rfl)
    | (apply e_ret; rfl)
    | (apply e_ret' (vs := [.d (.val _)]); rfl)
    | (apply e_ret'; rfl)
    | (apply w_seq)
    | (apply w_ops; ((conv => lhs; simp only [Nat.reduceAdd]) <;> rfl))
    | (apply w_condT; rfl)
    | (apply w_condF; rfl)
    | ((apply w_condS; rfl) <;> (intro h; try simp only [decide_eq_true_eq, decide_eq_false_iff_not, Bool.not_eq_true, Bool.not_eq_false] at h))
    | (apply e_thenN)
    | (apply w_block)
    | (apply e_thenR)
    | (apply e_thenX)
    | (apply e_blkN)
    | (apply e_blkR)
    | (apply e_blkE)
    | (apply w_exit)
    | (apply w_ret)
    | (apply w_skip)
    | (apply e_blkE'; rfl))
      apply e_thenK
      apply hK2 (i2 + 1, q.set k3 true)
      · exact ⟨by dsimp only; omega, by simp [hql], mark_step (by omega) hzi hq⟩
      · dsimp only; omega
      · dsimp only
        refine (wkL (by omega) (by intro q hq; simp only [List.mem_cons, List.not_mem_nil, or_false] at hq; rcases hq with rfl | rfl | rfl | rfl | rfl <;> first | exact ⟨by omega, rfl, encB_isD⟩ | exact ⟨by omega, rfl, rfl⟩) (by intro q hq; simp only [List.mem_cons, List.not_mem_nil, or_false] at hq; rcases hq with rfl | rfl <;> rfl) ?_).f
        repeat' (first
    | exact FWk.nil
    | (apply FWk.i; rfl; (first | rfl | omega | (simp; done)))
    | (apply FWk.sl; rfl; rfl; rfl; rfl; omega; rfl)
    | (apply FWk.ptr; rfl; rfl; rfl; omega; rfl)
    | (apply FWk.d; rfl; rfl)
    | (apply FWk.a; rfl; rfl; rfl)
    | (apply FWk.slN; rfl; omega; rfl))
    · have ei : i2 = ZZ.length := by omega
      subst ei
      have hq : ∀ k : Nat, At q k ↔ At b' k ∨ ((k : Nat) : Int) ∈ U kk := fun k => by rw [hq k, mem_lt, hZ]
      repeat' (first
    | (apply r_mvV; rfl)
    | (apply r_mvP; rfl)
    | (apply r_mvPL; rfl)
    | (apply r_mvS; rfl)
    | (apply r_mvSL; rfl)
    | (apply r_mvA; rfl)
    | (apply r_mvT; rfl)
    | (apply r_mvF; rfl)
    | (apply r_mvD; rfl)
    | (apply r_ldL; rfl; rfl; rfl)
    | (apply r_neq; rfl; rfl; (first | (apply decide_eq_true; omega) | (apply decide_eq_false; omega) | rfl))
    | (apply r_lss; rfl; rfl; (first | (apply decide_eq_true; omega) | (apply decide_eq_false; omega) | rfl))
    | (apply r_gtr; rfl; rfl; (first | (apply decide_eq_true; omega) | (apply decide_eq_false; omega) | rfl))
    | (apply r_add; rfl; rfl; rfl; omega)
    | (apply r_not; rfl; rfl)
    | (apply r_pickT; rfl)
    | (apply r_pickF; rfl)
    | (apply r_lenD; rfl)
    | (apply r_lenL; rfl)
    | (apply r_len0; rfl)
    | (apply r_lenT; rfl)
    | (apply r_ext; rfl; rfl)
    | (apply r_gT; rfl)
    | (apply r_gF'; rfl; rfl)
    | (apply r_gN'; rfl)
    | ((apply r_gS (o := default); rfl) <;> (intro h; try simp only [decide_eq_true_eq, decide_eq_false_iff_not, Bool.not_eq_true, Bool.not_eq_false] at h))
    | (apply r_alloc; ((conv => lhs; simp only [Nat.reduceAdd]) <;> rfl); rfl)
    | (apply r_box; ((conv => lhs; simp only [Nat.reduceAdd]) <;> rfl); rfl; rfl; rfl)
    | (apply r_avS; rfl)
    | (apply r_stL; rfl; rfl; rfl; rfl; (first | rfl | (simp only [z_nil, z_add] <;> rfl)); rfl; rfl)
    | (apply r_p; rfl)
    | (apply r_nilK)
    | (apply r_nil)
    | (apply k_V; rfl)
    | (apply k_P; rfl)
    | (apply k_PL; rfl)
    | (apply k_S; rfl)
    | (apply k_SL; rfl)
    | (apply k_A; rfl)
    | (apply k_T; rfl)
    | (apply k_F; rfl)
    | (apply k_D; rfl; rotate_left; rfl)
    | (apply k_nil)
    | (apply e_ret (vs := [.d (.val _)]); rfl)
    | (apply e_ret; rfl)
    | (apply e_ret' (vs := [.d (.val _)]); rfl)
    | (apply e_ret'; rfl)
    | (apply w_seq)
    | (apply w_ops; ((conv => lhs; simp only [Nat.reduceAdd]) <;> rfl))
    | (apply w_condT; rfl)
    | (apply w_condF; rfl)
    | ((apply w_condS; rfl) <;> (intro h; try simp only [decide_eq_true_eq, decide_eq_false_iff_not, Bool.not_eq_true, Bool.not_eq_false] at h))
    | (apply e_thenN)
    | (apply w_block)
    | (apply e_thenR)
    | (apply e_thenX)
    | (apply e_blkN)
    | (apply e_blkR)
    | (apply e_blkE)
    | (apply w_exit)
    | (apply w_ret)
    | (apply w_skip)
    | (apply e_blkE'; rfl))
      apply e_thenK
      apply hK (i + 1, p.set kk true, q)
      · refine ⟨by dsimp only; omega, by simp [hpl], hql, mark_step (by omega) hxi hp, fun k => ?_⟩
        dsimp only
        rw [hq k, hb k]
        constructor
        · rintro (⟨i', a, h1, h2, h3⟩ | h)
          · exact ⟨i', a, by omega, h2, h3⟩
          · exact ⟨i, kk, by omega, hxi, h⟩
        · rintro ⟨i', a, h1, h2, h3⟩
          by_cases e : i' = i
          · subst e
            rw [hxi] at h2
            have : kk = a := by simp at h2; omega
            subst this
            exact .inr h3
          · exact .inl ⟨i', a, by omega, h2, h3⟩
      · dsimp only; omega
      · dsimp only
        refine (wkL (by omega) (by intro q hq; simp only [List.mem_cons, List.not_mem_nil, or_false] at hq; rcases hq with rfl | rfl | rfl | rfl | rfl <;> first | exact ⟨by omega, rfl, encB_isD⟩ | exact ⟨by omega, rfl, rfl⟩) (by intro q hq; simp only [List.mem_cons, List.not_mem_nil, or_false] at hq; rcases hq with rfl | rfl <;> rfl) ?_).f
        repeat' (first
    | exact FWk.nil
    | (apply FWk.i; rfl; (first | rfl | omega | (simp; done)))
    | (apply FWk.sl; rfl; rfl; rfl; rfl; omega; rfl)
    | (apply FWk.ptr; rfl; rfl; rfl; omega; rfl)
    | (apply FWk.d; rfl; rfl)
    | (apply FWk.a; rfl; rfl; rfl)
    | (apply FWk.slN; rfl; omega; rfl))
  have ei : i = X.length := by omega
  subst ei
  have hp : ∀ k : Nat, At p k ↔ ((k : Nat) : Int) ∈ GA := fun k => by rw [hp k, mem_lt, mA]
  have hb : ∀ k : Nat, At b' k ↔ ((k : Nat) : Int) ∈ GC := fun k => by
    rw [hb k, mC]
    constructor
    · rintro ⟨i', a, h1, h2, h3⟩; exact ⟨a, List.mem_of_getElem? h2, h3⟩
    · rintro ⟨a, h1, h2⟩
      obtain ⟨i', h3⟩ := List.mem_iff_getElem?.1 h1
      exact ⟨i', a, (List.getElem?_eq_some_iff.1 h3).1, h3, h2⟩
  have eA : GA = idxTo p (s.size + 1) := iA p fun k _ => hp k
  have eC : GC = idxTo b' (s.size + 1) := iC b' fun k _ => hb k
  have lA : GA.length ≤ s.size + 1 := by rw [eA]; exact idxTo_len _ _
  have lC : GC.length ≤ s.size + 1 := by rw [eC]; exact idxTo_len _ _
  have nA := idx_get eA hpl
  have nC := idx_get eC hbl
  have eAl : GA.length = (idxTo p (s.size + 1)).length := congrArg List.length eA
  have eCl : GC.length = (idxTo b' (s.size + 1)).length := congrArg List.length eC
  repeat' (first
    | (apply r_mvV; rfl)
    | (apply r_mvP; rfl)
    | (apply r_mvPL; rfl)
    | (apply r_mvS; rfl)
    | (apply r_mvSL; rfl)
    | (apply r_mvA; rfl)
    | (apply r_mvT; rfl)
    | (apply r_mvF; rfl)
    | (apply r_mvD; rfl)
    | (apply r_ldL (v := .agg [.i 4, .d (.val (.int .u64 0)), .d (.val (.int .u64 0)), .d (.val (.int .u64 0)), .d (.val (.int .u64 0)), .i 0, .i 0, .slL 6 0 2 8]); rfl; rfl; rfl)
    | (apply r_callA (ags := [nodeA (altT (.node k a b c d mn mx subs) (.node k2 a2 b2 c2 d2 mn2 mx2 subs2)), .d (.val (.string s)), .i j]); rfl; rfl; exact gA)
    | (apply r_callA (ags := [nodeA (catT (.node k a b c d mn mx subs) (.node k2 a2 b2 c2 d2 mn2 mx2 subs2)), .d (.val (.string s)), .i j]); rfl; rfl; exact gC)
    | (apply r_ldL (v := nodeA (altT (.node k a b c d mn mx subs) (.node k2 a2 b2 c2 d2 mn2 mx2 subs2))); rfl; rfl; rfl)
    | (apply r_ldL (v := nodeA (catT (.node k a b c d mn mx subs) (.node k2 a2 b2 c2 d2 mn2 mx2 subs2))); rfl; rfl; rfl)
    | (apply r_ldL; rfl; rfl; rfl)
    | (apply r_neq; rfl; rfl; (first | (apply decide_eq_true; omega) | (apply decide_eq_false; omega) | rfl))
    | (apply r_lss; rfl; rfl; (first | (apply decide_eq_true; omega) | (apply decide_eq_false; omega) | rfl))
    | (apply r_gtr; rfl; rfl; (first | (apply decide_eq_true; omega) | (apply decide_eq_false; omega) | rfl))
    | (apply r_add; rfl; rfl; rfl; omega)
    | (apply r_not; rfl; rfl)
    | (apply r_pickT; rfl)
    | (apply r_pickF; rfl)
    | (apply r_lenD; rfl)
    | (apply r_lenL; rfl)
    | (apply r_len0; rfl)
    | (apply r_lenT; rfl)
    | (apply r_ext; rfl; rfl)
    | (apply r_gT; rfl)
    | (apply r_gF'; rfl; rfl)
    | (apply r_gN'; rfl)
    | ((apply r_gS (o := default); rfl) <;> (intro h; try simp only [decide_eq_true_eq, decide_eq_false_iff_not, Bool.not_eq_true, Bool.not_eq_false] at h))
    | (apply r_alloc; ((conv => lhs; simp only [Nat.reduceAdd]) <;> rfl); rfl)
    | (apply r_box; ((conv => lhs; simp only [Nat.reduceAdd]) <;> rfl); rfl; rfl; rfl)
    | (apply r_avS; rfl)
    | (apply r_stL; rfl; rfl; rfl; rfl; (first | rfl | (simp only [z_nil, z_add] <;> rfl)); rfl; rfl)
    | (apply r_p; rfl)
    | (apply r_nilK)
    | (apply r_nil)
    | (apply k_V; rfl)
    | (apply k_P; rfl)
    | (apply k_PL; rfl)
    | (apply k_S; rfl)
    | (apply k_SL; rfl)
    | (apply k_A; rfl)
    | (apply k_T; rfl)
    | (apply k_F; rfl)
    | (apply k_D; rfl; rotate_left; rfl)
    | (apply k_nil)
    | (apply e_ret (vs := [.d (.val _)]); rfl)
    | (apply e_ret; rfl)
    | (apply e_ret' (vs := [.d (.val _)]); rfl)
    | (apply e_ret'; rfl)
    | (apply w_seq)
    | (apply w_ops; ((conv => lhs; simp only [Nat.reduceAdd]) <;> rfl))
    | (apply w_condT; rfl)
    | (apply w_condF; rfl)
    | ((apply w_condS; rfl) <;> (intro h; try simp only [decide_eq_true_eq, decide_eq_false_iff_not, Bool.not_eq_true, Bool.not_eq_false] at h))
    | (apply e_thenN)
    | (apply w_block)
    | (apply e_thenR)
    | (apply e_thenX)
    | (apply e_blkN)
    | (apply e_blkR)
    | (apply e_blkE)
    | (apply w_exit)
    | (apply w_ret)
    | (apply w_skip)
    | (apply e_blkE'; rfl))
  clear hK hge hi gX gY gU gA gC mA mC iA iC nX nY nU lX lY lU h30 h32 h32c haw hp hb eA eC
  apply w_loopF (ι := Nat) (S := fun i => ⟨(((((((((Fr.nil.put 15 (.d (.sl (encB p) (s.size + 1)))).put 16 (.d (.sl (encB b') (s.size + 1)))).put 25 (.d (.sl (encI GA) GA.length))).put 26 (.i 0)).put 27 (.d (.sl (encI GC) GC.length))).put 28 (.i 0)).put 29 (.i (idxTo p i).length)).put 30 (.i (idxTo b' i).length)).put 147 (.i ((s.size + 1 : Nat) : Int))).put 148 (.i i), Heap.nil, Frz.lo 600, 600⟩) (m := fun i => s.size + 1 - i) (I := fun i => i ≤ s.size + 1) (i0 := 0)
  · exact Nat.zero_le _
  · refine fzB' (k := 15) (b := 65) (m := s.size + 1) (p := p) rfl rfl hpl (by omega) (fzB' (k := 16) (b := 69) (m := s.size + 1) (p := b') rfl rfl hbl (by omega) (Wk.f (wk0 (by omega) ?_)))
    repeat' (first
    | exact FWk.nil
    | (apply FWk.i; rfl; (first | rfl | omega | (simp; done)))
    | (apply FWk.sl; rfl; rfl; rfl; rfl; omega; rfl)
    | (apply FWk.ptr; rfl; rfl; rfl; omega; rfl)
    | (apply FWk.d; rfl; rfl)
    | (apply FWk.a; rfl; rfl; rfl)
    | (apply FWk.slN; rfl; omega; rfl))
  intro i K hi hK
  dsimp only
  rcases Nat.lt_or_ge i (s.size + 1) with hlt | hge
  · have hgp : p[i]? = some (p.getD i false) := by
      rw [List.getD_eq_getElem?_getD, List.getElem?_eq_getElem (by omega)]; rfl
    have hgb : b'[i]? = some (b'.getD i false) := by
      rw [List.getD_eq_getElem?_getD, List.getElem?_eq_getElem (by omega)]; rfl
    have lp := idxTo_len p i
    have lb := idxTo_len b' i
    have sp : ((idxTo p (i + 1)).length : Int) = (idxTo p i).length + if p.getD i false = true then 1 else 0 := by
      rw [idxTo]; split <;> simp
    have sb : ((idxTo b' (i + 1)).length : Int) = (idxTo b' i).length + if b'.getD i false = true then 1 else 0 := by
      rw [idxTo]; split <;> simp
    generalize p.getD i false = vp at hgp sp
    generalize b'.getD i false = vb at hgb sb
    cases vp <;> cases vb
    all_goals
      simp only [if_true, if_false, Bool.false_eq_true] at sp sb
      repeat' (first
    | (apply r_mvV; rfl)
    | (apply r_mvP; rfl)
    | (apply r_mvPL; rfl)
    | (apply r_mvS; rfl)
    | (apply r_mvSL; rfl)
    | (apply r_mvA; rfl)
    | (apply r_mvT; rfl)
    | (apply r_mvF; rfl)
    | (apply r_mvD; rfl)
    | (apply r_ixB'; rfl; rfl; exact hlt; exact hpl)
    | (apply r_ldB; rfl; exact hgp)
    | (apply r_ixB'; rfl; rfl; exact hlt; exact hbl)
    | (apply r_ldB; rfl; exact hgb)
    | (apply r_ldL; rfl; rfl; rfl)
    | (apply r_neq; rfl; rfl; (first | (apply decide_eq_true; omega) | (apply decide_eq_false; omega) | rfl))
    | (apply r_lss; rfl; rfl; (first | (apply decide_eq_true; omega) | (apply decide_eq_false; omega) | rfl))
    | (apply r_gtr; rfl; rfl; (first | (apply decide_eq_true; omega) | (apply decide_eq_false; omega) | rfl))
    | (apply r_add; rfl; rfl; rfl; omega)
    | (apply r_not; rfl; rfl)
    | (apply r_pickT; rfl)
    | (apply r_pickF; rfl)
    | (apply r_lenD; rfl)
    | (apply r_lenL; rfl)
    | (apply r_len0; rfl)
    | (apply r_lenT; rfl)
    | (apply r_ext; rfl; rfl)
    | (apply r_gT; rfl)
    | (apply r_gF'; rfl; rfl)
    | (apply r_gN'; rfl)
    | ((apply r_gS (o := default); rfl) <;> (intro h; try simp only [decide_eq_true_eq, decide_eq_false_iff_not, Bool.not_eq_true, Bool.not_eq_false] at h))
    | (apply r_alloc; ((conv => lhs; simp only [Nat.reduceAdd]) <;> rfl); rfl)
    | (apply r_box; ((conv => lhs; simp only [Nat.reduceAdd]) <;> rfl); rfl; rfl; rfl)
    | (apply r_avS; rfl)
    | (apply r_stL; rfl; rfl; rfl; rfl; (first | rfl | (simp only [z_nil, z_add] <;> rfl)); rfl; rfl)
    | (apply r_p; rfl)
    | (apply r_nilK)
    | (apply r_nil)
    | (apply k_V; rfl)
    | (apply k_P; rfl)
    | (apply k_PL; rfl)
    | (apply k_S; rfl)
    | (apply k_SL; rfl)
    | (apply k_A; rfl)
    | (apply k_T; rfl)
    | (apply k_F; rfl)
    | (apply k_D; rfl; rotate_left; rfl)
    | (apply k_nil)
    | (apply e_ret (vs := [.d (.val _)]); rfl)
    | (apply e_ret; rfl)
    | (apply e_ret' (vs := [.d (.val _)]); rfl)
    | (apply e_ret'; rfl)
    | (apply w_seq)
    | (apply w_ops; ((conv => lhs; simp only [Nat.reduceAdd]) <;> rfl))
    | (apply w_condT; rfl)
    | (apply w_condF; rfl)
    | ((apply w_condS; rfl) <;> (intro h; try simp only [decide_eq_true_eq, decide_eq_false_iff_not, Bool.not_eq_true, Bool.not_eq_false] at h))
    | (apply e_thenN)
    | (apply w_block)
    | (apply e_thenR)
    | (apply e_thenX)
    | (apply e_blkN)
    | (apply e_blkR)
    | (apply e_blkE)
    | (apply w_exit)
    | (apply w_ret)
    | (apply w_skip)
    | (apply e_blkE'; rfl))
      apply e_thenK
      apply hK (i + 1)
      · omega
      · omega
      · refine (wk0 (by omega) ?_).f
        repeat' (first
    | exact FWk.nil
    | (apply FWk.i; rfl; (first | rfl | omega | (simp; done)))
    | (apply FWk.sl; rfl; rfl; rfl; rfl; omega; rfl)
    | (apply FWk.ptr; rfl; rfl; rfl; omega; rfl)
    | (apply FWk.d; rfl; rfl)
    | (apply FWk.a; rfl; rfl; rfl)
    | (apply FWk.slN; rfl; omega; rfl))
  have ei : i = s.size + 1 := by omega
  subst ei
  repeat' (first
    | (apply r_mvV; rfl)
    | (apply r_mvP; rfl)
    | (apply r_mvPL; rfl)
    | (apply r_mvS; rfl)
    | (apply r_mvSL; rfl)
    | (apply r_mvA; rfl)
    | (apply r_mvT; rfl)
    | (apply r_mvF; rfl)
    | (apply r_mvD; rfl)
    | (apply r_ldL; rfl; rfl; rfl)
    | (apply r_neq; rfl; rfl; (first | (apply decide_eq_true; omega) | (apply decide_eq_false; omega) | rfl))
    | (apply r_lss; rfl; rfl; (first | (apply decide_eq_true; omega) | (apply decide_eq_false; omega) | rfl))
    | (apply r_gtr; rfl; rfl; (first | (apply decide_eq_true; omega) | (apply decide_eq_false; omega) | rfl))
    | (apply r_add; rfl; rfl; rfl; omega)
    | (apply r_not; rfl; rfl)
    | (apply r_pickT; rfl)
    | (apply r_pickF; rfl)
    | (apply r_lenD; rfl)
    | (apply r_lenL; rfl)
    | (apply r_len0; rfl)
    | (apply r_lenT; rfl)
    | (apply r_ext; rfl; rfl)
    | (apply r_gT; rfl)
    | (apply r_gF'; rfl; rfl)
    | (apply r_gN'; rfl)
    | ((apply r_gS (o := default); rfl) <;> (intro h; try simp only [decide_eq_true_eq, decide_eq_false_iff_not, Bool.not_eq_true, Bool.not_eq_false] at h))
    | (apply r_alloc; ((conv => lhs; simp only [Nat.reduceAdd]) <;> rfl); rfl)
    | (apply r_box; ((conv => lhs; simp only [Nat.reduceAdd]) <;> rfl); rfl; rfl; rfl)
    | (apply r_avS; rfl)
    | (apply r_stL; rfl; rfl; rfl; rfl; (first | rfl | (simp only [z_nil, z_add] <;> rfl)); rfl; rfl)
    | (apply r_p; rfl)
    | (apply r_nilK)
    | (apply r_nil)
    | (apply k_V; rfl)
    | (apply k_P; rfl)
    | (apply k_PL; rfl)
    | (apply k_S; rfl)
    | (apply k_SL; rfl)
    | (apply k_A; rfl)
    | (apply k_T; rfl)
    | (apply k_F; rfl)
    | (apply k_D; rfl; rotate_left; rfl)
    | (apply k_nil)
    | (apply e_ret (vs := [.d (.val _)]); rfl)
    | (apply e_ret; rfl)
    | (apply e_ret' (vs := [.d (.val _)]); rfl)
    | (apply e_ret'; rfl)
    | (apply w_seq)
    | (apply w_ops; ((conv => lhs; simp only [Nat.reduceAdd]) <;> rfl))
    | (apply w_condT; rfl)
    | (apply w_condF; rfl)
    | ((apply w_condS; rfl) <;> (intro h; try simp only [decide_eq_true_eq, decide_eq_false_iff_not, Bool.not_eq_true, Bool.not_eq_false] at h))
    | (apply e_thenN)
    | (apply w_block)
    | (apply e_thenR)
    | (apply e_thenX)
    | (apply e_blkN)
    | (apply e_blkR)
    | (apply e_blkE)
    | (apply w_exit)
    | (apply w_ret)
    | (apply w_skip)
    | (apply e_blkE'; rfl))
  clear hK hge hi
  apply w_loopF (ι := Nat) (S := fun i => ⟨(((((Fr.nil.put 15 (.d (.sl (encB p) (s.size + 1)))).put 16 (.d (.sl (encB b') (s.size + 1)))).put 27 (.d (.sl (encI GC) GC.length))).put 182 (.d (.sl (encI GA) GA.length))).put 183 (.i GA.length)).put 184 (.i i), Heap.nil, Frz.lo 700, 700⟩) (m := fun i => GA.length - i) (I := fun i => i ≤ GA.length) (i0 := 0)
  · exact Nat.zero_le _
  · refine (wk0 (by omega) ?_).f
    repeat' (first
    | exact FWk.nil
    | (apply FWk.i; rfl; (first | rfl | omega | (simp; done)))
    | (apply FWk.sl; rfl; rfl; rfl; rfl; omega; rfl)
    | (apply FWk.ptr; rfl; rfl; rfl; omega; rfl)
    | (apply FWk.d; rfl; rfl)
    | (apply FWk.a; rfl; rfl; rfl)
    | (apply FWk.slN; rfl; omega; rfl))
  intro i K hi hK
  dsimp only
  rcases Nat.lt_or_ge i GA.length with hlt | hge
  · obtain ⟨kk, hkk, hgi, hpk⟩ := nA i hlt
    repeat' (first
    | (apply r_mvV; rfl)
    | (apply r_mvP; rfl)
    | (apply r_mvPL; rfl)
    | (apply r_mvS; rfl)
    | (apply r_mvSL; rfl)
    | (apply r_mvA; rfl)
    | (apply r_mvT; rfl)
    | (apply r_mvF; rfl)
    | (apply r_mvD; rfl)
    | (apply r_ixI (j := i); rfl; rfl; rfl; rfl; exact hlt)
    | (apply r_ldI; rfl; exact hgi)
    | (apply r_ixB' (j := kk); rfl; rfl; omega; exact hpl)
    | (apply r_ldB; rfl; exact hpk)
    | (apply r_ldL; rfl; rfl; rfl)
    | (apply r_neq; rfl; rfl; (first | (apply decide_eq_true; omega) | (apply decide_eq_false; omega) | rfl))
    | (apply r_lss; rfl; rfl; (first | (apply decide_eq_true; omega) | (apply decide_eq_false; omega) | rfl))
    | (apply r_gtr; rfl; rfl; (first | (apply decide_eq_true; omega) | (apply decide_eq_false; omega) | rfl))
    | (apply r_add; rfl; rfl; rfl; omega)
    | (apply r_not; rfl; rfl)
    | (apply r_pickT; rfl)
    | (apply r_pickF; rfl)
    | (apply r_lenD; rfl)
    | (apply r_lenL; rfl)
    | (apply r_len0; rfl)
    | (apply r_lenT; rfl)
    | (apply r_ext; rfl; rfl)
    | (apply r_gT; rfl)
    | (apply r_gF'; rfl; rfl)
    | (apply r_gN'; rfl)
    | ((apply r_gS (o := default); rfl) <;> (intro h; try simp only [decide_eq_true_eq, decide_eq_false_iff_not, Bool.not_eq_true, Bool.not_eq_false] at h))
    | (apply r_alloc; ((conv => lhs; simp only [Nat.reduceAdd]) <;> rfl); rfl)
    | (apply r_box; ((conv => lhs; simp only [Nat.reduceAdd]) <;> rfl); rfl; rfl; rfl)
    | (apply r_avS; rfl)
    | (apply r_stL; rfl; rfl; rfl; rfl; (first | rfl | (simp only [z_nil, z_add] <;> rfl)); rfl; rfl)
    | (apply r_p; rfl)
    | (apply r_nilK)
    | (apply r_nil)
    | (apply k_V; rfl)
    | (apply k_P; rfl)
    | (apply k_PL; rfl)
    | (apply k_S; rfl)
    | (apply k_SL; rfl)
    | (apply k_A; rfl)
    | (apply k_T; rfl)
    | (apply k_F; rfl)
    | (apply k_D; rfl; rotate_left; rfl)
    | (apply k_nil)
    | (apply e_ret (vs := [.d (.val _)]); rfl)
    | (apply e_ret; rfl)
    | (apply e_ret' (vs := [.d (.val _)]); rfl)
    | (apply e_ret'; rfl)
    | (apply w_seq)
    | (apply w_ops; ((conv => lhs; simp only [Nat.reduceAdd]) <;> rfl))
    | (apply w_condT; rfl)
    | (apply w_condF; rfl)
    | ((apply w_condS; rfl) <;> (intro h; try simp only [decide_eq_true_eq, decide_eq_false_iff_not, Bool.not_eq_true, Bool.not_eq_false] at h))
    | (apply e_thenN)
    | (apply w_block)
    | (apply e_thenR)
    | (apply e_thenX)
    | (apply e_blkN)
    | (apply e_blkR)
    | (apply e_blkE)
    | (apply w_exit)
    | (apply w_ret)
    | (apply w_skip)
    | (apply e_blkE'; rfl))
    apply e_thenK
    apply hK (i + 1)
    · omega
    · omega
    · refine (wk0 (by omega) ?_).f
      repeat' (first
    | exact FWk.nil
    | (apply FWk.i; rfl; (first | rfl | omega | (simp; done)))
    | (apply FWk.sl; rfl; rfl; rfl; rfl; omega; rfl)
    | (apply FWk.ptr; rfl; rfl; rfl; omega; rfl)
    | (apply FWk.d; rfl; rfl)
    | (apply FWk.a; rfl; rfl; rfl)
    | (apply FWk.slN; rfl; omega; rfl))
  have ei : i = GA.length := by omega
  subst ei
  repeat' (first
    | (apply r_mvV; rfl)
    | (apply r_mvP; rfl)
    | (apply r_mvPL; rfl)
    | (apply r_mvS; rfl)
    | (apply r_mvSL; rfl)
    | (apply r_mvA; rfl)
    | (apply r_mvT; rfl)
    | (apply r_mvF; rfl)
    | (apply r_mvD; rfl)
    | (apply r_ldL; rfl; rfl; rfl)
    | (apply r_neq; rfl; rfl; (first | (apply decide_eq_true; omega) | (apply decide_eq_false; omega) | rfl))
    | (apply r_lss; rfl; rfl; (first | (apply decide_eq_true; omega) | (apply decide_eq_false; omega) | rfl))
    | (apply r_gtr; rfl; rfl; (first | (apply decide_eq_true; omega) | (apply decide_eq_false; omega) | rfl))
    | (apply r_add; rfl; rfl; rfl; omega)
    | (apply r_not; rfl; rfl)
    | (apply r_pickT; rfl)
    | (apply r_pickF; rfl)
    | (apply r_lenD; rfl)
    | (apply r_lenL; rfl)
    | (apply r_len0; rfl)
    | (apply r_lenT; rfl)
    | (apply r_ext; rfl; rfl)
    | (apply r_gT; rfl)
    | (apply r_gF'; rfl; rfl)
    | (apply r_gN'; rfl)
    | ((apply r_gS (o := default); rfl) <;> (intro h; try simp only [decide_eq_true_eq, decide_eq_false_iff_not, Bool.not_eq_true, Bool.not_eq_false] at h))
    | (apply r_alloc; ((conv => lhs; simp only [Nat.reduceAdd]) <;> rfl); rfl)
    | (apply r_box; ((conv => lhs; simp only [Nat.reduceAdd]) <;> rfl); rfl; rfl; rfl)
    | (apply r_avS; rfl)
    | (apply r_stL; rfl; rfl; rfl; rfl; (first | rfl | (simp only [z_nil, z_add] <;> rfl)); rfl; rfl)
    | (apply r_p; rfl)
    | (apply r_nilK)
    | (apply r_nil)
    | (apply k_V; rfl)
    | (apply k_P; rfl)
    | (apply k_PL; rfl)
    | (apply k_S; rfl)
    | (apply k_SL; rfl)
    | (apply k_A; rfl)
    | (apply k_T; rfl)
    | (apply k_F; rfl)
    | (apply k_D; rfl; rotate_left; rfl)
    | (apply k_nil)
    | (apply e_ret (vs := [.d (.val _)]); rfl)
    | (apply e_ret; rfl)
    | (apply e_ret' (vs := [.d (.val _)]); rfl)
    | (apply e_ret'; rfl)
    | (apply w_seq)
    | (apply w_ops; ((conv => lhs; simp only [Nat.reduceAdd]) <;> rfl))
    | (apply w_condT; rfl)
    | (apply w_condF; rfl)
    | ((apply w_condS; rfl) <;> (intro h; try simp only [decide_eq_true_eq, decide_eq_false_iff_not, Bool.not_eq_true, Bool.not_eq_false] at h))
    | (apply e_thenN)
    | (apply w_block)
    | (apply e_thenR)
    | (apply e_thenX)
    | (apply e_blkN)
    | (apply e_blkR)
    | (apply e_blkE)
    | (apply w_exit)
    | (apply w_ret)
    | (apply w_skip)
    | (apply e_blkE'; rfl))
  clear hK hge hi
  apply w_loopF (ι := Nat) (S := fun i => ⟨(((Fr.nil.put 16 (.d (.sl (encB b') (s.size + 1)))).put 194 (.d (.sl (encI GC) GC.length))).put 195 (.i GC.length)).put 196 (.i i), Heap.nil, Frz.lo 900, 900⟩) (m := fun i => GC.length - i) (I := fun i => i ≤ GC.length) (i0 := 0)
  · exact Nat.zero_le _
  · refine (wk0 (by omega) ?_).f
    repeat' (first
    | exact FWk.nil
    | (apply FWk.i; rfl; (first | rfl | omega | (simp; done)))
    | (apply FWk.sl; rfl; rfl; rfl; rfl; omega; rfl)
    | (apply FWk.ptr; rfl; rfl; rfl; omega; rfl)
    | (apply FWk.d; rfl; rfl)
    | (apply FWk.a; rfl; rfl; rfl)
    | (apply FWk.slN; rfl; omega; rfl))
  intro i K hi hK
  dsimp only
  rcases Nat.lt_or_ge i GC.length with hlt | hge
  · obtain ⟨kk, hkk, hgi, hpk⟩ := nC i hlt
    repeat' (first
    | (apply r_mvV; rfl)
    | (apply r_mvP; rfl)
    | (apply r_mvPL; rfl)
    | (apply r_mvS; rfl)
    | (apply r_mvSL; rfl)
    | (apply r_mvA; rfl)
    | (apply r_mvT; rfl)
    | (apply r_mvF; rfl)
    | (apply r_mvD; rfl)
    | (apply r_ixI (j := i); rfl; rfl; rfl; rfl; exact hlt)
    | (apply r_ldI; rfl; exact hgi)
    | (apply r_ixB' (j := kk); rfl; rfl; omega; exact hbl)
    | (apply r_ldB; rfl; exact hpk)
    | (apply r_ldL; rfl; rfl; rfl)
    | (apply r_neq; rfl; rfl; (first | (apply decide_eq_true; omega) | (apply decide_eq_false; omega) | rfl))
    | (apply r_lss; rfl; rfl; (first | (apply decide_eq_true; omega) | (apply decide_eq_false; omega) | rfl))
    | (apply r_gtr; rfl; rfl; (first | (apply decide_eq_true; omega) | (apply decide_eq_false; omega) | rfl))
    | (apply r_add; rfl; rfl; rfl; omega)
    | (apply r_not; rfl; rfl)
    | (apply r_pickT; rfl)
    | (apply r_pickF; rfl)
    | (apply r_lenD; rfl)
    | (apply r_lenL; rfl)
    | (apply r_len0; rfl)
    | (apply r_lenT; rfl)
    | (apply r_ext; rfl; rfl)
    | (apply r_gT; rfl)
    | (apply r_gF'; rfl; rfl)
    | (apply r_gN'; rfl)
    | ((apply r_gS (o := default); rfl) <;> (intro h; try simp only [decide_eq_true_eq, decide_eq_false_iff_not, Bool.not_eq_true, Bool.not_eq_false] at h))
    | (apply r_alloc; ((conv => lhs; simp only [Nat.reduceAdd]) <;> rfl); rfl)
    | (apply r_box; ((conv => lhs; simp only [Nat.reduceAdd]) <;> rfl); rfl; rfl; rfl)
    | (apply r_avS; rfl)
    | (apply r_stL; rfl; rfl; rfl; rfl; (first | rfl | (simp only [z_nil, z_add] <;> rfl)); rfl; rfl)
    | (apply r_p; rfl)
    | (apply r_nilK)
    | (apply r_nil)
    | (apply k_V; rfl)
    | (apply k_P; rfl)
    | (apply k_PL; rfl)
    | (apply k_S; rfl)
    | (apply k_SL; rfl)
    | (apply k_A; rfl)
    | (apply k_T; rfl)
    | (apply k_F; rfl)
    | (apply k_D; rfl; rotate_left; rfl)
    | (apply k_nil)
    | (apply e_ret (vs := [.d (.val _)]); rfl)
    | (apply e_ret; rfl)
    | (apply e_ret' (vs := [.d (.val _)]); rfl)
    | (apply e_ret'; rfl)
    | (apply w_seq)
    | (apply w_ops; ((conv => lhs; simp only [Nat.reduceAdd]) <;> rfl))
    | (apply w_condT; rfl)
    | (apply w_condF; rfl)
    | ((apply w_condS; rfl) <;> (intro h; try simp only [decide_eq_true_eq, decide_eq_false_iff_not, Bool.not_eq_true, Bool.not_eq_false] at h))
    | (apply e_thenN)
    | (apply w_block)
    | (apply e_thenR)
    | (apply e_thenX)
    | (apply e_blkN)
    | (apply e_blkR)
    | (apply e_blkE)
    | (apply w_exit)
    | (apply w_ret)
    | (apply w_skip)
    | (apply e_blkE'; rfl))
    apply e_thenK
    apply hK (i + 1)
    · omega
    · omega
    · refine (wk0 (by omega) ?_).f
      repeat' (first
    | exact FWk.nil
    | (apply FWk.i; rfl; (first | rfl | omega | (simp; done)))
    | (apply FWk.sl; rfl; rfl; rfl; rfl; omega; rfl)
    | (apply FWk.ptr; rfl; rfl; rfl; omega; rfl)
    | (apply FWk.d; rfl; rfl)
    | (apply FWk.a; rfl; rfl; rfl)
    | (apply FWk.slN; rfl; omega; rfl))
  have ei : i = GC.length := by omega
  subst ei
  repeat' (first
    | (apply r_mvV; rfl)
    | (apply r_mvP; rfl)
    | (apply r_mvPL; rfl)
    | (apply r_mvS; rfl)
    | (apply r_mvSL; rfl)
    | (apply r_mvA; rfl)
    | (apply r_mvT; rfl)
    | (apply r_mvF; rfl)
    | (apply r_mvD; rfl)
    | (apply r_ldL; rfl; rfl; rfl)
    | (apply r_neq; rfl; rfl; (first | (apply decide_eq_true; omega) | (apply decide_eq_false; omega) | rfl))
    | (apply r_lss; rfl; rfl; (first | (apply decide_eq_true; omega) | (apply decide_eq_false; omega) | rfl))
    | (apply r_gtr; rfl; rfl; (first | (apply decide_eq_true; omega) | (apply decide_eq_false; omega) | rfl))
    | (apply r_add; rfl; rfl; rfl; omega)
    | (apply r_not; rfl; rfl)
    | (apply r_pickT; rfl)
    | (apply r_pickF; rfl)
    | (apply r_lenD; rfl)
    | (apply r_lenL; rfl)
    | (apply r_len0; rfl)
    | (apply r_lenT; rfl)
    | (apply r_ext; rfl; rfl)
    | (apply r_gT; rfl)
    | (apply r_gF'; rfl; rfl)
    | (apply r_gN'; rfl)
    | ((apply r_gS (o := default); rfl) <;> (intro h; try simp only [decide_eq_true_eq, decide_eq_false_iff_not, Bool.not_eq_true, Bool.not_eq_false] at h))
    | (apply r_alloc; ((conv => lhs; simp only [Nat.reduceAdd]) <;> rfl); rfl)
    | (apply r_box; ((conv => lhs; simp only [Nat.reduceAdd]) <;> rfl); rfl; rfl; rfl)
    | (apply r_avS; rfl)
    | (apply r_stL; rfl; rfl; rfl; rfl; (first | rfl | (simp only [z_nil, z_add] <;> rfl)); rfl; rfl)
    | (apply r_p; rfl)
    | (apply r_nilK)
    | (apply r_nil)
    | (apply k_V; rfl)
    | (apply k_P; rfl)
    | (apply k_PL; rfl)
    | (apply k_S; rfl)
    | (apply k_SL; rfl)
    | (apply k_A; rfl)
    | (apply k_T; rfl)
    | (apply k_F; rfl)
    | (apply k_D; rfl; rotate_left; rfl)
    | (apply k_nil)
    | (apply e_ret (vs := [.d (.val _)]); rfl)
    | (apply e_ret; rfl)
    | (apply e_ret' (vs := [.d (.val _)]); rfl)
    | (apply e_ret'; rfl)
    | (apply w_seq)
    | (apply w_ops; ((conv => lhs; simp only [Nat.reduceAdd]) <;> rfl))
    | (apply w_condT; rfl)
    | (apply w_condF; rfl)
    | ((apply w_condS; rfl) <;> (intro h; try simp only [decide_eq_true_eq, decide_eq_false_iff_not, Bool.not_eq_true, Bool.not_eq_false] at h))
    | (apply e_thenN)
    | (apply w_block)
    | (apply e_thenR)
    | (apply e_thenX)
    | (apply e_blkN)
    | (apply e_blkR)
    | (apply e_blkE)
    | (apply w_exit)
    | (apply w_ret)
    | (apply w_skip)
    | (apply e_blkE'; rfl))
  exact retB rfl
end Go.Sv
