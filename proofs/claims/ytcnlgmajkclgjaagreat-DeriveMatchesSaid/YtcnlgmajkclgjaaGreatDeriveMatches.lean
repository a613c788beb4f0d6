/- A part of the proof of the law DeriveMatches: that it answers true for every input, and that the input reads behind the call as before (no condition). -/
import Derived.Test.YtcnlgmajkclgjaaGreatDeriveMatchesG11
import Derived.SizedLaws
set_option linter.all false
set_option linter.unusedSectionVars false
set_option linter.unusedVariables false
set_option linter.unusedSimpArgs false
namespace Go.Sv
open Go Go.Proofs
def x3 : XC := (.seq (.ops 2 [
    (0, ⟨(some 2), none, .box (.t 0)⟩),
    (1, ⟨(some 4), none, .mv (.k (.d (.val (.bool false))))⟩)] (some [1, 2])) (.seq (.seq (.ops 13 [
    (0, ⟨(some 9), none, .call 4 [] none false⟩),
    (1, ⟨(some 10), none, .un .not (.t 9)⟩),
    (2, ⟨(some 11), none, .mv (.t 10)⟩),
    (3, ⟨(some 12), (some (11, false)), .load (some 8) (.t 2)⟩),
    (4, ⟨(some 13), (some (11, false)), .mv (.t 1)⟩),
    (5, ⟨(some 14), (some (11, false)), .call 5 [(.t 12), (.t 13)] none false⟩),
    (6, ⟨(some 15), (some (11, false)), .un .not (.t 14)⟩),
    (7, ⟨(some 16), none, .pick (.t 11) (.k (.d (.val (.bool true)))) (.t 15)⟩),
    (8, ⟨(some 17), none, .mv (.t 16)⟩),
    (9, ⟨(some 18), (some (17, false)), .load (some 8) (.t 2)⟩),
    (10, ⟨(some 19), (some (17, false)), .call 6 [(.t 18)] none false⟩),
    (11, ⟨(some 20), (some (17, false)), .un .not (.t 19)⟩),
    (12, ⟨(some 21), none, .pick (.t 17) (.k (.d (.val (.bool true)))) (.t 20)⟩)] (some [1, 2, 21])) (.cond (.t 21) (.seq (.ops 2 [
    (0, ⟨(some 22), none, .call 4 [] none false⟩),
    (1, ⟨(some 4), none, .mv (.t 22)⟩)] (some [4])) .ret) .skip)) (.seq (.ops 8 [
    (0, ⟨(some 24), none, .load (some 8) (.t 2)⟩),
    (1, ⟨(some 25), none, .mv (.t 1)⟩),
    (2, ⟨(some 26), none, .call 7 [(.t 24), (.t 25)] none false⟩),
    (3, ⟨(some 23), none, .mv (.t 26)⟩),
    (4, ⟨(some 27), none, .ext (.t 23) 0⟩),
    (5, ⟨(some 28), none, .ext (.t 23) 1⟩),
    (6, ⟨(some 5), none, .mv (.t 27)⟩),
    (7, ⟨(some 6), none, .mv (.t 28)⟩)] (some [1, 2, 5, 6])) (.seq (.seq (.ops 2 [
    (0, ⟨(some 29), none, .mv (.t 6)⟩),
    (1, ⟨(some 30), none, .arith .neq (.t 29) (.k (.d (.val (.int .i64 0))))⟩)] (some [1, 2, 5, 6, 30])) (.cond (.t 30) (.seq (.ops 9 [
    (0, ⟨(some 32), none, .load (some 8) (.t 2)⟩),
    (1, ⟨(some 33), none, .mv (.t 1)⟩),
    (2, ⟨(some 34), none, .call 8 [(.t 32), (.t 33)] none false⟩),
    (3, ⟨(some 31), none, .mv (.t 34)⟩),
    (4, ⟨(some 35), none, .ext (.t 31) 0⟩),
    (5, ⟨(some 36), none, .ext (.t 31) 1⟩),
    (6, ⟨(some 7), none, .alloc [(.int .i64 0), (.int .u64 0), (.int .u64 0), (.int .u64 0), (.int .u64 0), (.int .i64 0), (.int .i64 0), (.slice none 0 0)]⟩),
    (7, ⟨none, none, .store 8 (.t 7) (.t 35)⟩),
    (8, ⟨(some 8), none, .mv (.t 36)⟩)] (some [5, 6, 8])) (.seq (.ops 11 [
    (0, ⟨(some 37), none, .mv (.t 6)⟩),
    (1, ⟨(some 38), none, .arith .eql (.t 37) (.k (.d (.val (.int .i64 11))))⟩),
    (2, ⟨(some 39), none, .mv (.t 38)⟩),
    (3, ⟨(some 40), (some (39, true)), .mv (.t 8)⟩),
    (4, ⟨(some 41), (some (39, true)), .un .not (.t 40)⟩),
    (5, ⟨(some 42), none, .pick (.t 39) (.t 41) (.k (.d (.val (.bool false))))⟩),
    (6, ⟨(some 43), none, .mv (.t 42)⟩),
    (7, ⟨(some 44), (some (43, true)), .mv (.t 5)⟩),
    (8, ⟨(some 45), (some (43, true)), .un .not (.t 44)⟩),
    (9, ⟨(some 46), none, .pick (.t 43) (.t 45) (.k (.d (.val (.bool false))))⟩),
    (10, ⟨(some 4), none, .mv (.t 46)⟩)] (some [4])) .ret)) .skip)) (.seq (.ops 16 [
    (0, ⟨(some 47), none, .mv (.t 5)⟩),
    (1, ⟨(some 48), none, .load (some 8) (.t 2)⟩),
    (2, ⟨(some 49), none, .mv (.t 1)⟩),
    (3, ⟨(some 50), none, .call 9 [(.t 48), (.t 49), (.k (.d (.val (.int .i64 0))))] none false⟩),
    (4, ⟨(some 51), none, .mv (.t 1)⟩),
    (5, ⟨(some 52), none, .lenT (.t 51)⟩),
    (6, ⟨(some 53), none, .arith .eql (.t 50) (.t 52)⟩),
    (7, ⟨(some 54), none, .beq false (.t 47) (.t 53)⟩),
    (8, ⟨(some 55), none, .mv (.t 54)⟩),
    (9, ⟨(some 56), (some (55, true)), .mv (.t 5)⟩),
    (10, ⟨(some 57), (some (55, true)), .load (some 8) (.t 2)⟩),
    (11, ⟨(some 58), (some (55, true)), .mv (.t 1)⟩),
    (12, ⟨(some 59), (some (55, true)), .call 10 [(.t 57), (.t 58)] none false⟩),
    (13, ⟨(some 60), (some (55, true)), .beq false (.t 56) (.t 59)⟩),
    (14, ⟨(some 61), none, .pick (.t 55) (.t 60) (.k (.d (.val (.bool false))))⟩),
    (15, ⟨(some 4), none, .mv (.t 61)⟩)] (some [4])) .ret)))))
def md3 : FuncId → Option Nat × Bool
  | _ => (none, false)
def od3 : Nat → List (List Nat) × List Nat × Option (List Nat)
  | 0 => ([], [], some [1, 2])
  | 1 => ([], [], some [1, 2, 21])
  | 2 => ([], [], some [4])
  | 3 => ([], [], some [1, 2, 5, 6])
  | 4 => ([], [], some [1, 2, 5, 6, 30])
  | 5 => ([], [], some [5, 6, 8])
  | 6 => ([], [], some [4])
  | 7 => ([], [], some [4])
  | _ => ([], [], none)
theorem b3 {ags : List AV} {row : Option (List DV)} {r : AV} {row' nw : Option (List DV)} (hal : ags.length ≤ 62) (hrow : row'.isSome = true → row.isSome = true) (h : xwp Tryz.prog x3 (retK [.tmp 4] row.isSome r row' nw) (St.init ags row)) : Good Tryz.prog 3 ags row r row' nw :=
  good_of_body' (md := md3) (od := od3) Tryz.f3 (by kernel_rfl) (by kernel_rfl) (by kernel_rfl) (by kernel_rfl) (by kernel_rfl) hal hrow h

set_option maxRecDepth 100000
set_option maxHeartbeats 4000000
attribute [local irreducible] W E R KP thenK blockK retK Good xwp aRun
theorem law3 (t : T) (s : ByteArray) (ht : inT t) (hs : s.size ≤ 9223372036854775807) : Good Tryz.prog 3 [nodeA t, .d (.val (.string s))] none (.b true) none none := by
  have haw := awake75_good
  have h76 := few76_good s (by omega) t
  by_cases hf : few12 s t = true
  case neg =>
    have hf : few12 s t = false := by simpa using hf
    rw [hf] at h76
    clear ht hs hf
    obtain ⟨k, a, b, c, d, mn, mx, subs⟩ := t
    have e0 : nodeA (T.node k a b c d mn mx subs) = .agg [.i k, .d (.val (.int .u64 a)), .d (.val (.int .u64 b)), .d (.val (.int .u64 c)), .d (.val (.int .u64 d)), .i mn, .i mx, .d (.sl (encL subs) subs.length)] := rfl
    rw [e0] at h76 ⊢
    refine b3 (by simp) (by simp) (w_init ?_)
    unfold x3
    repeat' (first
    | (apply r_mvV; rfl)
    | (apply r_mvP; rfl)
    | (apply r_mvPL; rfl)
    | (apply r_mvS; rfl)
    | (apply r_mvSL; rfl)
    | (apply r_mvA; rfl)
    | (apply r_mvT; rfl)
    | (apply r_mvF; rfl)
    | (apply r_mvD; rfl)
    | (apply r_ldL (v := .agg [.i k, .d (.val (.int .u64 a)), .d (.val (.int .u64 b)), .d (.val (.int .u64 c)), .d (.val (.int .u64 d)), .i mn, .i mx, .d (.sl (encL subs) subs.length)]); rfl; rfl; rfl)
    | (apply r_callA (f := 4) (ags := []); rfl; rfl; exact haw)
    | (apply r_callA (f := 5); rfl; rfl; exact h76)
    | (apply r_ldL; rfl; rfl; rfl)
    | (apply r_eql; rfl; rfl; (first | (apply decide_eq_true; omega) | (apply decide_eq_false; omega) | rfl))
    | (apply r_neq; rfl; rfl; (first | (apply decide_eq_true; omega) | (apply decide_eq_false; omega) | rfl))
    | (apply r_not; rfl; rfl)
    | (apply r_beq; rfl; rfl; rfl)
    | (apply r_pickT; rfl)
    | (apply r_pickF; rfl)
    | (apply r_lenT; rfl)
    | (apply r_ext; rfl; rfl)
    | (apply r_gT; rfl)
    | (apply r_gF'; rfl; rfl)
    | (apply r_gN'; rfl)
    | ((apply r_gS (o := default); rfl) <;> (intro h; try simp only [decide_eq_true_eq, decide_eq_false_iff_not, Bool.not_eq_true, Bool.not_eq_false] at h))
    | (apply r_alloc; ((conv => lhs; simp only [Nat.reduceAdd]) <;> rfl); rfl)
    | (apply r_box; ((conv => lhs; simp only [Nat.reduceAdd]) <;> rfl); rfl; rfl; rfl)
    | (apply r_stL; rfl; rfl; rfl; rfl; (first | rfl | (simp only [z_nil, z_add] <;> rfl)); rfl; rfl)
    | (apply r_nilK)
    | (apply r_nil)
    | (apply k_V; rfl)
    | (apply k_P; rfl)
    | (apply k_PL; rfl)
    | (apply k_S; rfl)
    | (apply k_SL; rfl)
    | (apply k_A; rfl)
    | (apply k_T; rfl)
    | (apply k_F; rfl)
    | (apply k_D; rfl; rotate_left; rfl)
    | (apply k_nil)
    | (apply e_ret (vs := [.d (.val _)]); rfl)
    | (apply e_ret; rfl)
    | (apply e_ret' (vs := [.d (.val _)]); rfl)
    | (apply e_ret'; rfl)
    | (apply w_seq)
    | (apply w_ops; ((conv => lhs; simp only [Nat.reduceAdd]) <;> rfl))
    | (apply w_condT; rfl)
    | (apply w_condF; rfl)
    | ((apply w_condS; rfl) <;> (intro h; try simp only [decide_eq_true_eq, decide_eq_false_iff_not, Bool.not_eq_true, Bool.not_eq_false] at h))
    | (apply e_thenN)
    | (apply w_block)
    | (apply e_thenR)
    | (apply e_thenX)
    | (apply e_blkN)
    | (apply e_blkR)
    | (apply e_blkE)
    | (apply w_exit)
    | (apply w_ret)
    | (apply w_skip)
    | (apply e_blkE'; rfl))
    exact retB rfl
  obtain ⟨hc, hsz⟩ := few12_of hf
  rw [hf] at h76
  have hokt : fitsT t 12 = true → okT t := fun h => ok_of_right ht (by rw [right_fits]; exact h)
  have h32 := right8_good t (by omega)
  by_cases hr : rightT t = true
  case neg =>
    have hr : rightT t = false := by simpa using hr
    rw [hr] at h32
    clear ht hs hf hr hokt hc
    obtain ⟨k, a, b, c, d, mn, mx, subs⟩ := t
    have e0 : nodeA (T.node k a b c d mn mx subs) = .agg [.i k, .d (.val (.int .u64 a)), .d (.val (.int .u64 b)), .d (.val (.int .u64 c)), .d (.val (.int .u64 d)), .i mn, .i mx, .d (.sl (encL subs) subs.length)] := rfl
    rw [e0] at h76 h32 ⊢
    refine b3 (by simp) (by simp) (w_init ?_)
    unfold x3
    repeat' (first
    | (apply r_mvV; rfl)
    | (apply r_mvP; rfl)
    | (apply r_mvPL; rfl)
    | (apply r_mvS; rfl)
    | (apply r_mvSL; rfl)
    | (apply r_mvA; rfl)
    | (apply r_mvT; rfl)
    | (apply r_mvF; rfl)
    | (apply r_mvD; rfl)
    | (apply r_ldL (v := .agg [.i k, .d (.val (.int .u64 a)), .d (.val (.int .u64 b)), .d (.val (.int .u64 c)), .d (.val (.int .u64 d)), .i mn, .i mx, .d (.sl (encL subs) subs.length)]); rfl; rfl; rfl)
    | (apply r_callA (f := 4) (ags := []); rfl; rfl; exact haw)
    | (apply r_callA (f := 5); rfl; rfl; exact h76)
    | (apply r_callA (f := 6) (ags := [.agg [.i k, .d (.val (.int .u64 a)), .d (.val (.int .u64 b)), .d (.val (.int .u64 c)), .d (.val (.int .u64 d)), .i mn, .i mx, .d (.sl (encL subs) subs.length)]]); rfl; rfl; exact h32)
    | (apply r_ldL; rfl; rfl; rfl)
    | (apply r_eql; rfl; rfl; (first | (apply decide_eq_true; omega) | (apply decide_eq_false; omega) | rfl))
    | (apply r_neq; rfl; rfl; (first | (apply decide_eq_true; omega) | (apply decide_eq_false; omega) | rfl))
    | (apply r_not; rfl; rfl)
    | (apply r_beq; rfl; rfl; rfl)
    | (apply r_pickT; rfl)
    | (apply r_pickF; rfl)
    | (apply r_lenT; rfl)
    | (apply r_ext; rfl; rfl)
    | (apply r_gT; rfl)
    | (apply r_gF'; rfl; rfl)
    | (apply r_gN'; rfl)
    | ((apply r_gS (o := default); rfl) <;> (intro h; try simp only [decide_eq_true_eq, decide_eq_false_iff_not, Bool.not_eq_true, Bool.not_eq_false] at h))
    | (apply r_alloc; ((conv => lhs; simp only [Nat.reduceAdd]) <;> rfl); rfl)
    | (apply r_box; ((conv => lhs; simp only [Nat.reduceAdd]) <;> rfl); rfl; rfl; rfl)
    | (apply r_stL; rfl; rfl; rfl; rfl; (first | rfl | (simp only [z_nil, z_add] <;> rfl)); rfl; rfl)
    | (apply r_nilK)
    | (apply r_nil)
    | (apply k_V; rfl)
    | (apply k_P; rfl)
    | (apply k_PL; rfl)
    | (apply k_S; rfl)
    | (apply k_SL; rfl)
    | (apply k_A; rfl)
    | (apply k_T; rfl)
    | (apply k_F; rfl)
    | (apply k_D; rfl; rotate_left; rfl)
    | (apply k_nil)
    | (apply e_ret (vs := [.d (.val _)]); rfl)
    | (apply e_ret; rfl)
    | (apply e_ret' (vs := [.d (.val _)]); rfl)
    | (apply e_ret'; rfl)
    | (apply w_seq)
    | (apply w_ops; ((conv => lhs; simp only [Nat.reduceAdd]) <;> rfl))
    | (apply w_condT; rfl)
    | (apply w_condF; rfl)
    | ((apply w_condS; rfl) <;> (intro h; try simp only [decide_eq_true_eq, decide_eq_false_iff_not, Bool.not_eq_true, Bool.not_eq_false] at h))
    | (apply e_thenN)
    | (apply w_block)
    | (apply e_thenR)
    | (apply e_thenX)
    | (apply e_blkN)
    | (apply e_blkR)
    | (apply e_blkE)
    | (apply w_exit)
    | (apply w_ret)
    | (apply w_skip)
    | (apply e_blkE'; rfl))
    exact retB rfl
  have hfi : fitsT t 12 = true := by rw [← right_fits]; exact hr
  have hok := hokt hfi
  rw [hr] at h32
  have hd := DOK_sim hok (by omega)
  have h126 := Match126_good s (by omega) t (by omega) hokt
  have h79 := Word79_good s (by omega) t (by omega) hok
  have h37 := longest37_good s (by omega) t (by omega) hok 0 (Nat.zero_le _)
  have h33 := match_good s (by omega) t (by omega) hokt
  rw [show allG s t 0 = rallG s t 0 from all_ref s t hfi hok 0 (Nat.zero_le _)] at h33
  have e3 : wrN s t = wdT s (simT t) := by simp [wrN, hfi]
  have e4 : wrE s t = if (dS s (simT t) 0 s.size).isSome = true then 0 else 11 := by simp [wrE, wdE, hfi]
  cases hq : dS s (simT t) 0 s.size with
  | none =>
    have e1 : wrE s t = 11 := by rw [e4, hq]; rfl
    have e2 : mtB s t = false := by simp [mtB, e1]
    have e5 : wdT s (simT t) = zT := by simp [wdT, hq]
    have ez : nodeA zT = .agg [.i 0, .d (.val (.int .u64 0)), .d (.val (.int .u64 0)), .d (.val (.int .u64 0)), .d (.val (.int .u64 0)), .i 0, .i 0, .d (.sl [] 0)] := rfl
    rw [e1, e2] at h126
    rw [e5, hq, ez] at h79
    have h79 : Good Tryz.prog 8 [nodeA t, .d (.val (.string s))] none (.tup [.agg [.i 0, .d (.val (.int .u64 0)), .d (.val (.int .u64 0)), .d (.val (.int .u64 0)), .d (.val (.int .u64 0)), .i 0, .i 0, .d (.sl [] 0)], .b false]) none none := h79
    clear ht hs hf hr hfi e1 e2 e3 e4 e5 hokt hc hd hq hok h37 h33
    obtain ⟨k, a, b, c, d, mn, mx, subs⟩ := t
    have e0 : nodeA (T.node k a b c d mn mx subs) = .agg [.i k, .d (.val (.int .u64 a)), .d (.val (.int .u64 b)), .d (.val (.int .u64 c)), .d (.val (.int .u64 d)), .i mn, .i mx, .d (.sl (encL subs) subs.length)] := rfl
    rw [e0] at h76 h126 h79 h32 ⊢
    refine b3 (by simp) (by simp) (w_init ?_)
    unfold x3
    repeat' (first
    | (apply r_mvV; rfl)
    | (apply r_mvP; rfl)
    | (apply r_mvPL; rfl)
    | (apply r_mvS; rfl)
    | (apply r_mvSL; rfl)
    | (apply r_mvA; rfl)
    | (apply r_mvT; rfl)
    | (apply r_mvF; rfl)
    | (apply r_mvD; rfl)
    | (apply r_ldL (v := .agg [.i k, .d (.val (.int .u64 a)), .d (.val (.int .u64 b)), .d (.val (.int .u64 c)), .d (.val (.int .u64 d)), .i mn, .i mx, .d (.sl (encL subs) subs.length)]); rfl; rfl; rfl)
    | (apply r_callA (f := 4) (ags := []); rfl; rfl; exact haw)
    | (apply r_callA (f := 5); rfl; rfl; exact h76)
    | (apply r_callA (f := 6) (ags := [.agg [.i k, .d (.val (.int .u64 a)), .d (.val (.int .u64 b)), .d (.val (.int .u64 c)), .d (.val (.int .u64 d)), .i mn, .i mx, .d (.sl (encL subs) subs.length)]]); rfl; rfl; exact h32)
    | (apply r_callA (f := 7); rfl; rfl; exact h126)
    | (apply r_callA (f := 8); rfl; rfl; exact h79)
    | (apply r_ldL; rfl; rfl; rfl)
    | (apply r_eql; rfl; rfl; (first | (apply decide_eq_true; omega) | (apply decide_eq_false; omega) | rfl))
    | (apply r_neq; rfl; rfl; (first | (apply decide_eq_true; omega) | (apply decide_eq_false; omega) | rfl))
    | (apply r_not; rfl; rfl)
    | (apply r_beq; rfl; rfl; rfl)
    | (apply r_pickT; rfl)
    | (apply r_pickF; rfl)
    | (apply r_lenT; rfl)
    | (apply r_ext; rfl; rfl)
    | (apply r_gT; rfl)
    | (apply r_gF'; rfl; rfl)
    | (apply r_gN'; rfl)
    | ((apply r_gS (o := default); rfl) <;> (intro h; try simp only [decide_eq_true_eq, decide_eq_false_iff_not, Bool.not_eq_true, Bool.not_eq_false] at h))
    | (apply r_alloc; ((conv => lhs; simp only [Nat.reduceAdd]) <;> rfl); rfl)
    | (apply r_box; ((conv => lhs; simp only [Nat.reduceAdd]) <;> rfl); rfl; rfl; rfl)
    | (apply r_stL; rfl; rfl; rfl; rfl; (first | rfl | (simp only [z_nil, z_add] <;> rfl)); rfl; rfl)
    | (apply r_nilK)
    | (apply r_nil)
    | (apply k_V; rfl)
    | (apply k_P; rfl)
    | (apply k_PL; rfl)
    | (apply k_S; rfl)
    | (apply k_SL; rfl)
    | (apply k_A; rfl)
    | (apply k_T; rfl)
    | (apply k_F; rfl)
    | (apply k_D; rfl; rotate_left; rfl)
    | (apply k_nil)
    | (apply e_ret (vs := [.d (.val _)]); rfl)
    | (apply e_ret; rfl)
    | (apply e_ret' (vs := [.d (.val _)]); rfl)
    | (apply e_ret'; rfl)
    | (apply w_seq)
    | (apply w_ops; ((conv => lhs; simp only [Nat.reduceAdd]) <;> rfl))
    | (apply w_condT; rfl)
    | (apply w_condF; rfl)
    | ((apply w_condS; rfl) <;> (intro h; try simp only [decide_eq_true_eq, decide_eq_false_iff_not, Bool.not_eq_true, Bool.not_eq_false] at h))
    | (apply e_thenN)
    | (apply w_block)
    | (apply e_thenR)
    | (apply e_thenX)
    | (apply e_blkN)
    | (apply e_blkR)
    | (apply e_blkE)
    | (apply w_exit)
    | (apply w_ret)
    | (apply w_skip)
    | (apply e_blkE'; rfl))
    exact retB rfl
  | some u =>
    have e1 : wrE s t = 0 := by rw [e4, hq]; rfl
    have e5 : wdT s (simT t) = u := by simp [wdT, hq]
    have e2 : mtB s t = nlT u := by simp [mtB, e1, e3, e5]
    have hw := nl_whole hok hd hq
    rw [e1, e2, ← hw] at h126
    clear ht hs hf hr hfi e1 e2 e3 e4 e5 hokt hc hd hq hok h79 hw
    generalize lastG (rallG s t 0) = l at h126 h37 h33
    obtain ⟨k, a, b, c, d, mn, mx, subs⟩ := t
    have e0 : nodeA (T.node k a b c d mn mx subs) = .agg [.i k, .d (.val (.int .u64 a)), .d (.val (.int .u64 b)), .d (.val (.int .u64 c)), .d (.val (.int .u64 d)), .i mn, .i mx, .d (.sl (encL subs) subs.length)] := rfl
    rw [e0] at h76 h126 h37 h33 h32 ⊢
    have h37 : Good Tryz.prog 9 [.agg [.i k, .d (.val (.int .u64 a)), .d (.val (.int .u64 b)), .d (.val (.int .u64 c)), .d (.val (.int .u64 d)), .i mn, .i mx, .d (.sl (encL subs) subs.length)], .d (.val (.string s)), .i 0] none (.i l) none none := h37
    by_cases hl : l = (s.size : Int)
    · rw [decide_eq_true hl] at h126 h33
      refine b3 (by simp) (by simp) (w_init ?_)
      unfold x3
      repeat' (first
    | (apply r_mvV; rfl)
    | (apply r_mvP; rfl)
    | (apply r_mvPL; rfl)
    | (apply r_mvS; rfl)
    | (apply r_mvSL; rfl)
    | (apply r_mvA; rfl)
    | (apply r_mvT; rfl)
    | (apply r_mvF; rfl)
    | (apply r_mvD; rfl)
    | (apply r_ldL (v := .agg [.i k, .d (.val (.int .u64 a)), .d (.val (.int .u64 b)), .d (.val (.int .u64 c)), .d (.val (.int .u64 d)), .i mn, .i mx, .d (.sl (encL subs) subs.length)]); rfl; rfl; rfl)
    | (apply r_callA (f := 4) (ags := []); rfl; rfl; exact haw)
    | (apply r_callA (f := 5); rfl; rfl; exact h76)
    | (apply r_callA (f := 6) (ags := [.agg [.i k, .d (.val (.int .u64 a)), .d (.val (.int .u64 b)), .d (.val (.int .u64 c)), .d (.val (.int .u64 d)), .i mn, .i mx, .d (.sl (encL subs) subs.length)]]); rfl; rfl; exact h32)
    | (apply r_callA (f := 7); rfl; rfl; exact h126)
    | (apply r_callA (f := 9); rfl; rfl; exact h37)
    | (apply r_callA (f := 10); rfl; rfl; exact h33)
    | (apply r_ldL; rfl; rfl; rfl)
    | (apply r_eql; rfl; rfl; (first | (apply decide_eq_true; omega) | (apply decide_eq_false; omega) | rfl))
    | (apply r_neq; rfl; rfl; (first | (apply decide_eq_true; omega) | (apply decide_eq_false; omega) | rfl))
    | (apply r_not; rfl; rfl)
    | (apply r_beq; rfl; rfl; rfl)
    | (apply r_pickT; rfl)
    | (apply r_pickF; rfl)
    | (apply r_lenT; rfl)
    | (apply r_ext; rfl; rfl)
    | (apply r_gT; rfl)
    | (apply r_gF'; rfl; rfl)
    | (apply r_gN'; rfl)
    | ((apply r_gS (o := default); rfl) <;> (intro h; try simp only [decide_eq_true_eq, decide_eq_false_iff_not, Bool.not_eq_true, Bool.not_eq_false] at h))
    | (apply r_alloc; ((conv => lhs; simp only [Nat.reduceAdd]) <;> rfl); rfl)
    | (apply r_box; ((conv => lhs; simp only [Nat.reduceAdd]) <;> rfl); rfl; rfl; rfl)
    | (apply r_stL; rfl; rfl; rfl; rfl; (first | rfl | (simp only [z_nil, z_add] <;> rfl)); rfl; rfl)
    | (apply r_nilK)
    | (apply r_nil)
    | (apply k_V; rfl)
    | (apply k_P; rfl)
    | (apply k_PL; rfl)
    | (apply k_S; rfl)
    | (apply k_SL; rfl)
    | (apply k_A; rfl)
    | (apply k_T; rfl)
    | (apply k_F; rfl)
    | (apply k_D; rfl; rotate_left; rfl)
    | (apply k_nil)
    | (apply e_ret (vs := [.d (.val _)]); rfl)
    | (apply e_ret; rfl)
    | (apply e_ret' (vs := [.d (.val _)]); rfl)
    | (apply e_ret'; rfl)
    | (apply w_seq)
    | (apply w_ops; ((conv => lhs; simp only [Nat.reduceAdd]) <;> rfl))
    | (apply w_condT; rfl)
    | (apply w_condF; rfl)
    | ((apply w_condS; rfl) <;> (intro h; try simp only [decide_eq_true_eq, decide_eq_false_iff_not, Bool.not_eq_true, Bool.not_eq_false] at h))
    | (apply e_thenN)
    | (apply w_block)
    | (apply e_thenR)
    | (apply e_thenX)
    | (apply e_blkN)
    | (apply e_blkR)
    | (apply e_blkE)
    | (apply w_exit)
    | (apply w_ret)
    | (apply w_skip)
    | (apply e_blkE'; rfl))
      exact retB rfl
    · rw [decide_eq_false hl] at h126 h33
      refine b3 (by simp) (by simp) (w_init ?_)
      unfold x3
      repeat' (first
    | (apply r_mvV; rfl)
    | (apply r_mvP; rfl)
    | (apply r_mvPL; rfl)
    | (apply r_mvS; rfl)
    | (apply r_mvSL; rfl)
    | (apply r_mvA; rfl)
    | (apply r_mvT; rfl)
    | (apply r_mvF; rfl)
    | (apply r_mvD; rfl)
    | (apply r_ldL (v := .agg [.i k, .d (.val (.int .u64 a)), .d (.val (.int .u64 b)), .d (.val (.int .u64 c)), .d (.val (.int .u64 d)), .i mn, .i mx, .d (.sl (encL subs) subs.length)]); rfl; rfl; rfl)
    | (apply r_callA (f := 4) (ags := []); rfl; rfl; exact haw)
    | (apply r_callA (f := 5); rfl; rfl; exact h76)
    | (apply r_callA (f := 6) (ags := [.agg [.i k, .d (.val (.int .u64 a)), .d (.val (.int .u64 b)), .d (.val (.int .u64 c)), .d (.val (.int .u64 d)), .i mn, .i mx, .d (.sl (encL subs) subs.length)]]); rfl; rfl; exact h32)
    | (apply r_callA (f := 7); rfl; rfl; exact h126)
    | (apply r_callA (f := 9); rfl; rfl; exact h37)
    | (apply r_callA (f := 10); rfl; rfl; exact h33)
    | (apply r_ldL; rfl; rfl; rfl)
    | (apply r_eql; rfl; rfl; (first | (apply decide_eq_true; omega) | (apply decide_eq_false; omega) | rfl))
    | (apply r_neq; rfl; rfl; (first | (apply decide_eq_true; omega) | (apply decide_eq_false; omega) | rfl))
    | (apply r_not; rfl; rfl)
    | (apply r_beq; rfl; rfl; rfl)
    | (apply r_pickT; rfl)
    | (apply r_pickF; rfl)
    | (apply r_lenT; rfl)
    | (apply r_ext; rfl; rfl)
    | (apply r_gT; rfl)
    | (apply r_gF'; rfl; rfl)
    | (apply r_gN'; rfl)
    | ((apply r_gS (o := default); rfl) <;> (intro h; try simp only [decide_eq_true_eq, decide_eq_false_iff_not, Bool.not_eq_true, Bool.not_eq_false] at h))
    | (apply r_alloc; ((conv => lhs; simp only [Nat.reduceAdd]) <;> rfl); rfl)
    | (apply r_box; ((conv => lhs; simp only [Nat.reduceAdd]) <;> rfl); rfl; rfl; rfl)
    | (apply r_stL; rfl; rfl; rfl; rfl; (first | rfl | (simp only [z_nil, z_add] <;> rfl)); rfl; rfl)
    | (apply r_nilK)
    | (apply r_nil)
    | (apply k_V; rfl)
    | (apply k_P; rfl)
    | (apply k_PL; rfl)
    | (apply k_S; rfl)
    | (apply k_SL; rfl)
    | (apply k_A; rfl)
    | (apply k_T; rfl)
    | (apply k_F; rfl)
    | (apply k_D; rfl; rotate_left; rfl)
    | (apply k_nil)
    | (apply e_ret (vs := [.d (.val _)]); rfl)
    | (apply e_ret; rfl)
    | (apply e_ret' (vs := [.d (.val _)]); rfl)
    | (apply e_ret'; rfl)
    | (apply w_seq)
    | (apply w_ops; ((conv => lhs; simp only [Nat.reduceAdd]) <;> rfl))
    | (apply w_condT; rfl)
    | (apply w_condF; rfl)
    | ((apply w_condS; rfl) <;> (intro h; try simp only [decide_eq_true_eq, decide_eq_false_iff_not, Bool.not_eq_true, Bool.not_eq_false] at h))
    | (apply e_thenN)
    | (apply w_block)
    | (apply e_thenR)
    | (apply e_thenX)
    | (apply e_blkN)
    | (apply e_blkR)
    | (apply e_blkE)
    | (apply w_exit)
    | (apply w_ret)
    | (apply w_skip)
    | (apply e_blkE'; rfl))
      exact retB rfl
end Go.Sv
namespace Go.Sv
open Go Go.Proofs Go.Proofs.YtcnlgmajkclgjaaGreat Go.ChangeShapes Go.WideShapes Go.ChangeAt Go.RowKit Go.ChangeMaps
theorem deriveMatches_z2 : (Rows.deriveMatchesRow.inPlace == Tryz.pinned.checked.prog.inPlace 3) = true := by kernel_rfl
theorem deriveMatches_z3 : (Rows.deriveMatchesRow.unfollowed == Tryz.pinned.checked.prog.unfollowed 3) = true := by kernel_rfl
theorem deriveMatches_z4 : (Rows.deriveMatchesRow.recurses == Tryz.pinned.checked.prog.recurses 3) = true := by kernel_rfl
theorem deriveMatches_z5 : (Rows.deriveMatchesRow.named == Tryz.pinned.checked.prog.varsNamed 3) = true := by kernel_rfl
theorem deriveMatches_facts : joinedFacts Tryz.pinned.checked.prog 3 Tryz.f3 Rows.deriveMatchesSpec Rows.deriveMatchesRow = true := joined_of (by kernel_rfl) deriveMatches_z2 deriveMatches_z3 deriveMatches_z4 deriveMatches_z5 (by kernel_rfl) try_mayEnter try_lifts try_make (by kernel_rfl)
set_option maxRecDepth 100000 in
theorem deriveMatches_lifted (os : Os) (started : os.Started) (H : Type) (enc : TypeId × Value → H) :
    ReturnsInHanded {} Tryz.checked os 3 .any (Rows.deriveMatchesSpec.pre6 enc Tryz.prog Tryz.f3 Rows.deriveMatchesRow.domain false) (Rows.deriveMatchesSpec.post enc Tryz.prog Tryz.f3 false true false false) := by
  refine returnsInHanded_of_change_sized (C := Tryz.checked) try_own started (by kernel_rfl) Tryz.func3
    (ChangeSpec.witness6 (enc := enc) (C := Tryz.checked) false ⟨#[], #[.agg #[.int .i64 0, .int .u64 0, .int .u64 0, .int .u64 0, .int .u64 0, .int .i64 0, .int .i64 0, .slice none 0 0], .string ⟨#[]⟩], []⟩ 8 (by kernel_rfl) (by kernel_rfl) (by kernel_rfl) (by kernel_rfl)) ?_
  intro W base args ds gs before hval0 hW hcnd hsz0 _
  have hval : ∀ (j : Nat) t v, Tryz.f3.params[j]? = some t → args[j]? = some v → Value.okWide Tryz.prog W .any base t v := hval0
  have hW' := hW
  obtain ⟨p, q, hA0, hV, rfl, hfz, hnd⟩ := hW
  have hA : DataW.TrodAll enc Tryz.prog W 0 (fun _ => true) true Tryz.f3.params.toList args.toList ds p := hA0
  rw [Tryz.params3] at hA hval
  have hsz : (DataW.weightsEach Tryz.prog (Tryz.f3.params.toList ++ Rows.deriveMatchesSpec.plain.varTypes Tryz.prog) (ds ++ gs)).all (· ≤ reachBytes) = true := hsz0
  rw [Tryz.params3] at hsz
  clear hsz0
  obtain ⟨v0, v1, d0, d1, p0, p1, rfl, rfl, rfl, h0, h1⟩ := trodAll_two hA
  obtain ⟨rfl, rfl⟩ := trodVars_none hV
  obtain ⟨t0, wt0, ha0⟩ := arg_node (hval 0 27 v0 rfl rfl) h0
  obtain ⟨s1, rfl, rfl, rfl, _⟩ := open_string Tryz.underlying9 (hval 1 9 v1 rfl rfl) h1
  refine (law_calls (law3 t0 s1 wt0 (by have := weights_str (j := 1) hsz rfl rfl; omega)) (RAs.mk (vs := [v0, .string s1]) rfl ?_)).mono fun e W' ⟨he, hb⟩ => ?_
  · intro j v a hj ha
    match j with
    | 0 => cases hj; cases ha; exact ha0
    | 1 => cases hj; cases ha; exact arg_str
    | j + 2 => simp at hj
  · exact ⟨_, he, law_post hW' rfl rfl rfl rfl (by kernel_rfl) hb (by rw [Tryz.params3]; exact fun t ht => rowed t ((by decide : ∀ t ∈ [27, 9], t ∈ [27, 9, 3, 5]) t ht))⟩
theorem deriveMatches_row : Rows.DeriveMatchesSaid :=
  OpenClaim.holds_of_wide 3 Tryz.f3 rfl rfl rfl rfl rfl rfl rfl ⟨rfl, rfl, rfl, rfl, rfl⟩ rfl rfl rfl rfl rfl (by kernel_rfl) Tryz.func3 deriveMatches_facts
    (of_decide_eq_true (by kernel_rfl)) (by unfold Func.isWrapper; rw [if_neg (of_decide_eq_false (by kernel_rfl))]; exact ⟨rfl, rfl⟩)
    (fun os started H enc _ => deriveMatches_lifted os started H enc)
end Go.Sv
namespace Go.Proofs.YtcnlgmajkclgjaaGreat
theorem deriveMatches_holds : Rows.DeriveMatchesSaid := Go.Sv.deriveMatches_row
#print axioms deriveMatches_holds
end Go.Proofs.YtcnlgmajkclgjaaGreat
