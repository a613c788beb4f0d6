/- A part of the proof of a law of this seat: that it answers true for every input, and that the input reads behind the call as before (no condition). -/
import Derived.Test.YtcnlgmajkclgjaaC1
set_option linter.all false
set_option linter.unusedSectionVars false
set_option linter.unusedVariables false
set_option linter.unusedSimpArgs false
namespace Go.Sv
open Go Go.Proofs
def x35 : XC := (.seq (.ops 1 [
    (0, ⟨(some 4), none, .mv (.k (.d (.val (.bool false))))⟩)] (some [0, 1])) (.seq (.seq (.ops 5 [
    (0, ⟨(some 6), none, .mv (.t 0)⟩),
    (1, ⟨(some 7), none, .lenS (.t 6)⟩),
    (2, ⟨(some 8), none, .mv (.t 1)⟩),
    (3, ⟨(some 9), none, .lenS (.t 8)⟩),
    (4, ⟨(some 10), none, .arith .neq (.t 7) (.t 9)⟩)] (some [0, 1, 10])) (.cond (.t 10) (.seq (.ops 1 [
    (0, ⟨(some 4), none, .mv (.k (.d (.val (.bool false))))⟩)] (some [4])) .ret) .skip)) (.seq (.seq (.ops 1 [
    (0, ⟨(some 5), none, .mv (.k (.d (.val (.int .i64 0))))⟩)] (some [0, 1, 5])) (.block 0 (.loop (.seq (.seq (.ops 4 [
    (0, ⟨(some 11), none, .mv (.t 5)⟩),
    (1, ⟨(some 12), none, .mv (.t 0)⟩),
    (2, ⟨(some 13), none, .lenS (.t 12)⟩),
    (3, ⟨(some 14), none, .arith .lss (.t 11) (.t 13)⟩)] (some [0, 1, 5, 14])) (.cond (.t 14) .skip (.exit 0))) (.seq (.block 1 (.seq (.ops 9 [
    (0, ⟨(some 17), none, .mv (.t 0)⟩),
    (1, ⟨(some 18), none, .mv (.t 5)⟩),
    (2, ⟨(some 19), none, .idxS 1 (.t 17) (.t 18)⟩),
    (3, ⟨(some 20), none, .load none (.t 19)⟩),
    (4, ⟨(some 21), none, .mv (.t 1)⟩),
    (5, ⟨(some 22), none, .mv (.t 5)⟩),
    (6, ⟨(some 23), none, .idxS 1 (.t 21) (.t 22)⟩),
    (7, ⟨(some 24), none, .load none (.t 23)⟩),
    (8, ⟨(some 25), none, .arith .neq (.t 20) (.t 24)⟩)] (some [0, 1, 5, 25])) (.cond (.t 25) (.seq (.ops 1 [
    (0, ⟨(some 4), none, .mv (.k (.d (.val (.bool false))))⟩)] (some [4])) .ret) .skip))) (.ops 3 [
    (0, ⟨(some 15), none, .mv (.t 5)⟩),
    (1, ⟨(some 16), none, .arith .add (.t 15) (.k (.d (.val (.int .i64 1))))⟩),
    (2, ⟨(some 5), none, .mv (.t 16)⟩)] (some [0, 1, 5]))))))) (.seq (.ops 1 [
    (0, ⟨(some 4), none, .mv (.k (.d (.val (.bool true))))⟩)] (some [4])) .ret))))
def md35 : FuncId → Option Nat × Bool
  | _ => (none, false)
def od35 : Nat → List (List Nat) × List Nat × Option (List Nat)
  | 0 => ([], [], some [0, 1])
  | 1 => ([], [], some [0, 1, 10])
  | 2 => ([], [], some [4])
  | 3 => ([], [], some [0, 1, 5])
  | 4 => ([], [], some [0, 1, 5, 14])
  | 5 => ([], [], some [0, 1, 5])
  | 6 => ([[], [], [0, 1], [0, 1, 2], [], [], [4, 5], [4, 5, 6], [0, 1, 2, 3, 4, 5, 6, 7]], [0, 1, 2, 3, 4, 5, 6, 7, 8], some [0, 1, 5, 25])
  | 7 => ([], [], some [4])
  | 8 => ([], [], some [4])
  | _ => ([], [], none)
theorem b35 {ags : List AV} {row : Option (List DV)} {r : AV} {row' nw : Option (List DV)} (hal : ags.length ≤ 26) (hrow : row'.isSome = true → row.isSome = true) (h : xwp Try.prog x35 (retK [.tmp 4] row.isSome r row' nw) (St.init ags row)) : Good Try.prog 35 ags row r row' nw :=
  good_of_body' (md := md35) (od := od35) Try.f35 (by kernel_rfl) (by kernel_rfl) (by kernel_rfl) (by kernel_rfl) (by kernel_rfl) hal hrow h

def x140 : XC := (.seq (.ops 2 [
    (0, ⟨(some 2), none, .box (.t 0)⟩),
    (1, ⟨(some 4), none, .mv (.k (.d (.val (.int .i64 0))))⟩)] (some [1, 2])) (.seq (.ops 1 [
    (0, ⟨(some 5), none, .mv (.k (.d (.val (.int .i64 1))))⟩)] (some [1, 2, 5])) (.seq (.seq (.ops 1 [
    (0, ⟨(some 6), none, .mv (.k (.d (.val (.int .i64 0))))⟩)] (some [1, 2, 5, 6])) (.block 0 (.loop (.seq (.seq (.ops 10 [
    (0, ⟨(some 7), none, .mv (.t 6)⟩),
    (1, ⟨(some 8), none, .fadd 7 (.t 2)⟩),
    (2, ⟨(some 9), none, .load none (.t 8)⟩),
    (3, ⟨(some 10), none, .lenS (.t 9)⟩),
    (4, ⟨(some 11), none, .arith .lss (.t 7) (.t 10)⟩),
    (5, ⟨(some 12), none, .mv (.t 11)⟩),
    (6, ⟨(some 13), (some (12, true)), .mv (.t 5)⟩),
    (7, ⟨(some 14), (some (12, true)), .mv (.t 1)⟩),
    (8, ⟨(some 15), (some (12, true)), .arith .lss (.t 13) (.t 14)⟩),
    (9, ⟨(some 16), none, .pick (.t 12) (.t 15) (.k (.d (.val (.bool false))))⟩)] (some [1, 2, 5, 6, 16])) (.cond (.t 16) .skip (.exit 0))) (.seq (.block 1 (.ops 12 [
    (0, ⟨(some 19), none, .mv (.t 5)⟩),
    (1, ⟨(some 20), none, .fadd 7 (.t 2)⟩),
    (2, ⟨(some 21), none, .load none (.t 20)⟩),
    (3, ⟨(some 22), none, .mv (.t 6)⟩),
    (4, ⟨(some 23), none, .idxS 8 (.t 21) (.t 22)⟩),
    (5, ⟨(some 24), none, .load (some 8) (.t 23)⟩),
    (6, ⟨(some 25), none, .mv (.t 1)⟩),
    (7, ⟨(some 26), none, .mv (.t 5)⟩),
    (8, ⟨(some 27), none, .arith .sub (.t 25) (.t 26)⟩),
    (9, ⟨(some 28), none, .call 140 [(.t 24), (.t 27)] none false⟩),
    (10, ⟨(some 29), none, .arith .add (.t 19) (.t 28)⟩),
    (11, ⟨(some 5), none, .mv (.t 29)⟩)] (some [1, 2, 5, 6]))) (.ops 3 [
    (0, ⟨(some 17), none, .mv (.t 6)⟩),
    (1, ⟨(some 18), none, .arith .add (.t 17) (.k (.d (.val (.int .i64 1))))⟩),
    (2, ⟨(some 6), none, .mv (.t 18)⟩)] (some [1, 2, 5, 6]))))))) (.seq (.ops 2 [
    (0, ⟨(some 30), none, .mv (.t 5)⟩),
    (1, ⟨(some 4), none, .mv (.t 30)⟩)] (some [4])) .ret))))
def md140 : FuncId → Option Nat × Bool
  | _ => (none, false)
def od140 : Nat → List (List Nat) × List Nat × Option (List Nat)
  | 0 => ([], [], some [1, 2])
  | 1 => ([], [], some [1, 2, 5])
  | 2 => ([], [], some [1, 2, 5, 6])
  | 3 => ([], [], some [1, 2, 5, 6, 16])
  | 4 => ([], [], some [1, 2, 5, 6])
  | 5 => ([], [], some [1, 2, 5, 6])
  | 6 => ([], [], some [4])
  | _ => ([], [], none)
theorem b140 {ags : List AV} {row : Option (List DV)} {r : AV} {row' nw : Option (List DV)} (hal : ags.length ≤ 31) (hrow : row'.isSome = true → row.isSome = true) (h : xwp Try.prog x140 (retK [.tmp 4] row.isSome r row' nw) (St.init ags row)) : Good Try.prog 140 ags row r row' nw :=
  good_of_body' (md := md140) (od := od140) Try.f140 (by kernel_rfl) (by kernel_rfl) (by kernel_rfl) (by kernel_rfl) (by kernel_rfl) hal hrow h

def x96 : XC := (.seq (.ops 2 [
    (0, ⟨(some 1), none, .box (.t 0)⟩),
    (1, ⟨(some 2), none, .mv (.k (.d (.val (.int .i64 0))))⟩)] (some [1])) (.seq (.ops 3 [
    (0, ⟨(some 3), none, .load (some 8) (.t 1)⟩),
    (1, ⟨(some 4), none, .call 140 [(.t 3), (.k (.d (.val (.int .i64 601))))] none false⟩),
    (2, ⟨(some 2), none, .mv (.t 4)⟩)] (some [2])) .ret))
def md96 : FuncId → Option Nat × Bool
  | _ => (none, false)
def od96 : Nat → List (List Nat) × List Nat × Option (List Nat)
  | 0 => ([], [], some [1])
  | 1 => ([], [], some [2])
  | _ => ([], [], none)
theorem b96 {ags : List AV} {row : Option (List DV)} {r : AV} {row' nw : Option (List DV)} (hal : ags.length ≤ 5) (hrow : row'.isSome = true → row.isSome = true) (h : xwp Try.prog x96 (retK [.tmp 2] row.isSome r row' nw) (St.init ags row)) : Good Try.prog 96 ags row r row' nw :=
  good_of_body' (md := md96) (od := od96) Try.f96 (by kernel_rfl) (by kernel_rfl) (by kernel_rfl) (by kernel_rfl) (by kernel_rfl) hal hrow h

def x45 : XC := (.seq (.ops 2 [
    (0, ⟨(some 1), none, .box (.t 0)⟩),
    (1, ⟨(some 2), none, .mv (.k (.d (.val (.bool false))))⟩)] (some [1])) (.seq (.ops 4 [
    (0, ⟨(some 3), none, .load (some 8) (.t 1)⟩),
    (1, ⟨(some 4), none, .call 96 [(.t 3)] none false⟩),
    (2, ⟨(some 5), none, .arith .leq (.t 4) (.k (.d (.val (.int .i64 200))))⟩),
    (3, ⟨(some 2), none, .mv (.t 5)⟩)] (some [2])) .ret))
def md45 : FuncId → Option Nat × Bool
  | _ => (none, false)
def od45 : Nat → List (List Nat) × List Nat × Option (List Nat)
  | 0 => ([], [], some [1])
  | 1 => ([], [], some [2])
  | _ => ([], [], none)
theorem b45 {ags : List AV} {row : Option (List DV)} {r : AV} {row' nw : Option (List DV)} (hal : ags.length ≤ 6) (hrow : row'.isSome = true → row.isSome = true) (h : xwp Try.prog x45 (retK [.tmp 2] row.isSome r row' nw) (St.init ags row)) : Good Try.prog 45 ags row r row' nw :=
  good_of_body' (md := md45) (od := od45) Try.f45 (by kernel_rfl) (by kernel_rfl) (by kernel_rfl) (by kernel_rfl) (by kernel_rfl) hal hrow h

set_option maxRecDepth 100000
set_option maxHeartbeats 4000000
attribute [local irreducible] W E R KP thenK blockK retK Good xwp aRun
theorem same_good (L M : List Int) (hL : L.length ≤ 1000001) : Good Try.prog 35 [.d (.sl (encI L) L.length), .d (.sl (encI M) M.length)] none (.b (decide (L = M))) none none := by
  refine b35 (by simp) (by simp) (w_init ?_)
  unfold x35
  by_cases hlen : L.length = M.length
  case neg =>
    repeat' (first
    | (apply r_mvV; rfl)
    | (apply r_mvP; rfl)
    | (apply r_mvPL; rfl)
    | (apply r_mvS; rfl)
    | (apply r_mvSL; rfl)
    | (apply r_mvA; rfl)
    | (apply r_mvT; rfl)
    | (apply r_mvF; rfl)
    | (apply r_mvD; rfl)
    | (apply r_ldL; rfl; rfl; rfl)
    | (apply r_neq; rfl; rfl; (first | (apply decide_eq_true; omega) | (apply decide_eq_false; omega) | rfl))
    | (apply r_lss; rfl; rfl; (first | (apply decide_eq_true; omega) | (apply decide_eq_false; omega) | rfl))
    | (apply r_add; rfl; rfl; rfl; omega)
    | (apply r_lenD; rfl)
    | (apply r_lenL; rfl)
    | (apply r_len0; rfl)
    | (apply r_p; rfl)
    | (apply r_nilK)
    | (apply r_nil)
    | (apply k_V; rfl)
    | (apply k_P; rfl)
    | (apply k_PL; rfl)
    | (apply k_S; rfl)
    | (apply k_SL; rfl)
    | (apply k_A; rfl)
    | (apply k_T; rfl)
    | (apply k_F; rfl)
    | (apply k_D; rfl; rotate_left; rfl)
    | (apply k_nil)
    | (apply e_ret (vs := [.d (.val _)]); rfl)
    | (apply e_ret; rfl)
    | (apply e_ret' (vs := [.d (.val _)]); rfl)
    | (apply e_ret'; rfl)
    | (apply w_seq)
    | (apply w_ops; ((conv => lhs; simp only [Nat.reduceAdd]) <;> rfl))
    | (apply w_condT; rfl)
    | (apply w_condF; rfl)
    | ((apply w_condS; rfl) <;> (intro h; try simp only [decide_eq_true_eq, decide_eq_false_iff_not, Bool.not_eq_true, Bool.not_eq_false] at h))
    | (apply e_thenN)
    | (apply w_block)
    | (apply e_thenR)
    | (apply e_thenX)
    | (apply e_blkN)
    | (apply e_blkR)
    | (apply e_blkE)
    | (apply w_exit)
    | (apply w_ret)
    | (apply w_skip)
    | (apply e_blkE'; rfl))
    refine retB ?_
    have : L ≠ M := fun e => hlen (by rw [e])
    simp [this]
  repeat' (first
    | (apply r_mvV; rfl)
    | (apply r_mvP; rfl)
    | (apply r_mvPL; rfl)
    | (apply r_mvS; rfl)
    | (apply r_mvSL; rfl)
    | (apply r_mvA; rfl)
    | (apply r_mvT; rfl)
    | (apply r_mvF; rfl)
    | (apply r_mvD; rfl)
    | (apply r_ldL; rfl; rfl; rfl)
    | (apply r_neq; rfl; rfl; (first | (apply decide_eq_true; omega) | (apply decide_eq_false; omega) | rfl))
    | (apply r_lss; rfl; rfl; (first | (apply decide_eq_true; omega) | (apply decide_eq_false; omega) | rfl))
    | (apply r_add; rfl; rfl; rfl; omega)
    | (apply r_lenD; rfl)
    | (apply r_lenL; rfl)
    | (apply r_len0; rfl)
    | (apply r_p; rfl)
    | (apply r_nilK)
    | (apply r_nil)
    | (apply k_V; rfl)
    | (apply k_P; rfl)
    | (apply k_PL; rfl)
    | (apply k_S; rfl)
    | (apply k_SL; rfl)
    | (apply k_A; rfl)
    | (apply k_T; rfl)
    | (apply k_F; rfl)
    | (apply k_D; rfl; rotate_left; rfl)
    | (apply k_nil)
    | (apply e_ret (vs := [.d (.val _)]); rfl)
    | (apply e_ret; rfl)
    | (apply e_ret' (vs := [.d (.val _)]); rfl)
    | (apply e_ret'; rfl)
    | (apply w_seq)
    | (apply w_ops; ((conv => lhs; simp only [Nat.reduceAdd]) <;> rfl))
    | (apply w_condT; rfl)
    | (apply w_condF; rfl)
    | ((apply w_condS; rfl) <;> (intro h; try simp only [decide_eq_true_eq, decide_eq_false_iff_not, Bool.not_eq_true, Bool.not_eq_false] at h))
    | (apply e_thenN)
    | (apply w_block)
    | (apply e_thenR)
    | (apply e_thenX)
    | (apply e_blkN)
    | (apply e_blkR)
    | (apply e_blkE)
    | (apply w_exit)
    | (apply w_ret)
    | (apply w_skip)
    | (apply e_blkE'; rfl))
  apply w_loopI (S := fun i : Nat => ⟨((Fr.nil.put 0 (.d (.sl (encI L) L.length))).put 1 (.d (.sl (encI M) M.length))).put 5 (.i i), Heap.nil, Frz.lo 100, 100⟩) (m := fun i => L.length - i) (I := fun i => i ≤ L.length ∧ L.take i = M.take i) (i0 := 0)
  · exact ⟨Nat.zero_le _, rfl⟩
  · exact wk0 (by omega) (FWk.i rfl rfl (FWk.d rfl rfl (FWk.d rfl rfl FWk.nil)))
  intro i K hi hK
  dsimp only
  rcases Nat.lt_or_ge i L.length with hlt | hge
  · have hlt2 : i < M.length := by omega
    have hg := List.getElem?_eq_getElem hlt
    have hg2 := List.getElem?_eq_getElem hlt2
    repeat' (first
    | (apply r_mvV; rfl)
    | (apply r_mvP; rfl)
    | (apply r_mvPL; rfl)
    | (apply r_mvS; rfl)
    | (apply r_mvSL; rfl)
    | (apply r_mvA; rfl)
    | (apply r_mvT; rfl)
    | (apply r_mvF; rfl)
    | (apply r_mvD; rfl)
    | (apply r_ixI (j := i); rfl; rfl; rfl; rfl; omega)
    | (apply r_ldI; rfl; exact hg)
    | (apply r_ldI; rfl; exact hg2)
    | (apply r_ldL; rfl; rfl; rfl)
    | (apply r_neq; rfl; rfl; (first | (apply decide_eq_true; omega) | (apply decide_eq_false; omega) | rfl))
    | (apply r_lss; rfl; rfl; (first | (apply decide_eq_true; omega) | (apply decide_eq_false; omega) | rfl))
    | (apply r_add; rfl; rfl; rfl; omega)
    | (apply r_lenD; rfl)
    | (apply r_lenL; rfl)
    | (apply r_len0; rfl)
    | (apply r_p; rfl)
    | (apply r_nilK)
    | (apply r_nil)
    | (apply k_V; rfl)
    | (apply k_P; rfl)
    | (apply k_PL; rfl)
    | (apply k_S; rfl)
    | (apply k_SL; rfl)
    | (apply k_A; rfl)
    | (apply k_T; rfl)
    | (apply k_F; rfl)
    | (apply k_D; rfl; rotate_left; rfl)
    | (apply k_nil)
    | (apply e_ret (vs := [.d (.val _)]); rfl)
    | (apply e_ret; rfl)
    | (apply e_ret' (vs := [.d (.val _)]); rfl)
    | (apply e_ret'; rfl)
    | (apply w_seq)
    | (apply w_ops; ((conv => lhs; simp only [Nat.reduceAdd]) <;> rfl))
    | (apply w_condT; rfl)
    | (apply w_condF; rfl)
    | ((apply w_condS; rfl) <;> (intro h; try simp only [decide_eq_true_eq, decide_eq_false_iff_not, Bool.not_eq_true, Bool.not_eq_false] at h))
    | (apply e_thenN)
    | (apply w_block)
    | (apply e_thenR)
    | (apply e_thenX)
    | (apply e_blkN)
    | (apply e_blkR)
    | (apply e_blkE)
    | (apply w_exit)
    | (apply w_ret)
    | (apply w_skip)
    | (apply e_blkE'; rfl))
    · refine retB ?_
      have : L ≠ M := fun e => by subst e; exact absurd rfl h
      simp [this]
    · apply e_thenK
      apply hK (i + 1)
      · refine ⟨by omega, ?_⟩
        rw [List.take_succ_eq_append_getElem hlt, List.take_succ_eq_append_getElem hlt2, hi.2, show L[i] = M[i] by simpa using h]
      · omega
      · exact wk0 (by omega) (FWk.i rfl (by simp) (FWk.d rfl rfl (FWk.d rfl rfl FWk.nil)))
  · repeat' (first
    | (apply r_mvV; rfl)
    | (apply r_mvP; rfl)
    | (apply r_mvPL; rfl)
    | (apply r_mvS; rfl)
    | (apply r_mvSL; rfl)
    | (apply r_mvA; rfl)
    | (apply r_mvT; rfl)
    | (apply r_mvF; rfl)
    | (apply r_mvD; rfl)
    | (apply r_ldL; rfl; rfl; rfl)
    | (apply r_neq; rfl; rfl; (first | (apply decide_eq_true; omega) | (apply decide_eq_false; omega) | rfl))
    | (apply r_lss; rfl; rfl; (first | (apply decide_eq_true; omega) | (apply decide_eq_false; omega) | rfl))
    | (apply r_add; rfl; rfl; rfl; omega)
    | (apply r_lenD; rfl)
    | (apply r_lenL; rfl)
    | (apply r_len0; rfl)
    | (apply r_p; rfl)
    | (apply r_nilK)
    | (apply r_nil)
    | (apply k_V; rfl)
    | (apply k_P; rfl)
    | (apply k_PL; rfl)
    | (apply k_S; rfl)
    | (apply k_SL; rfl)
    | (apply k_A; rfl)
    | (apply k_T; rfl)
    | (apply k_F; rfl)
    | (apply k_D; rfl; rotate_left; rfl)
    | (apply k_nil)
    | (apply e_ret (vs := [.d (.val _)]); rfl)
    | (apply e_ret; rfl)
    | (apply e_ret' (vs := [.d (.val _)]); rfl)
    | (apply e_ret'; rfl)
    | (apply w_seq)
    | (apply w_ops; ((conv => lhs; simp only [Nat.reduceAdd]) <;> rfl))
    | (apply w_condT; rfl)
    | (apply w_condF; rfl)
    | ((apply w_condS; rfl) <;> (intro h; try simp only [decide_eq_true_eq, decide_eq_false_iff_not, Bool.not_eq_true, Bool.not_eq_false] at h))
    | (apply e_thenN)
    | (apply w_block)
    | (apply e_thenR)
    | (apply e_thenX)
    | (apply e_blkN)
    | (apply e_blkR)
    | (apply e_blkE)
    | (apply w_exit)
    | (apply w_ret)
    | (apply w_skip)
    | (apply e_blkE'; rfl))
    refine retB ?_
    have h1 := hi.2
    rw [List.take_of_length_le (by omega), List.take_of_length_le (by omega)] at h1
    simp [h1]
mutual
def sizeT : T → Int → Int
  | .node _ _ _ _ _ _ _ subs, most => sizeL subs most 1
def sizeL : List T → Int → Int → Int
  | [], _, k => k
  | t :: l, most, k => if k < most then sizeL l most (k + sizeT t (most - k)) else k
end
mutual
theorem sizeT_le : ∀ (t : T) (most : Int), 1 ≤ sizeT t most ∧ sizeT t most ≤ max 1 most
  | .node _ _ _ _ _ _ _ subs, most => by
    have := sizeL_le subs most 1
    simp only [sizeT]; omega
theorem sizeL_le : ∀ (l : List T) (most k : Int), k ≤ sizeL l most k ∧ sizeL l most k ≤ max k most
  | [], most, k => by simp only [sizeL]; omega
  | t :: l, most, k => by
    simp only [sizeL]
    split
    · have h1 := sizeT_le t (most - k)
      have h2 := sizeL_le l most (k + sizeT t (most - k))
      omega
    · omega
end
theorem sizeL_drop (l : List T) (most k : Int) (i : Nat) (h : i < l.length) : sizeL (l.drop i) most k = if k < most then sizeL (l.drop (i + 1)) most (k + sizeT l[i] (most - k)) else k := by
  rw [List.drop_eq_getElem_cons h, sizeL]
theorem nrm_TI (t : T) (m : Int) : [nodeA t, AV.i m].all AV.nrm = true := by
  have h2 : AV.nrm (AV.i m) = true := rfl
  simp only [List.all_cons, List.all_nil, nodeA_nrm, h2, Bool.and_self]
theorem size_good : ∀ (n : Nat) (t : T), t.cnt ≤ n → ∀ most : Int, most ≤ 601 → Good Try.prog 140 [nodeA t, .i most] none (.i (sizeT t most)) none none := by
  intro n
  induction n with
  | zero => intro t ht; have := cnt_pos t; omega
  | succ n ih =>
  intro t ht most hmost
  obtain ⟨k, a, b, c, d, mn, mx, subs⟩ := t
  have ih' : ∀ i (h : i < subs.length) (m : Int), m ≤ 601 → Good Try.prog 140 [nodeA subs[i], .i m] none (.i (sizeT subs[i] m)) none none := by
    intro i h m hm
    refine ih _ ?_ m hm
    have := cntL_get subs i h
    simp only [T.cnt] at ht
    omega
  have e0 : nodeA (.node k a b c d mn mx subs) = .agg [.i k, .d (.val (.int .u64 a)), .d (.val (.int .u64 b)), .d (.val (.int .u64 c)), .d (.val (.int .u64 d)), .i mn, .i mx, .d (.sl (encL subs) subs.length)] := rfl
  rw [e0]
  refine b140 (by simp) (by simp) (w_init ?_)
  unfold x140
  repeat' (first
    | (apply r_mvV; rfl)
    | (apply r_mvP; rfl)
    | (apply r_mvPL; rfl)
    | (apply r_mvS; rfl)
    | (apply r_mvSL; rfl)
    | (apply r_mvA; rfl)
    | (apply r_mvT; rfl)
    | (apply r_mvF; rfl)
    | (apply r_mvD; rfl)
    | (apply r_faddD; rfl)
    | (apply r_faddL; rfl)
    | (apply r_l; apply ld_kind; assumption; rfl)
    | (apply r_l; apply ld_mn; assumption; rfl)
    | (apply r_l; apply ld_mx; assumption; rfl)
    | (apply r_l; apply ld_subs; assumption; rfl)
    | (apply r_l; apply ld_set; assumption; rfl)
    | (apply r_l; apply ld_node; assumption; rfl)
    | (apply r_l; apply ld_kind'; assumption; rfl)
    | (apply r_l; apply ld_mn'; assumption; rfl)
    | (apply r_l; apply ld_mx'; assumption; rfl)
    | (apply r_l; apply ld_subs'; assumption; rfl)
    | (apply r_l; apply ld_node'; assumption; rfl)
    | (apply r_ldL; rfl; rfl; rfl)
    | (apply r_lss; rfl; rfl; (first | (apply decide_eq_true; omega) | (apply decide_eq_false; omega) | rfl))
    | (apply r_add; rfl; rfl; rfl; omega)
    | (apply r_sub; rfl; rfl; rfl; omega)
    | (apply r_pickT; rfl)
    | (apply r_pickF; rfl)
    | (apply r_lenD; rfl)
    | (apply r_lenL; rfl)
    | (apply r_len0; rfl)
    | (apply r_gT; rfl)
    | (apply r_gF'; rfl; rfl)
    | (apply r_gN'; rfl)
    | ((apply r_gS (o := default); rfl) <;> (intro h; try simp only [decide_eq_true_eq, decide_eq_false_iff_not, Bool.not_eq_true, Bool.not_eq_false] at h))
    | (apply r_box; ((conv => lhs; simp only [Nat.reduceAdd]) <;> rfl); rfl; rfl; rfl)
    | (apply r_p; rfl)
    | (apply r_nilK)
    | (apply r_nil)
    | (apply k_V; rfl)
    | (apply k_P; rfl)
    | (apply k_PL; rfl)
    | (apply k_S; rfl)
    | (apply k_SL; rfl)
    | (apply k_A; rfl)
    | (apply k_T; rfl)
    | (apply k_F; rfl)
    | (apply k_D; rfl; rotate_left; rfl)
    | (apply k_nil)
    | (apply e_ret (vs := [.d (.val _)]); rfl)
    | (apply e_ret; rfl)
    | (apply e_ret' (vs := [.d (.val _)]); rfl)
    | (apply e_ret'; rfl)
    | (apply w_seq)
    | (apply w_ops; ((conv => lhs; simp only [Nat.reduceAdd]) <;> rfl))
    | (apply w_condT; rfl)
    | (apply w_condF; rfl)
    | ((apply w_condS; rfl) <;> (intro h; try simp only [decide_eq_true_eq, decide_eq_false_iff_not, Bool.not_eq_true, Bool.not_eq_false] at h))
    | (apply e_thenN)
    | (apply w_block)
    | (apply e_thenR)
    | (apply e_thenX)
    | (apply e_blkN)
    | (apply e_blkR)
    | (apply e_blkE)
    | (apply w_exit)
    | (apply w_ret)
    | (apply w_skip)
    | (apply e_blkE'; rfl))
  apply w_loopI (ι := Nat × Int) (S := fun p => ⟨(((Fr.nil.put 1 (.i most)).put 2 (.ptrL 1 0)).put 5 (.i p.2)).put 6 (.i p.1), Heap.nil.put 1 [.i k, .d (.val (.int .u64 a)), .d (.val (.int .u64 b)), .d (.val (.int .u64 c)), .d (.val (.int .u64 d)), .i mn, .i mx, .d (.sl (encL subs) subs.length)], Frz.but 100 1, 100⟩) (m := fun p => subs.length - p.1)
    (I := fun p => p.1 ≤ subs.length ∧ (p.1 : Int) + 1 ≤ p.2 ∧ p.2 ≤ max 1 most ∧ sizeT (.node k a b c d mn mx subs) most = sizeL (subs.drop p.1) most p.2) (i0 := (0, 1))
  · refine ⟨Nat.zero_le _, by simp, by dsimp only; omega, ?_⟩
    simp [sizeT]
  · exact wk1D (by omega) (by omega) rfl rfl rfl (FWk.i rfl rfl (FWk.i rfl rfl (FWk.ptr rfl rfl rfl (by omega) rfl (FWk.i rfl rfl FWk.nil))))
  rintro ⟨i, q⟩ K hi hK
  dsimp only at hi hK ⊢
  rcases Nat.lt_or_ge i subs.length with hlt | hge
  · have hs := NodeAt.sub hlt
    have hd := sizeL_drop subs most q i hlt
    have hb := sizeT_le subs[i] (most - q)
    by_cases hq : q < most
    · rw [if_pos hq] at hd
      repeat' (first
    | (apply r_mvV; rfl)
    | (apply r_mvP; rfl)
    | (apply r_mvPL; rfl)
    | (apply r_mvS; rfl)
    | (apply r_mvSL; rfl)
    | (apply r_mvA; rfl)
    | (apply r_mvT; rfl)
    | (apply r_mvF; rfl)
    | (apply r_mvD; rfl)
    | (apply r_faddD; rfl)
    | (apply r_faddL; rfl)
    | (apply r_l; apply ld_kind; assumption; rfl)
    | (apply r_l; apply ld_mn; assumption; rfl)
    | (apply r_l; apply ld_mx; assumption; rfl)
    | (apply r_l; apply ld_subs; assumption; rfl)
    | (apply r_l; apply ld_set; assumption; rfl)
    | (apply r_l; apply ld_node; assumption; rfl)
    | (apply r_l; apply ld_kind'; assumption; rfl)
    | (apply r_l; apply ld_mn'; assumption; rfl)
    | (apply r_l; apply ld_mx'; assumption; rfl)
    | (apply r_l; apply ld_subs'; assumption; rfl)
    | (apply r_l; apply ld_node'; assumption; rfl)
    | (apply r_p; apply ix_sub; rfl; rfl; omega)
    | (apply r_callA (ags := [nodeA subs[i], .i (most - q)]); rfl; apply nrm_TI; apply ih' i hlt; omega)
    | (apply r_ldL; rfl; rfl; rfl)
    | (apply r_lss; rfl; rfl; (first | (apply decide_eq_true; omega) | (apply decide_eq_false; omega) | rfl))
    | (apply r_add; rfl; rfl; rfl; omega)
    | (apply r_sub; rfl; rfl; rfl; omega)
    | (apply r_pickT; rfl)
    | (apply r_pickF; rfl)
    | (apply r_lenD; rfl)
    | (apply r_lenL; rfl)
    | (apply r_len0; rfl)
    | (apply r_gT; rfl)
    | (apply r_gF'; rfl; rfl)
    | (apply r_gN'; rfl)
    | ((apply r_gS (o := default); rfl) <;> (intro h; try simp only [decide_eq_true_eq, decide_eq_false_iff_not, Bool.not_eq_true, Bool.not_eq_false] at h))
    | (apply r_box; ((conv => lhs; simp only [Nat.reduceAdd]) <;> rfl); rfl; rfl; rfl)
    | (apply r_p; rfl)
    | (apply r_nilK)
    | (apply r_nil)
    | (apply k_V; rfl)
    | (apply k_P; rfl)
    | (apply k_PL; rfl)
    | (apply k_S; rfl)
    | (apply k_SL; rfl)
    | (apply k_A; rfl)
    | (apply k_T; rfl)
    | (apply k_F; rfl)
    | (apply k_D; rfl; rotate_left; rfl)
    | (apply k_nil)
    | (apply e_ret (vs := [.d (.val _)]); rfl)
    | (apply e_ret; rfl)
    | (apply e_ret' (vs := [.d (.val _)]); rfl)
    | (apply e_ret'; rfl)
    | (apply w_seq)
    | (apply w_ops; ((conv => lhs; simp only [Nat.reduceAdd]) <;> rfl))
    | (apply w_condT; rfl)
    | (apply w_condF; rfl)
    | ((apply w_condS; rfl) <;> (intro h; try simp only [decide_eq_true_eq, decide_eq_false_iff_not, Bool.not_eq_true, Bool.not_eq_false] at h))
    | (apply e_thenN)
    | (apply w_block)
    | (apply e_thenR)
    | (apply e_thenX)
    | (apply e_blkN)
    | (apply e_blkR)
    | (apply e_blkE)
    | (apply w_exit)
    | (apply w_ret)
    | (apply w_skip)
    | (apply e_blkE'; rfl))
      apply e_thenK
      apply hK (i + 1, q + sizeT subs[i] (most - q))
      · refine ⟨by omega, by dsimp only; omega, by dsimp only; omega, ?_⟩
        rw [hi.2.2.2, hd]
      · dsimp only; omega
      · exact wk1D (by omega) (by omega) rfl rfl rfl (FWk.i rfl (by simp) (FWk.i rfl rfl (FWk.ptr rfl rfl rfl (by omega) rfl (FWk.i rfl rfl FWk.nil))))
    · rw [if_neg hq] at hd
      repeat' (first
    | (apply r_mvV; rfl)
    | (apply r_mvP; rfl)
    | (apply r_mvPL; rfl)
    | (apply r_mvS; rfl)
    | (apply r_mvSL; rfl)
    | (apply r_mvA; rfl)
    | (apply r_mvT; rfl)
    | (apply r_mvF; rfl)
    | (apply r_mvD; rfl)
    | (apply r_faddD; rfl)
    | (apply r_faddL; rfl)
    | (apply r_l; apply ld_kind; assumption; rfl)
    | (apply r_l; apply ld_mn; assumption; rfl)
    | (apply r_l; apply ld_mx; assumption; rfl)
    | (apply r_l; apply ld_subs; assumption; rfl)
    | (apply r_l; apply ld_set; assumption; rfl)
    | (apply r_l; apply ld_node; assumption; rfl)
    | (apply r_l; apply ld_kind'; assumption; rfl)
    | (apply r_l; apply ld_mn'; assumption; rfl)
    | (apply r_l; apply ld_mx'; assumption; rfl)
    | (apply r_l; apply ld_subs'; assumption; rfl)
    | (apply r_l; apply ld_node'; assumption; rfl)
    | (apply r_ldL; rfl; rfl; rfl)
    | (apply r_lss; rfl; rfl; (first | (apply decide_eq_true; omega) | (apply decide_eq_false; omega) | rfl))
    | (apply r_add; rfl; rfl; rfl; omega)
    | (apply r_sub; rfl; rfl; rfl; omega)
    | (apply r_pickT; rfl)
    | (apply r_pickF; rfl)
    | (apply r_lenD; rfl)
    | (apply r_lenL; rfl)
    | (apply r_len0; rfl)
    | (apply r_gT; rfl)
    | (apply r_gF'; rfl; rfl)
    | (apply r_gN'; rfl)
    | ((apply r_gS (o := default); rfl) <;> (intro h; try simp only [decide_eq_true_eq, decide_eq_false_iff_not, Bool.not_eq_true, Bool.not_eq_false] at h))
    | (apply r_box; ((conv => lhs; simp only [Nat.reduceAdd]) <;> rfl); rfl; rfl; rfl)
    | (apply r_p; rfl)
    | (apply r_nilK)
    | (apply r_nil)
    | (apply k_V; rfl)
    | (apply k_P; rfl)
    | (apply k_PL; rfl)
    | (apply k_S; rfl)
    | (apply k_SL; rfl)
    | (apply k_A; rfl)
    | (apply k_T; rfl)
    | (apply k_F; rfl)
    | (apply k_D; rfl; rotate_left; rfl)
    | (apply k_nil)
    | (apply e_ret (vs := [.d (.val _)]); rfl)
    | (apply e_ret; rfl)
    | (apply e_ret' (vs := [.d (.val _)]); rfl)
    | (apply e_ret'; rfl)
    | (apply w_seq)
    | (apply w_ops; ((conv => lhs; simp only [Nat.reduceAdd]) <;> rfl))
    | (apply w_condT; rfl)
    | (apply w_condF; rfl)
    | ((apply w_condS; rfl) <;> (intro h; try simp only [decide_eq_true_eq, decide_eq_false_iff_not, Bool.not_eq_true, Bool.not_eq_false] at h))
    | (apply e_thenN)
    | (apply w_block)
    | (apply e_thenR)
    | (apply e_thenX)
    | (apply e_blkN)
    | (apply e_blkR)
    | (apply e_blkE)
    | (apply w_exit)
    | (apply w_ret)
    | (apply w_skip)
    | (apply e_blkE'; rfl))
      refine retI ?_
      rw [hi.2.2.2, hd]
  · repeat' (first
    | (apply r_mvV; rfl)
    | (apply r_mvP; rfl)
    | (apply r_mvPL; rfl)
    | (apply r_mvS; rfl)
    | (apply r_mvSL; rfl)
    | (apply r_mvA; rfl)
    | (apply r_mvT; rfl)
    | (apply r_mvF; rfl)
    | (apply r_mvD; rfl)
    | (apply r_faddD; rfl)
    | (apply r_faddL; rfl)
    | (apply r_l; apply ld_kind; assumption; rfl)
    | (apply r_l; apply ld_mn; assumption; rfl)
    | (apply r_l; apply ld_mx; assumption; rfl)
    | (apply r_l; apply ld_subs; assumption; rfl)
    | (apply r_l; apply ld_set; assumption; rfl)
    | (apply r_l; apply ld_node; assumption; rfl)
    | (apply r_l; apply ld_kind'; assumption; rfl)
    | (apply r_l; apply ld_mn'; assumption; rfl)
    | (apply r_l; apply ld_mx'; assumption; rfl)
    | (apply r_l; apply ld_subs'; assumption; rfl)
    | (apply r_l; apply ld_node'; assumption; rfl)
    | (apply r_ldL; rfl; rfl; rfl)
    | (apply r_lss; rfl; rfl; (first | (apply decide_eq_true; omega) | (apply decide_eq_false; omega) | rfl))
    | (apply r_add; rfl; rfl; rfl; omega)
    | (apply r_sub; rfl; rfl; rfl; omega)
    | (apply r_pickT; rfl)
    | (apply r_pickF; rfl)
    | (apply r_lenD; rfl)
    | (apply r_lenL; rfl)
    | (apply r_len0; rfl)
    | (apply r_gT; rfl)
    | (apply r_gF'; rfl; rfl)
    | (apply r_gN'; rfl)
    | ((apply r_gS (o := default); rfl) <;> (intro h; try simp only [decide_eq_true_eq, decide_eq_false_iff_not, Bool.not_eq_true, Bool.not_eq_false] at h))
    | (apply r_box; ((conv => lhs; simp only [Nat.reduceAdd]) <;> rfl); rfl; rfl; rfl)
    | (apply r_p; rfl)
    | (apply r_nilK)
    | (apply r_nil)
    | (apply k_V; rfl)
    | (apply k_P; rfl)
    | (apply k_PL; rfl)
    | (apply k_S; rfl)
    | (apply k_SL; rfl)
    | (apply k_A; rfl)
    | (apply k_T; rfl)
    | (apply k_F; rfl)
    | (apply k_D; rfl; rotate_left; rfl)
    | (apply k_nil)
    | (apply e_ret (vs := [.d (.val _)]); rfl)
    | (apply e_ret; rfl)
    | (apply e_ret' (vs := [.d (.val _)]); rfl)
    | (apply e_ret'; rfl)
    | (apply w_seq)
    | (apply w_ops; ((conv => lhs; simp only [Nat.reduceAdd]) <;> rfl))
    | (apply w_condT; rfl)
    | (apply w_condF; rfl)
    | ((apply w_condS; rfl) <;> (intro h; try simp only [decide_eq_true_eq, decide_eq_false_iff_not, Bool.not_eq_true, Bool.not_eq_false] at h))
    | (apply e_thenN)
    | (apply w_block)
    | (apply e_thenR)
    | (apply e_thenX)
    | (apply e_blkN)
    | (apply e_blkR)
    | (apply e_blkE)
    | (apply w_exit)
    | (apply w_ret)
    | (apply w_skip)
    | (apply e_blkE'; rfl))
    refine retI ?_
    rw [hi.2.2.2, List.drop_of_length_le (by omega), sizeL]
theorem size96_good (t : T) : Good Try.prog 96 [nodeA t] none (.i (sizeT t 601)) none none := by
  have := size_good _ t (Nat.le_refl _) 601 (by omega)
  obtain ⟨k, a, b, c, d, mn, mx, subs⟩ := t
  have e0 : nodeA (.node k a b c d mn mx subs) = .agg [.i k, .d (.val (.int .u64 a)), .d (.val (.int .u64 b)), .d (.val (.int .u64 c)), .d (.val (.int .u64 d)), .i mn, .i mx, .d (.sl (encL subs) subs.length)] := rfl
  rw [e0] at this ⊢
  refine b96 (by simp) (by simp) (w_init ?_)
  unfold x96
  repeat' (first
    | (apply r_mvV; rfl)
    | (apply r_mvP; rfl)
    | (apply r_mvPL; rfl)
    | (apply r_mvS; rfl)
    | (apply r_mvSL; rfl)
    | (apply r_mvA; rfl)
    | (apply r_mvT; rfl)
    | (apply r_mvF; rfl)
    | (apply r_mvD; rfl)
    | (apply r_l; apply ld_kind; assumption; rfl)
    | (apply r_l; apply ld_mn; assumption; rfl)
    | (apply r_l; apply ld_mx; assumption; rfl)
    | (apply r_l; apply ld_subs; assumption; rfl)
    | (apply r_l; apply ld_set; assumption; rfl)
    | (apply r_l; apply ld_node; assumption; rfl)
    | (apply r_l; apply ld_kind'; assumption; rfl)
    | (apply r_l; apply ld_mn'; assumption; rfl)
    | (apply r_l; apply ld_mx'; assumption; rfl)
    | (apply r_l; apply ld_subs'; assumption; rfl)
    | (apply r_l; apply ld_node'; assumption; rfl)
    | (apply r_callA; rfl; rfl; exact this)
    | (apply r_ldL; rfl; rfl; rfl)
    | (apply r_box; ((conv => lhs; simp only [Nat.reduceAdd]) <;> rfl); rfl; rfl; rfl)
    | (apply r_nilK)
    | (apply r_nil)
    | (apply k_V; rfl)
    | (apply k_P; rfl)
    | (apply k_PL; rfl)
    | (apply k_S; rfl)
    | (apply k_SL; rfl)
    | (apply k_A; rfl)
    | (apply k_T; rfl)
    | (apply k_F; rfl)
    | (apply k_D; rfl; rotate_left; rfl)
    | (apply k_nil)
    | (apply e_ret (vs := [.d (.val _)]); rfl)
    | (apply e_ret; rfl)
    | (apply e_ret' (vs := [.d (.val _)]); rfl)
    | (apply e_ret'; rfl)
    | (apply w_seq)
    | (apply w_ops; ((conv => lhs; simp only [Nat.reduceAdd]) <;> rfl))
    | (apply e_thenN)
    | (apply w_block)
    | (apply e_thenR)
    | (apply e_thenX)
    | (apply e_blkN)
    | (apply e_blkR)
    | (apply e_blkE)
    | (apply w_exit)
    | (apply w_ret)
    | (apply w_skip)
    | (apply e_blkE'; rfl))
  exact retI rfl
theorem few_good (t : T) : Good Try.prog 45 [nodeA t] none (.b (decide (sizeT t 601 ≤ 200))) none none := by
  have := size96_good t
  obtain ⟨k, a, b, c, d, mn, mx, subs⟩ := t
  have e0 : nodeA (.node k a b c d mn mx subs) = .agg [.i k, .d (.val (.int .u64 a)), .d (.val (.int .u64 b)), .d (.val (.int .u64 c)), .d (.val (.int .u64 d)), .i mn, .i mx, .d (.sl (encL subs) subs.length)] := rfl
  rw [e0] at this ⊢
  refine b45 (by simp) (by simp) (w_init ?_)
  unfold x45
  repeat' (first
    | (apply r_mvV; rfl)
    | (apply r_mvP; rfl)
    | (apply r_mvPL; rfl)
    | (apply r_mvS; rfl)
    | (apply r_mvSL; rfl)
    | (apply r_mvA; rfl)
    | (apply r_mvT; rfl)
    | (apply r_mvF; rfl)
    | (apply r_mvD; rfl)
    | (apply r_l; apply ld_kind; assumption; rfl)
    | (apply r_l; apply ld_mn; assumption; rfl)
    | (apply r_l; apply ld_mx; assumption; rfl)
    | (apply r_l; apply ld_subs; assumption; rfl)
    | (apply r_l; apply ld_set; assumption; rfl)
    | (apply r_l; apply ld_node; assumption; rfl)
    | (apply r_l; apply ld_kind'; assumption; rfl)
    | (apply r_l; apply ld_mn'; assumption; rfl)
    | (apply r_l; apply ld_mx'; assumption; rfl)
    | (apply r_l; apply ld_subs'; assumption; rfl)
    | (apply r_l; apply ld_node'; assumption; rfl)
    | (apply r_callA; rfl; rfl; exact this)
    | (apply r_ldL; rfl; rfl; rfl)
    | (apply r_leq; rfl; rfl; (first | (apply decide_eq_true; omega) | (apply decide_eq_false; omega) | rfl))
    | (apply r_box; ((conv => lhs; simp only [Nat.reduceAdd]) <;> rfl); rfl; rfl; rfl)
    | (apply r_nilK)
    | (apply r_nil)
    | (apply k_V; rfl)
    | (apply k_P; rfl)
    | (apply k_PL; rfl)
    | (apply k_S; rfl)
    | (apply k_SL; rfl)
    | (apply k_A; rfl)
    | (apply k_T; rfl)
    | (apply k_F; rfl)
    | (apply k_D; rfl; rotate_left; rfl)
    | (apply k_nil)
    | (apply e_ret (vs := [.d (.val _)]); rfl)
    | (apply e_ret; rfl)
    | (apply e_ret' (vs := [.d (.val _)]); rfl)
    | (apply e_ret'; rfl)
    | (apply w_seq)
    | (apply w_ops; ((conv => lhs; simp only [Nat.reduceAdd]) <;> rfl))
    | (apply e_thenN)
    | (apply w_block)
    | (apply e_thenR)
    | (apply e_thenX)
    | (apply e_blkN)
    | (apply e_blkR)
    | (apply e_blkE)
    | (apply w_exit)
    | (apply w_ret)
    | (apply w_skip)
    | (apply e_blkE'; rfl))
  all_goals (refine retB ?_; first | rfl | (simp; omega))
mutual
theorem sizeT_cnt : ∀ (t : T) (most : Int), sizeT t most < most → sizeT t most = t.cnt
  | .node _ _ _ _ _ _ _ subs, most, h => by
    simp only [sizeT] at h ⊢
    rw [sizeL_cnt subs most 1 h, T.cnt]; omega
theorem sizeL_cnt : ∀ (l : List T) (most k : Int), sizeL l most k < most → sizeL l most k = k + cntL l
  | [], most, k, h => by simp [sizeL, cntL]
  | t :: l, most, k, h => by
    simp only [sizeL] at h ⊢
    split at h
    · rename_i hk
      rw [if_pos hk]
      have h2 := sizeL_le l most (k + sizeT t (most - k))
      rw [sizeL_cnt l most _ h, sizeT_cnt t (most - k) (by omega), cntL]
      omega
    · omega
end
end Go.Sv
namespace Go.Sv
open Go Go.Proofs
def x38 : XC := (.seq (.ops 2 [
    (0, ⟨(some 1), none, .box (.t 0)⟩),
    (1, ⟨(some 2), none, .mv (.k (.d (.val (.int .i64 0))))⟩)] (some [1])) (.seq (.ops 1 [
    (0, ⟨(some 3), none, .mv (.k (.d (.val (.int .i64 1))))⟩)] (some [1, 3])) (.seq (.seq (.ops 1 [
    (0, ⟨(some 4), none, .mv (.k (.d (.val (.int .i64 0))))⟩)] (some [1, 3, 4])) (.block 0 (.loop (.seq (.seq (.ops 5 [
    (0, ⟨(some 6), none, .mv (.t 4)⟩),
    (1, ⟨(some 7), none, .fadd 7 (.t 1)⟩),
    (2, ⟨(some 8), none, .load none (.t 7)⟩),
    (3, ⟨(some 9), none, .lenS (.t 8)⟩),
    (4, ⟨(some 10), none, .arith .lss (.t 6) (.t 9)⟩)] (some [1, 3, 4, 10])) (.cond (.t 10) .skip (.exit 0))) (.seq (.block 1 (.seq (.ops 7 [
    (0, ⟨(some 13), none, .fadd 7 (.t 1)⟩),
    (1, ⟨(some 14), none, .load none (.t 13)⟩),
    (2, ⟨(some 15), none, .mv (.t 4)⟩),
    (3, ⟨(some 16), none, .idxS 8 (.t 14) (.t 15)⟩),
    (4, ⟨(some 17), none, .load (some 8) (.t 16)⟩),
    (5, ⟨(some 18), none, .call 38 [(.t 17)] none false⟩),
    (6, ⟨(some 5), none, .mv (.t 18)⟩)] (some [1, 3, 4, 5])) (.seq (.seq (.ops 8 [
    (0, ⟨(some 19), none, .fadd 0 (.t 1)⟩),
    (1, ⟨(some 20), none, .load none (.t 19)⟩),
    (2, ⟨(some 21), none, .arith .eql (.t 20) (.k (.d (.val (.int .i64 5))))⟩),
    (3, ⟨(some 22), none, .mv (.t 21)⟩),
    (4, ⟨(some 23), (some (22, true)), .fadd 6 (.t 1)⟩),
    (5, ⟨(some 24), (some (22, true)), .load none (.t 23)⟩),
    (6, ⟨(some 25), (some (22, true)), .arith .eql (.t 24) (.k (.d (.val (.int .i64 (-1)))))⟩),
    (7, ⟨(some 26), none, .pick (.t 22) (.t 25) (.k (.d (.val (.bool false))))⟩)] (some [1, 3, 4, 5, 26])) (.cond (.t 26) (.ops 7 [
    (0, ⟨(some 27), none, .mv (.t 5)⟩),
    (1, ⟨(some 28), none, .fadd 5 (.t 1)⟩),
    (2, ⟨(some 29), none, .load none (.t 28)⟩),
    (3, ⟨(some 30), none, .arith .add (.t 29) (.k (.d (.val (.int .i64 1))))⟩),
    (4, ⟨(some 31), none, .arith .mul (.t 27) (.t 30)⟩),
    (5, ⟨(some 32), none, .arith .add (.t 31) (.k (.d (.val (.int .i64 1))))⟩),
    (6, ⟨(some 5), none, .mv (.t 32)⟩)] (some [1, 3, 4, 5])) (.seq (.ops 3 [
    (0, ⟨(some 33), none, .fadd 0 (.t 1)⟩),
    (1, ⟨(some 34), none, .load none (.t 33)⟩),
    (2, ⟨(some 35), none, .arith .eql (.t 34) (.k (.d (.val (.int .i64 5))))⟩)] (some [1, 3, 4, 5, 35])) (.cond (.t 35) (.ops 6 [
    (0, ⟨(some 36), none, .mv (.t 5)⟩),
    (1, ⟨(some 37), none, .arith .add (.t 36) (.k (.d (.val (.int .i64 2))))⟩),
    (2, ⟨(some 38), none, .fadd 6 (.t 1)⟩),
    (3, ⟨(some 39), none, .load none (.t 38)⟩),
    (4, ⟨(some 40), none, .arith .mul (.t 37) (.t 39)⟩),
    (5, ⟨(some 5), none, .mv (.t 40)⟩)] (some [1, 3, 4, 5])) .skip)))) (.ops 5 [
    (0, ⟨(some 41), none, .mv (.t 3)⟩),
    (1, ⟨(some 42), none, .mv (.t 5)⟩),
    (2, ⟨(some 43), none, .arith .add (.t 41) (.t 42)⟩),
    (3, ⟨(some 44), none, .min [(.t 43), (.k (.d (.val (.int .i64 1073741824))))]⟩),
    (4, ⟨(some 3), none, .mv (.t 44)⟩)] (some [1, 3, 4]))))) (.ops 3 [
    (0, ⟨(some 11), none, .mv (.t 4)⟩),
    (1, ⟨(some 12), none, .arith .add (.t 11) (.k (.d (.val (.int .i64 1))))⟩),
    (2, ⟨(some 4), none, .mv (.t 12)⟩)] (some [1, 3, 4]))))))) (.seq (.ops 2 [
    (0, ⟨(some 45), none, .mv (.t 3)⟩),
    (1, ⟨(some 2), none, .mv (.t 45)⟩)] (some [2])) .ret))))
def md38 : FuncId → Option Nat × Bool
  | _ => (none, false)
def od38 : Nat → List (List Nat) × List Nat × Option (List Nat)
  | 0 => ([], [], some [1])
  | 1 => ([], [], some [1, 3])
  | 2 => ([], [], some [1, 3, 4])
  | 3 => ([], [], some [1, 3, 4, 10])
  | 4 => ([], [], some [1, 3, 4])
  | 5 => ([], [], some [1, 3, 4, 5])
  | 6 => ([], [], some [1, 3, 4, 5, 26])
  | 7 => ([], [], some [1, 3, 4, 5])
  | 8 => ([], [], some [1, 3, 4, 5, 35])
  | 9 => ([], [], some [1, 3, 4, 5])
  | 10 => ([], [], some [1, 3, 4])
  | 11 => ([], [], some [2])
  | _ => ([], [], none)
theorem b38 {ags : List AV} {row : Option (List DV)} {r : AV} {row' nw : Option (List DV)} (hal : ags.length ≤ 46) (hrow : row'.isSome = true → row.isSome = true) (h : xwp Try.prog x38 (retK [.tmp 2] row.isSome r row' nw) (St.init ags row)) : Good Try.prog 38 ags row r row' nw :=
  good_of_body' (md := md38) (od := od38) Try.f38 (by kernel_rfl) (by kernel_rfl) (by kernel_rfl) (by kernel_rfl) (by kernel_rfl) hal hrow h

section
variable {P : Program} {Q : Cont} {fr : Fr} {C : Heap} {Z : Frz} {nx : Nat} {base n d : Nat} {l : List (Nat × XO)} {kp : Option (List Nat)} {x i y s : X}
theorem r_mul {a b c : Int} (hx : x.ev fr = .i a) (hy : y.ev fr = .i b) (hc : a * b = c) (hr : -9223372036854775808 ≤ c ∧ c < 9223372036854775808) (k : R P l base kp Q nx (fr.put d (.i c)) C Z) : R P ((n, ⟨some d, none, .arith .mul x y⟩) :: l) base kp Q nx fr C Z :=
  s_p (by simp [xp, hx, hy, arith, hc, wrap_in hr]) k
theorem mul_in {a b u v : Int} (ha : 0 ≤ a ∧ a ≤ u) (hb : 0 ≤ b ∧ b ≤ v) : 0 ≤ a * b ∧ a * b ≤ u * v :=
  ⟨Int.mul_nonneg ha.1 hb.1, Int.mul_le_mul ha.2 hb.2 hb.1 (Int.le_trans ha.1 ha.2)⟩
end
set_option maxRecDepth 100000
set_option maxHeartbeats 4000000
attribute [local irreducible] W E R KP thenK blockK retK Good xwp aRun
def wideQ (k mn mx q : Int) : Int := if k = 5 then (if mx = -1 then q * (mn + 1) + 1 else (q + 2) * mx) else q
mutual
def wideT : T → Int
  | .node k _ _ _ _ mn mx subs => wideL k mn mx subs 1
def wideL (k mn mx : Int) : List T → Int → Int
  | [], w => w
  | t :: l, w => wideL k mn mx l (min (w + wideQ k mn mx (wideT t)) 1073741824)
end
theorem wideL_drop (k mn mx : Int) (l : List T) (w : Int) (i : Nat) (h : i < l.length) : wideL k mn mx (l.drop i) w = wideL k mn mx (l.drop (i + 1)) (min (w + wideQ k mn mx (wideT l[i])) 1073741824) := by
  rw [List.drop_eq_getElem_cons h, wideL]
def okR (k mn mx : Int) : Prop := k = 5 → (0 ≤ mn ∧ mn ≤ 20) ∧ (mx = -1 ∨ (mn ≤ mx ∧ mx ≤ 20))
theorem okT_R {k a b c d mn mx : Int} {subs : List T} (h : okT (.node k a b c d mn mx subs)) : okR k mn mx := by
  intro hk
  simp only [okT, okN] at h
  have hpl := h.1.2.2.2.2
  simp [plainT, hk] at hpl
  omega
theorem wideQ_in {k mn mx q : Int} (h : okR k mn mx) (hq : 0 ≤ q ∧ q ≤ 1073741824) : 0 ≤ wideQ k mn mx q ∧ wideQ k mn mx q ≤ 30000000000 := by
  unfold wideQ
  split
  · rename_i hk
    have := h hk
    split
    · have := mul_in hq (show 0 ≤ mn + 1 ∧ mn + 1 ≤ 21 by omega)
      omega
    · have := mul_in (show 0 ≤ q + 2 ∧ q + 2 ≤ 1073741826 by omega) (show 0 ≤ mx ∧ mx ≤ 20 by omega)
      omega
  · omega
mutual
theorem wideT_in : ∀ t : T, okT t → 1 ≤ wideT t ∧ wideT t ≤ 1073741824
  | .node k a b c d mn mx subs, h => by
    have h1 := okT_R h
    simp only [okT] at h
    have := wideL_in k mn mx h1 subs 1 h.2 (by omega)
    simp only [wideT]; omega
theorem wideL_in (k mn mx : Int) (hr : okR k mn mx) : ∀ (l : List T) (w : Int), okL l → (1 ≤ w ∧ w ≤ 1073741824) → w ≤ wideL k mn mx l w ∧ wideL k mn mx l w ≤ 1073741824
  | [], w, _, h => by simp only [wideL]; omega
  | t :: l, w, h, hw => by
    simp only [okL] at h
    have h1 := wideT_in t h.1
    have h2 := wideQ_in hr (q := wideT t) (by omega)
    have h3 := wideL_in k mn mx hr l (min (w + wideQ k mn mx (wideT t)) 1073741824) h.2 (by omega)
    simp only [wideL]; omega
end
theorem wide_good : ∀ (n : Nat) (t : T), t.cnt ≤ n → n ≤ 1000000 → okT t → Good Try.prog 38 [nodeA t] none (.i (wideT t)) none none := by
  intro n
  induction n with
  | zero => intro t ht; have := cnt_pos t; omega
  | succ n ih =>
  intro t ht hc hok
  obtain ⟨k, a, b, c, d, mn, mx, subs⟩ := t
  have hR := okT_R hok
  have hoks : okL subs := by simp only [okT] at hok; exact hok.2
  have ih' : ∀ i (h : i < subs.length), Good Try.prog 38 [nodeA subs[i]] none (.i (wideT subs[i])) none none := by
    intro i h
    refine ih _ ?_ (by omega) (okL_get subs i h hoks)
    have := cntL_get subs i h
    simp only [T.cnt] at ht
    omega
  have hlen : subs.length ≤ 1000000 := by
    have := cntL_len subs
    simp only [T.cnt] at ht
    omega
  have e0 : nodeA (.node k a b c d mn mx subs) = .agg [.i k, .d (.val (.int .u64 a)), .d (.val (.int .u64 b)), .d (.val (.int .u64 c)), .d (.val (.int .u64 d)), .i mn, .i mx, .d (.sl (encL subs) subs.length)] := rfl
  rw [e0]
  refine b38 (by simp) (by simp) (w_init ?_)
  unfold x38
  repeat' (first
    | (apply r_mvV; rfl)
    | (apply r_mvP; rfl)
    | (apply r_mvPL; rfl)
    | (apply r_mvS; rfl)
    | (apply r_mvSL; rfl)
    | (apply r_mvA; rfl)
    | (apply r_mvT; rfl)
    | (apply r_mvF; rfl)
    | (apply r_mvD; rfl)
    | (apply r_faddD; rfl)
    | (apply r_faddL; rfl)
    | (apply r_l; apply ld_kind; assumption; rfl)
    | (apply r_l; apply ld_mn; assumption; rfl)
    | (apply r_l; apply ld_mx; assumption; rfl)
    | (apply r_l; apply ld_subs; assumption; rfl)
    | (apply r_l; apply ld_set; assumption; rfl)
    | (apply r_l; apply ld_node; assumption; rfl)
    | (apply r_l; apply ld_kind'; assumption; rfl)
    | (apply r_l; apply ld_mn'; assumption; rfl)
    | (apply r_l; apply ld_mx'; assumption; rfl)
    | (apply r_l; apply ld_subs'; assumption; rfl)
    | (apply r_l; apply ld_node'; assumption; rfl)
    | (apply r_ldL; rfl; rfl; rfl)
    | (apply r_eql; rfl; rfl; (first | (apply decide_eq_true; omega) | (apply decide_eq_false; omega) | rfl))
    | (apply r_lss; rfl; rfl; (first | (apply decide_eq_true; omega) | (apply decide_eq_false; omega) | rfl))
    | (apply r_add; rfl; rfl; rfl; omega)
    | (apply r_min2; rfl; rfl; rfl)
    | (apply r_pickT; rfl)
    | (apply r_pickF; rfl)
    | (apply r_lenD; rfl)
    | (apply r_lenL; rfl)
    | (apply r_len0; rfl)
    | (apply r_gT; rfl)
    | (apply r_gF'; rfl; rfl)
    | (apply r_gN'; rfl)
    | ((apply r_gS (o := default); rfl) <;> (intro h; try simp only [decide_eq_true_eq, decide_eq_false_iff_not, Bool.not_eq_true, Bool.not_eq_false] at h))
    | (apply r_box; ((conv => lhs; simp only [Nat.reduceAdd]) <;> rfl); rfl; rfl; rfl)
    | (apply r_p; rfl)
    | (apply r_nilK)
    | (apply r_nil)
    | (apply k_V; rfl)
    | (apply k_P; rfl)
    | (apply k_PL; rfl)
    | (apply k_S; rfl)
    | (apply k_SL; rfl)
    | (apply k_A; rfl)
    | (apply k_T; rfl)
    | (apply k_F; rfl)
    | (apply k_D; rfl; rotate_left; rfl)
    | (apply k_nil)
    | (apply e_ret (vs := [.d (.val _)]); rfl)
    | (apply e_ret; rfl)
    | (apply e_ret' (vs := [.d (.val _)]); rfl)
    | (apply e_ret'; rfl)
    | (apply w_seq)
    | (apply w_ops; ((conv => lhs; simp only [Nat.reduceAdd]) <;> rfl))
    | (apply w_condT; rfl)
    | (apply w_condF; rfl)
    | ((apply w_condS; rfl) <;> (intro h; try simp only [decide_eq_true_eq, decide_eq_false_iff_not, Bool.not_eq_true, Bool.not_eq_false] at h))
    | (apply e_thenN)
    | (apply w_block)
    | (apply e_thenR)
    | (apply e_thenX)
    | (apply e_blkN)
    | (apply e_blkR)
    | (apply e_blkE)
    | (apply w_exit)
    | (apply w_ret)
    | (apply w_skip)
    | (apply e_blkE'; rfl))
  apply w_loopI (ι := Nat × Int) (S := fun p => ⟨((Fr.nil.put 1 (.ptrL 1 0)).put 3 (.i p.2)).put 4 (.i p.1), Heap.nil.put 1 [.i k, .d (.val (.int .u64 a)), .d (.val (.int .u64 b)), .d (.val (.int .u64 c)), .d (.val (.int .u64 d)), .i mn, .i mx, .d (.sl (encL subs) subs.length)], Frz.but 100 1, 100⟩) (m := fun p => subs.length - p.1)
    (I := fun p => p.1 ≤ subs.length ∧ (1 ≤ p.2 ∧ p.2 ≤ 1073741824) ∧ wideT (.node k a b c d mn mx subs) = wideL k mn mx (subs.drop p.1) p.2) (i0 := (0, 1))
  · refine ⟨Nat.zero_le _, by simp, ?_⟩
    simp [wideT]
  · exact wk1D (by omega) (by omega) rfl rfl rfl (FWk.i rfl rfl (FWk.i rfl rfl (FWk.ptr rfl rfl rfl (by omega) rfl FWk.nil)))
  rintro ⟨i, w⟩ K hi hK
  dsimp only at hi hK ⊢
  rcases Nat.lt_or_ge i subs.length with hlt | hge
  · have hs := NodeAt.sub hlt
    have hd := wideL_drop k mn mx subs w i hlt
    have hb := wideT_in subs[i] (okL_get subs i hlt hoks)
    have hq := wideQ_in hR (q := wideT subs[i]) (by omega)
    have fin : ∀ fr C Z nx, Wk ⟨fr, C, Z, nx⟩ ⟨((Fr.nil.put 1 (.ptrL 1 0)).put 3 (.i (min (w + wideQ k mn mx (wideT subs[i])) 1073741824))).put 4 (.i ((i + 1 : Nat) : Int)), Heap.nil.put 1 [.i k, .d (.val (.int .u64 a)), .d (.val (.int .u64 b)), .d (.val (.int .u64 c)), .d (.val (.int .u64 d)), .i mn, .i mx, .d (.sl (encL subs) subs.length)], Frz.but 100 1, 100⟩ → K ⟨fr, C, Z, nx⟩ := by
      intro fr C Z nx hw
      refine hK (i + 1, _) fr C Z nx ⟨by omega, by dsimp only; omega, ?_⟩ (by dsimp only; omega) hw
      rw [hi.2.2, hd]
    by_cases h5 : k = 5
    · have hr5 := hR h5
      by_cases hm : mx = -1
      · have hmul := mul_in (show 0 ≤ wideT subs[i] ∧ wideT subs[i] ≤ 1073741824 by omega) (show 0 ≤ mn + 1 ∧ mn + 1 ≤ 21 by omega)
        have eq : wideQ k mn mx (wideT subs[i]) = wideT subs[i] * (mn + 1) + 1 := by rw [wideQ, if_pos h5, if_pos hm]
        rw [eq] at fin hq
        repeat' (first
    | (apply r_mvV; rfl)
    | (apply r_mvP; rfl)
    | (apply r_mvPL; rfl)
    | (apply r_mvS; rfl)
    | (apply r_mvSL; rfl)
    | (apply r_mvA; rfl)
    | (apply r_mvT; rfl)
    | (apply r_mvF; rfl)
    | (apply r_mvD; rfl)
    | (apply r_faddD; rfl)
    | (apply r_faddL; rfl)
    | (apply r_l; apply ld_kind; assumption; rfl)
    | (apply r_l; apply ld_mn; assumption; rfl)
    | (apply r_l; apply ld_mx; assumption; rfl)
    | (apply r_l; apply ld_subs; assumption; rfl)
    | (apply r_l; apply ld_set; assumption; rfl)
    | (apply r_l; apply ld_node; assumption; rfl)
    | (apply r_l; apply ld_kind'; assumption; rfl)
    | (apply r_l; apply ld_mn'; assumption; rfl)
    | (apply r_l; apply ld_mx'; assumption; rfl)
    | (apply r_l; apply ld_subs'; assumption; rfl)
    | (apply r_l; apply ld_node'; assumption; rfl)
    | (apply r_p; apply ix_sub; rfl; rfl; omega)
    | (apply r_callA (ags := [nodeA subs[i]]); rfl; simp [nodeA_nrm]; apply ih' i hlt)
    | (apply r_mul; rfl; rfl; rfl; omega)
    | (apply r_ldL; rfl; rfl; rfl)
    | (apply r_eql; rfl; rfl; (first | (apply decide_eq_true; omega) | (apply decide_eq_false; omega) | rfl))
    | (apply r_lss; rfl; rfl; (first | (apply decide_eq_true; omega) | (apply decide_eq_false; omega) | rfl))
    | (apply r_add; rfl; rfl; rfl; omega)
    | (apply r_min2; rfl; rfl; rfl)
    | (apply r_pickT; rfl)
    | (apply r_pickF; rfl)
    | (apply r_lenD; rfl)
    | (apply r_lenL; rfl)
    | (apply r_len0; rfl)
    | (apply r_gT; rfl)
    | (apply r_gF'; rfl; rfl)
    | (apply r_gN'; rfl)
    | ((apply r_gS (o := default); rfl) <;> (intro h; try simp only [decide_eq_true_eq, decide_eq_false_iff_not, Bool.not_eq_true, Bool.not_eq_false] at h))
    | (apply r_box; ((conv => lhs; simp only [Nat.reduceAdd]) <;> rfl); rfl; rfl; rfl)
    | (apply r_p; rfl)
    | (apply r_nilK)
    | (apply r_nil)
    | (apply k_V; rfl)
    | (apply k_P; rfl)
    | (apply k_PL; rfl)
    | (apply k_S; rfl)
    | (apply k_SL; rfl)
    | (apply k_A; rfl)
    | (apply k_T; rfl)
    | (apply k_F; rfl)
    | (apply k_D; rfl; rotate_left; rfl)
    | (apply k_nil)
    | (apply e_ret (vs := [.d (.val _)]); rfl)
    | (apply e_ret; rfl)
    | (apply e_ret' (vs := [.d (.val _)]); rfl)
    | (apply e_ret'; rfl)
    | (apply w_seq)
    | (apply w_ops; ((conv => lhs; simp only [Nat.reduceAdd]) <;> rfl))
    | (apply w_condT; rfl)
    | (apply w_condF; rfl)
    | ((apply w_condS; rfl) <;> (intro h; try simp only [decide_eq_true_eq, decide_eq_false_iff_not, Bool.not_eq_true, Bool.not_eq_false] at h))
    | (apply e_thenN)
    | (apply w_block)
    | (apply e_thenR)
    | (apply e_thenX)
    | (apply e_blkN)
    | (apply e_blkR)
    | (apply e_blkE)
    | (apply w_exit)
    | (apply w_ret)
    | (apply w_skip)
    | (apply e_blkE'; rfl))
        apply e_thenK; apply fin
        exact wk1D (by omega) (by omega) rfl rfl rfl (FWk.i rfl (by simp) (FWk.i rfl rfl (FWk.ptr rfl rfl rfl (by omega) rfl FWk.nil)))
      · have hmul := mul_in (show 0 ≤ wideT subs[i] + 2 ∧ wideT subs[i] + 2 ≤ 1073741826 by omega) (show 0 ≤ mx ∧ mx ≤ 20 by omega)
        have eq : wideQ k mn mx (wideT subs[i]) = (wideT subs[i] + 2) * mx := by rw [wideQ, if_pos h5, if_neg hm]
        rw [eq] at fin hq
        repeat' (first
    | (apply r_mvV; rfl)
    | (apply r_mvP; rfl)
    | (apply r_mvPL; rfl)
    | (apply r_mvS; rfl)
    | (apply r_mvSL; rfl)
    | (apply r_mvA; rfl)
    | (apply r_mvT; rfl)
    | (apply r_mvF; rfl)
    | (apply r_mvD; rfl)
    | (apply r_faddD; rfl)
    | (apply r_faddL; rfl)
    | (apply r_l; apply ld_kind; assumption; rfl)
    | (apply r_l; apply ld_mn; assumption; rfl)
    | (apply r_l; apply ld_mx; assumption; rfl)
    | (apply r_l; apply ld_subs; assumption; rfl)
    | (apply r_l; apply ld_set; assumption; rfl)
    | (apply r_l; apply ld_node; assumption; rfl)
    | (apply r_l; apply ld_kind'; assumption; rfl)
    | (apply r_l; apply ld_mn'; assumption; rfl)
    | (apply r_l; apply ld_mx'; assumption; rfl)
    | (apply r_l; apply ld_subs'; assumption; rfl)
    | (apply r_l; apply ld_node'; assumption; rfl)
    | (apply r_p; apply ix_sub; rfl; rfl; omega)
    | (apply r_callA (ags := [nodeA subs[i]]); rfl; simp [nodeA_nrm]; apply ih' i hlt)
    | (apply r_mul; rfl; rfl; rfl; omega)
    | (apply r_ldL; rfl; rfl; rfl)
    | (apply r_eql; rfl; rfl; (first | (apply decide_eq_true; omega) | (apply decide_eq_false; omega) | rfl))
    | (apply r_lss; rfl; rfl; (first | (apply decide_eq_true; omega) | (apply decide_eq_false; omega) | rfl))
    | (apply r_add; rfl; rfl; rfl; omega)
    | (apply r_min2; rfl; rfl; rfl)
    | (apply r_pickT; rfl)
    | (apply r_pickF; rfl)
    | (apply r_lenD; rfl)
    | (apply r_lenL; rfl)
    | (apply r_len0; rfl)
    | (apply r_gT; rfl)
    | (apply r_gF'; rfl; rfl)
    | (apply r_gN'; rfl)
    | ((apply r_gS (o := default); rfl) <;> (intro h; try simp only [decide_eq_true_eq, decide_eq_false_iff_not, Bool.not_eq_true, Bool.not_eq_false] at h))
    | (apply r_box; ((conv => lhs; simp only [Nat.reduceAdd]) <;> rfl); rfl; rfl; rfl)
    | (apply r_p; rfl)
    | (apply r_nilK)
    | (apply r_nil)
    | (apply k_V; rfl)
    | (apply k_P; rfl)
    | (apply k_PL; rfl)
    | (apply k_S; rfl)
    | (apply k_SL; rfl)
    | (apply k_A; rfl)
    | (apply k_T; rfl)
    | (apply k_F; rfl)
    | (apply k_D; rfl; rotate_left; rfl)
    | (apply k_nil)
    | (apply e_ret (vs := [.d (.val _)]); rfl)
    | (apply e_ret; rfl)
    | (apply e_ret' (vs := [.d (.val _)]); rfl)
    | (apply e_ret'; rfl)
    | (apply w_seq)
    | (apply w_ops; ((conv => lhs; simp only [Nat.reduceAdd]) <;> rfl))
    | (apply w_condT; rfl)
    | (apply w_condF; rfl)
    | ((apply w_condS; rfl) <;> (intro h; try simp only [decide_eq_true_eq, decide_eq_false_iff_not, Bool.not_eq_true, Bool.not_eq_false] at h))
    | (apply e_thenN)
    | (apply w_block)
    | (apply e_thenR)
    | (apply e_thenX)
    | (apply e_blkN)
    | (apply e_blkR)
    | (apply e_blkE)
    | (apply w_exit)
    | (apply w_ret)
    | (apply w_skip)
    | (apply e_blkE'; rfl))
        apply e_thenK; apply fin
        exact wk1D (by omega) (by omega) rfl rfl rfl (FWk.i rfl (by simp) (FWk.i rfl rfl (FWk.ptr rfl rfl rfl (by omega) rfl FWk.nil)))
    · have eq : wideQ k mn mx (wideT subs[i]) = wideT subs[i] := by rw [wideQ, if_neg h5]
      rw [eq] at fin hq
      repeat' (first
    | (apply r_mvV; rfl)
    | (apply r_mvP; rfl)
    | (apply r_mvPL; rfl)
    | (apply r_mvS; rfl)
    | (apply r_mvSL; rfl)
    | (apply r_mvA; rfl)
    | (apply r_mvT; rfl)
    | (apply r_mvF; rfl)
    | (apply r_mvD; rfl)
    | (apply r_faddD; rfl)
    | (apply r_faddL; rfl)
    | (apply r_l; apply ld_kind; assumption; rfl)
    | (apply r_l; apply ld_mn; assumption; rfl)
    | (apply r_l; apply ld_mx; assumption; rfl)
    | (apply r_l; apply ld_subs; assumption; rfl)
    | (apply r_l; apply ld_set; assumption; rfl)
    | (apply r_l; apply ld_node; assumption; rfl)
    | (apply r_l; apply ld_kind'; assumption; rfl)
    | (apply r_l; apply ld_mn'; assumption; rfl)
    | (apply r_l; apply ld_mx'; assumption; rfl)
    | (apply r_l; apply ld_subs'; assumption; rfl)
    | (apply r_l; apply ld_node'; assumption; rfl)
    | (apply r_p; apply ix_sub; rfl; rfl; omega)
    | (apply r_callA (ags := [nodeA subs[i]]); rfl; simp [nodeA_nrm]; apply ih' i hlt)
    | (apply r_mul; rfl; rfl; rfl; omega)
    | (apply r_ldL; rfl; rfl; rfl)
    | (apply r_eql; rfl; rfl; (first | (apply decide_eq_true; omega) | (apply decide_eq_false; omega) | rfl))
    | (apply r_lss; rfl; rfl; (first | (apply decide_eq_true; omega) | (apply decide_eq_false; omega) | rfl))
    | (apply r_add; rfl; rfl; rfl; omega)
    | (apply r_min2; rfl; rfl; rfl)
    | (apply r_pickT; rfl)
    | (apply r_pickF; rfl)
    | (apply r_lenD; rfl)
    | (apply r_lenL; rfl)
    | (apply r_len0; rfl)
    | (apply r_gT; rfl)
    | (apply r_gF'; rfl; rfl)
    | (apply r_gN'; rfl)
    | ((apply r_gS (o := default); rfl) <;> (intro h; try simp only [decide_eq_true_eq, decide_eq_false_iff_not, Bool.not_eq_true, Bool.not_eq_false] at h))
    | (apply r_box; ((conv => lhs; simp only [Nat.reduceAdd]) <;> rfl); rfl; rfl; rfl)
    | (apply r_p; rfl)
    | (apply r_nilK)
    | (apply r_nil)
    | (apply k_V; rfl)
    | (apply k_P; rfl)
    | (apply k_PL; rfl)
    | (apply k_S; rfl)
    | (apply k_SL; rfl)
    | (apply k_A; rfl)
    | (apply k_T; rfl)
    | (apply k_F; rfl)
    | (apply k_D; rfl; rotate_left; rfl)
    | (apply k_nil)
    | (apply e_ret (vs := [.d (.val _)]); rfl)
    | (apply e_ret; rfl)
    | (apply e_ret' (vs := [.d (.val _)]); rfl)
    | (apply e_ret'; rfl)
    | (apply w_seq)
    | (apply w_ops; ((conv => lhs; simp only [Nat.reduceAdd]) <;> rfl))
    | (apply w_condT; rfl)
    | (apply w_condF; rfl)
    | ((apply w_condS; rfl) <;> (intro h; try simp only [decide_eq_true_eq, decide_eq_false_iff_not, Bool.not_eq_true, Bool.not_eq_false] at h))
    | (apply e_thenN)
    | (apply w_block)
    | (apply e_thenR)
    | (apply e_thenX)
    | (apply e_blkN)
    | (apply e_blkR)
    | (apply e_blkE)
    | (apply w_exit)
    | (apply w_ret)
    | (apply w_skip)
    | (apply e_blkE'; rfl))
      apply e_thenK; apply fin
      exact wk1D (by omega) (by omega) rfl rfl rfl (FWk.i rfl (by simp) (FWk.i rfl rfl (FWk.ptr rfl rfl rfl (by omega) rfl FWk.nil)))
  · repeat' (first
    | (apply r_mvV; rfl)
    | (apply r_mvP; rfl)
    | (apply r_mvPL; rfl)
    | (apply r_mvS; rfl)
    | (apply r_mvSL; rfl)
    | (apply r_mvA; rfl)
    | (apply r_mvT; rfl)
    | (apply r_mvF; rfl)
    | (apply r_mvD; rfl)
    | (apply r_faddD; rfl)
    | (apply r_faddL; rfl)
    | (apply r_l; apply ld_kind; assumption; rfl)
    | (apply r_l; apply ld_mn; assumption; rfl)
    | (apply r_l; apply ld_mx; assumption; rfl)
    | (apply r_l; apply ld_subs; assumption; rfl)
    | (apply r_l; apply ld_set; assumption; rfl)
    | (apply r_l; apply ld_node; assumption; rfl)
    | (apply r_l; apply ld_kind'; assumption; rfl)
    | (apply r_l; apply ld_mn'; assumption; rfl)
    | (apply r_l; apply ld_mx'; assumption; rfl)
    | (apply r_l; apply ld_subs'; assumption; rfl)
    | (apply r_l; apply ld_node'; assumption; rfl)
    | (apply r_ldL; rfl; rfl; rfl)
    | (apply r_eql; rfl; rfl; (first | (apply decide_eq_true; omega) | (apply decide_eq_false; omega) | rfl))
    | (apply r_lss; rfl; rfl; (first | (apply decide_eq_true; omega) | (apply decide_eq_false; omega) | rfl))
    | (apply r_add; rfl; rfl; rfl; omega)
    | (apply r_min2; rfl; rfl; rfl)
    | (apply r_pickT; rfl)
    | (apply r_pickF; rfl)
    | (apply r_lenD; rfl)
    | (apply r_lenL; rfl)
    | (apply r_len0; rfl)
    | (apply r_gT; rfl)
    | (apply r_gF'; rfl; rfl)
    | (apply r_gN'; rfl)
    | ((apply r_gS (o := default); rfl) <;> (intro h; try simp only [decide_eq_true_eq, decide_eq_false_iff_not, Bool.not_eq_true, Bool.not_eq_false] at h))
    | (apply r_box; ((conv => lhs; simp only [Nat.reduceAdd]) <;> rfl); rfl; rfl; rfl)
    | (apply r_p; rfl)
    | (apply r_nilK)
    | (apply r_nil)
    | (apply k_V; rfl)
    | (apply k_P; rfl)
    | (apply k_PL; rfl)
    | (apply k_S; rfl)
    | (apply k_SL; rfl)
    | (apply k_A; rfl)
    | (apply k_T; rfl)
    | (apply k_F; rfl)
    | (apply k_D; rfl; rotate_left; rfl)
    | (apply k_nil)
    | (apply e_ret (vs := [.d (.val _)]); rfl)
    | (apply e_ret; rfl)
    | (apply e_ret' (vs := [.d (.val _)]); rfl)
    | (apply e_ret'; rfl)
    | (apply w_seq)
    | (apply w_ops; ((conv => lhs; simp only [Nat.reduceAdd]) <;> rfl))
    | (apply w_condT; rfl)
    | (apply w_condF; rfl)
    | ((apply w_condS; rfl) <;> (intro h; try simp only [decide_eq_true_eq, decide_eq_false_iff_not, Bool.not_eq_true, Bool.not_eq_false] at h))
    | (apply e_thenN)
    | (apply w_block)
    | (apply e_thenR)
    | (apply e_thenX)
    | (apply e_blkN)
    | (apply e_blkR)
    | (apply e_blkE)
    | (apply w_exit)
    | (apply w_ret)
    | (apply w_skip)
    | (apply e_blkE'; rfl))
    refine retI ?_
    rw [hi.2.2, List.drop_of_length_le (by omega), wideL]
end Go.Sv
namespace Go.Sv
open Go Go.Proofs
def x137 : XC := (.seq (.ops 1 [
    (0, ⟨(some 4), none, .mv (.k (.d (.val (.bool false))))⟩)] (some [0, 1])) (.seq (.ops 1 [
    (0, ⟨(some 5), none, .mv (.k (.d (.val (.bool false))))⟩)] (some [0, 1, 5])) (.seq (.seq (.ops 1 [
    (0, ⟨(some 6), none, .mv (.k (.d (.val (.int .i64 0))))⟩)] (some [0, 1, 5, 6])) (.block 0 (.loop (.seq (.seq (.ops 4 [
    (0, ⟨(some 7), none, .mv (.t 6)⟩),
    (1, ⟨(some 8), none, .mv (.t 0)⟩),
    (2, ⟨(some 9), none, .lenS (.t 8)⟩),
    (3, ⟨(some 10), none, .arith .lss (.t 7) (.t 9)⟩)] (some [0, 1, 5, 6, 10])) (.cond (.t 10) .skip (.exit 0))) (.seq (.block 1 (.seq (.ops 15 [
    (0, ⟨(some 13), none, .mv (.t 5)⟩),
    (1, ⟨(some 14), none, .mv (.t 13)⟩),
    (2, ⟨(some 15), (some (14, false)), .mv (.t 1)⟩),
    (3, ⟨(some 16), (some (14, false)), .mv (.t 6)⟩),
    (4, ⟨(some 17), (some (14, false)), .idxS 1 (.t 15) (.t 16)⟩),
    (5, ⟨(some 18), (some (14, false)), .load none (.t 17)⟩),
    (6, ⟨(some 19), (some (14, false)), .mv (.t 18)⟩),
    (7, ⟨(some 20), (some (19, true)), .mv (.t 0)⟩),
    (8, ⟨(some 21), (some (19, true)), .mv (.t 6)⟩),
    (9, ⟨(some 22), (some (19, true)), .idxS 1 (.t 20) (.t 21)⟩),
    (10, ⟨(some 23), (some (19, true)), .load none (.t 22)⟩),
    (11, ⟨(some 24), (some (19, true)), .un .not (.t 23)⟩),
    (12, ⟨(some 25), (some (14, false)), .pick (.t 19) (.t 24) (.k (.d (.val (.bool false))))⟩),
    (13, ⟨(some 26), none, .pick (.t 14) (.k (.d (.val (.bool true)))) (.t 25)⟩),
    (14, ⟨(some 5), none, .mv (.t 26)⟩)] (some [0, 1, 5, 6])) (.ops 14 [
    (0, ⟨(some 27), none, .mv (.t 0)⟩),
    (1, ⟨(some 28), none, .mv (.t 6)⟩),
    (2, ⟨(some 29), none, .mv (.t 0)⟩),
    (3, ⟨(some 30), none, .mv (.t 6)⟩),
    (4, ⟨(some 31), none, .idxS 1 (.t 29) (.t 30)⟩),
    (5, ⟨(some 32), none, .load none (.t 31)⟩),
    (6, ⟨(some 33), none, .mv (.t 32)⟩),
    (7, ⟨(some 34), (some (33, false)), .mv (.t 1)⟩),
    (8, ⟨(some 35), (some (33, false)), .mv (.t 6)⟩),
    (9, ⟨(some 36), (some (33, false)), .idxS 1 (.t 34) (.t 35)⟩),
    (10, ⟨(some 37), (some (33, false)), .load none (.t 36)⟩),
    (11, ⟨(some 38), none, .pick (.t 33) (.k (.d (.val (.bool true)))) (.t 37)⟩),
    (12, ⟨(some 39), none, .idxS 1 (.t 27) (.t 28)⟩),
    (13, ⟨none, none, .store 1 (.t 39) (.t 38)⟩)] (some [0, 1, 5, 6])))) (.ops 3 [
    (0, ⟨(some 11), none, .mv (.t 6)⟩),
    (1, ⟨(some 12), none, .arith .add (.t 11) (.k (.d (.val (.int .i64 1))))⟩),
    (2, ⟨(some 6), none, .mv (.t 12)⟩)] (some [0, 1, 5, 6]))))))) (.seq (.ops 2 [
    (0, ⟨(some 40), none, .mv (.t 5)⟩),
    (1, ⟨(some 4), none, .mv (.t 40)⟩)] (some [4])) .ret))))
def md137 : FuncId → Option Nat × Bool
  | _ => (none, false)
def od137 : Nat → List (List Nat) × List Nat × Option (List Nat)
  | 0 => ([], [], some [0, 1])
  | 1 => ([], [], some [0, 1, 5])
  | 2 => ([], [], some [0, 1, 5, 6])
  | 3 => ([], [], some [0, 1, 5, 6, 10])
  | 4 => ([], [], some [0, 1, 5, 6])
  | 5 => ([], [], some [0, 1, 5, 6])
  | 6 => ([], [], some [0, 1, 5, 6])
  | 7 => ([], [], some [4])
  | _ => ([], [], none)
theorem b137 {ags : List AV} {row : Option (List DV)} {r : AV} {row' nw : Option (List DV)} (hal : ags.length ≤ 41) (hrow : row'.isSome = true → row.isSome = true) (h : xwp Try.prog x137 (retK [.tmp 4] row.isSome r row' nw) (St.init ags row)) : Good Try.prog 137 ags row r row' nw :=
  good_of_body' (md := md137) (od := od137) Try.f137 (by kernel_rfl) (by kernel_rfl) (by kernel_rfl) (by kernel_rfl) (by kernel_rfl) hal hrow h

set_option maxRecDepth 100000
set_option maxHeartbeats 4000000
attribute [local irreducible] W E R KP thenK blockK retK Good xwp aRun
theorem set_same (p : List Bool) (i : Nat) (h : i < p.length) (v : Bool) (hv : p[i] = v) : p.set i v = p := by
  subst hv; exact List.set_getElem_self h
theorem or_good (p q : List Bool) {m : Nat} (hp : p.length = m) (hq : q.length = m) (hl : m ≤ 1000001) : Good Try.prog 137 [.slL 0 0 m 1, .d (.sl (encB q) m)] (some (encB p)) (.b (addTo p q m).2) (some (encB (addTo p q m).1)) none := by
  refine b137 (by simp) (by simp) (w_init ?_)
  unfold x137
  repeat' (first
    | (apply r_mvV; rfl)
    | (apply r_mvP; rfl)
    | (apply r_mvPL; rfl)
    | (apply r_mvS; rfl)
    | (apply r_mvSL; rfl)
    | (apply r_mvA; rfl)
    | (apply r_mvT; rfl)
    | (apply r_mvF; rfl)
    | (apply r_mvD; rfl)
    | (apply r_ldL; rfl; rfl; rfl)
    | (apply r_lss; rfl; rfl; (first | (apply decide_eq_true; omega) | (apply decide_eq_false; omega) | rfl))
    | (apply r_add; rfl; rfl; rfl; omega)
    | (apply r_not; rfl; rfl)
    | (apply r_pickT; rfl)
    | (apply r_pickF; rfl)
    | (apply r_lenD; rfl)
    | (apply r_lenL; rfl)
    | (apply r_len0; rfl)
    | (apply r_gT; rfl)
    | (apply r_gF'; rfl; rfl)
    | (apply r_gN'; rfl)
    | ((apply r_gS (o := default); rfl) <;> (intro h; try simp only [decide_eq_true_eq, decide_eq_false_iff_not, Bool.not_eq_true, Bool.not_eq_false] at h))
    | (apply r_stL; rfl; rfl; rfl; rfl; (first | rfl | (simp only [z_nil, z_add] <;> rfl)); rfl; rfl)
    | (apply r_p; rfl)
    | (apply r_nilK)
    | (apply r_nil)
    | (apply k_V; rfl)
    | (apply k_P; rfl)
    | (apply k_PL; rfl)
    | (apply k_S; rfl)
    | (apply k_SL; rfl)
    | (apply k_A; rfl)
    | (apply k_T; rfl)
    | (apply k_F; rfl)
    | (apply k_D; rfl; rotate_left; rfl)
    | (apply k_nil)
    | (apply e_ret (vs := [.d (.val _)]); rfl)
    | (apply e_ret; rfl)
    | (apply e_ret' (vs := [.d (.val _)]); rfl)
    | (apply e_ret'; rfl)
    | (apply w_seq)
    | (apply w_ops; ((conv => lhs; simp only [Nat.reduceAdd]) <;> rfl))
    | (apply w_condT; rfl)
    | (apply w_condF; rfl)
    | ((apply w_condS; rfl) <;> (intro h; try simp only [decide_eq_true_eq, decide_eq_false_iff_not, Bool.not_eq_true, Bool.not_eq_false] at h))
    | (apply e_thenN)
    | (apply w_block)
    | (apply e_thenR)
    | (apply e_thenX)
    | (apply e_blkN)
    | (apply e_blkR)
    | (apply e_blkE)
    | (apply w_exit)
    | (apply w_ret)
    | (apply w_skip)
    | (apply e_blkE'; rfl))
  apply w_loopI (S := fun i : Nat => ⟨(((Fr.nil.put 0 (.slL 0 0 m 1)).put 1 (.d (.sl (encB q) m))).put 5 (.b (addTo p q i).2)).put 6 (.i i), Heap.nil.put 0 ((encB (addTo p q i).1).map AV.d), Frz.but 100 0, 100⟩) (m := fun i => m - i) (I := fun i => i ≤ m) (i0 := 0)
  · exact Nat.zero_le _
  · exact wk1D (by omega) (by omega) rfl rfl encB_isD (FWk.i rfl rfl (FWk.d rfl rfl (FWk.d rfl rfl (FWk.sl rfl rfl rfl rfl (by omega) rfl FWk.nil))))
  intro i K hi hK
  dsimp only
  rcases Nat.lt_or_ge i m with hlt | hge
  · have hlq : i < q.length := by omega
    have hg := List.getElem?_eq_getElem hlq
    have hlp : i < (addTo p q i).1.length := by rw [addTo_len]; omega
    have hgp := List.getElem?_eq_getElem hlp
    have ed : addTo p q (i + 1) = ((addTo p q i).1.set i ((addTo p q i).1[i] || q[i]), (addTo p q i).2 || (q[i] && !(addTo p q i).1[i])) := by
      rw [addTo, List.getD_eq_getElem?_getD, List.getD_eq_getElem?_getD, hg, hgp]
      simp only [Option.getD_some]
      rcases Bool.eq_false_or_eq_true q[i] with h1 | h1 <;> rcases Bool.eq_false_or_eq_true (addTo p q i).1[i] with h2 | h2
      · rw [if_neg (by simp [h2]), h1, h2]; simp [set_same _ _ hlp true h2]
      · rw [if_pos ⟨h1, h2⟩, h1, h2]; simp
      · rw [if_neg (by simp [h1]), h1, h2]; simp [set_same _ _ hlp true h2]
      · rw [if_neg (by simp [h1]), h1, h2]; simp [set_same _ _ hlp false h2]
    have fin : ∀ fr C Z nx, Wk ⟨fr, C, Z, nx⟩ ⟨(((Fr.nil.put 0 (.slL 0 0 m 1)).put 1 (.d (.sl (encB q) m))).put 5 (.b ((addTo p q i).2 || (q[i] && !(addTo p q i).1[i])))).put 6 (.i ((i + 1 : Nat) : Int)), Heap.nil.put 0 ((encB ((addTo p q i).1.set i ((addTo p q i).1[i] || q[i]))).map AV.d), Frz.but 100 0, 100⟩ → K ⟨fr, C, Z, nx⟩ := by
      intro fr C Z nx hw
      refine hK (i + 1) fr C Z nx (by omega) (by omega) ?_
      rw [ed]; exact hw
    clear ed hK
    generalize (addTo p q i).2 = cm at *
    generalize (addTo p q i).1 = pp at *
    repeat' (first
    | (apply r_mvV; rfl)
    | (apply r_mvP; rfl)
    | (apply r_mvPL; rfl)
    | (apply r_mvS; rfl)
    | (apply r_mvSL; rfl)
    | (apply r_mvA; rfl)
    | (apply r_mvT; rfl)
    | (apply r_mvF; rfl)
    | (apply r_mvD; rfl)
    | (apply r_ixB'; rfl; rfl; omega; omega)
    | (apply r_ldB; rfl; exact hg)
    | (apply r_ixL; rfl; rfl; omega)
    | (apply r_ldBL; rfl; rfl; exact hgp)
    | (apply r_stB; rfl; rfl; rfl; rfl; exact hlp)
    | (apply r_ldL; rfl; rfl; rfl)
    | (apply r_lss; rfl; rfl; (first | (apply decide_eq_true; omega) | (apply decide_eq_false; omega) | rfl))
    | (apply r_add; rfl; rfl; rfl; omega)
    | (apply r_not; rfl; rfl)
    | (apply r_pickT; rfl)
    | (apply r_pickF; rfl)
    | (apply r_lenD; rfl)
    | (apply r_lenL; rfl)
    | (apply r_len0; rfl)
    | (apply r_gT; rfl)
    | (apply r_gF'; rfl; rfl)
    | (apply r_gN'; rfl)
    | ((apply r_gS (o := default); rfl) <;> (intro h; try simp only [decide_eq_true_eq, decide_eq_false_iff_not, Bool.not_eq_true, Bool.not_eq_false] at h))
    | (apply r_stL; rfl; rfl; rfl; rfl; (first | rfl | (simp only [z_nil, z_add] <;> rfl)); rfl; rfl)
    | (apply r_p; rfl)
    | (apply r_nilK)
    | (apply r_nil)
    | (apply k_V; rfl)
    | (apply k_P; rfl)
    | (apply k_PL; rfl)
    | (apply k_S; rfl)
    | (apply k_SL; rfl)
    | (apply k_A; rfl)
    | (apply k_T; rfl)
    | (apply k_F; rfl)
    | (apply k_D; rfl; rotate_left; rfl)
    | (apply k_nil)
    | (apply e_ret (vs := [.d (.val _)]); rfl)
    | (apply e_ret; rfl)
    | (apply e_ret' (vs := [.d (.val _)]); rfl)
    | (apply e_ret'; rfl)
    | (apply w_seq)
    | (apply w_ops; ((conv => lhs; simp only [Nat.reduceAdd]) <;> rfl))
    | (apply w_condT; rfl)
    | (apply w_condF; rfl)
    | ((apply w_condS; rfl) <;> (intro h; try simp only [decide_eq_true_eq, decide_eq_false_iff_not, Bool.not_eq_true, Bool.not_eq_false] at h))
    | (apply e_thenN)
    | (apply w_block)
    | (apply e_thenR)
    | (apply e_thenX)
    | (apply e_blkN)
    | (apply e_blkR)
    | (apply e_blkE)
    | (apply w_exit)
    | (apply w_ret)
    | (apply w_skip)
    | (apply e_blkE'; rfl))
    all_goals (apply e_thenK; apply fin; refine wk1D (by omega) (by omega) ?_ rfl encB_isD (FWk.i rfl (by simp) (FWk.d rfl ?_ (FWk.d rfl rfl (FWk.sl rfl rfl rfl rfl (by omega) rfl FWk.nil)))))
    all_goals clear fin
    all_goals first
      | (simp_all [h_put]; done)
      | simp_all
  · repeat' (first
    | (apply r_mvV; rfl)
    | (apply r_mvP; rfl)
    | (apply r_mvPL; rfl)
    | (apply r_mvS; rfl)
    | (apply r_mvSL; rfl)
    | (apply r_mvA; rfl)
    | (apply r_mvT; rfl)
    | (apply r_mvF; rfl)
    | (apply r_mvD; rfl)
    | (apply r_ldL; rfl; rfl; rfl)
    | (apply r_lss; rfl; rfl; (first | (apply decide_eq_true; omega) | (apply decide_eq_false; omega) | rfl))
    | (apply r_add; rfl; rfl; rfl; omega)
    | (apply r_not; rfl; rfl)
    | (apply r_pickT; rfl)
    | (apply r_pickF; rfl)
    | (apply r_lenD; rfl)
    | (apply r_lenL; rfl)
    | (apply r_len0; rfl)
    | (apply r_gT; rfl)
    | (apply r_gF'; rfl; rfl)
    | (apply r_gN'; rfl)
    | ((apply r_gS (o := default); rfl) <;> (intro h; try simp only [decide_eq_true_eq, decide_eq_false_iff_not, Bool.not_eq_true, Bool.not_eq_false] at h))
    | (apply r_stL; rfl; rfl; rfl; rfl; (first | rfl | (simp only [z_nil, z_add] <;> rfl)); rfl; rfl)
    | (apply r_p; rfl)
    | (apply r_nilK)
    | (apply r_nil)
    | (apply k_V; rfl)
    | (apply k_P; rfl)
    | (apply k_PL; rfl)
    | (apply k_S; rfl)
    | (apply k_SL; rfl)
    | (apply k_A; rfl)
    | (apply k_T; rfl)
    | (apply k_F; rfl)
    | (apply k_D; rfl; rotate_left; rfl)
    | (apply k_nil)
    | (apply e_ret (vs := [.d (.val _)]); rfl)
    | (apply e_ret; rfl)
    | (apply e_ret' (vs := [.d (.val _)]); rfl)
    | (apply e_ret'; rfl)
    | (apply w_seq)
    | (apply w_ops; ((conv => lhs; simp only [Nat.reduceAdd]) <;> rfl))
    | (apply w_condT; rfl)
    | (apply w_condF; rfl)
    | ((apply w_condS; rfl) <;> (intro h; try simp only [decide_eq_true_eq, decide_eq_false_iff_not, Bool.not_eq_true, Bool.not_eq_false] at h))
    | (apply e_thenN)
    | (apply w_block)
    | (apply e_thenR)
    | (apply e_thenX)
    | (apply e_blkN)
    | (apply e_blkR)
    | (apply e_blkE)
    | (apply w_exit)
    | (apply w_ret)
    | (apply w_skip)
    | (apply e_blkE'; rfl))
    rw [show i = m by omega]
    exact .dataL _ _ rfl rfl rfl rfl
end Go.Sv
namespace Go.Sv
open Go Go.Proofs
def x89 : XC := (.seq (.ops 2 [
    (0, ⟨(some 2), none, .box (.t 0)⟩),
    (1, ⟨(some 4), none, .mv (.k (.d (.val (.bool false))))⟩)] (some [1, 2])) (.seq (.ops 10 [
    (0, ⟨(some 5), none, .mv (.t 1)⟩),
    (1, ⟨(some 6), none, .arith .quo (.t 5) (.k (.d (.val (.int .u8 64))))⟩),
    (2, ⟨(some 7), none, .idxP 4 1 (.t 2) (.t 6)⟩),
    (3, ⟨(some 8), none, .load none (.t 7)⟩),
    (4, ⟨(some 9), none, .mv (.t 1)⟩),
    (5, ⟨(some 10), none, .arith .rem (.t 9) (.k (.d (.val (.int .u8 64))))⟩),
    (6, ⟨(some 11), none, .arith .shr (.t 8) (.t 10)⟩),
    (7, ⟨(some 12), none, .arith .rem (.t 11) (.k (.d (.val (.int .u64 2))))⟩),
    (8, ⟨(some 13), none, .arith .eql (.t 12) (.k (.d (.val (.int .u64 1))))⟩),
    (9, ⟨(some 4), none, .mv (.t 13)⟩)] (some [4])) .ret))
def md89 : FuncId → Option Nat × Bool
  | _ => (none, false)
def od89 : Nat → List (List Nat) × List Nat × Option (List Nat)
  | 0 => ([], [], some [1, 2])
  | 1 => ([], [], some [4])
  | _ => ([], [], none)
theorem b89 {ags : List AV} {row : Option (List DV)} {r : AV} {row' nw : Option (List DV)} (hal : ags.length ≤ 14) (hrow : row'.isSome = true → row.isSome = true) (h : xwp Try.prog x89 (retK [.tmp 4] row.isSome r row' nw) (St.init ags row)) : Good Try.prog 89 ags row r row' nw :=
  good_of_body' (md := md89) (od := od89) Try.f89 (by kernel_rfl) (by kernel_rfl) (by kernel_rfl) (by kernel_rfl) (by kernel_rfl) hal hrow h

section
variable {P : Program} {Q : Cont} {fr : Fr} {C : Heap} {Z : Frz} {nx : Nat} {base n d : Nat} {l : List (Nat × XO)} {kp : Option (List Nat)} {x i y s : X} {j c : Nat}
theorem r_quo64 (hx : x.ev fr = .d (.val (.int .u8 (c : Nat)))) (hy : y.ev fr = .d (.val (.int .u8 64))) (hc : c < 256) (k : R P l base kp Q nx (fr.put d (.d (.val (.int .u8 ((c / 64 : Nat) : Int))))) C Z) : R P ((n, ⟨some d, none, .arith .quo x y⟩) :: l) base kp Q nx fr C Z := by
  refine r_p ?_ k
  have e : IntKind.wrap .u8 (Int.tdiv (c : Int) 64) = ((c / 64 : Nat) : Int) := by
    rw [Int.tdiv_eq_ediv_of_nonneg (by omega)]
    simp [IntKind.wrap, IntKind.signed, IntKind.bits]; omega
  simp only [xp, hx, hy, arith]
  exact congrArg (fun z => some (AV.d (DV.val (Value.int .u8 z)))) e
theorem r_rem64 (hx : x.ev fr = .d (.val (.int .u8 (c : Nat)))) (hy : y.ev fr = .d (.val (.int .u8 64))) (k : R P l base kp Q nx (fr.put d (.d (.val (.int .u8 ((c % 64 : Nat) : Int))))) C Z) : R P ((n, ⟨some d, none, .arith .rem x y⟩) :: l) base kp Q nx fr C Z := by
  refine r_p ?_ k
  have e : Int.tmod (c : Int) 64 = ((c % 64 : Nat) : Int) := by
    rw [Int.tmod_eq_emod_of_nonneg (by omega)]; omega
  simp only [xp, hx, hy, arith]
  exact congrArg (fun z => some (AV.d (DV.val (Value.int .u8 z)))) e
theorem r_rem2 {w : Int} (hx : x.ev fr = .d (.val (.int .u64 w))) (hy : y.ev fr = .d (.val (.int .u64 2))) (hw : 0 ≤ w) (k : R P l base kp Q nx (fr.put d (.d (.val (.int .u64 (w % 2))))) C Z) : R P ((n, ⟨some d, none, .arith .rem x y⟩) :: l) base kp Q nx fr C Z := by
  refine r_p ?_ k
  have e : Int.tmod w 2 = w % 2 := Int.tmod_eq_emod_of_nonneg hw
  simp only [xp, hx, hy, arith]
  exact congrArg (fun z => some (AV.d (DV.val (Value.int .u64 z)))) e
theorem r_ixPL {m b off : Nat} {kd : IntKind} (hx : x.ev fr = .ptrL b off) (hi : i.ev fr = .d (.val (.int kd (j : Nat)))) (hj : j < m) (k : R P l base kp Q nx (fr.put d (.ptrL b (off + j))) C Z) : R P ((n, ⟨some d, none, .idxP m 1 x i⟩) :: l) base kp Q nx fr C Z := by
  refine r_p ?_ k
  simp [xp, hx, hi, intIn, hj]
theorem r_ldWL {b : Nat} {w0 w1 w2 w3 : Int} (hx : x.ev fr = .ptrL b (0 + j)) (hr : C b = some [.d (.val (.int .u64 w0)), .d (.val (.int .u64 w1)), .d (.val (.int .u64 w2)), .d (.val (.int .u64 w3))]) (hj : j < 4) (k : R P l base kp Q nx (fr.put d (.d (.val (.int .u64 ([w0, w1, w2, w3].getD j 0))))) C Z) : R P ((n, ⟨some d, none, .load none x⟩) :: l) base kp Q nx fr C Z := by
  refine r_l ?_ k
  simp only [xl, hx, rowOf, hr, Option.map_some, Option.bind_some, subA, Nat.zero_add]
  match j, hj with
  | 0, _ => rfl
  | 1, _ => rfl
  | 2, _ => rfl
  | 3, _ => rfl
end
set_option maxRecDepth 100000
set_option maxHeartbeats 4000000
attribute [local irreducible] W E R KP thenK blockK retK Good xwp aRun
def setA (a b c d : Int) : AV := .agg [.d (.val (.int .u64 a)), .d (.val (.int .u64 b)), .d (.val (.int .u64 c)), .d (.val (.int .u64 d))]
theorem in_good {a b c d : Int} (ha : okW a) (hb : okW b) (hc : okW c) (hd : okW d) (x : Nat) (hx : x < 256) : Good Try.prog 89 [setA a b c d, .d (.val (.int .u8 (x : Nat)))] none (.b (inG a b c d x)) none none := by
  unfold setA
  refine b89 (by simp) (by simp) (w_init ?_)
  unfold x89
  have hw : okW ([a, b, c, d].getD (x / 64) 0) := by
    have : x / 64 < 4 := by omega
    match x / 64, this with
    | 0, _ => exact ha
    | 1, _ => exact hb
    | 2, _ => exact hc
    | 3, _ => exact hd
  repeat' (first
    | (apply r_mvV; rfl)
    | (apply r_mvP; rfl)
    | (apply r_mvPL; rfl)
    | (apply r_mvS; rfl)
    | (apply r_mvSL; rfl)
    | (apply r_mvA; rfl)
    | (apply r_mvT; rfl)
    | (apply r_mvF; rfl)
    | (apply r_mvD; rfl)
    | (apply r_quo64; rfl; rfl; exact hx)
    | (apply r_rem64; rfl; rfl)
    | (apply r_ixPL; rfl; rfl; omega)
    | (apply r_ldWL; rfl; rfl; omega)
    | (apply r_shrW; rfl; rfl; exact hw.1; omega)
    | (apply r_rem2; rfl; rfl; exact (okW_div hw _).1)
    | (apply r_eqlU; rfl; rfl; rfl)
    | (apply r_ldL; rfl; rfl; rfl)
    | (apply r_eql; rfl; rfl; (first | (apply decide_eq_true; omega) | (apply decide_eq_false; omega) | rfl))
    | (apply r_box; ((conv => lhs; simp only [Nat.reduceAdd]) <;> rfl); rfl; rfl; rfl)
    | (apply r_p; rfl)
    | (apply r_nilK)
    | (apply r_nil)
    | (apply k_V; rfl)
    | (apply k_P; rfl)
    | (apply k_PL; rfl)
    | (apply k_S; rfl)
    | (apply k_SL; rfl)
    | (apply k_A; rfl)
    | (apply k_T; rfl)
    | (apply k_F; rfl)
    | (apply k_D; rfl; rotate_left; rfl)
    | (apply k_nil)
    | (apply e_ret (vs := [.d (.val _)]); rfl)
    | (apply e_ret; rfl)
    | (apply e_ret' (vs := [.d (.val _)]); rfl)
    | (apply e_ret'; rfl)
    | (apply w_seq)
    | (apply w_ops; ((conv => lhs; simp only [Nat.reduceAdd]) <;> rfl))
    | (apply e_thenN)
    | (apply w_block)
    | (apply e_thenR)
    | (apply e_thenX)
    | (apply e_blkN)
    | (apply e_blkR)
    | (apply e_blkE)
    | (apply w_exit)
    | (apply w_ret)
    | (apply w_skip)
    | (apply e_blkE'; rfl))
  exact retB rfl
end Go.Sv
namespace Go.Sv
open Go Go.Proofs
def x88 : XC := (.seq (.ops 2 [
    (0, ⟨(some 3), none, .box (.t 0)⟩),
    (1, ⟨(some 6), none, .mv (.k (.d (.val (.slice none 0 0))))⟩)] (some [1, 2, 3])) (.seq (.ops 5 [
    (0, ⟨(some 14), none, .mv (.t 1)⟩),
    (1, ⟨(some 15), none, .lenT (.t 14)⟩),
    (2, ⟨(some 16), none, .arith .add (.t 15) (.k (.d (.val (.int .i64 1))))⟩),
    (3, ⟨(some 17), none, .mks [(.bool false)] 1 (.t 16) (.t 16)⟩),
    (4, ⟨(some 7), none, .mv (.t 17)⟩)] (some [1, 2, 3, 7])) (.seq (.seq (.ops 2 [
    (0, ⟨(some 18), none, .fadd 0 (.t 3)⟩),
    (1, ⟨(some 19), none, .load none (.t 18)⟩)] (some [1, 2, 3, 7, 19])) (.block 0 (.seq (.ops 2 [
    (0, ⟨(some 21), none, .arith .eql (.t 19) (.k (.d (.val (.int .i64 1))))⟩),
    (1, ⟨(some 20), none, .mv (.t 21)⟩)] (some [1, 2, 3, 7, 19, 20])) (.cond (.t 20) (.ops 3 [
    (0, ⟨(some 22), none, .mv (.t 7)⟩),
    (1, ⟨(some 23), none, .mv (.t 2)⟩),
    (2, ⟨(some 24), none, .cpy 1 (.t 22) (.t 23)⟩)] (some [7])) (.seq (.ops 2 [
    (0, ⟨(some 26), none, .arith .eql (.t 19) (.k (.d (.val (.int .i64 2))))⟩),
    (1, ⟨(some 25), none, .mv (.t 26)⟩)] (some [1, 2, 3, 7, 19, 25])) (.cond (.t 25) (.seq (.ops 1 [
    (0, ⟨(some 8), none, .mv (.k (.d (.val (.int .i64 0))))⟩)] (some [1, 2, 3, 7, 8])) (.block 1 (.loop (.seq (.seq (.ops 4 [
    (0, ⟨(some 27), none, .mv (.t 8)⟩),
    (1, ⟨(some 28), none, .mv (.t 1)⟩),
    (2, ⟨(some 29), none, .lenT (.t 28)⟩),
    (3, ⟨(some 30), none, .arith .lss (.t 27) (.t 29)⟩)] (some [1, 2, 3, 7, 8, 30])) (.cond (.t 30) .skip (.exit 1))) (.seq (.block 2 (.ops 17 [
    (0, ⟨(some 33), none, .mv (.t 7)⟩),
    (1, ⟨(some 34), none, .mv (.t 8)⟩),
    (2, ⟨(some 35), none, .arith .add (.t 34) (.k (.d (.val (.int .i64 1))))⟩),
    (3, ⟨(some 36), none, .mv (.t 2)⟩),
    (4, ⟨(some 37), none, .mv (.t 8)⟩),
    (5, ⟨(some 38), none, .idxS 1 (.t 36) (.t 37)⟩),
    (6, ⟨(some 39), none, .load none (.t 38)⟩),
    (7, ⟨(some 40), none, .mv (.t 39)⟩),
    (8, ⟨(some 41), (some (40, true)), .fadd 1 (.t 3)⟩),
    (9, ⟨(some 42), (some (40, true)), .load (some 4) (.t 41)⟩),
    (10, ⟨(some 43), (some (40, true)), .mv (.t 1)⟩),
    (11, ⟨(some 44), (some (40, true)), .mv (.t 8)⟩),
    (12, ⟨(some 45), (some (40, true)), .idxT (.t 43) (.t 44)⟩),
    (13, ⟨(some 46), (some (40, true)), .call 89 [(.t 42), (.t 45)] none false⟩),
    (14, ⟨(some 47), none, .pick (.t 40) (.t 46) (.k (.d (.val (.bool false))))⟩),
    (15, ⟨(some 48), none, .idxS 1 (.t 33) (.t 35)⟩),
    (16, ⟨none, none, .store 1 (.t 48) (.t 47)⟩)] (some [1, 2, 3, 7, 8]))) (.ops 3 [
    (0, ⟨(some 31), none, .mv (.t 8)⟩),
    (1, ⟨(some 32), none, .arith .add (.t 31) (.k (.d (.val (.int .i64 1))))⟩),
    (2, ⟨(some 8), none, .mv (.t 32)⟩)] (some [1, 2, 3, 7, 8]))))))) (.seq (.ops 2 [
    (0, ⟨(some 50), none, .arith .eql (.t 19) (.k (.d (.val (.int .i64 3))))⟩),
    (1, ⟨(some 49), none, .mv (.t 50)⟩)] (some [1, 2, 3, 7, 19, 49])) (.cond (.t 49) (.seq (.ops 3 [
    (0, ⟨(some 51), none, .mv (.t 7)⟩),
    (1, ⟨(some 52), none, .mv (.t 2)⟩),
    (2, ⟨(some 53), none, .cpy 1 (.t 51) (.t 52)⟩)] (some [1, 3, 7])) (.seq (.ops 1 [
    (0, ⟨(some 9), none, .mv (.k (.d (.val (.int .i64 0))))⟩)] (some [1, 3, 7, 9])) (.block 3 (.loop (.seq (.seq (.ops 5 [
    (0, ⟨(some 54), none, .mv (.t 9)⟩),
    (1, ⟨(some 55), none, .fadd 7 (.t 3)⟩),
    (2, ⟨(some 56), none, .load none (.t 55)⟩),
    (3, ⟨(some 57), none, .lenS (.t 56)⟩),
    (4, ⟨(some 58), none, .arith .lss (.t 54) (.t 57)⟩)] (some [1, 3, 7, 9, 58])) (.cond (.t 58) .skip (.exit 3))) (.seq (.block 4 (.ops 9 [
    (0, ⟨(some 61), none, .fadd 7 (.t 3)⟩),
    (1, ⟨(some 62), none, .load none (.t 61)⟩),
    (2, ⟨(some 63), none, .mv (.t 9)⟩),
    (3, ⟨(some 64), none, .idxS 8 (.t 62) (.t 63)⟩),
    (4, ⟨(some 65), none, .load (some 8) (.t 64)⟩),
    (5, ⟨(some 66), none, .mv (.t 1)⟩),
    (6, ⟨(some 67), none, .mv (.t 7)⟩),
    (7, ⟨(some 68), none, .call 88 [(.t 65), (.t 66), (.t 67)] none false⟩),
    (8, ⟨(some 7), none, .mv (.t 68)⟩)] (some [1, 3, 7, 9]))) (.ops 3 [
    (0, ⟨(some 59), none, .mv (.t 9)⟩),
    (1, ⟨(some 60), none, .arith .add (.t 59) (.k (.d (.val (.int .i64 1))))⟩),
    (2, ⟨(some 9), none, .mv (.t 60)⟩)] (some [1, 3, 7, 9])))))))) (.seq (.ops 2 [
    (0, ⟨(some 70), none, .arith .eql (.t 19) (.k (.d (.val (.int .i64 4))))⟩),
    (1, ⟨(some 69), none, .mv (.t 70)⟩)] (some [1, 2, 3, 7, 19, 69])) (.cond (.t 69) (.seq (.ops 1 [
    (0, ⟨(some 10), none, .mv (.k (.d (.val (.int .i64 0))))⟩)] (some [1, 2, 3, 7, 10])) (.block 5 (.loop (.seq (.seq (.ops 5 [
    (0, ⟨(some 71), none, .mv (.t 10)⟩),
    (1, ⟨(some 72), none, .fadd 7 (.t 3)⟩),
    (2, ⟨(some 73), none, .load none (.t 72)⟩),
    (3, ⟨(some 74), none, .lenS (.t 73)⟩),
    (4, ⟨(some 75), none, .arith .lss (.t 71) (.t 74)⟩)] (some [1, 2, 3, 7, 10, 75])) (.cond (.t 75) .skip (.exit 5))) (.seq (.block 6 (.ops 10 [
    (0, ⟨(some 78), none, .mv (.t 7)⟩),
    (1, ⟨(some 79), none, .fadd 7 (.t 3)⟩),
    (2, ⟨(some 80), none, .load none (.t 79)⟩),
    (3, ⟨(some 81), none, .mv (.t 10)⟩),
    (4, ⟨(some 82), none, .idxS 8 (.t 80) (.t 81)⟩),
    (5, ⟨(some 83), none, .load (some 8) (.t 82)⟩),
    (6, ⟨(some 84), none, .mv (.t 1)⟩),
    (7, ⟨(some 85), none, .mv (.t 2)⟩),
    (8, ⟨(some 86), none, .call 88 [(.t 83), (.t 84), (.t 85)] none false⟩),
    (9, ⟨(some 87), none, .call 137 [(.t 78), (.t 86)] (some 0) false⟩)] (some [1, 2, 3, 7, 10]))) (.ops 3 [
    (0, ⟨(some 76), none, .mv (.t 10)⟩),
    (1, ⟨(some 77), none, .arith .add (.t 76) (.k (.d (.val (.int .i64 1))))⟩),
    (2, ⟨(some 10), none, .mv (.t 77)⟩)] (some [1, 2, 3, 7, 10]))))))) (.seq (.ops 2 [
    (0, ⟨(some 89), none, .arith .eql (.t 19) (.k (.d (.val (.int .i64 5))))⟩),
    (1, ⟨(some 88), none, .mv (.t 89)⟩)] (some [1, 2, 3, 7, 88])) (.cond (.t 88) (.seq (.ops 4 [
    (0, ⟨(some 90), none, .mkrow [(.bool false)] 0 1 []⟩),
    (1, ⟨(some 91), none, .mv (.t 2)⟩),
    (2, ⟨(some 92), none, .app [(.bool false)] 1 (.t 90) (.t 91)⟩),
    (3, ⟨(some 11), none, .mv (.t 92)⟩)] (some [1, 3, 7, 11])) (.seq (.ops 3 [
    (0, ⟨(some 93), none, .fadd 6 (.t 3)⟩),
    (1, ⟨(some 94), none, .load none (.t 93)⟩),
    (2, ⟨(some 12), none, .mv (.t 94)⟩)] (some [1, 3, 7, 11, 12])) (.seq (.seq (.ops 2 [
    (0, ⟨(some 95), none, .mv (.t 12)⟩),
    (1, ⟨(some 96), none, .arith .lss (.t 95) (.k (.d (.val (.int .i64 0))))⟩)] (some [1, 3, 7, 11, 12, 96])) (.cond (.t 96) (.ops 7 [
    (0, ⟨(some 97), none, .fadd 5 (.t 3)⟩),
    (1, ⟨(some 98), none, .load none (.t 97)⟩),
    (2, ⟨(some 99), none, .mv (.t 1)⟩),
    (3, ⟨(some 100), none, .lenT (.t 99)⟩),
    (4, ⟨(some 101), none, .arith .add (.t 98) (.t 100)⟩),
    (5, ⟨(some 102), none, .arith .add (.t 101) (.k (.d (.val (.int .i64 1))))⟩),
    (6, ⟨(some 12), none, .mv (.t 102)⟩)] (some [1, 3, 7, 11, 12])) .skip)) (.seq (.ops 1 [
    (0, ⟨(some 13), none, .mv (.k (.d (.val (.int .i64 0))))⟩)] (some [1, 3, 7, 11, 12, 13])) (.block 7 (.loop (.seq (.seq (.ops 3 [
    (0, ⟨(some 103), none, .mv (.t 13)⟩),
    (1, ⟨(some 104), none, .mv (.t 12)⟩),
    (2, ⟨(some 105), none, .arith .leq (.t 103) (.t 104)⟩)] (some [1, 3, 7, 11, 12, 13, 105])) (.cond (.t 105) .skip (.exit 7))) (.seq (.block 8 (.seq (.seq (.ops 10 [
    (0, ⟨(some 108), none, .mv (.t 13)⟩),
    (1, ⟨(some 109), none, .fadd 5 (.t 3)⟩),
    (2, ⟨(some 110), none, .load none (.t 109)⟩),
    (3, ⟨(some 111), none, .arith .geq (.t 108) (.t 110)⟩),
    (4, ⟨(some 112), none, .mv (.t 111)⟩),
    (5, ⟨(some 113), (some (112, true)), .mv (.t 7)⟩),
    (6, ⟨(some 114), (some (112, true)), .mv (.t 11)⟩),
    (7, ⟨(some 115), (some (112, true)), .call 137 [(.t 113), (.t 114)] (some 0) false⟩),
    (8, ⟨(some 116), (some (112, true)), .un .not (.t 115)⟩),
    (9, ⟨(some 117), none, .pick (.t 112) (.t 116) (.k (.d (.val (.bool false))))⟩)] (some [1, 3, 7, 11, 12, 13, 117])) (.cond (.t 117) (.exit 7) .skip)) (.ops 8 [
    (0, ⟨(some 118), none, .fadd 7 (.t 3)⟩),
    (1, ⟨(some 119), none, .load none (.t 118)⟩),
    (2, ⟨(some 120), none, .idxS 8 (.t 119) (.k (.d (.val (.int .i64 0))))⟩),
    (3, ⟨(some 121), none, .load (some 8) (.t 120)⟩),
    (4, ⟨(some 122), none, .mv (.t 1)⟩),
    (5, ⟨(some 123), none, .mv (.t 11)⟩),
    (6, ⟨(some 124), none, .call 88 [(.t 121), (.t 122), (.t 123)] none false⟩),
    (7, ⟨(some 11), none, .mv (.t 124)⟩)] (some [1, 3, 7, 11, 12, 13])))) (.ops 3 [
    (0, ⟨(some 106), none, .mv (.t 13)⟩),
    (1, ⟨(some 107), none, .arith .add (.t 106) (.k (.d (.val (.int .i64 1))))⟩),
    (2, ⟨(some 13), none, .mv (.t 107)⟩)] (some [1, 3, 7, 11, 12, 13])))))))))) .skip)))))))))))) (.seq (.ops 2 [
    (0, ⟨(some 125), none, .mv (.t 7)⟩),
    (1, ⟨(some 6), none, .mv (.t 125)⟩)] (some [6])) .ret))))
def md88 : FuncId → Option Nat × Bool
  | 137 => (some 0, false)
  | _ => (none, false)
def od88 : Nat → List (List Nat) × List Nat × Option (List Nat)
  | 0 => ([], [], some [1, 2, 3])
  | 1 => ([], [], some [1, 2, 3, 7])
  | 2 => ([], [], some [1, 2, 3, 7, 19])
  | 3 => ([], [], some [1, 2, 3, 7, 19, 20])
  | 4 => ([], [], some [7])
  | 5 => ([], [], some [1, 2, 3, 7, 19, 25])
  | 6 => ([], [], some [1, 2, 3, 7, 8])
  | 7 => ([], [], some [1, 2, 3, 7, 8, 30])
  | 8 => ([], [], some [1, 2, 3, 7, 8])
  | 9 => ([[], [], [1], [], [], [3, 4], [3, 4, 5], [3, 4, 5, 6], [3, 4, 5, 6, 7], [3, 4, 5, 6, 7, 8], [3, 4, 5, 6, 7], [3, 4, 5, 6, 7], [3, 4, 5, 6, 7, 10, 11], [3, 4, 5, 6, 7, 8, 9, 10, 11, 12], [3, 4, 5, 6, 7, 8, 9, 10, 11, 12, 13], [0, 1, 2, 3, 4, 5, 6, 7, 8, 9, 10, 11, 12, 13, 14], [0, 1, 2, 3, 4, 5, 6, 7, 8, 9, 10, 11, 12, 13, 14, 15]], [0, 1, 2, 3, 4, 5, 6, 7, 8, 9, 10, 11, 12, 13, 14, 15, 16], some [1, 2, 3, 7, 8])
  | 10 => ([], [], some [1, 2, 3, 7, 19, 49])
  | 11 => ([], [], some [1, 3, 7])
  | 12 => ([], [], some [1, 3, 7, 9])
  | 13 => ([], [], some [1, 3, 7, 9, 58])
  | 14 => ([], [], some [1, 3, 7, 9])
  | 15 => ([], [], some [1, 3, 7, 9])
  | 16 => ([], [], some [1, 2, 3, 7, 19, 69])
  | 17 => ([], [], some [1, 2, 3, 7, 10])
  | 18 => ([], [], some [1, 2, 3, 7, 10, 75])
  | 19 => ([], [], some [1, 2, 3, 7, 10])
  | 20 => ([], [], some [1, 2, 3, 7, 10])
  | 21 => ([], [], some [1, 2, 3, 7, 88])
  | 22 => ([], [], some [1, 3, 7, 11])
  | 23 => ([], [], some [1, 3, 7, 11, 12])
  | 24 => ([], [], some [1, 3, 7, 11, 12, 96])
  | 25 => ([], [], some [1, 3, 7, 11, 12])
  | 26 => ([], [], some [1, 3, 7, 11, 12, 13])
  | 27 => ([], [], some [1, 3, 7, 11, 12, 13, 105])
  | 28 => ([], [], some [1, 3, 7, 11, 12, 13])
  | 29 => ([], [], some [1, 3, 7, 11, 12, 13, 117])
  | 30 => ([], [], some [1, 3, 7, 11, 12, 13])
  | 31 => ([], [], some [6])
  | _ => ([], [], none)
theorem b88 {ags : List AV} {row : Option (List DV)} {r : AV} {row' nw : Option (List DV)} (hal : ags.length ≤ 126) (hrow : row'.isSome = true → row.isSome = true) (h : xwp Try.prog x88 (retK [.tmp 6] row.isSome r row' nw) (St.init ags row)) : Good Try.prog 88 ags row r row' nw :=
  good_of_body' (md := md88) (od := od88) Try.f88 (by kernel_rfl) (by kernel_rfl) (by kernel_rfl) (by kernel_rfl) (by kernel_rfl) hal hrow h

def refR (f : List Bool → List Bool) (m : Nat) (mn last : Int) : Nat → Int → List Bool → List Bool → List Bool
  | 0, _, _, out => out
  | n + 1, k, p, out =>
    if k ≤ last then
      if mn ≤ k then (if (addTo out p m).2 = true then refR f m mn last n (k + 1) (f p) (addTo out p m).1 else (addTo out p m).1)
      else refR f m mn last n (k + 1) (f p) out
    else out
mutual
def refG (s : ByteArray) : T → List Bool → List Bool
  | .node k a b c d mn mx subs, p =>
    if k = 1 then p
    else if k = 2 then classTo a b c d s p s.size
    else if k = 3 then rcatG s subs p
    else if k = 4 then raltG s subs p (List.replicate (s.size + 1) false)
    else if k = 5 then refR (rfstG s subs) (s.size + 1) mn (if mx < 0 then mn + s.size + 1 else mx) ((if mx < 0 then mn + s.size + 1 else mx) + 1).toNat 0 p (List.replicate (s.size + 1) false)
    else List.replicate (s.size + 1) false
def rcatG (s : ByteArray) : List T → List Bool → List Bool
  | [], p => p
  | t :: l, p => rcatG s l (refG s t p)
def raltG (s : ByteArray) : List T → List Bool → List Bool → List Bool
  | [], _, out => out
  | t :: l, p, out => raltG s l p (addTo out (refG s t p) (s.size + 1)).1
def rfstG (s : ByteArray) : List T → List Bool → List Bool
  | [], p => p
  | t :: _, p => refG s t p
end
theorem refR_len (f : List Bool → List Bool) (m : Nat) (mn last : Int) : ∀ (n : Nat) (k : Int) (p out : List Bool), (refR f m mn last n k p out).length = out.length
  | 0, _, _, _ => rfl
  | n + 1, k, p, out => by
    simp only [refR]
    split
    · split
      · split
        · rw [refR_len f m mn last n, addTo_len]
        · rw [addTo_len]
      · rw [refR_len f m mn last n]
    · rfl
mutual
theorem refG_len (s : ByteArray) : ∀ (t : T) (p : List Bool), p.length = s.size + 1 → (refG s t p).length = s.size + 1
  | .node k a b c d mn mx subs, p, h => by
    simp only [refG]
    split
    · exact h
    split
    · exact classTo_len _ _ _ _ _ _ _
    split
    · exact rcatG_len s subs p h
    split
    · exact raltG_len s subs p _ h (by simp)
    split
    · rw [refR_len]; simp
    · simp
theorem rcatG_len (s : ByteArray) : ∀ (l : List T) (p : List Bool), p.length = s.size + 1 → (rcatG s l p).length = s.size + 1
  | [], p, h => by simp only [rcatG]; exact h
  | t :: l, p, h => by simp only [rcatG]; exact rcatG_len s l _ (refG_len s t p h)
theorem raltG_len (s : ByteArray) : ∀ (l : List T) (p out : List Bool), p.length = s.size + 1 → out.length = s.size + 1 → (raltG s l p out).length = s.size + 1
  | [], p, out, _, h => by simp only [raltG]; exact h
  | t :: l, p, out, h, h2 => by simp only [raltG]; exact raltG_len s l p _ h (by rw [addTo_len]; exact h2)
end
end Go.Sv
namespace Go.Sv
open Go

def word (s : ByteArray) (i j : Nat) : List Nat := (List.range' i (j - i)).map (byteN s)
theorem word_nil (s : ByteArray) (i : Nat) : word s i i = [] := by simp [word]
theorem word_one (s : ByteArray) (i : Nat) : word s i (i + 1) = [byteN s i] := by
  simp [word, Nat.add_sub_cancel_left]
theorem word_len (s : ByteArray) (i j : Nat) : (word s i j).length = j - i := by simp [word]
theorem word_app (s : ByteArray) {i j k : Nat} (h : i ≤ j) (h2 : j ≤ k) : word s i j ++ word s j k = word s i k := by
  unfold word
  rw [← List.map_append]
  congr 1
  have e : j = i + (j - i) := by omega
  conv => lhs; rhs; arg 1; rw [e]
  rw [List.range'_append_1]
  congr 1; omega
theorem word_split (s : ByteArray) {i k : Nat} (h : i ≤ k) {u v : List Nat} (e : word s i k = u ++ v) : i + u.length ≤ k ∧ u = word s i (i + u.length) ∧ v = word s (i + u.length) k := by
  have hl := congrArg List.length e
  rw [word_len, List.length_append] at hl
  have h1 : i + u.length ≤ k := by omega
  rw [← word_app s (Nat.le_add_right i u.length) h1] at e
  have := List.append_inj e (by rw [word_len]; omega)
  exact ⟨h1, this.1.symm, this.2.symm⟩

def powL (P : List Nat → Prop) : Nat → List Nat → Prop
  | 0, w => w = []
  | n + 1, w => ∃ u v, w = u ++ v ∧ P u ∧ powL P n v

mutual
def L : T → List Nat → Prop
  | .node k a b c d mn mx subs, w =>
    if k = 1 then w = []
    else if k = 2 then ∃ x, w = [x] ∧ inG a b c d x = true
    else if k = 3 then catL subs w
    else if k = 4 then altL subs w
    else if k = 5 then ∃ r : Nat, mn ≤ r ∧ (mx < 0 ∨ (r : Int) ≤ mx) ∧ powL (fstL subs) r w
    else False
def catL : List T → List Nat → Prop
  | [], w => w = []
  | t :: l, w => ∃ u v, w = u ++ v ∧ L t u ∧ catL l v
def altL : List T → List Nat → Prop
  | [], _ => False
  | t :: l, w => L t w ∨ altL l w
def fstL : List T → List Nat → Prop
  | [], w => w = []
  | t :: _, w => L t w
end

def At (p : List Bool) (j : Nat) : Prop := p.getD j false = true
theorem At.lt {p : List Bool} {j : Nat} (h : At p j) : j < p.length := by
  unfold At at h
  rcases Nat.lt_or_ge j p.length with h' | h'
  · exact h'
  · rw [List.getD_eq_getElem?_getD, List.getElem?_eq_none h'] at h; simp at h
theorem at_rep (m j : Nat) : ¬ At (List.replicate m false) j := by
  intro h
  have := h.lt
  unfold At at h
  rw [List.getD_eq_getElem?_getD, List.getElem?_eq_getElem this] at h
  simp at h
theorem at_set {p : List Bool} {i : Nat} {v : Bool} (j : Nat) (hi : i < p.length) : At (p.set i v) j ↔ (j = i ∧ v = true) ∨ (j ≠ i ∧ At p j) := by
  unfold At
  rw [List.getD_eq_getElem?_getD, List.getD_eq_getElem?_getD, List.getElem?_set]
  by_cases h : i = j
  · subst h; simp [hi]
  · simp [h, Ne.symm h]
theorem at_ext {p q : List Bool} (hl : p.length = q.length) (h : ∀ j, At p j ↔ At q j) : p = q := by
  refine List.ext_getElem hl fun j h1 h2 => ?_
  have := h j
  unfold At at this
  rw [List.getD_eq_getElem?_getD, List.getD_eq_getElem?_getD, List.getElem?_eq_getElem h1, List.getElem?_eq_getElem h2] at this
  simp only [Option.getD_some] at this
  exact Bool.eq_iff_iff.2 this

theorem at_addTo {p q : List Bool} : ∀ (m : Nat), m ≤ p.length → ∀ j, At (addTo p q m).1 j ↔ At p j ∨ (j < m ∧ At q j)
  | 0, _, j => by simp [addTo]
  | m + 1, h, j => by
    have ih := at_addTo (p := p) (q := q) m (by omega)
    have hl : m < (addTo p q m).1.length := by rw [addTo_len]; omega
    simp only [addTo]
    split
    · rename_i hc
      simp only [at_set j hl, ih j]
      constructor
      · rintro (⟨rfl, _⟩ | ⟨_, h | ⟨h1, h2⟩⟩)
        · exact .inr ⟨by omega, hc.1⟩
        · exact .inl h
        · exact .inr ⟨by omega, h2⟩
      · intro h
        by_cases hj : j = m
        · exact .inl (by simp [hj])
        · rcases h with h | ⟨h1, h2⟩
          · exact .inr ⟨hj, .inl h⟩
          · exact .inr ⟨hj, .inr ⟨by omega, h2⟩⟩
    · rename_i hc
      rw [ih j]
      constructor
      · rintro (h | ⟨h1, h2⟩)
        · exact .inl h
        · exact .inr ⟨by omega, h2⟩
      · rintro (h | ⟨h1, h2⟩)
        · exact .inl h
        · by_cases hj : j = m
          · subst hj
            have h3 : At (addTo p q j).1 j := by
              unfold At
              cases hb : (addTo p q j).1.getD j false with
              | true => rfl
              | false => exact absurd ⟨h2, hb⟩ hc
            rcases (ih j).1 h3 with h | ⟨h1, _⟩
            · exact .inl h
            · omega
          · exact .inr ⟨by omega, h2⟩
theorem addTo_new {p q : List Bool} : ∀ (m : Nat), m ≤ p.length → ((addTo p q m).2 = true ↔ ∃ j, j < m ∧ At q j ∧ ¬ At p j)
  | 0, _ => by simp [addTo]
  | m + 1, h => by
    have ih := addTo_new (p := p) (q := q) m (by omega)
    have ha := at_addTo (p := p) (q := q) m (by omega) m
    simp only [addTo]
    split
    · rename_i hc
      simp only [true_iff]
      refine ⟨m, by omega, hc.1, fun hp => ?_⟩
      have := ha.2 (.inl hp)
      unfold At at this
      rw [hc.2] at this; cases this
    · rename_i hc
      rw [ih]
      constructor
      · rintro ⟨j, h1, h2, h3⟩; exact ⟨j, by omega, h2, h3⟩
      · rintro ⟨j, h1, h2, h3⟩
        by_cases hj : j = m
        · subst hj
          exfalso
          refine hc ⟨h2, ?_⟩
          cases hb : (addTo p q j).1.getD j false with
          | false => rfl
          | true =>
            rcases ha.1 hb with h | ⟨h, _⟩
            · exact absurd h h3
            · omega
        · exact ⟨j, by omega, h2, h3⟩

def Goes (s : ByteArray) (f : List Bool → List Bool) (P : List Nat → Prop) : Prop :=
  ∀ p, p.length = s.size + 1 → (f p).length = s.size + 1 ∧ ∀ j, At (f p) j ↔ ∃ i, i ≤ j ∧ At p i ∧ j ≤ s.size ∧ P (word s i j)

def iter (f : List Bool → List Bool) : Nat → List Bool → List Bool
  | 0, p => p
  | n + 1, p => iter f n (f p)
theorem iter_len {s : ByteArray} {f : List Bool → List Bool} {P : List Nat → Prop} (hf : Goes s f P) : ∀ (n : Nat) (p : List Bool), p.length = s.size + 1 → (iter f n p).length = s.size + 1
  | 0, p, h => h
  | n + 1, p, h => iter_len hf n _ (hf p h).1
theorem iter_goes {s : ByteArray} {f : List Bool → List Bool} {P : List Nat → Prop} (hf : Goes s f P) : ∀ n, Goes s (iter f n) (powL P n)
  | 0 => fun p hp => ⟨hp, fun j => by
      simp only [iter, powL]
      constructor
      · intro h; exact ⟨j, Nat.le_refl _, h, by have := h.lt; omega, word_nil s j⟩
      · rintro ⟨i, h1, h2, h3, h4⟩
        have := congrArg List.length h4
        rw [word_len] at this
        simp at this
        rw [show j = i by omega]; exact h2⟩
  | n + 1 => fun p hp => by
    obtain ⟨h1, h2⟩ := hf p hp
    obtain ⟨h3, h4⟩ := iter_goes hf n (f p) h1
    refine ⟨h3, fun j => ?_⟩
    simp only [iter, powL]
    rw [h4 j]
    constructor
    · rintro ⟨i, g1, g2, g3, g4⟩
      obtain ⟨i0, k1, k2, k3, k4⟩ := (h2 i).1 g2
      exact ⟨i0, by omega, k2, g3, _, _, (word_app s k1 g1).symm, k4, g4⟩
    · rintro ⟨i, g1, g2, g3, u, v, e, g4, g5⟩
      obtain ⟨k1, k2, k3⟩ := word_split s g1 e
      refine ⟨i + u.length, k1, (h2 _).2 ⟨i, by omega, g2, by omega, k2 ▸ g4⟩, g3, k3 ▸ g5⟩
def Sub (p q : List Bool) : Prop := ∀ j, At p j → At q j
theorem Goes.mono {s : ByteArray} {f : List Bool → List Bool} {P : List Nat → Prop} (hf : Goes s f P) {p q : List Bool} (hp : p.length = s.size + 1) (hq : q.length = s.size + 1) (h : Sub p q) : Sub (f p) (f q) := by
  intro j hj
  obtain ⟨i, h1, h2, h3, h4⟩ := ((hf p hp).2 j).1 hj
  exact ((hf q hq).2 j).2 ⟨i, h1, h i h2, h3, h4⟩
theorem Goes.step {s : ByteArray} {f : List Bool → List Bool} {P : List Nat → Prop} (hf : Goes s f P) {p q r : List Bool} (hp : p.length = s.size + 1) (hq : q.length = s.size + 1) (hr : r.length = s.size + 1) (h : ∀ j, At r j → At p j ∨ At q j) : ∀ j, At (f r) j → At (f p) j ∨ At (f q) j := by
  intro j hj
  obtain ⟨i, h1, h2, h3, h4⟩ := ((hf r hr).2 j).1 hj
  rcases h i h2 with h | h
  · exact .inl (((hf p hp).2 j).2 ⟨i, h1, h, h3, h4⟩)
  · exact .inr (((hf q hq).2 j).2 ⟨i, h1, h, h3, h4⟩)
theorem iter_sub {s : ByteArray} {f : List Bool → List Bool} {P : List Nat → Prop} (hf : Goes s f P) {out : List Bool} (ho : out.length = s.size + 1) (hc : Sub (f out) out) : ∀ (n : Nat) (p : List Bool), p.length = s.size + 1 → Sub p out → Sub (iter f n p) out
  | 0, p, _, h => h
  | n + 1, p, hp, h => iter_sub hf ho hc n (f p) (hf p hp).1 fun j hj => hc j (hf.mono hp ho h j hj)

theorem refR_spec {s : ByteArray} {f : List Bool → List Bool} {P : List Nat → Prop} (hf : Goes s f P) (mn last : Int) : ∀ (n : Nat) (k : Int) (p out : List Bool), p.length = s.size + 1 → out.length = s.size + 1 → (last + 1 - k).toNat ≤ n →
    (∀ j, At (f out) j → At out j ∨ At p j) → (k < mn → ∀ j, ¬ At out j) →
    (∀ j, At (refR f (s.size + 1) mn last n k p out) j ↔ At out j ∨ ∃ r : Nat, mn ≤ k + r ∧ k + r ≤ last ∧ At (iter f r p) j) ∧
    (falses out ≤ last - max k mn → ∀ (j r : Nat), mn ≤ k + r → At (iter f r p) j → At (refR f (s.size + 1) mn last n k p out) j)
  | 0, k, p, out, hp, ho, hn, hc, hz => by
    simp only [refR]
    refine ⟨fun j => ⟨.inl, ?_⟩, fun h => ?_⟩
    · rintro (h | ⟨r, h1, h2, h3⟩)
      · exact h
      · omega
    · omega
  | n + 1, k, p, out, hp, ho, hn, hc, hz => by
    have hfp := (hf p hp).1
    simp only [refR]
    split
    case isFalse hk =>
      refine ⟨fun j => ⟨.inl, ?_⟩, fun h => ?_⟩
      · rintro (h | ⟨r, h1, h2, h3⟩)
        · exact h
        · omega
      · omega
    rename_i hk
    split
    · rename_i hmn
      have hl2 : (addTo out p (s.size + 1)).1.length = s.size + 1 := by rw [addTo_len]; exact ho
      have hat : ∀ j, At (addTo out p (s.size + 1)).1 j ↔ At out j ∨ At p j := fun j => by
        rw [at_addTo _ (by omega)]
        exact or_congr Iff.rfl ⟨fun h => h.2, fun h => ⟨by have := h.lt; omega, h⟩⟩
      have hnew := addTo_new (p := out) (q := p) (s.size + 1) (by omega)
      have hfs := addTo_falses out p (s.size + 1) (by omega)
      split
      · rename_i hcame
        have hc' : ∀ j, At (f (addTo out p (s.size + 1)).1) j → At (addTo out p (s.size + 1)).1 j ∨ At (f p) j := fun j hj => by
          rcases hf.step ho hp hl2 (fun j hj => (hat j).1 hj) j hj with h | h
          · exact .inl ((hat j).2 (hc j h))
          · exact .inr h
        obtain ⟨i1, i2⟩ := refR_spec hf mn last n (k + 1) (f p) _ hfp hl2 (by omega) hc' (fun h => by omega)
        refine ⟨fun j => ?_, fun hlt j r hr hj => ?_⟩
        · rw [i1 j, hat j]
          constructor
          · rintro ((h | h) | ⟨r, h1, h2, h3⟩)
            · exact .inl h
            · exact .inr ⟨0, by omega, by omega, h⟩
            · exact .inr ⟨r + 1, by omega, by omega, h3⟩
          · rintro (h | ⟨r, h1, h2, h3⟩)
            · exact .inl (.inl h)
            · cases r with
              | zero => exact .inl (.inr h3)
              | succ r => exact .inr ⟨r, by omega, by omega, h3⟩
        · cases r with
          | zero => exact (i1 j).2 (.inl ((hat j).2 (.inr hj)))
          | succ r =>
            have := hfs.2 hcame
            exact i2 (by omega) j r (by omega) hj
      · rename_i hcame
        have hsub : Sub p out := fun j hj => by
          by_cases h : At out j
          · exact h
          · exact absurd (hnew.2 ⟨j, by have := hj.lt; omega, hj, h⟩) hcame
        have hcl : Sub (f out) out := fun j hj => (hc j hj).elim id (hsub j)
        have hit : ∀ r j, At (iter f r p) j → At out j := fun r j hj => iter_sub hf ho hcl r p hp hsub j hj
        refine ⟨fun j => ?_, fun _ j r _ hj => (hat j).2 (.inl (hit r j hj))⟩
        rw [hat j]
        constructor
        · rintro (h | h)
          · exact .inl h
          · exact .inl (hsub j h)
        · rintro (h | ⟨r, _, _, h⟩)
          · exact .inl h
          · exact .inl (hit r j h)
    · rename_i hmn
      have hz' := hz (by omega)
      have hc' : ∀ j, At (f out) j → At out j ∨ At (f p) j := fun j hj => by
        obtain ⟨i, _, h2, _⟩ := ((hf out ho).2 j).1 hj
        exact absurd h2 (hz' i)
      obtain ⟨i1, i2⟩ := refR_spec hf mn last n (k + 1) (f p) out hfp ho (by omega) hc' (fun h => hz')
      refine ⟨fun j => ?_, fun hlt j r hr hj => ?_⟩
      · rw [i1 j]
        constructor
        · rintro (h | ⟨r, h1, h2, h3⟩)
          · exact .inl h
          · exact .inr ⟨r + 1, by omega, by omega, h3⟩
        · rintro (h | ⟨r, h1, h2, h3⟩)
          · exact .inl h
          · cases r with
            | zero => omega
            | succ r => exact .inr ⟨r, by omega, by omega, h3⟩
      · cases r with
        | zero => omega
        | succ r => exact i2 (by omega) j r (by omega) hj

theorem moreG_spec {s : ByteArray} {f : List Bool → List Bool} {P : List Nat → Prop} (hf : Goes s f P) (mx : Int) : ∀ (n : Nat) (k : Int) (p out : List Bool), p.length = s.size + 1 → out.length = s.size + 1 → falses out < n →
    (∀ j, At (f out) j → At out j ∨ At (f p) j) → ∀ j, At (moreG f mx n k p out) j ↔ At out j ∨ ∃ r : Nat, 1 ≤ r ∧ (mx < 0 ∨ k + r ≤ mx) ∧ At (iter f r p) j
  | 0, _, _, _, _, _, h, _, _ => by omega
  | n + 1, k, p, out, hp, ho, hn, hc, j => by
    have hfp := (hf p hp).1
    simp only [moreG]
    rw [hfp]
    split
    case isFalse hk =>
      constructor
      · exact .inl
      · rintro (h | ⟨r, h1, h2, _⟩)
        · exact h
        · omega
    rename_i hk
    have hl2 : (addTo out (f p) (s.size + 1)).1.length = s.size + 1 := by rw [addTo_len]; exact ho
    have hat : ∀ j, At (addTo out (f p) (s.size + 1)).1 j ↔ At out j ∨ At (f p) j := fun j => by
      rw [at_addTo _ (by omega)]
      exact or_congr Iff.rfl ⟨fun h => h.2, fun h => ⟨by have := h.lt; omega, h⟩⟩
    have hnew := addTo_new (p := out) (q := f p) (s.size + 1) (by omega)
    have hfs := addTo_falses out (f p) (s.size + 1) (by omega)
    split
    · rename_i hcame
      have hc' : ∀ j, At (f (addTo out (f p) (s.size + 1)).1) j → At (addTo out (f p) (s.size + 1)).1 j ∨ At (f (f p)) j := fun j hj => by
        rcases hf.step ho hfp hl2 (fun j hj => (hat j).1 hj) j hj with h | h
        · exact .inl ((hat j).2 (hc j h))
        · exact .inr h
      have := hfs.2 hcame
      rw [moreG_spec hf mx n (k + 1) (f p) _ hfp hl2 (by omega) hc' j, hat j]
      constructor
      · rintro ((h | h) | ⟨r, h1, h2, h3⟩)
        · exact .inl h
        · exact .inr ⟨1, by omega, by omega, h⟩
        · exact .inr ⟨r + 1, by omega, by omega, h3⟩
      · rintro (h | ⟨r, h1, h2, h3⟩)
        · exact .inl (.inl h)
        · match r, h1 with
          | 1, _ => exact .inl (.inr h3)
          | r + 2, _ => exact .inr ⟨r + 1, by omega, by omega, h3⟩
    · rename_i hcame
      have hsub : Sub (f p) out := fun j hj => by
        by_cases h : At out j
        · exact h
        · exact absurd (hnew.2 ⟨j, by have := hj.lt; omega, hj, h⟩) hcame
      have hcl : Sub (f out) out := fun j hj => (hc j hj).elim id (hsub j)
      rw [hat j]
      constructor
      · rintro (h | h)
        · exact .inl h
        · exact .inl (hsub j h)
      · rintro (h | ⟨r, h1, _, h3⟩)
        · exact .inl h
        · match r, h1 with
          | r + 1, _ => exact .inl (iter_sub hf ho hcl r (f p) hfp hsub j h3)
theorem minG_spec (f : List Bool → List Bool) : ∀ (n : Nat) (p : List Bool), ((minG f n p).2 = false ∧ (minG f n p).1 = iter f n p) ∨ ((minG f n p).2 = true ∧ (∀ j, ¬ At (minG f n p).1 j) ∧ ∃ k, k ≤ n ∧ (minG f n p).1 = iter f k p)
  | 0, p => .inl ⟨rfl, rfl⟩
  | n + 1, p => by
    simp only [minG]
    split
    · rename_i h
      refine .inr ⟨rfl, fun j hj => ?_, 0, by omega, rfl⟩
      have hlt := hj.lt
      unfold At at hj
      rw [List.getD_eq_getElem?_getD, List.getElem?_eq_getElem hlt] at hj
      simp only [Option.getD_some] at hj
      have : p.any id = true := List.any_eq_true.2 ⟨_, List.getElem_mem hlt, hj⟩
      rw [h] at this; cases this
    · rcases minG_spec f n (f p) with h | ⟨h1, h2, k, h3, h4⟩
      · exact .inl h
      · exact .inr ⟨h1, h2, k + 1, by omega, h4⟩
theorem iter_add (f : List Bool → List Bool) : ∀ (a b : Nat) (p : List Bool), iter f (a + b) p = iter f b (iter f a p)
  | 0, b, p => by rw [Nat.zero_add]; rfl
  | a + 1, b, p => by rw [Nat.succ_add]; exact iter_add f a b (f p)
theorem iter_empty {s : ByteArray} {f : List Bool → List Bool} {P : List Nat → Prop} (hf : Goes s f P) (n : Nat) {p : List Bool} (hp : p.length = s.size + 1) (h : ∀ j, ¬ At p j) : ∀ j, ¬ At (iter f n p) j := fun j hj => by
  obtain ⟨i, _, h2, _⟩ := ((iter_goes hf n p hp).2 j).1 hj
  exact h i h2
theorem falses_le (p : List Bool) : falses p ≤ p.length := List.countP_le_length

theorem ex_pow {s : ByteArray} {f : List Bool → List Bool} {P : List Nat → Prop} (hf : Goes s f P) {p : List Bool} (hp : p.length = s.size + 1) (C : Nat → Prop) (j : Nat) : (∃ r, C r ∧ At (iter f r p) j) ↔ ∃ i, i ≤ j ∧ At p i ∧ j ≤ s.size ∧ ∃ r, C r ∧ powL P r (word s i j) := by
  constructor
  · rintro ⟨r, h1, h2⟩
    obtain ⟨i, g1, g2, g3, g4⟩ := ((iter_goes hf r p hp).2 j).1 h2
    exact ⟨i, g1, g2, g3, r, h1, g4⟩
  · rintro ⟨i, g1, g2, g3, r, h1, g4⟩
    exact ⟨r, h1, ((iter_goes hf r p hp).2 j).2 ⟨i, g1, g2, g3, g4⟩⟩

theorem repG_goes {s : ByteArray} {f : List Bool → List Bool} {P : List Nat → Prop} (hf : Goes s f P) {mn mx : Int} (h0 : 0 ≤ mn) (hm : mx < 0 ∨ mn ≤ mx) : Goes s (repG f (s.size + 1) mn mx) (fun w => ∃ r : Nat, mn ≤ r ∧ (mx < 0 ∨ (r : Int) ≤ mx) ∧ powL P r w) := by
  intro p hp
  have hi := iter_len hf mn.toNat p hp
  have key : (repG f (s.size + 1) mn mx p).length = s.size + 1 ∧ ∀ j, At (repG f (s.size + 1) mn mx p) j ↔ ∃ r : Nat, (mn ≤ r ∧ (mx < 0 ∨ (r : Int) ≤ mx)) ∧ At (iter f r p) j := by
    rcases minG_spec f mn.toNat p with ⟨h1, h2⟩ | ⟨h1, h2, k, h3, h4⟩
    · simp only [repG, h1, h2, Bool.false_eq_true, if_false]
      have hl2 : (addTo (List.replicate (s.size + 1) false) (iter f mn.toNat p) (s.size + 1)).1.length = s.size + 1 := by rw [addTo_len]; simp
      have hat : ∀ j, At (addTo (List.replicate (s.size + 1) false) (iter f mn.toNat p) (s.size + 1)).1 j ↔ At (iter f mn.toNat p) j := fun j => by
        rw [at_addTo _ (by simp)]
        constructor
        · rintro (h | h)
          · exact absurd h (at_rep _ _)
          · exact h.2
        · intro h; exact .inr ⟨by have := h.lt; omega, h⟩
      have e : (addTo (List.replicate (s.size + 1) false) (iter f mn.toNat p) (s.size + 1)).1 = iter f mn.toNat p := at_ext (by rw [hl2, hi]) hat
      rw [e]
      refine ⟨by rw [moreG_len]; exact hi, fun j => ?_⟩
      rw [moreG_spec hf mx _ _ _ _ hi hi (by have := falses_le (iter f mn.toNat p); omega) (fun j hj => .inr hj) j]
      constructor
      · rintro (h | ⟨r, g1, g2, g3⟩)
        · exact ⟨mn.toNat, by omega, h⟩
        · refine ⟨mn.toNat + r, by omega, ?_⟩
          rw [iter_add]; exact g3
      · rintro ⟨r, g1, g3⟩
        have er : r = mn.toNat + (r - mn.toNat) := by omega
        rw [er, iter_add] at g3
        by_cases hr : r = mn.toNat
        · subst hr; rw [Nat.sub_self] at g3; exact .inl g3
        · exact .inr ⟨r - mn.toNat, by omega, by omega, g3⟩
    · simp only [repG, h1, if_true]
      refine ⟨by rw [h4]; exact iter_len hf k p hp, fun j => ⟨fun h => absurd h (h2 j), ?_⟩⟩
      rintro ⟨r, g1, g3⟩
      rw [h4] at h2
      rw [show r = k + (r - k) by omega, iter_add] at g3
      exact absurd g3 (iter_empty hf _ (iter_len hf k p hp) h2 j)
  refine ⟨key.1, fun j => ?_⟩
  rw [key.2 j, ex_pow hf hp]
  simp only [and_assoc]
theorem refRep_goes {s : ByteArray} {f : List Bool → List Bool} {P : List Nat → Prop} (hf : Goes s f P) {mn mx : Int} (h0 : 0 ≤ mn) (hm : mx < 0 ∨ mn ≤ mx) : Goes s (fun p => refR f (s.size + 1) mn (if mx < 0 then mn + s.size + 1 else mx) ((if mx < 0 then mn + s.size + 1 else mx) + 1).toNat 0 p (List.replicate (s.size + 1) false)) (fun w => ∃ r : Nat, mn ≤ r ∧ (mx < 0 ∨ (r : Int) ≤ mx) ∧ powL P r w) := by
  intro p hp
  have hr : (List.replicate (s.size + 1) false).length = s.size + 1 := by simp
  have hz : ∀ j, At (f (List.replicate (s.size + 1) false)) j → At (List.replicate (s.size + 1) false) j ∨ At p j := fun j hj => by
    obtain ⟨i, _, h2, _⟩ := ((hf _ hr).2 j).1 hj
    exact absurd h2 (at_rep _ _)
  obtain ⟨h1, h2⟩ := refR_spec hf mn (if mx < 0 then mn + s.size + 1 else mx) ((if mx < 0 then mn + s.size + 1 else mx) + 1).toNat 0 p (List.replicate (s.size + 1) false) hp hr (by omega) hz (fun _ j => at_rep _ _)
  refine ⟨by rw [refR_len]; exact hr, fun j => ?_⟩
  have e := ex_pow hf hp (fun r : Nat => mn ≤ r ∧ (mx < 0 ∨ (r : Int) ≤ mx)) j
  simp only [and_assoc] at e
  rw [← e]
  constructor
  · intro h
    rcases (h1 j).1 h with h | ⟨r, g1, g2, g3⟩
    · exact absurd h (at_rep _ _)
    · refine ⟨r, by omega, ?_, g3⟩
      split at g2 <;> omega
  · rintro ⟨r, g1, g2, g3⟩
    by_cases hx : mx < 0
    · refine h2 ?_ j r (by omega) g3
      have := falses_le (List.replicate (s.size + 1) false)
      rw [if_pos hx]; omega
    · exact (h1 j).2 (.inr ⟨r, by omega, by rw [if_neg hx]; omega, g3⟩)

theorem classTo_goes (a b c d : Int) (s : ByteArray) : Goes s (fun p => classTo a b c d s p s.size) (fun w => ∃ x, w = [x] ∧ inG a b c d x = true) := by
  intro p hp
  refine ⟨classTo_len _ _ _ _ _ _ _, fun j => ?_⟩
  have key : ∀ m, m ≤ s.size → (At (classTo a b c d s p m) j ↔ ∃ i, j = i + 1 ∧ i < m ∧ At p i ∧ inG a b c d (byteN s i) = true) := by
    intro m
    induction m with
    | zero => intro _; simp only [classTo]; exact ⟨fun h => absurd h (at_rep _ _), fun ⟨i, _, h, _⟩ => by omega⟩
    | succ m ih =>
      intro hm
      have ih := ih (by omega)
      simp only [classTo]
      rw [at_set j (by rw [classTo_len]; omega), ih]
      constructor
      · rintro (⟨rfl, h⟩ | ⟨h1, i, h2, h3, h4⟩)
        · simp only [Bool.and_eq_true] at h
          exact ⟨m, rfl, by omega, h.1, h.2⟩
        · exact ⟨i, h2, by omega, h4⟩
      · rintro ⟨i, rfl, h2, h3, h4⟩
        by_cases hi : i = m
        · subst hi; exact .inl ⟨rfl, by rw [Bool.and_eq_true]; exact ⟨h3, h4⟩⟩
        · exact .inr ⟨by omega, i, rfl, by omega, h3, h4⟩
  rw [key s.size (Nat.le_refl _)]
  constructor
  · rintro ⟨i, rfl, h2, h3, h4⟩
    exact ⟨i, by omega, h3, by omega, _, word_one s i, h4⟩
  · rintro ⟨i, h1, h2, h3, x, h4, h5⟩
    have hl := congrArg List.length h4
    rw [word_len] at hl
    simp at hl
    have : j = i + 1 := by omega
    subst this
    rw [word_one] at h4
    cases h4
    exact ⟨i, rfl, by omega, h2, h5⟩
theorem id_goes (s : ByteArray) : Goes s (fun p => p) (fun w => w = []) := by
  intro p hp
  refine ⟨hp, fun j => ?_⟩
  show At p j ↔ _
  constructor
  · intro h; exact ⟨j, Nat.le_refl _, h, by have := h.lt; omega, word_nil s j⟩
  · rintro ⟨i, h1, h2, h3, h4⟩
    have := congrArg List.length h4
    rw [word_len] at this
    simp at this
    rw [show j = i by omega]; exact h2
theorem Goes.seq {s : ByteArray} {f g : List Bool → List Bool} {P Q : List Nat → Prop} (hf : Goes s f P) (hg : Goes s g Q) : Goes s (fun p => g (f p)) (fun w => ∃ u v, w = u ++ v ∧ P u ∧ Q v) := by
  intro p hp
  obtain ⟨h1, h2⟩ := hf p hp
  obtain ⟨h3, h4⟩ := hg (f p) h1
  refine ⟨h3, fun j => ?_⟩
  rw [h4 j]
  constructor
  · rintro ⟨i, g1, g2, g3, g4⟩
    obtain ⟨i0, k1, k2, k3, k4⟩ := (h2 i).1 g2
    exact ⟨i0, by omega, k2, g3, _, _, (word_app s k1 g1).symm, k4, g4⟩
  · rintro ⟨i, g1, g2, g3, u, v, e, g4, g5⟩
    obtain ⟨k1, k2, k3⟩ := word_split s g1 e
    exact ⟨i + u.length, k1, (h2 _).2 ⟨i, by omega, g2, by omega, k2 ▸ g4⟩, g3, k3 ▸ g5⟩
theorem Goes.congr {s : ByteArray} {f : List Bool → List Bool} {P Q : List Nat → Prop} (hf : Goes s f P) (h : ∀ w, P w ↔ Q w) : Goes s f Q := by
  intro p hp
  refine ⟨(hf p hp).1, fun j => ?_⟩
  rw [(hf p hp).2 j]
  simp only [h]
theorem alt_goes {s : ByteArray} {f : List Bool → List Bool} {P : List Nat → Prop} (hf : Goes s f P) {p out : List Bool} (hp : p.length = s.size + 1) (ho : out.length = s.size + 1) (j : Nat) :
    At (addTo out (f p) (s.size + 1)).1 j ↔ At out j ∨ ∃ i, i ≤ j ∧ At p i ∧ j ≤ s.size ∧ P (word s i j) := by
  rw [at_addTo _ (by omega), ← (hf p hp).2 j]
  exact or_congr Iff.rfl ⟨fun h => h.2, fun h => ⟨by have := h.lt; have := (hf p hp).1; omega, h⟩⟩

theorem plainT_kind {k a b c d mn mx : Int} {subs : List T} (h : plainT (.node k a b c d mn mx subs) = true) : (k = 1 ∨ k = 2 ∨ k = 3 ∨ k = 4 ∨ k = 5) ∧ (k = 5 → 0 ≤ mn ∧ (mx < 0 ∨ mn ≤ mx)) := by
  by_cases h5 : k = 5
  · subst h5
    simp [plainT] at h
    omega
  · by_cases h1 : k = 1 ∨ k = 2 ∨ k = 3 ∨ k = 4
    · omega
    · have h2 : ¬ k = 1 := by omega
      have h3 : ¬ k = 2 := by omega
      have h4 : ¬ (k = 3 ∨ k = 4) := by omega
      simp [plainT, h2, h3, h4, h5] at h
mutual
theorem stepG_goes (s : ByteArray) : ∀ (t : T), okT t → Goes s (stepG s t) (L t)
  | .node k a b c d mn mx subs, h => by
    simp only [okT, okN] at h
    obtain ⟨hk, hr⟩ := plainT_kind h.1.2.2.2.2
    by_cases h2 : k = 2
    · subst h2
      have := classTo_goes a b c d s
      intro p hp; simpa [stepG, L] using this p hp
    by_cases h3 : k = 3
    · subst h3
      have := catG_goes s subs h.2
      intro p hp; simpa [stepG, L] using this p hp
    by_cases h4 : k = 4
    · subst h4
      intro p hp
      have := altG_goes s subs h.2 p (List.replicate (s.size + 1) false) hp (by simp)
      refine ⟨by simp only [stepG]; exact this.1, fun j => ?_⟩
      simp only [stepG, L]
      simp only [if_neg h2, if_neg h3, if_true]
      rw [this.2 j]
      constructor
      · rintro (h | h)
        · exact absurd h (at_rep _ _)
        · exact h
      · exact .inr
    by_cases h5 : k = 5
    · subst h5
      have := repG_goes (fstG_goes s subs h.2) (hr rfl).1 (hr rfl).2
      intro p hp; simpa [stepG, L] using this p hp
    · have h1 : k = 1 := by omega
      subst h1
      have := id_goes s
      intro p hp; simpa [stepG, L] using this p hp
theorem catG_goes (s : ByteArray) : ∀ (l : List T), okL l → Goes s (catG s l) (catL l)
  | [], _ => by
    have := id_goes s
    intro p hp; simpa [catG, catL] using this p hp
  | t :: l, h => by
    simp only [okL] at h
    have := (stepG_goes s t h.1).seq (catG_goes s l h.2)
    intro p hp; simpa [catG, catL] using this p hp
theorem altG_goes (s : ByteArray) : ∀ (l : List T), okL l → ∀ (p out : List Bool), p.length = s.size + 1 → out.length = s.size + 1 → (altG s l p out).length = s.size + 1 ∧
    ∀ j, At (altG s l p out) j ↔ At out j ∨ ∃ i, i ≤ j ∧ At p i ∧ j ≤ s.size ∧ altL l (word s i j)
  | [], _, p, out, _, ho => ⟨ho, fun j => by simp [altG, altL]⟩
  | t :: l, h, p, out, hp, ho => by
    simp only [okL] at h
    have h1 := alt_goes (stepG_goes s t h.1) hp ho
    have h2 := altG_goes s l h.2 p (addTo out (stepG s t p) (s.size + 1)).1 hp (by rw [addTo_len]; exact ho)
    refine ⟨by simp only [altG]; exact h2.1, fun j => ?_⟩
    simp only [altG, altL]
    rw [h2.2 j, h1 j]
    constructor
    · rintro ((h | ⟨i, g1, g2, g3, g4⟩) | ⟨i, g1, g2, g3, g4⟩)
      · exact .inl h
      · exact .inr ⟨i, g1, g2, g3, .inl g4⟩
      · exact .inr ⟨i, g1, g2, g3, .inr g4⟩
    · rintro (h | ⟨i, g1, g2, g3, g4 | g4⟩)
      · exact .inl (.inl h)
      · exact .inl (.inr ⟨i, g1, g2, g3, g4⟩)
      · exact .inr ⟨i, g1, g2, g3, g4⟩
theorem fstG_goes (s : ByteArray) : ∀ (l : List T), okL l → Goes s (fstG s l) (fstL l)
  | [], _ => by
    have := id_goes s
    intro p hp; simpa [fstG, fstL] using this p hp
  | t :: l, h => by
    simp only [okL] at h
    have := stepG_goes s t h.1
    intro p hp; simpa [fstG, fstL] using this p hp
end
mutual
theorem refG_goes (s : ByteArray) : ∀ (t : T), okT t → Goes s (refG s t) (L t)
  | .node k a b c d mn mx subs, h => by
    simp only [okT, okN] at h
    obtain ⟨hk, hr⟩ := plainT_kind h.1.2.2.2.2
    by_cases h2 : k = 2
    · subst h2
      have := classTo_goes a b c d s
      intro p hp; simpa [refG, L] using this p hp
    by_cases h3 : k = 3
    · subst h3
      have := rcatG_goes s subs h.2
      intro p hp; simpa [refG, L] using this p hp
    by_cases h4 : k = 4
    · subst h4
      intro p hp
      have := raltG_goes s subs h.2 p (List.replicate (s.size + 1) false) hp (by simp)
      refine ⟨by simp only [refG]; exact this.1, fun j => ?_⟩
      simp only [refG, L]
      simp only [if_neg h2, if_neg h3, if_neg (show ¬ (4 : Int) = 1 by omega), if_true]
      rw [this.2 j]
      constructor
      · rintro (h | h)
        · exact absurd h (at_rep _ _)
        · exact h
      · exact .inr
    by_cases h5 : k = 5
    · subst h5
      have := refRep_goes (rfstG_goes s subs h.2) (hr rfl).1 (hr rfl).2
      intro p hp
      have := this p hp
      simp only [refG, L]
      exact this
    · have h1 : k = 1 := by omega
      subst h1
      have := id_goes s
      intro p hp; simpa [refG, L] using this p hp
theorem rcatG_goes (s : ByteArray) : ∀ (l : List T), okL l → Goes s (rcatG s l) (catL l)
  | [], _ => by
    have := id_goes s
    intro p hp; simpa [rcatG, catL] using this p hp
  | t :: l, h => by
    simp only [okL] at h
    have := (refG_goes s t h.1).seq (rcatG_goes s l h.2)
    intro p hp; simpa [rcatG, catL] using this p hp
theorem raltG_goes (s : ByteArray) : ∀ (l : List T), okL l → ∀ (p out : List Bool), p.length = s.size + 1 → out.length = s.size + 1 → (raltG s l p out).length = s.size + 1 ∧
    ∀ j, At (raltG s l p out) j ↔ At out j ∨ ∃ i, i ≤ j ∧ At p i ∧ j ≤ s.size ∧ altL l (word s i j)
  | [], _, p, out, _, ho => ⟨ho, fun j => by simp [raltG, altL]⟩
  | t :: l, h, p, out, hp, ho => by
    simp only [okL] at h
    have h1 := alt_goes (refG_goes s t h.1) hp ho
    have h2 := raltG_goes s l h.2 p (addTo out (refG s t p) (s.size + 1)).1 hp (by rw [addTo_len]; exact ho)
    refine ⟨by simp only [raltG]; exact h2.1, fun j => ?_⟩
    simp only [raltG, altL]
    rw [h2.2 j, h1 j]
    constructor
    · rintro ((h | ⟨i, g1, g2, g3, g4⟩) | ⟨i, g1, g2, g3, g4⟩)
      · exact .inl h
      · exact .inr ⟨i, g1, g2, g3, .inl g4⟩
      · exact .inr ⟨i, g1, g2, g3, .inr g4⟩
    · rintro (h | ⟨i, g1, g2, g3, g4 | g4⟩)
      · exact .inl (.inl h)
      · exact .inl (.inr ⟨i, g1, g2, g3, g4⟩)
      · exact .inr ⟨i, g1, g2, g3, g4⟩
theorem rfstG_goes (s : ByteArray) : ∀ (l : List T), okL l → Goes s (rfstG s l) (fstL l)
  | [], _ => by
    have := id_goes s
    intro p hp; simpa [rfstG, fstL] using this p hp
  | t :: l, h => by
    simp only [okL] at h
    have := refG_goes s t h.1
    intro p hp; simpa [rfstG, fstL] using this p hp
end
theorem goes_eq {s : ByteArray} {f g : List Bool → List Bool} {P : List Nat → Prop} (hf : Goes s f P) (hg : Goes s g P) {p : List Bool} (hp : p.length = s.size + 1) : f p = g p :=
  at_ext (by rw [(hf p hp).1, (hg p hp).1]) fun j => by rw [(hf p hp).2 j, (hg p hp).2 j]
theorem step_ref (s : ByteArray) (t : T) (h : okT t) {p : List Bool} (hp : p.length = s.size + 1) : stepG s t p = refG s t p := goes_eq (stepG_goes s t h) (refG_goes s t h) hp
end Go.Sv
namespace Go.Sv
open Go Go.Proofs
set_option maxRecDepth 100000
set_option maxHeartbeats 4000000
attribute [local irreducible] W E R KP thenK blockK retK Good xwp aRun
theorem rcatG_drop (s : ByteArray) (l : List T) (p : List Bool) (i : Nat) (h : i < l.length) : rcatG s (l.drop i) p = rcatG s (l.drop (i + 1)) (refG s l[i] p) := by
  rw [List.drop_eq_getElem_cons h, rcatG]
theorem raltG_drop (s : ByteArray) (l : List T) (p out : List Bool) (i : Nat) (h : i < l.length) : raltG s (l.drop i) p out = raltG s (l.drop (i + 1)) p (addTo out (refG s l[i] p) (s.size + 1)).1 := by
  rw [List.drop_eq_getElem_cons h, raltG]
theorem ref_good (s : ByteArray) (hsz : s.size ≤ 1000000) : ∀ (n : Nat) (t : T), t.cnt ≤ n → n ≤ 1000000 → okT t → ∀ (p : List Bool), p.length = s.size + 1 →
    Good Try.prog 88 [nodeA t, .d (.val (.string s)), .d (.sl (encB p) (s.size + 1))] none (.d (.sl (encB (refG s t p)) (s.size + 1))) none none := by
  intro n
  induction n with
  | zero => intro t ht; have := cnt_pos t; omega
  | succ n ih =>
  intro t ht hc hok p hp
  obtain ⟨k, a, b, c, d, mn, mx, subs⟩ := t
  have hR := okT_R hok
  simp only [okT, okN] at hok
  obtain ⟨⟨ha, hb, hcc, hd, hpl⟩, hoks⟩ := hok
  have ih' : ∀ i (h : i < subs.length) (q : List Bool), q.length = s.size + 1 → Good Try.prog 88 [nodeA subs[i], .d (.val (.string s)), .d (.sl (encB q) (s.size + 1))] none (.d (.sl (encB (refG s subs[i] q)) (s.size + 1))) none none := by
    intro i h q hq
    refine ih _ ?_ (by omega) (okL_get subs i h hoks) _ hq
    have := cntL_get subs i h
    simp only [T.cnt] at ht
    omega
  have hlen : subs.length ≤ 1000000 := by
    have := cntL_len subs
    simp only [T.cnt] at ht
    omega
  have e0 : nodeA (.node k a b c d mn mx subs) = .agg [.i k, .d (.val (.int .u64 a)), .d (.val (.int .u64 b)), .d (.val (.int .u64 c)), .d (.val (.int .u64 d)), .i mn, .i mx, .d (.sl (encL subs) subs.length)] := rfl
  rw [e0]
  refine b88 (by simp) (by simp) (w_init ?_)
  unfold x88
  by_cases h1 : k = 1
  · repeat' (first
    | (apply r_mvV; rfl)
    | (apply r_mvP; rfl)
    | (apply r_mvPL; rfl)
    | (apply r_mvS; rfl)
    | (apply r_mvSL; rfl)
    | (apply r_mvA; rfl)
    | (apply r_mvT; rfl)
    | (apply r_mvF; rfl)
    | (apply r_mvD; rfl)
    | (apply r_faddD; rfl)
    | (apply r_faddL; rfl)
    | (apply r_l; apply ld_kind; assumption; rfl)
    | (apply r_l; apply ld_mn; assumption; rfl)
    | (apply r_l; apply ld_mx; assumption; rfl)
    | (apply r_l; apply ld_subs; assumption; rfl)
    | (apply r_l; apply ld_set; assumption; rfl)
    | (apply r_l; apply ld_node; assumption; rfl)
    | (apply r_l; apply ld_kind'; assumption; rfl)
    | (apply r_l; apply ld_mn'; assumption; rfl)
    | (apply r_l; apply ld_mx'; assumption; rfl)
    | (apply r_l; apply ld_subs'; assumption; rfl)
    | (apply r_l; apply ld_node'; assumption; rfl)
    | (apply r_mksB (m := s.size + 1); rfl; rfl; ((conv => lhs; simp only [Nat.reduceAdd]) <;> rfl); omega; omega)
    | (apply r_cpyB; rfl; rfl; rfl; rfl; simp; exact hp)
    | (apply r_ldL; rfl; rfl; rfl)
    | (apply r_eql; rfl; rfl; (first | (apply decide_eq_true; omega) | (apply decide_eq_false; omega) | rfl))
    | (apply r_lss; rfl; rfl; (first | (apply decide_eq_true; omega) | (apply decide_eq_false; omega) | rfl))
    | (apply r_leq; rfl; rfl; (first | (apply decide_eq_true; omega) | (apply decide_eq_false; omega) | rfl))
    | (apply r_geq; rfl; rfl; (first | (apply decide_eq_true; omega) | (apply decide_eq_false; omega) | rfl))
    | (apply r_add; rfl; rfl; rfl; omega)
    | (apply r_not; rfl; rfl)
    | (apply r_pickT; rfl)
    | (apply r_pickF; rfl)
    | (apply r_lenD; rfl)
    | (apply r_lenL; rfl)
    | (apply r_len0; rfl)
    | (apply r_lenT; rfl)
    | (apply r_gT; rfl)
    | (apply r_gF'; rfl; rfl)
    | (apply r_gN'; rfl)
    | ((apply r_gS (o := default); rfl) <;> (intro h; try simp only [decide_eq_true_eq, decide_eq_false_iff_not, Bool.not_eq_true, Bool.not_eq_false] at h))
    | (apply r_box; ((conv => lhs; simp only [Nat.reduceAdd]) <;> rfl); rfl; rfl; rfl)
    | (apply r_stL; rfl; rfl; rfl; rfl; (first | rfl | (simp only [z_nil, z_add] <;> rfl)); rfl; rfl)
    | (apply r_p; rfl)
    | (apply r_nilK)
    | (apply r_nil)
    | (apply k_V; rfl)
    | (apply k_P; rfl)
    | (apply k_PL; rfl)
    | (apply k_S; rfl)
    | (apply k_SL; rfl)
    | (apply k_A; rfl)
    | (apply k_T; rfl)
    | (apply k_F; rfl)
    | (apply k_D; rfl; rotate_left; rfl)
    | (apply k_nil)
    | (apply e_ret (vs := [.d (.val _)]); rfl)
    | (apply e_ret; rfl)
    | (apply e_ret' (vs := [.d (.val _)]); rfl)
    | (apply e_ret'; rfl)
    | (apply w_seq)
    | (apply w_ops; ((conv => lhs; simp only [Nat.reduceAdd]) <;> rfl))
    | (apply w_condT; rfl)
    | (apply w_condF; rfl)
    | ((apply w_condS; rfl) <;> (intro h; try simp only [decide_eq_true_eq, decide_eq_false_iff_not, Bool.not_eq_true, Bool.not_eq_false] at h))
    | (apply e_thenN)
    | (apply w_block)
    | (apply e_thenR)
    | (apply e_thenX)
    | (apply e_blkN)
    | (apply e_blkR)
    | (apply e_blkE)
    | (apply w_exit)
    | (apply w_ret)
    | (apply w_skip)
    | (apply e_blkE'; rfl))
    rw [show refG s (.node k a b c d mn mx subs) p = p by simp [refG, h1]]
    exact retSB rfl hp
  by_cases h2 : k = 2
  · repeat' (first
    | (apply r_mvV; rfl)
    | (apply r_mvP; rfl)
    | (apply r_mvPL; rfl)
    | (apply r_mvS; rfl)
    | (apply r_mvSL; rfl)
    | (apply r_mvA; rfl)
    | (apply r_mvT; rfl)
    | (apply r_mvF; rfl)
    | (apply r_mvD; rfl)
    | (apply r_faddD; rfl)
    | (apply r_faddL; rfl)
    | (apply r_l; apply ld_kind; assumption; rfl)
    | (apply r_l; apply ld_mn; assumption; rfl)
    | (apply r_l; apply ld_mx; assumption; rfl)
    | (apply r_l; apply ld_subs; assumption; rfl)
    | (apply r_l; apply ld_set; assumption; rfl)
    | (apply r_l; apply ld_node; assumption; rfl)
    | (apply r_l; apply ld_kind'; assumption; rfl)
    | (apply r_l; apply ld_mn'; assumption; rfl)
    | (apply r_l; apply ld_mx'; assumption; rfl)
    | (apply r_l; apply ld_subs'; assumption; rfl)
    | (apply r_l; apply ld_node'; assumption; rfl)
    | (apply r_mksB (m := s.size + 1); rfl; rfl; ((conv => lhs; simp only [Nat.reduceAdd]) <;> rfl); omega; omega)
    | (apply r_ldL; rfl; rfl; rfl)
    | (apply r_eql; rfl; rfl; (first | (apply decide_eq_true; omega) | (apply decide_eq_false; omega) | rfl))
    | (apply r_lss; rfl; rfl; (first | (apply decide_eq_true; omega) | (apply decide_eq_false; omega) | rfl))
    | (apply r_leq; rfl; rfl; (first | (apply decide_eq_true; omega) | (apply decide_eq_false; omega) | rfl))
    | (apply r_geq; rfl; rfl; (first | (apply decide_eq_true; omega) | (apply decide_eq_false; omega) | rfl))
    | (apply r_add; rfl; rfl; rfl; omega)
    | (apply r_not; rfl; rfl)
    | (apply r_pickT; rfl)
    | (apply r_pickF; rfl)
    | (apply r_lenD; rfl)
    | (apply r_lenL; rfl)
    | (apply r_len0; rfl)
    | (apply r_lenT; rfl)
    | (apply r_gT; rfl)
    | (apply r_gF'; rfl; rfl)
    | (apply r_gN'; rfl)
    | ((apply r_gS (o := default); rfl) <;> (intro h; try simp only [decide_eq_true_eq, decide_eq_false_iff_not, Bool.not_eq_true, Bool.not_eq_false] at h))
    | (apply r_box; ((conv => lhs; simp only [Nat.reduceAdd]) <;> rfl); rfl; rfl; rfl)
    | (apply r_stL; rfl; rfl; rfl; rfl; (first | rfl | (simp only [z_nil, z_add] <;> rfl)); rfl; rfl)
    | (apply r_p; rfl)
    | (apply r_nilK)
    | (apply r_nil)
    | (apply k_V; rfl)
    | (apply k_P; rfl)
    | (apply k_PL; rfl)
    | (apply k_S; rfl)
    | (apply k_SL; rfl)
    | (apply k_A; rfl)
    | (apply k_T; rfl)
    | (apply k_F; rfl)
    | (apply k_D; rfl; rotate_left; rfl)
    | (apply k_nil)
    | (apply e_ret (vs := [.d (.val _)]); rfl)
    | (apply e_ret; rfl)
    | (apply e_ret' (vs := [.d (.val _)]); rfl)
    | (apply e_ret'; rfl)
    | (apply w_seq)
    | (apply w_ops; ((conv => lhs; simp only [Nat.reduceAdd]) <;> rfl))
    | (apply w_condT; rfl)
    | (apply w_condF; rfl)
    | ((apply w_condS; rfl) <;> (intro h; try simp only [decide_eq_true_eq, decide_eq_false_iff_not, Bool.not_eq_true, Bool.not_eq_false] at h))
    | (apply e_thenN)
    | (apply w_block)
    | (apply e_thenR)
    | (apply e_thenX)
    | (apply e_blkN)
    | (apply e_blkR)
    | (apply e_blkE)
    | (apply w_exit)
    | (apply w_ret)
    | (apply w_skip)
    | (apply e_blkE'; rfl))
    apply w_loopI (S := fun i : Nat => ⟨((((Fr.nil.put 1 (.d (.val (.string s)))).put 2 (.d (.sl (encB p) (s.size + 1)))).put 3 (.ptrL 1 0)).put 7 (.slL 6 0 (s.size + 1) 1)).put 8 (.i i), (Heap.nil.put 1 [.i k, .d (.val (.int .u64 a)), .d (.val (.int .u64 b)), .d (.val (.int .u64 c)), .d (.val (.int .u64 d)), .i mn, .i mx, .d (.sl (encL subs) subs.length)]).put 6 ((encB (classTo a b c d s p i)).map AV.d), Frz.but 100 6, 100⟩) (m := fun i => s.size - i) (I := fun i => i ≤ s.size) (i0 := 0)
    · exact Nat.zero_le _
    · exact wk2C (c := 6) (by omega) (by omega) (by omega) (by omega) (by omega) (by omega) rfl rfl rfl rfl encB_isD (FWk.i rfl rfl (FWk.sl rfl rfl rfl rfl (by omega) rfl (FWk.ptr rfl rfl rfl (by omega) rfl (FWk.d rfl rfl (FWk.d rfl rfl FWk.nil)))))
    intro i K hi hK
    dsimp only
    rcases Nat.lt_or_ge i s.size with hlt | hge
    · have hby := byteN_lt s i
      have hl := classTo_len a b c d s p i
      have hg : p[i]? = some (p.getD i false) := by
        rw [List.getD_eq_getElem?_getD, List.getElem?_eq_getElem (by omega)]; rfl
      have hin := in_good ha hb hcc hd (byteN s i) hby
      repeat' (first
    | (apply r_mvV; rfl)
    | (apply r_mvP; rfl)
    | (apply r_mvPL; rfl)
    | (apply r_mvS; rfl)
    | (apply r_mvSL; rfl)
    | (apply r_mvA; rfl)
    | (apply r_mvT; rfl)
    | (apply r_mvF; rfl)
    | (apply r_mvD; rfl)
    | (apply r_faddD; rfl)
    | (apply r_faddL; rfl)
    | (apply r_l; apply ld_kind; assumption; rfl)
    | (apply r_l; apply ld_mn; assumption; rfl)
    | (apply r_l; apply ld_mx; assumption; rfl)
    | (apply r_l; apply ld_subs; assumption; rfl)
    | (apply r_l; apply ld_set; assumption; rfl)
    | (apply r_l; apply ld_node; assumption; rfl)
    | (apply r_l; apply ld_kind'; assumption; rfl)
    | (apply r_l; apply ld_mn'; assumption; rfl)
    | (apply r_l; apply ld_mx'; assumption; rfl)
    | (apply r_l; apply ld_subs'; assumption; rfl)
    | (apply r_l; apply ld_node'; assumption; rfl)
    | (apply r_ixB'; rfl; rfl; omega; exact hp)
    | (apply r_ldB; rfl; exact hg)
    | (apply r_idxT; rfl; rfl; omega)
    | (apply r_callA; rfl; rfl; exact hin)
    | (apply r_ixL1; rfl; rfl; omega)
    | (apply r_stB; rfl; rfl; rfl; rfl; omega)
    | (apply r_ldL; rfl; rfl; rfl)
    | (apply r_eql; rfl; rfl; (first | (apply decide_eq_true; omega) | (apply decide_eq_false; omega) | rfl))
    | (apply r_lss; rfl; rfl; (first | (apply decide_eq_true; omega) | (apply decide_eq_false; omega) | rfl))
    | (apply r_leq; rfl; rfl; (first | (apply decide_eq_true; omega) | (apply decide_eq_false; omega) | rfl))
    | (apply r_geq; rfl; rfl; (first | (apply decide_eq_true; omega) | (apply decide_eq_false; omega) | rfl))
    | (apply r_add; rfl; rfl; rfl; omega)
    | (apply r_not; rfl; rfl)
    | (apply r_pickT; rfl)
    | (apply r_pickF; rfl)
    | (apply r_lenD; rfl)
    | (apply r_lenL; rfl)
    | (apply r_len0; rfl)
    | (apply r_lenT; rfl)
    | (apply r_gT; rfl)
    | (apply r_gF'; rfl; rfl)
    | (apply r_gN'; rfl)
    | ((apply r_gS (o := default); rfl) <;> (intro h; try simp only [decide_eq_true_eq, decide_eq_false_iff_not, Bool.not_eq_true, Bool.not_eq_false] at h))
    | (apply r_box; ((conv => lhs; simp only [Nat.reduceAdd]) <;> rfl); rfl; rfl; rfl)
    | (apply r_stL; rfl; rfl; rfl; rfl; (first | rfl | (simp only [z_nil, z_add] <;> rfl)); rfl; rfl)
    | (apply r_p; rfl)
    | (apply r_nilK)
    | (apply r_nil)
    | (apply k_V; rfl)
    | (apply k_P; rfl)
    | (apply k_PL; rfl)
    | (apply k_S; rfl)
    | (apply k_SL; rfl)
    | (apply k_A; rfl)
    | (apply k_T; rfl)
    | (apply k_F; rfl)
    | (apply k_D; rfl; rotate_left; rfl)
    | (apply k_nil)
    | (apply e_ret (vs := [.d (.val _)]); rfl)
    | (apply e_ret; rfl)
    | (apply e_ret' (vs := [.d (.val _)]); rfl)
    | (apply e_ret'; rfl)
    | (apply w_seq)
    | (apply w_ops; ((conv => lhs; simp only [Nat.reduceAdd]) <;> rfl))
    | (apply w_condT; rfl)
    | (apply w_condF; rfl)
    | ((apply w_condS; rfl) <;> (intro h; try simp only [decide_eq_true_eq, decide_eq_false_iff_not, Bool.not_eq_true, Bool.not_eq_false] at h))
    | (apply e_thenN)
    | (apply w_block)
    | (apply e_thenR)
    | (apply e_thenX)
    | (apply e_blkN)
    | (apply e_blkR)
    | (apply e_blkE)
    | (apply w_exit)
    | (apply w_ret)
    | (apply w_skip)
    | (apply e_blkE'; rfl))
      all_goals (apply e_thenK; apply hK (i + 1); omega; omega; refine wk2C (c := 6) (by omega) (by omega) (by omega) (by omega) (by omega) (by omega) rfl rfl ?_ rfl encB_isD (FWk.i rfl (by simp) (FWk.sl rfl rfl rfl rfl (by omega) rfl (FWk.ptr rfl rfl rfl (by omega) rfl (FWk.d rfl rfl (FWk.d rfl rfl FWk.nil))))); rw [classTo, h]; rfl)
    · repeat' (first
    | (apply r_mvV; rfl)
    | (apply r_mvP; rfl)
    | (apply r_mvPL; rfl)
    | (apply r_mvS; rfl)
    | (apply r_mvSL; rfl)
    | (apply r_mvA; rfl)
    | (apply r_mvT; rfl)
    | (apply r_mvF; rfl)
    | (apply r_mvD; rfl)
    | (apply r_faddD; rfl)
    | (apply r_faddL; rfl)
    | (apply r_l; apply ld_kind; assumption; rfl)
    | (apply r_l; apply ld_mn; assumption; rfl)
    | (apply r_l; apply ld_mx; assumption; rfl)
    | (apply r_l; apply ld_subs; assumption; rfl)
    | (apply r_l; apply ld_set; assumption; rfl)
    | (apply r_l; apply ld_node; assumption; rfl)
    | (apply r_l; apply ld_kind'; assumption; rfl)
    | (apply r_l; apply ld_mn'; assumption; rfl)
    | (apply r_l; apply ld_mx'; assumption; rfl)
    | (apply r_l; apply ld_subs'; assumption; rfl)
    | (apply r_l; apply ld_node'; assumption; rfl)
    | (apply r_ldL; rfl; rfl; rfl)
    | (apply r_eql; rfl; rfl; (first | (apply decide_eq_true; omega) | (apply decide_eq_false; omega) | rfl))
    | (apply r_lss; rfl; rfl; (first | (apply decide_eq_true; omega) | (apply decide_eq_false; omega) | rfl))
    | (apply r_leq; rfl; rfl; (first | (apply decide_eq_true; omega) | (apply decide_eq_false; omega) | rfl))
    | (apply r_geq; rfl; rfl; (first | (apply decide_eq_true; omega) | (apply decide_eq_false; omega) | rfl))
    | (apply r_add; rfl; rfl; rfl; omega)
    | (apply r_not; rfl; rfl)
    | (apply r_pickT; rfl)
    | (apply r_pickF; rfl)
    | (apply r_lenD; rfl)
    | (apply r_lenL; rfl)
    | (apply r_len0; rfl)
    | (apply r_lenT; rfl)
    | (apply r_gT; rfl)
    | (apply r_gF'; rfl; rfl)
    | (apply r_gN'; rfl)
    | ((apply r_gS (o := default); rfl) <;> (intro h; try simp only [decide_eq_true_eq, decide_eq_false_iff_not, Bool.not_eq_true, Bool.not_eq_false] at h))
    | (apply r_box; ((conv => lhs; simp only [Nat.reduceAdd]) <;> rfl); rfl; rfl; rfl)
    | (apply r_stL; rfl; rfl; rfl; rfl; (first | rfl | (simp only [z_nil, z_add] <;> rfl)); rfl; rfl)
    | (apply r_p; rfl)
    | (apply r_nilK)
    | (apply r_nil)
    | (apply k_V; rfl)
    | (apply k_P; rfl)
    | (apply k_PL; rfl)
    | (apply k_S; rfl)
    | (apply k_SL; rfl)
    | (apply k_A; rfl)
    | (apply k_T; rfl)
    | (apply k_F; rfl)
    | (apply k_D; rfl; rotate_left; rfl)
    | (apply k_nil)
    | (apply e_ret (vs := [.d (.val _)]); rfl)
    | (apply e_ret; rfl)
    | (apply e_ret' (vs := [.d (.val _)]); rfl)
    | (apply e_ret'; rfl)
    | (apply w_seq)
    | (apply w_ops; ((conv => lhs; simp only [Nat.reduceAdd]) <;> rfl))
    | (apply w_condT; rfl)
    | (apply w_condF; rfl)
    | ((apply w_condS; rfl) <;> (intro h; try simp only [decide_eq_true_eq, decide_eq_false_iff_not, Bool.not_eq_true, Bool.not_eq_false] at h))
    | (apply e_thenN)
    | (apply w_block)
    | (apply e_thenR)
    | (apply e_thenX)
    | (apply e_blkN)
    | (apply e_blkR)
    | (apply e_blkE)
    | (apply w_exit)
    | (apply w_ret)
    | (apply w_skip)
    | (apply e_blkE'; rfl))
      rw [show refG s (.node k a b c d mn mx subs) p = classTo a b c d s p i by simp [refG, h2, show i = s.size by omega]]
      exact retSB rfl (classTo_len _ _ _ _ _ _ _)
  by_cases h3 : k = 3
  · repeat' (first
    | (apply r_mvV; rfl)
    | (apply r_mvP; rfl)
    | (apply r_mvPL; rfl)
    | (apply r_mvS; rfl)
    | (apply r_mvSL; rfl)
    | (apply r_mvA; rfl)
    | (apply r_mvT; rfl)
    | (apply r_mvF; rfl)
    | (apply r_mvD; rfl)
    | (apply r_faddD; rfl)
    | (apply r_faddL; rfl)
    | (apply r_l; apply ld_kind; assumption; rfl)
    | (apply r_l; apply ld_mn; assumption; rfl)
    | (apply r_l; apply ld_mx; assumption; rfl)
    | (apply r_l; apply ld_subs; assumption; rfl)
    | (apply r_l; apply ld_set; assumption; rfl)
    | (apply r_l; apply ld_node; assumption; rfl)
    | (apply r_l; apply ld_kind'; assumption; rfl)
    | (apply r_l; apply ld_mn'; assumption; rfl)
    | (apply r_l; apply ld_mx'; assumption; rfl)
    | (apply r_l; apply ld_subs'; assumption; rfl)
    | (apply r_l; apply ld_node'; assumption; rfl)
    | (apply r_mksB (m := s.size + 1); rfl; rfl; ((conv => lhs; simp only [Nat.reduceAdd]) <;> rfl); omega; omega)
    | (apply r_cpyB; rfl; rfl; rfl; rfl; simp; exact hp)
    | (apply r_ldL; rfl; rfl; rfl)
    | (apply r_eql; rfl; rfl; (first | (apply decide_eq_true; omega) | (apply decide_eq_false; omega) | rfl))
    | (apply r_lss; rfl; rfl; (first | (apply decide_eq_true; omega) | (apply decide_eq_false; omega) | rfl))
    | (apply r_leq; rfl; rfl; (first | (apply decide_eq_true; omega) | (apply decide_eq_false; omega) | rfl))
    | (apply r_geq; rfl; rfl; (first | (apply decide_eq_true; omega) | (apply decide_eq_false; omega) | rfl))
    | (apply r_add; rfl; rfl; rfl; omega)
    | (apply r_not; rfl; rfl)
    | (apply r_pickT; rfl)
    | (apply r_pickF; rfl)
    | (apply r_lenD; rfl)
    | (apply r_lenL; rfl)
    | (apply r_len0; rfl)
    | (apply r_lenT; rfl)
    | (apply r_gT; rfl)
    | (apply r_gF'; rfl; rfl)
    | (apply r_gN'; rfl)
    | ((apply r_gS (o := default); rfl) <;> (intro h; try simp only [decide_eq_true_eq, decide_eq_false_iff_not, Bool.not_eq_true, Bool.not_eq_false] at h))
    | (apply r_box; ((conv => lhs; simp only [Nat.reduceAdd]) <;> rfl); rfl; rfl; rfl)
    | (apply r_stL; rfl; rfl; rfl; rfl; (first | rfl | (simp only [z_nil, z_add] <;> rfl)); rfl; rfl)
    | (apply r_p; rfl)
    | (apply r_nilK)
    | (apply r_nil)
    | (apply k_V; rfl)
    | (apply k_P; rfl)
    | (apply k_PL; rfl)
    | (apply k_S; rfl)
    | (apply k_SL; rfl)
    | (apply k_A; rfl)
    | (apply k_T; rfl)
    | (apply k_F; rfl)
    | (apply k_D; rfl; rotate_left; rfl)
    | (apply k_nil)
    | (apply e_ret (vs := [.d (.val _)]); rfl)
    | (apply e_ret; rfl)
    | (apply e_ret' (vs := [.d (.val _)]); rfl)
    | (apply e_ret'; rfl)
    | (apply w_seq)
    | (apply w_ops; ((conv => lhs; simp only [Nat.reduceAdd]) <;> rfl))
    | (apply w_condT; rfl)
    | (apply w_condF; rfl)
    | ((apply w_condS; rfl) <;> (intro h; try simp only [decide_eq_true_eq, decide_eq_false_iff_not, Bool.not_eq_true, Bool.not_eq_false] at h))
    | (apply e_thenN)
    | (apply w_block)
    | (apply e_thenR)
    | (apply e_thenX)
    | (apply e_blkN)
    | (apply e_blkR)
    | (apply e_blkE)
    | (apply w_exit)
    | (apply w_ret)
    | (apply w_skip)
    | (apply e_blkE'; rfl))
    apply w_loopF (ι := Nat × List Bool) (S := fun q => ⟨(((Fr.nil.put 1 (.d (.val (.string s)))).put 3 (.ptrL 1 0)).put 7 (.d (.sl (encB q.2) (s.size + 1)))).put 9 (.i q.1), Heap.nil.put 1 [.i k, .d (.val (.int .u64 a)), .d (.val (.int .u64 b)), .d (.val (.int .u64 c)), .d (.val (.int .u64 d)), .i mn, .i mx, .d (.sl (encL subs) subs.length)], Frz.lo 100, 100⟩) (m := fun q => subs.length - q.1)
      (I := fun q => q.1 ≤ subs.length ∧ q.2.length = s.size + 1 ∧ rcatG s subs p = rcatG s (subs.drop q.1) q.2) (i0 := (0, p))
    · exact ⟨Nat.zero_le _, hp, by simp⟩
    · refine fzB (k := 7) (p := p) rfl rfl hp (by omega) (wkR (by omega) rfl rfl ?_)
      repeat' (first
    | exact FWk.nil
    | (apply FWk.i; rfl; (first | rfl | omega | (simp; done)))
    | (apply FWk.sl; rfl; rfl; rfl; rfl; omega; rfl)
    | (apply FWk.ptr; rfl; rfl; rfl; omega; rfl)
    | (apply FWk.d; rfl; rfl)
    | (apply FWk.a; rfl; rfl; rfl)
    | (apply FWk.slN; rfl; omega; rfl))
    rintro ⟨i, q⟩ K ⟨hi, hq, hm⟩ hK
    dsimp only at hi hq hm hK ⊢
    rcases Nat.lt_or_ge i subs.length with hlt | hge
    · have hs := NodeAt.sub hlt
      have hdr := rcatG_drop s subs q i hlt
      have hna : [nodeA subs[i], .d (.val (.string s)), .d (.sl (encB q) (s.size + 1))].all AV.nrm = true := by
        rw [List.all_cons, nodeA_nrm]; rfl
      repeat' (first
    | (apply r_mvV; rfl)
    | (apply r_mvP; rfl)
    | (apply r_mvPL; rfl)
    | (apply r_mvS; rfl)
    | (apply r_mvSL; rfl)
    | (apply r_mvA; rfl)
    | (apply r_mvT; rfl)
    | (apply r_mvF; rfl)
    | (apply r_mvD; rfl)
    | (apply r_faddD; rfl)
    | (apply r_faddL; rfl)
    | (apply r_l; apply ld_kind; assumption; rfl)
    | (apply r_l; apply ld_mn; assumption; rfl)
    | (apply r_l; apply ld_mx; assumption; rfl)
    | (apply r_l; apply ld_subs; assumption; rfl)
    | (apply r_l; apply ld_set; assumption; rfl)
    | (apply r_l; apply ld_node; assumption; rfl)
    | (apply r_l; apply ld_kind'; assumption; rfl)
    | (apply r_l; apply ld_mn'; assumption; rfl)
    | (apply r_l; apply ld_mx'; assumption; rfl)
    | (apply r_l; apply ld_subs'; assumption; rfl)
    | (apply r_l; apply ld_node'; assumption; rfl)
    | (apply r_p; apply ix_sub; rfl; rfl; omega)
    | (apply r_callA (ags := [nodeA subs[i], .d (.val (.string s)), .d (.sl (encB q) (s.size + 1))]); rfl; exact hna; exact ih' i hlt q hq)
    | (apply r_ldL; rfl; rfl; rfl)
    | (apply r_eql; rfl; rfl; (first | (apply decide_eq_true; omega) | (apply decide_eq_false; omega) | rfl))
    | (apply r_lss; rfl; rfl; (first | (apply decide_eq_true; omega) | (apply decide_eq_false; omega) | rfl))
    | (apply r_leq; rfl; rfl; (first | (apply decide_eq_true; omega) | (apply decide_eq_false; omega) | rfl))
    | (apply r_geq; rfl; rfl; (first | (apply decide_eq_true; omega) | (apply decide_eq_false; omega) | rfl))
    | (apply r_add; rfl; rfl; rfl; omega)
    | (apply r_not; rfl; rfl)
    | (apply r_pickT; rfl)
    | (apply r_pickF; rfl)
    | (apply r_lenD; rfl)
    | (apply r_lenL; rfl)
    | (apply r_len0; rfl)
    | (apply r_lenT; rfl)
    | (apply r_gT; rfl)
    | (apply r_gF'; rfl; rfl)
    | (apply r_gN'; rfl)
    | ((apply r_gS (o := default); rfl) <;> (intro h; try simp only [decide_eq_true_eq, decide_eq_false_iff_not, Bool.not_eq_true, Bool.not_eq_false] at h))
    | (apply r_box; ((conv => lhs; simp only [Nat.reduceAdd]) <;> rfl); rfl; rfl; rfl)
    | (apply r_stL; rfl; rfl; rfl; rfl; (first | rfl | (simp only [z_nil, z_add] <;> rfl)); rfl; rfl)
    | (apply r_p; rfl)
    | (apply r_nilK)
    | (apply r_nil)
    | (apply k_V; rfl)
    | (apply k_P; rfl)
    | (apply k_PL; rfl)
    | (apply k_S; rfl)
    | (apply k_SL; rfl)
    | (apply k_A; rfl)
    | (apply k_T; rfl)
    | (apply k_F; rfl)
    | (apply k_D; rfl; rotate_left; rfl)
    | (apply k_nil)
    | (apply e_ret (vs := [.d (.val _)]); rfl)
    | (apply e_ret; rfl)
    | (apply e_ret' (vs := [.d (.val _)]); rfl)
    | (apply e_ret'; rfl)
    | (apply w_seq)
    | (apply w_ops; ((conv => lhs; simp only [Nat.reduceAdd]) <;> rfl))
    | (apply w_condT; rfl)
    | (apply w_condF; rfl)
    | ((apply w_condS; rfl) <;> (intro h; try simp only [decide_eq_true_eq, decide_eq_false_iff_not, Bool.not_eq_true, Bool.not_eq_false] at h))
    | (apply e_thenN)
    | (apply w_block)
    | (apply e_thenR)
    | (apply e_thenX)
    | (apply e_blkN)
    | (apply e_blkR)
    | (apply e_blkE)
    | (apply w_exit)
    | (apply w_ret)
    | (apply w_skip)
    | (apply e_blkE'; rfl))
      apply e_thenK
      apply hK (i + 1, refG s subs[i] q)
      · exact ⟨by dsimp only; omega, refG_len s _ _ hq, by rw [hm, hdr]⟩
      · dsimp only; omega
      · refine (wkR (by omega) rfl rfl ?_).f
        repeat' (first
    | exact FWk.nil
    | (apply FWk.i; rfl; (first | rfl | omega | (simp; done)))
    | (apply FWk.sl; rfl; rfl; rfl; rfl; omega; rfl)
    | (apply FWk.ptr; rfl; rfl; rfl; omega; rfl)
    | (apply FWk.d; rfl; rfl)
    | (apply FWk.a; rfl; rfl; rfl)
    | (apply FWk.slN; rfl; omega; rfl))
    · repeat' (first
    | (apply r_mvV; rfl)
    | (apply r_mvP; rfl)
    | (apply r_mvPL; rfl)
    | (apply r_mvS; rfl)
    | (apply r_mvSL; rfl)
    | (apply r_mvA; rfl)
    | (apply r_mvT; rfl)
    | (apply r_mvF; rfl)
    | (apply r_mvD; rfl)
    | (apply r_faddD; rfl)
    | (apply r_faddL; rfl)
    | (apply r_l; apply ld_kind; assumption; rfl)
    | (apply r_l; apply ld_mn; assumption; rfl)
    | (apply r_l; apply ld_mx; assumption; rfl)
    | (apply r_l; apply ld_subs; assumption; rfl)
    | (apply r_l; apply ld_set; assumption; rfl)
    | (apply r_l; apply ld_node; assumption; rfl)
    | (apply r_l; apply ld_kind'; assumption; rfl)
    | (apply r_l; apply ld_mn'; assumption; rfl)
    | (apply r_l; apply ld_mx'; assumption; rfl)
    | (apply r_l; apply ld_subs'; assumption; rfl)
    | (apply r_l; apply ld_node'; assumption; rfl)
    | (apply r_ldL; rfl; rfl; rfl)
    | (apply r_eql; rfl; rfl; (first | (apply decide_eq_true; omega) | (apply decide_eq_false; omega) | rfl))
    | (apply r_lss; rfl; rfl; (first | (apply decide_eq_true; omega) | (apply decide_eq_false; omega) | rfl))
    | (apply r_leq; rfl; rfl; (first | (apply decide_eq_true; omega) | (apply decide_eq_false; omega) | rfl))
    | (apply r_geq; rfl; rfl; (first | (apply decide_eq_true; omega) | (apply decide_eq_false; omega) | rfl))
    | (apply r_add; rfl; rfl; rfl; omega)
    | (apply r_not; rfl; rfl)
    | (apply r_pickT; rfl)
    | (apply r_pickF; rfl)
    | (apply r_lenD; rfl)
    | (apply r_lenL; rfl)
    | (apply r_len0; rfl)
    | (apply r_lenT; rfl)
    | (apply r_gT; rfl)
    | (apply r_gF'; rfl; rfl)
    | (apply r_gN'; rfl)
    | ((apply r_gS (o := default); rfl) <;> (intro h; try simp only [decide_eq_true_eq, decide_eq_false_iff_not, Bool.not_eq_true, Bool.not_eq_false] at h))
    | (apply r_box; ((conv => lhs; simp only [Nat.reduceAdd]) <;> rfl); rfl; rfl; rfl)
    | (apply r_stL; rfl; rfl; rfl; rfl; (first | rfl | (simp only [z_nil, z_add] <;> rfl)); rfl; rfl)
    | (apply r_p; rfl)
    | (apply r_nilK)
    | (apply r_nil)
    | (apply k_V; rfl)
    | (apply k_P; rfl)
    | (apply k_PL; rfl)
    | (apply k_S; rfl)
    | (apply k_SL; rfl)
    | (apply k_A; rfl)
    | (apply k_T; rfl)
    | (apply k_F; rfl)
    | (apply k_D; rfl; rotate_left; rfl)
    | (apply k_nil)
    | (apply e_ret (vs := [.d (.val _)]); rfl)
    | (apply e_ret; rfl)
    | (apply e_ret' (vs := [.d (.val _)]); rfl)
    | (apply e_ret'; rfl)
    | (apply w_seq)
    | (apply w_ops; ((conv => lhs; simp only [Nat.reduceAdd]) <;> rfl))
    | (apply w_condT; rfl)
    | (apply w_condF; rfl)
    | ((apply w_condS; rfl) <;> (intro h; try simp only [decide_eq_true_eq, decide_eq_false_iff_not, Bool.not_eq_true, Bool.not_eq_false] at h))
    | (apply e_thenN)
    | (apply w_block)
    | (apply e_thenR)
    | (apply e_thenX)
    | (apply e_blkN)
    | (apply e_blkR)
    | (apply e_blkE)
    | (apply w_exit)
    | (apply w_ret)
    | (apply w_skip)
    | (apply e_blkE'; rfl))
      rw [show i = subs.length by omega, List.drop_length, rcatG] at hm
      rw [show refG s (.node k a b c d mn mx subs) p = q by simp [refG, h3, hm]]
      exact retSD rfl
  by_cases h4 : k = 4
  · repeat' (first
    | (apply r_mvV; rfl)
    | (apply r_mvP; rfl)
    | (apply r_mvPL; rfl)
    | (apply r_mvS; rfl)
    | (apply r_mvSL; rfl)
    | (apply r_mvA; rfl)
    | (apply r_mvT; rfl)
    | (apply r_mvF; rfl)
    | (apply r_mvD; rfl)
    | (apply r_faddD; rfl)
    | (apply r_faddL; rfl)
    | (apply r_l; apply ld_kind; assumption; rfl)
    | (apply r_l; apply ld_mn; assumption; rfl)
    | (apply r_l; apply ld_mx; assumption; rfl)
    | (apply r_l; apply ld_subs; assumption; rfl)
    | (apply r_l; apply ld_set; assumption; rfl)
    | (apply r_l; apply ld_node; assumption; rfl)
    | (apply r_l; apply ld_kind'; assumption; rfl)
    | (apply r_l; apply ld_mn'; assumption; rfl)
    | (apply r_l; apply ld_mx'; assumption; rfl)
    | (apply r_l; apply ld_subs'; assumption; rfl)
    | (apply r_l; apply ld_node'; assumption; rfl)
    | (apply r_mksB (m := s.size + 1); rfl; rfl; ((conv => lhs; simp only [Nat.reduceAdd]) <;> rfl); omega; omega)
    | (apply r_ldL; rfl; rfl; rfl)
    | (apply r_eql; rfl; rfl; (first | (apply decide_eq_true; omega) | (apply decide_eq_false; omega) | rfl))
    | (apply r_lss; rfl; rfl; (first | (apply decide_eq_true; omega) | (apply decide_eq_false; omega) | rfl))
    | (apply r_leq; rfl; rfl; (first | (apply decide_eq_true; omega) | (apply decide_eq_false; omega) | rfl))
    | (apply r_geq; rfl; rfl; (first | (apply decide_eq_true; omega) | (apply decide_eq_false; omega) | rfl))
    | (apply r_add; rfl; rfl; rfl; omega)
    | (apply r_not; rfl; rfl)
    | (apply r_pickT; rfl)
    | (apply r_pickF; rfl)
    | (apply r_lenD; rfl)
    | (apply r_lenL; rfl)
    | (apply r_len0; rfl)
    | (apply r_lenT; rfl)
    | (apply r_gT; rfl)
    | (apply r_gF'; rfl; rfl)
    | (apply r_gN'; rfl)
    | ((apply r_gS (o := default); rfl) <;> (intro h; try simp only [decide_eq_true_eq, decide_eq_false_iff_not, Bool.not_eq_true, Bool.not_eq_false] at h))
    | (apply r_box; ((conv => lhs; simp only [Nat.reduceAdd]) <;> rfl); rfl; rfl; rfl)
    | (apply r_stL; rfl; rfl; rfl; rfl; (first | rfl | (simp only [z_nil, z_add] <;> rfl)); rfl; rfl)
    | (apply r_p; rfl)
    | (apply r_nilK)
    | (apply r_nil)
    | (apply k_V; rfl)
    | (apply k_P; rfl)
    | (apply k_PL; rfl)
    | (apply k_S; rfl)
    | (apply k_SL; rfl)
    | (apply k_A; rfl)
    | (apply k_T; rfl)
    | (apply k_F; rfl)
    | (apply k_D; rfl; rotate_left; rfl)
    | (apply k_nil)
    | (apply e_ret (vs := [.d (.val _)]); rfl)
    | (apply e_ret; rfl)
    | (apply e_ret' (vs := [.d (.val _)]); rfl)
    | (apply e_ret'; rfl)
    | (apply w_seq)
    | (apply w_ops; ((conv => lhs; simp only [Nat.reduceAdd]) <;> rfl))
    | (apply w_condT; rfl)
    | (apply w_condF; rfl)
    | ((apply w_condS; rfl) <;> (intro h; try simp only [decide_eq_true_eq, decide_eq_false_iff_not, Bool.not_eq_true, Bool.not_eq_false] at h))
    | (apply e_thenN)
    | (apply w_block)
    | (apply e_thenR)
    | (apply e_thenX)
    | (apply e_blkN)
    | (apply e_blkR)
    | (apply e_blkE)
    | (apply w_exit)
    | (apply w_ret)
    | (apply w_skip)
    | (apply e_blkE'; rfl))
    apply w_loopI (ι := Nat × List Bool) (S := fun q => ⟨((((Fr.nil.put 1 (.d (.val (.string s)))).put 2 (.d (.sl (encB p) (s.size + 1)))).put 3 (.ptrL 1 0)).put 7 (.slL 6 0 (s.size + 1) 1)).put 10 (.i q.1), (Heap.nil.put 1 [.i k, .d (.val (.int .u64 a)), .d (.val (.int .u64 b)), .d (.val (.int .u64 c)), .d (.val (.int .u64 d)), .i mn, .i mx, .d (.sl (encL subs) subs.length)]).put 6 ((encB q.2).map AV.d), Frz.but 100 6, 100⟩) (m := fun q => subs.length - q.1)
      (I := fun q => q.1 ≤ subs.length ∧ q.2.length = s.size + 1 ∧ raltG s subs p (List.replicate (s.size + 1) false) = raltG s (subs.drop q.1) p q.2) (i0 := (0, List.replicate (s.size + 1) false))
    · exact ⟨Nat.zero_le _, by simp, by simp⟩
    · exact wk2C (c := 6) (by omega) (by omega) (by omega) (by omega) (by omega) (by omega) rfl rfl rfl rfl encB_isD (FWk.i rfl rfl (FWk.sl rfl rfl rfl rfl (by omega) rfl (FWk.ptr rfl rfl rfl (by omega) rfl (FWk.d rfl rfl (FWk.d rfl rfl FWk.nil)))))
    rintro ⟨i, q⟩ K ⟨hi, hq, hm⟩ hK
    dsimp only at hi hq hm hK ⊢
    rcases Nat.lt_or_ge i subs.length with hlt | hge
    · have hs := NodeAt.sub hlt
      have hdr := raltG_drop s subs p q i hlt
      have hs2 := refG_len s subs[i] p hp
      have hna : [nodeA subs[i], .d (.val (.string s)), .d (.sl (encB p) (s.size + 1))].all AV.nrm = true := by
        rw [List.all_cons, nodeA_nrm]; rfl
      repeat' (first
    | (apply r_mvV; rfl)
    | (apply r_mvP; rfl)
    | (apply r_mvPL; rfl)
    | (apply r_mvS; rfl)
    | (apply r_mvSL; rfl)
    | (apply r_mvA; rfl)
    | (apply r_mvT; rfl)
    | (apply r_mvF; rfl)
    | (apply r_mvD; rfl)
    | (apply r_faddD; rfl)
    | (apply r_faddL; rfl)
    | (apply r_l; apply ld_kind; assumption; rfl)
    | (apply r_l; apply ld_mn; assumption; rfl)
    | (apply r_l; apply ld_mx; assumption; rfl)
    | (apply r_l; apply ld_subs; assumption; rfl)
    | (apply r_l; apply ld_set; assumption; rfl)
    | (apply r_l; apply ld_node; assumption; rfl)
    | (apply r_l; apply ld_kind'; assumption; rfl)
    | (apply r_l; apply ld_mn'; assumption; rfl)
    | (apply r_l; apply ld_mx'; assumption; rfl)
    | (apply r_l; apply ld_subs'; assumption; rfl)
    | (apply r_l; apply ld_node'; assumption; rfl)
    | (apply r_p; apply ix_sub; rfl; rfl; omega)
    | (apply r_callA (ags := [nodeA subs[i], .d (.val (.string s)), .d (.sl (encB p) (s.size + 1))]); rfl; exact hna; exact ih' i hlt p hp)
    | (apply r_callW; rfl; rfl; rfl; rfl; exact or_good q _ hq hs2 (by omega))
    | (apply r_ldL; rfl; rfl; rfl)
    | (apply r_eql; rfl; rfl; (first | (apply decide_eq_true; omega) | (apply decide_eq_false; omega) | rfl))
    | (apply r_lss; rfl; rfl; (first | (apply decide_eq_true; omega) | (apply decide_eq_false; omega) | rfl))
    | (apply r_leq; rfl; rfl; (first | (apply decide_eq_true; omega) | (apply decide_eq_false; omega) | rfl))
    | (apply r_geq; rfl; rfl; (first | (apply decide_eq_true; omega) | (apply decide_eq_false; omega) | rfl))
    | (apply r_add; rfl; rfl; rfl; omega)
    | (apply r_not; rfl; rfl)
    | (apply r_pickT; rfl)
    | (apply r_pickF; rfl)
    | (apply r_lenD; rfl)
    | (apply r_lenL; rfl)
    | (apply r_len0; rfl)
    | (apply r_lenT; rfl)
    | (apply r_gT; rfl)
    | (apply r_gF'; rfl; rfl)
    | (apply r_gN'; rfl)
    | ((apply r_gS (o := default); rfl) <;> (intro h; try simp only [decide_eq_true_eq, decide_eq_false_iff_not, Bool.not_eq_true, Bool.not_eq_false] at h))
    | (apply r_box; ((conv => lhs; simp only [Nat.reduceAdd]) <;> rfl); rfl; rfl; rfl)
    | (apply r_stL; rfl; rfl; rfl; rfl; (first | rfl | (simp only [z_nil, z_add] <;> rfl)); rfl; rfl)
    | (apply r_p; rfl)
    | (apply r_nilK)
    | (apply r_nil)
    | (apply k_V; rfl)
    | (apply k_P; rfl)
    | (apply k_PL; rfl)
    | (apply k_S; rfl)
    | (apply k_SL; rfl)
    | (apply k_A; rfl)
    | (apply k_T; rfl)
    | (apply k_F; rfl)
    | (apply k_D; rfl; rotate_left; rfl)
    | (apply k_nil)
    | (apply e_ret (vs := [.d (.val _)]); rfl)
    | (apply e_ret; rfl)
    | (apply e_ret' (vs := [.d (.val _)]); rfl)
    | (apply e_ret'; rfl)
    | (apply w_seq)
    | (apply w_ops; ((conv => lhs; simp only [Nat.reduceAdd]) <;> rfl))
    | (apply w_condT; rfl)
    | (apply w_condF; rfl)
    | ((apply w_condS; rfl) <;> (intro h; try simp only [decide_eq_true_eq, decide_eq_false_iff_not, Bool.not_eq_true, Bool.not_eq_false] at h))
    | (apply e_thenN)
    | (apply w_block)
    | (apply e_thenR)
    | (apply e_thenX)
    | (apply e_blkN)
    | (apply e_blkR)
    | (apply e_blkE)
    | (apply w_exit)
    | (apply w_ret)
    | (apply w_skip)
    | (apply e_blkE'; rfl))
      apply e_thenK
      apply hK (i + 1, (addTo q (refG s subs[i] p) (s.size + 1)).1)
      · exact ⟨by dsimp only; omega, by dsimp only; rw [addTo_len]; exact hq, by rw [hm, hdr]⟩
      · dsimp only; omega
      · exact wk2C (c := 6) (by omega) (by omega) (by omega) (by omega) (by omega) (by omega) rfl rfl rfl rfl encB_isD (FWk.i rfl (by simp) (FWk.sl rfl rfl rfl rfl (by omega) rfl (FWk.ptr rfl rfl rfl (by omega) rfl (FWk.d rfl rfl (FWk.d rfl rfl FWk.nil)))))
    · repeat' (first
    | (apply r_mvV; rfl)
    | (apply r_mvP; rfl)
    | (apply r_mvPL; rfl)
    | (apply r_mvS; rfl)
    | (apply r_mvSL; rfl)
    | (apply r_mvA; rfl)
    | (apply r_mvT; rfl)
    | (apply r_mvF; rfl)
    | (apply r_mvD; rfl)
    | (apply r_faddD; rfl)
    | (apply r_faddL; rfl)
    | (apply r_l; apply ld_kind; assumption; rfl)
    | (apply r_l; apply ld_mn; assumption; rfl)
    | (apply r_l; apply ld_mx; assumption; rfl)
    | (apply r_l; apply ld_subs; assumption; rfl)
    | (apply r_l; apply ld_set; assumption; rfl)
    | (apply r_l; apply ld_node; assumption; rfl)
    | (apply r_l; apply ld_kind'; assumption; rfl)
    | (apply r_l; apply ld_mn'; assumption; rfl)
    | (apply r_l; apply ld_mx'; assumption; rfl)
    | (apply r_l; apply ld_subs'; assumption; rfl)
    | (apply r_l; apply ld_node'; assumption; rfl)
    | (apply r_ldL; rfl; rfl; rfl)
    | (apply r_eql; rfl; rfl; (first | (apply decide_eq_true; omega) | (apply decide_eq_false; omega) | rfl))
    | (apply r_lss; rfl; rfl; (first | (apply decide_eq_true; omega) | (apply decide_eq_false; omega) | rfl))
    | (apply r_leq; rfl; rfl; (first | (apply decide_eq_true; omega) | (apply decide_eq_false; omega) | rfl))
    | (apply r_geq; rfl; rfl; (first | (apply decide_eq_true; omega) | (apply decide_eq_false; omega) | rfl))
    | (apply r_add; rfl; rfl; rfl; omega)
    | (apply r_not; rfl; rfl)
    | (apply r_pickT; rfl)
    | (apply r_pickF; rfl)
    | (apply r_lenD; rfl)
    | (apply r_lenL; rfl)
    | (apply r_len0; rfl)
    | (apply r_lenT; rfl)
    | (apply r_gT; rfl)
    | (apply r_gF'; rfl; rfl)
    | (apply r_gN'; rfl)
    | ((apply r_gS (o := default); rfl) <;> (intro h; try simp only [decide_eq_true_eq, decide_eq_false_iff_not, Bool.not_eq_true, Bool.not_eq_false] at h))
    | (apply r_box; ((conv => lhs; simp only [Nat.reduceAdd]) <;> rfl); rfl; rfl; rfl)
    | (apply r_stL; rfl; rfl; rfl; rfl; (first | rfl | (simp only [z_nil, z_add] <;> rfl)); rfl; rfl)
    | (apply r_p; rfl)
    | (apply r_nilK)
    | (apply r_nil)
    | (apply k_V; rfl)
    | (apply k_P; rfl)
    | (apply k_PL; rfl)
    | (apply k_S; rfl)
    | (apply k_SL; rfl)
    | (apply k_A; rfl)
    | (apply k_T; rfl)
    | (apply k_F; rfl)
    | (apply k_D; rfl; rotate_left; rfl)
    | (apply k_nil)
    | (apply e_ret (vs := [.d (.val _)]); rfl)
    | (apply e_ret; rfl)
    | (apply e_ret' (vs := [.d (.val _)]); rfl)
    | (apply e_ret'; rfl)
    | (apply w_seq)
    | (apply w_ops; ((conv => lhs; simp only [Nat.reduceAdd]) <;> rfl))
    | (apply w_condT; rfl)
    | (apply w_condF; rfl)
    | ((apply w_condS; rfl) <;> (intro h; try simp only [decide_eq_true_eq, decide_eq_false_iff_not, Bool.not_eq_true, Bool.not_eq_false] at h))
    | (apply e_thenN)
    | (apply w_block)
    | (apply e_thenR)
    | (apply e_thenX)
    | (apply e_blkN)
    | (apply e_blkR)
    | (apply e_blkE)
    | (apply w_exit)
    | (apply w_ret)
    | (apply w_skip)
    | (apply e_blkE'; rfl))
      rw [show i = subs.length by omega, List.drop_length, raltG] at hm
      rw [show refG s (.node k a b c d mn mx subs) p = q by simp [refG, h4, hm]]
      exact retSB rfl hq
  by_cases h5 : k = 5
  · have hR5 := hR h5
    have hl0 : 0 < subs.length := by
      simp [plainT, h5] at hpl
      omega
    have hfst : ∀ q, rfstG s subs q = refG s (subs[0]'hl0) q := by
      intro q
      match subs, hl0 with
      | t :: l, _ => rfl
    have hs0 : NodeAt (encL subs) 0 (subs[0]'hl0) := by simpa using NodeAt.sub hl0
    obtain ⟨last, hlast⟩ : ∃ last : Int, last = (if mx < 0 then mn + s.size + 1 else mx) := ⟨_, rfl⟩
    have hspec : refG s (.node k a b c d mn mx subs) p = refR (rfstG s subs) (s.size + 1) mn last (last + 1).toNat 0 p (List.replicate (s.size + 1) false) := by simp [refG, h5, hlast]
    by_cases hneg : mx < 0
    all_goals simp only [hneg, if_true, if_false] at hlast
    · repeat' (first
    | (apply r_mvV; rfl)
    | (apply r_mvP; rfl)
    | (apply r_mvPL; rfl)
    | (apply r_mvS; rfl)
    | (apply r_mvSL; rfl)
    | (apply r_mvA; rfl)
    | (apply r_mvT; rfl)
    | (apply r_mvF; rfl)
    | (apply r_mvD; rfl)
    | (apply r_faddD; rfl)
    | (apply r_faddL; rfl)
    | (apply r_l; apply ld_kind; assumption; rfl)
    | (apply r_l; apply ld_mn; assumption; rfl)
    | (apply r_l; apply ld_mx; assumption; rfl)
    | (apply r_l; apply ld_subs; assumption; rfl)
    | (apply r_l; apply ld_set; assumption; rfl)
    | (apply r_l; apply ld_node; assumption; rfl)
    | (apply r_l; apply ld_kind'; assumption; rfl)
    | (apply r_l; apply ld_mn'; assumption; rfl)
    | (apply r_l; apply ld_mx'; assumption; rfl)
    | (apply r_l; apply ld_subs'; assumption; rfl)
    | (apply r_l; apply ld_node'; assumption; rfl)
    | (apply r_mksB (m := s.size + 1); rfl; rfl; ((conv => lhs; simp only [Nat.reduceAdd]) <;> rfl); omega; omega)
    | (apply r_mkrow0; ((conv => lhs; simp only [Nat.reduceAdd]) <;> rfl))
    | (apply r_appB0; rfl; rfl; rfl; rfl; ((conv => lhs; simp only [Nat.reduceAdd]) <;> rfl); exact hp; omega)
    | (apply r_ldL; rfl; rfl; rfl)
    | (apply r_eql; rfl; rfl; (first | (apply decide_eq_true; omega) | (apply decide_eq_false; omega) | rfl))
    | (apply r_lss; rfl; rfl; (first | (apply decide_eq_true; omega) | (apply decide_eq_false; omega) | rfl))
    | (apply r_leq; rfl; rfl; (first | (apply decide_eq_true; omega) | (apply decide_eq_false; omega) | rfl))
    | (apply r_geq; rfl; rfl; (first | (apply decide_eq_true; omega) | (apply decide_eq_false; omega) | rfl))
    | (apply r_add; rfl; rfl; rfl; omega)
    | (apply r_not; rfl; rfl)
    | (apply r_pickT; rfl)
    | (apply r_pickF; rfl)
    | (apply r_lenD; rfl)
    | (apply r_lenL; rfl)
    | (apply r_len0; rfl)
    | (apply r_lenT; rfl)
    | (apply r_gT; rfl)
    | (apply r_gF'; rfl; rfl)
    | (apply r_gN'; rfl)
    | ((apply r_gS (o := default); rfl) <;> (intro h; try simp only [decide_eq_true_eq, decide_eq_false_iff_not, Bool.not_eq_true, Bool.not_eq_false] at h))
    | (apply r_box; ((conv => lhs; simp only [Nat.reduceAdd]) <;> rfl); rfl; rfl; rfl)
    | (apply r_stL; rfl; rfl; rfl; rfl; (first | rfl | (simp only [z_nil, z_add] <;> rfl)); rfl; rfl)
    | (apply r_p; rfl)
    | (apply r_nilK)
    | (apply r_nil)
    | (apply k_V; rfl)
    | (apply k_P; rfl)
    | (apply k_PL; rfl)
    | (apply k_S; rfl)
    | (apply k_SL; rfl)
    | (apply k_A; rfl)
    | (apply k_T; rfl)
    | (apply k_F; rfl)
    | (apply k_D; rfl; rotate_left; rfl)
    | (apply k_nil)
    | (apply e_ret (vs := [.d (.val _)]); rfl)
    | (apply e_ret; rfl)
    | (apply e_ret' (vs := [.d (.val _)]); rfl)
    | (apply e_ret'; rfl)
    | (apply w_seq)
    | (apply w_ops; ((conv => lhs; simp only [Nat.reduceAdd]) <;> rfl))
    | (apply w_condT; rfl)
    | (apply w_condF; rfl)
    | ((apply w_condS; rfl) <;> (intro h; try simp only [decide_eq_true_eq, decide_eq_false_iff_not, Bool.not_eq_true, Bool.not_eq_false] at h))
    | (apply e_thenN)
    | (apply w_block)
    | (apply e_thenR)
    | (apply e_thenX)
    | (apply e_blkN)
    | (apply e_blkR)
    | (apply e_blkE)
    | (apply w_exit)
    | (apply w_ret)
    | (apply w_skip)
    | (apply e_blkE'; rfl))
      apply w_loopF (ι := Nat × List Bool × List Bool) (S := fun q => ⟨(((((Fr.nil.put 1 (.d (.val (.string s)))).put 3 (.ptrL 1 0)).put 7 (.slL 6 0 (s.size + 1) 1)).put 11 (.d (.sl (encB q.2.1) (s.size + 1)))).put 12 (.i last)).put 13 (.i q.1), (Heap.nil.put 1 [.i k, .d (.val (.int .u64 a)), .d (.val (.int .u64 b)), .d (.val (.int .u64 c)), .d (.val (.int .u64 d)), .i mn, .i mx, .d (.sl (encL subs) subs.length)]).put 6 ((encB q.2.2).map AV.d), Frz.but 100 6, 100⟩) (m := fun q => (last + 1 - q.1).toNat)
        (I := fun q => q.2.1.length = s.size + 1 ∧ q.2.2.length = s.size + 1 ∧ refG s (.node k a b c d mn mx subs) p = refR (rfstG s subs) (s.size + 1) mn last (last + 1 - q.1).toNat q.1 q.2.1 q.2.2) (i0 := (0, p, List.replicate (s.size + 1) false))
      · exact ⟨hp, by simp, by rw [hspec]; simp⟩
      · refine fzB (k := 11) (p := p) rfl rfl hp (by omega) (wk2C (c := 6) (by omega) (by omega) (by omega) (by omega) (by omega) (by omega) rfl rfl rfl rfl encB_isD ?_)
        repeat' (first
    | exact FWk.nil
    | (apply FWk.i; rfl; (first | rfl | omega | (simp; done)))
    | (apply FWk.sl; rfl; rfl; rfl; rfl; omega; rfl)
    | (apply FWk.ptr; rfl; rfl; rfl; omega; rfl)
    | (apply FWk.d; rfl; rfl)
    | (apply FWk.a; rfl; rfl; rfl)
    | (apply FWk.slN; rfl; omega; rfl))
      rintro ⟨i, q, out⟩ K ⟨hq, ho, hm⟩ hK
      dsimp only at hq ho hm hK ⊢
      have hor := or_good out q ho hq (by omega)
      have hl2 : (addTo out q (s.size + 1)).1.length = s.size + 1 := by rw [addTo_len]; exact ho
      have hnx : (rfstG s subs q).length = s.size + 1 := by rw [hfst]; exact refG_len s _ _ hq
      have hcall : Good Try.prog 88 [nodeA (subs[0]'hl0), .d (.val (.string s)), .d (.sl (encB q) (s.size + 1))] none (.d (.sl (encB (rfstG s subs q)) (s.size + 1))) none none := by
        rw [hfst]; exact ih' 0 hl0 q hq
      have hna : [nodeA (subs[0]'hl0), .d (.val (.string s)), .d (.sl (encB q) (s.size + 1))].all AV.nrm = true := by
        rw [List.all_cons, nodeA_nrm]; rfl
      by_cases hgt : last < (i : Int)
      · repeat' (first
    | (apply r_mvV; rfl)
    | (apply r_mvP; rfl)
    | (apply r_mvPL; rfl)
    | (apply r_mvS; rfl)
    | (apply r_mvSL; rfl)
    | (apply r_mvA; rfl)
    | (apply r_mvT; rfl)
    | (apply r_mvF; rfl)
    | (apply r_mvD; rfl)
    | (apply r_faddD; rfl)
    | (apply r_faddL; rfl)
    | (apply r_l; apply ld_kind; assumption; rfl)
    | (apply r_l; apply ld_mn; assumption; rfl)
    | (apply r_l; apply ld_mx; assumption; rfl)
    | (apply r_l; apply ld_subs; assumption; rfl)
    | (apply r_l; apply ld_set; assumption; rfl)
    | (apply r_l; apply ld_node; assumption; rfl)
    | (apply r_l; apply ld_kind'; assumption; rfl)
    | (apply r_l; apply ld_mn'; assumption; rfl)
    | (apply r_l; apply ld_mx'; assumption; rfl)
    | (apply r_l; apply ld_subs'; assumption; rfl)
    | (apply r_l; apply ld_node'; assumption; rfl)
    | (apply r_ldL; rfl; rfl; rfl)
    | (apply r_eql; rfl; rfl; (first | (apply decide_eq_true; omega) | (apply decide_eq_false; omega) | rfl))
    | (apply r_lss; rfl; rfl; (first | (apply decide_eq_true; omega) | (apply decide_eq_false; omega) | rfl))
    | (apply r_leq; rfl; rfl; (first | (apply decide_eq_true; omega) | (apply decide_eq_false; omega) | rfl))
    | (apply r_geq; rfl; rfl; (first | (apply decide_eq_true; omega) | (apply decide_eq_false; omega) | rfl))
    | (apply r_add; rfl; rfl; rfl; omega)
    | (apply r_not; rfl; rfl)
    | (apply r_pickT; rfl)
    | (apply r_pickF; rfl)
    | (apply r_lenD; rfl)
    | (apply r_lenL; rfl)
    | (apply r_len0; rfl)
    | (apply r_lenT; rfl)
    | (apply r_gT; rfl)
    | (apply r_gF'; rfl; rfl)
    | (apply r_gN'; rfl)
    | ((apply r_gS (o := default); rfl) <;> (intro h; try simp only [decide_eq_true_eq, decide_eq_false_iff_not, Bool.not_eq_true, Bool.not_eq_false] at h))
    | (apply r_box; ((conv => lhs; simp only [Nat.reduceAdd]) <;> rfl); rfl; rfl; rfl)
    | (apply r_stL; rfl; rfl; rfl; rfl; (first | rfl | (simp only [z_nil, z_add] <;> rfl)); rfl; rfl)
    | (apply r_p; rfl)
    | (apply r_nilK)
    | (apply r_nil)
    | (apply k_V; rfl)
    | (apply k_P; rfl)
    | (apply k_PL; rfl)
    | (apply k_S; rfl)
    | (apply k_SL; rfl)
    | (apply k_A; rfl)
    | (apply k_T; rfl)
    | (apply k_F; rfl)
    | (apply k_D; rfl; rotate_left; rfl)
    | (apply k_nil)
    | (apply e_ret (vs := [.d (.val _)]); rfl)
    | (apply e_ret; rfl)
    | (apply e_ret' (vs := [.d (.val _)]); rfl)
    | (apply e_ret'; rfl)
    | (apply w_seq)
    | (apply w_ops; ((conv => lhs; simp only [Nat.reduceAdd]) <;> rfl))
    | (apply w_condT; rfl)
    | (apply w_condF; rfl)
    | ((apply w_condS; rfl) <;> (intro h; try simp only [decide_eq_true_eq, decide_eq_false_iff_not, Bool.not_eq_true, Bool.not_eq_false] at h))
    | (apply e_thenN)
    | (apply w_block)
    | (apply e_thenR)
    | (apply e_thenX)
    | (apply e_blkN)
    | (apply e_blkR)
    | (apply e_blkE)
    | (apply w_exit)
    | (apply w_ret)
    | (apply w_skip)
    | (apply e_blkE'; rfl))
        rw [show (last + 1 - (i : Int)).toNat = 0 by omega, refR] at hm
        rw [hm]
        exact retSB rfl ho
      have hle : (i : Int) ≤ last := by omega
      obtain ⟨f, hf⟩ : ∃ f, (last + 1 - (i : Int)).toNat = f + 1 := ⟨(last - i).toNat, by omega⟩
      have hf2 : (last + 1 - ((i + 1 : Nat) : Int)).toNat = f := by omega
      rw [hf] at hm
      rw [refR, if_pos hle] at hm
      by_cases hmk : mn ≤ i
      · rw [if_pos hmk] at hm
        repeat' (first
    | (apply r_mvV; rfl)
    | (apply r_mvP; rfl)
    | (apply r_mvPL; rfl)
    | (apply r_mvS; rfl)
    | (apply r_mvSL; rfl)
    | (apply r_mvA; rfl)
    | (apply r_mvT; rfl)
    | (apply r_mvF; rfl)
    | (apply r_mvD; rfl)
    | (apply r_faddD; rfl)
    | (apply r_faddL; rfl)
    | (apply r_l; apply ld_kind; assumption; rfl)
    | (apply r_l; apply ld_mn; assumption; rfl)
    | (apply r_l; apply ld_mx; assumption; rfl)
    | (apply r_l; apply ld_subs; assumption; rfl)
    | (apply r_l; apply ld_set; assumption; rfl)
    | (apply r_l; apply ld_node; assumption; rfl)
    | (apply r_l; apply ld_kind'; assumption; rfl)
    | (apply r_l; apply ld_mn'; assumption; rfl)
    | (apply r_l; apply ld_mx'; assumption; rfl)
    | (apply r_l; apply ld_subs'; assumption; rfl)
    | (apply r_l; apply ld_node'; assumption; rfl)
    | (apply r_callW; rfl; rfl; rfl; rfl; exact hor)
    | (apply r_p; apply ix_sub0; rfl; rfl; exact hl0)
    | (apply r_callA (ags := [nodeA (subs[0]'hl0), .d (.val (.string s)), .d (.sl (encB q) (s.size + 1))]); rfl; exact hna; exact hcall)
    | (apply r_ldL; rfl; rfl; rfl)
    | (apply r_eql; rfl; rfl; (first | (apply decide_eq_true; omega) | (apply decide_eq_false; omega) | rfl))
    | (apply r_lss; rfl; rfl; (first | (apply decide_eq_true; omega) | (apply decide_eq_false; omega) | rfl))
    | (apply r_leq; rfl; rfl; (first | (apply decide_eq_true; omega) | (apply decide_eq_false; omega) | rfl))
    | (apply r_geq; rfl; rfl; (first | (apply decide_eq_true; omega) | (apply decide_eq_false; omega) | rfl))
    | (apply r_add; rfl; rfl; rfl; omega)
    | (apply r_not; rfl; rfl)
    | (apply r_pickT; rfl)
    | (apply r_pickF; rfl)
    | (apply r_lenD; rfl)
    | (apply r_lenL; rfl)
    | (apply r_len0; rfl)
    | (apply r_lenT; rfl)
    | (apply r_gT; rfl)
    | (apply r_gF'; rfl; rfl)
    | (apply r_gN'; rfl)
    | ((apply r_gS (o := default); rfl) <;> (intro h; try simp only [decide_eq_true_eq, decide_eq_false_iff_not, Bool.not_eq_true, Bool.not_eq_false] at h))
    | (apply r_box; ((conv => lhs; simp only [Nat.reduceAdd]) <;> rfl); rfl; rfl; rfl)
    | (apply r_stL; rfl; rfl; rfl; rfl; (first | rfl | (simp only [z_nil, z_add] <;> rfl)); rfl; rfl)
    | (apply r_p; rfl)
    | (apply r_nilK)
    | (apply r_nil)
    | (apply k_V; rfl)
    | (apply k_P; rfl)
    | (apply k_PL; rfl)
    | (apply k_S; rfl)
    | (apply k_SL; rfl)
    | (apply k_A; rfl)
    | (apply k_T; rfl)
    | (apply k_F; rfl)
    | (apply k_D; rfl; rotate_left; rfl)
    | (apply k_nil)
    | (apply e_ret (vs := [.d (.val _)]); rfl)
    | (apply e_ret; rfl)
    | (apply e_ret' (vs := [.d (.val _)]); rfl)
    | (apply e_ret'; rfl)
    | (apply w_seq)
    | (apply w_ops; ((conv => lhs; simp only [Nat.reduceAdd]) <;> rfl))
    | (apply w_condT; rfl)
    | (apply w_condF; rfl)
    | ((apply w_condS; rfl) <;> (intro h; try simp only [decide_eq_true_eq, decide_eq_false_iff_not, Bool.not_eq_true, Bool.not_eq_false] at h))
    | (apply e_thenN)
    | (apply w_block)
    | (apply e_thenR)
    | (apply e_thenX)
    | (apply e_blkN)
    | (apply e_blkR)
    | (apply e_blkE)
    | (apply w_exit)
    | (apply w_ret)
    | (apply w_skip)
    | (apply e_blkE'; rfl))
        · simp only [Bool.not_eq_true'] at h
          rw [if_neg (by simp [h])] at hm
          rw [hm]
          exact retSB rfl hl2
        · apply e_thenK
          simp only [Bool.not_eq_false'] at h
          rw [if_pos h] at hm
          apply hK (i + 1, rfstG s subs q, (addTo out q (s.size + 1)).1)
          · exact ⟨hnx, hl2, by dsimp only; rw [hf2, hm]; rfl⟩
          · dsimp only; omega
          · refine (wk2C (c := 6) (by omega) (by omega) (by omega) (by omega) (by omega) (by omega) rfl rfl rfl rfl encB_isD ?_).f
            repeat' (first
    | exact FWk.nil
    | (apply FWk.i; rfl; (first | rfl | omega | (simp; done)))
    | (apply FWk.sl; rfl; rfl; rfl; rfl; omega; rfl)
    | (apply FWk.ptr; rfl; rfl; rfl; omega; rfl)
    | (apply FWk.d; rfl; rfl)
    | (apply FWk.a; rfl; rfl; rfl)
    | (apply FWk.slN; rfl; omega; rfl))
      · rw [if_neg hmk] at hm
        repeat' (first
    | (apply r_mvV; rfl)
    | (apply r_mvP; rfl)
    | (apply r_mvPL; rfl)
    | (apply r_mvS; rfl)
    | (apply r_mvSL; rfl)
    | (apply r_mvA; rfl)
    | (apply r_mvT; rfl)
    | (apply r_mvF; rfl)
    | (apply r_mvD; rfl)
    | (apply r_faddD; rfl)
    | (apply r_faddL; rfl)
    | (apply r_l; apply ld_kind; assumption; rfl)
    | (apply r_l; apply ld_mn; assumption; rfl)
    | (apply r_l; apply ld_mx; assumption; rfl)
    | (apply r_l; apply ld_subs; assumption; rfl)
    | (apply r_l; apply ld_set; assumption; rfl)
    | (apply r_l; apply ld_node; assumption; rfl)
    | (apply r_l; apply ld_kind'; assumption; rfl)
    | (apply r_l; apply ld_mn'; assumption; rfl)
    | (apply r_l; apply ld_mx'; assumption; rfl)
    | (apply r_l; apply ld_subs'; assumption; rfl)
    | (apply r_l; apply ld_node'; assumption; rfl)
    | (apply r_p; apply ix_sub0; rfl; rfl; exact hl0)
    | (apply r_callA (ags := [nodeA (subs[0]'hl0), .d (.val (.string s)), .d (.sl (encB q) (s.size + 1))]); rfl; exact hna; exact hcall)
    | (apply r_ldL; rfl; rfl; rfl)
    | (apply r_eql; rfl; rfl; (first | (apply decide_eq_true; omega) | (apply decide_eq_false; omega) | rfl))
    | (apply r_lss; rfl; rfl; (first | (apply decide_eq_true; omega) | (apply decide_eq_false; omega) | rfl))
    | (apply r_leq; rfl; rfl; (first | (apply decide_eq_true; omega) | (apply decide_eq_false; omega) | rfl))
    | (apply r_geq; rfl; rfl; (first | (apply decide_eq_true; omega) | (apply decide_eq_false; omega) | rfl))
    | (apply r_add; rfl; rfl; rfl; omega)
    | (apply r_not; rfl; rfl)
    | (apply r_pickT; rfl)
    | (apply r_pickF; rfl)
    | (apply r_lenD; rfl)
    | (apply r_lenL; rfl)
    | (apply r_len0; rfl)
    | (apply r_lenT; rfl)
    | (apply r_gT; rfl)
    | (apply r_gF'; rfl; rfl)
    | (apply r_gN'; rfl)
    | ((apply r_gS (o := default); rfl) <;> (intro h; try simp only [decide_eq_true_eq, decide_eq_false_iff_not, Bool.not_eq_true, Bool.not_eq_false] at h))
    | (apply r_box; ((conv => lhs; simp only [Nat.reduceAdd]) <;> rfl); rfl; rfl; rfl)
    | (apply r_stL; rfl; rfl; rfl; rfl; (first | rfl | (simp only [z_nil, z_add] <;> rfl)); rfl; rfl)
    | (apply r_p; rfl)
    | (apply r_nilK)
    | (apply r_nil)
    | (apply k_V; rfl)
    | (apply k_P; rfl)
    | (apply k_PL; rfl)
    | (apply k_S; rfl)
    | (apply k_SL; rfl)
    | (apply k_A; rfl)
    | (apply k_T; rfl)
    | (apply k_F; rfl)
    | (apply k_D; rfl; rotate_left; rfl)
    | (apply k_nil)
    | (apply e_ret (vs := [.d (.val _)]); rfl)
    | (apply e_ret; rfl)
    | (apply e_ret' (vs := [.d (.val _)]); rfl)
    | (apply e_ret'; rfl)
    | (apply w_seq)
    | (apply w_ops; ((conv => lhs; simp only [Nat.reduceAdd]) <;> rfl))
    | (apply w_condT; rfl)
    | (apply w_condF; rfl)
    | ((apply w_condS; rfl) <;> (intro h; try simp only [decide_eq_true_eq, decide_eq_false_iff_not, Bool.not_eq_true, Bool.not_eq_false] at h))
    | (apply e_thenN)
    | (apply w_block)
    | (apply e_thenR)
    | (apply e_thenX)
    | (apply e_blkN)
    | (apply e_blkR)
    | (apply e_blkE)
    | (apply w_exit)
    | (apply w_ret)
    | (apply w_skip)
    | (apply e_blkE'; rfl))
        apply e_thenK
        apply hK (i + 1, rfstG s subs q, out)
        · exact ⟨hnx, ho, by dsimp only; rw [hf2, hm]; rfl⟩
        · dsimp only; omega
        · refine (wk2C (c := 6) (by omega) (by omega) (by omega) (by omega) (by omega) (by omega) rfl rfl rfl rfl encB_isD ?_).f
          repeat' (first
    | exact FWk.nil
    | (apply FWk.i; rfl; (first | rfl | omega | (simp; done)))
    | (apply FWk.sl; rfl; rfl; rfl; rfl; omega; rfl)
    | (apply FWk.ptr; rfl; rfl; rfl; omega; rfl)
    | (apply FWk.d; rfl; rfl)
    | (apply FWk.a; rfl; rfl; rfl)
    | (apply FWk.slN; rfl; omega; rfl))
    · repeat' (first
    | (apply r_mvV; rfl)
    | (apply r_mvP; rfl)
    | (apply r_mvPL; rfl)
    | (apply r_mvS; rfl)
    | (apply r_mvSL; rfl)
    | (apply r_mvA; rfl)
    | (apply r_mvT; rfl)
    | (apply r_mvF; rfl)
    | (apply r_mvD; rfl)
    | (apply r_faddD; rfl)
    | (apply r_faddL; rfl)
    | (apply r_l; apply ld_kind; assumption; rfl)
    | (apply r_l; apply ld_mn; assumption; rfl)
    | (apply r_l; apply ld_mx; assumption; rfl)
    | (apply r_l; apply ld_subs; assumption; rfl)
    | (apply r_l; apply ld_set; assumption; rfl)
    | (apply r_l; apply ld_node; assumption; rfl)
    | (apply r_l; apply ld_kind'; assumption; rfl)
    | (apply r_l; apply ld_mn'; assumption; rfl)
    | (apply r_l; apply ld_mx'; assumption; rfl)
    | (apply r_l; apply ld_subs'; assumption; rfl)
    | (apply r_l; apply ld_node'; assumption; rfl)
    | (apply r_mksB (m := s.size + 1); rfl; rfl; ((conv => lhs; simp only [Nat.reduceAdd]) <;> rfl); omega; omega)
    | (apply r_mkrow0; ((conv => lhs; simp only [Nat.reduceAdd]) <;> rfl))
    | (apply r_appB0; rfl; rfl; rfl; rfl; ((conv => lhs; simp only [Nat.reduceAdd]) <;> rfl); exact hp; omega)
    | (apply r_ldL; rfl; rfl; rfl)
    | (apply r_eql; rfl; rfl; (first | (apply decide_eq_true; omega) | (apply decide_eq_false; omega) | rfl))
    | (apply r_lss; rfl; rfl; (first | (apply decide_eq_true; omega) | (apply decide_eq_false; omega) | rfl))
    | (apply r_leq; rfl; rfl; (first | (apply decide_eq_true; omega) | (apply decide_eq_false; omega) | rfl))
    | (apply r_geq; rfl; rfl; (first | (apply decide_eq_true; omega) | (apply decide_eq_false; omega) | rfl))
    | (apply r_add; rfl; rfl; rfl; omega)
    | (apply r_not; rfl; rfl)
    | (apply r_pickT; rfl)
    | (apply r_pickF; rfl)
    | (apply r_lenD; rfl)
    | (apply r_lenL; rfl)
    | (apply r_len0; rfl)
    | (apply r_lenT; rfl)
    | (apply r_gT; rfl)
    | (apply r_gF'; rfl; rfl)
    | (apply r_gN'; rfl)
    | ((apply r_gS (o := default); rfl) <;> (intro h; try simp only [decide_eq_true_eq, decide_eq_false_iff_not, Bool.not_eq_true, Bool.not_eq_false] at h))
    | (apply r_box; ((conv => lhs; simp only [Nat.reduceAdd]) <;> rfl); rfl; rfl; rfl)
    | (apply r_stL; rfl; rfl; rfl; rfl; (first | rfl | (simp only [z_nil, z_add] <;> rfl)); rfl; rfl)
    | (apply r_p; rfl)
    | (apply r_nilK)
    | (apply r_nil)
    | (apply k_V; rfl)
    | (apply k_P; rfl)
    | (apply k_PL; rfl)
    | (apply k_S; rfl)
    | (apply k_SL; rfl)
    | (apply k_A; rfl)
    | (apply k_T; rfl)
    | (apply k_F; rfl)
    | (apply k_D; rfl; rotate_left; rfl)
    | (apply k_nil)
    | (apply e_ret (vs := [.d (.val _)]); rfl)
    | (apply e_ret; rfl)
    | (apply e_ret' (vs := [.d (.val _)]); rfl)
    | (apply e_ret'; rfl)
    | (apply w_seq)
    | (apply w_ops; ((conv => lhs; simp only [Nat.reduceAdd]) <;> rfl))
    | (apply w_condT; rfl)
    | (apply w_condF; rfl)
    | ((apply w_condS; rfl) <;> (intro h; try simp only [decide_eq_true_eq, decide_eq_false_iff_not, Bool.not_eq_true, Bool.not_eq_false] at h))
    | (apply e_thenN)
    | (apply w_block)
    | (apply e_thenR)
    | (apply e_thenX)
    | (apply e_blkN)
    | (apply e_blkR)
    | (apply e_blkE)
    | (apply w_exit)
    | (apply w_ret)
    | (apply w_skip)
    | (apply e_blkE'; rfl))
      apply w_loopF (ι := Nat × List Bool × List Bool) (S := fun q => ⟨(((((Fr.nil.put 1 (.d (.val (.string s)))).put 3 (.ptrL 1 0)).put 7 (.slL 6 0 (s.size + 1) 1)).put 11 (.d (.sl (encB q.2.1) (s.size + 1)))).put 12 (.i last)).put 13 (.i q.1), (Heap.nil.put 1 [.i k, .d (.val (.int .u64 a)), .d (.val (.int .u64 b)), .d (.val (.int .u64 c)), .d (.val (.int .u64 d)), .i mn, .i mx, .d (.sl (encL subs) subs.length)]).put 6 ((encB q.2.2).map AV.d), Frz.but 100 6, 100⟩) (m := fun q => (last + 1 - q.1).toNat)
        (I := fun q => q.2.1.length = s.size + 1 ∧ q.2.2.length = s.size + 1 ∧ refG s (.node k a b c d mn mx subs) p = refR (rfstG s subs) (s.size + 1) mn last (last + 1 - q.1).toNat q.1 q.2.1 q.2.2) (i0 := (0, p, List.replicate (s.size + 1) false))
      · exact ⟨hp, by simp, by rw [hspec]; simp⟩
      · refine fzB (k := 11) (p := p) rfl rfl hp (by omega) (wk2C (c := 6) (by omega) (by omega) (by omega) (by omega) (by omega) (by omega) rfl rfl rfl rfl encB_isD ?_)
        repeat' (first
    | exact FWk.nil
    | (apply FWk.i; rfl; (first | rfl | omega | (simp; done)))
    | (apply FWk.sl; rfl; rfl; rfl; rfl; omega; rfl)
    | (apply FWk.ptr; rfl; rfl; rfl; omega; rfl)
    | (apply FWk.d; rfl; rfl)
    | (apply FWk.a; rfl; rfl; rfl)
    | (apply FWk.slN; rfl; omega; rfl))
      rintro ⟨i, q, out⟩ K ⟨hq, ho, hm⟩ hK
      dsimp only at hq ho hm hK ⊢
      have hor := or_good out q ho hq (by omega)
      have hl2 : (addTo out q (s.size + 1)).1.length = s.size + 1 := by rw [addTo_len]; exact ho
      have hnx : (rfstG s subs q).length = s.size + 1 := by rw [hfst]; exact refG_len s _ _ hq
      have hcall : Good Try.prog 88 [nodeA (subs[0]'hl0), .d (.val (.string s)), .d (.sl (encB q) (s.size + 1))] none (.d (.sl (encB (rfstG s subs q)) (s.size + 1))) none none := by
        rw [hfst]; exact ih' 0 hl0 q hq
      have hna : [nodeA (subs[0]'hl0), .d (.val (.string s)), .d (.sl (encB q) (s.size + 1))].all AV.nrm = true := by
        rw [List.all_cons, nodeA_nrm]; rfl
      by_cases hgt : last < (i : Int)
      · repeat' (first
    | (apply r_mvV; rfl)
    | (apply r_mvP; rfl)
    | (apply r_mvPL; rfl)
    | (apply r_mvS; rfl)
    | (apply r_mvSL; rfl)
    | (apply r_mvA; rfl)
    | (apply r_mvT; rfl)
    | (apply r_mvF; rfl)
    | (apply r_mvD; rfl)
    | (apply r_faddD; rfl)
    | (apply r_faddL; rfl)
    | (apply r_l; apply ld_kind; assumption; rfl)
    | (apply r_l; apply ld_mn; assumption; rfl)
    | (apply r_l; apply ld_mx; assumption; rfl)
    | (apply r_l; apply ld_subs; assumption; rfl)
    | (apply r_l; apply ld_set; assumption; rfl)
    | (apply r_l; apply ld_node; assumption; rfl)
    | (apply r_l; apply ld_kind'; assumption; rfl)
    | (apply r_l; apply ld_mn'; assumption; rfl)
    | (apply r_l; apply ld_mx'; assumption; rfl)
    | (apply r_l; apply ld_subs'; assumption; rfl)
    | (apply r_l; apply ld_node'; assumption; rfl)
    | (apply r_ldL; rfl; rfl; rfl)
    | (apply r_eql; rfl; rfl; (first | (apply decide_eq_true; omega) | (apply decide_eq_false; omega) | rfl))
    | (apply r_lss; rfl; rfl; (first | (apply decide_eq_true; omega) | (apply decide_eq_false; omega) | rfl))
    | (apply r_leq; rfl; rfl; (first | (apply decide_eq_true; omega) | (apply decide_eq_false; omega) | rfl))
    | (apply r_geq; rfl; rfl; (first | (apply decide_eq_true; omega) | (apply decide_eq_false; omega) | rfl))
    | (apply r_add; rfl; rfl; rfl; omega)
    | (apply r_not; rfl; rfl)
    | (apply r_pickT; rfl)
    | (apply r_pickF; rfl)
    | (apply r_lenD; rfl)
    | (apply r_lenL; rfl)
    | (apply r_len0; rfl)
    | (apply r_lenT; rfl)
    | (apply r_gT; rfl)
    | (apply r_gF'; rfl; rfl)
    | (apply r_gN'; rfl)
    | ((apply r_gS (o := default); rfl) <;> (intro h; try simp only [decide_eq_true_eq, decide_eq_false_iff_not, Bool.not_eq_true, Bool.not_eq_false] at h))
    | (apply r_box; ((conv => lhs; simp only [Nat.reduceAdd]) <;> rfl); rfl; rfl; rfl)
    | (apply r_stL; rfl; rfl; rfl; rfl; (first | rfl | (simp only [z_nil, z_add] <;> rfl)); rfl; rfl)
    | (apply r_p; rfl)
    | (apply r_nilK)
    | (apply r_nil)
    | (apply k_V; rfl)
    | (apply k_P; rfl)
    | (apply k_PL; rfl)
    | (apply k_S; rfl)
    | (apply k_SL; rfl)
    | (apply k_A; rfl)
    | (apply k_T; rfl)
    | (apply k_F; rfl)
    | (apply k_D; rfl; rotate_left; rfl)
    | (apply k_nil)
    | (apply e_ret (vs := [.d (.val _)]); rfl)
    | (apply e_ret; rfl)
    | (apply e_ret' (vs := [.d (.val _)]); rfl)
    | (apply e_ret'; rfl)
    | (apply w_seq)
    | (apply w_ops; ((conv => lhs; simp only [Nat.reduceAdd]) <;> rfl))
    | (apply w_condT; rfl)
    | (apply w_condF; rfl)
    | ((apply w_condS; rfl) <;> (intro h; try simp only [decide_eq_true_eq, decide_eq_false_iff_not, Bool.not_eq_true, Bool.not_eq_false] at h))
    | (apply e_thenN)
    | (apply w_block)
    | (apply e_thenR)
    | (apply e_thenX)
    | (apply e_blkN)
    | (apply e_blkR)
    | (apply e_blkE)
    | (apply w_exit)
    | (apply w_ret)
    | (apply w_skip)
    | (apply e_blkE'; rfl))
        rw [show (last + 1 - (i : Int)).toNat = 0 by omega, refR] at hm
        rw [hm]
        exact retSB rfl ho
      have hle : (i : Int) ≤ last := by omega
      obtain ⟨f, hf⟩ : ∃ f, (last + 1 - (i : Int)).toNat = f + 1 := ⟨(last - i).toNat, by omega⟩
      have hf2 : (last + 1 - ((i + 1 : Nat) : Int)).toNat = f := by omega
      rw [hf] at hm
      rw [refR, if_pos hle] at hm
      by_cases hmk : mn ≤ i
      · rw [if_pos hmk] at hm
        repeat' (first
    | (apply r_mvV; rfl)
    | (apply r_mvP; rfl)
    | (apply r_mvPL; rfl)
    | (apply r_mvS; rfl)
    | (apply r_mvSL; rfl)
    | (apply r_mvA; rfl)
    | (apply r_mvT; rfl)
    | (apply r_mvF; rfl)
    | (apply r_mvD; rfl)
    | (apply r_faddD; rfl)
    | (apply r_faddL; rfl)
    | (apply r_l; apply ld_kind; assumption; rfl)
    | (apply r_l; apply ld_mn; assumption; rfl)
    | (apply r_l; apply ld_mx; assumption; rfl)
    | (apply r_l; apply ld_subs; assumption; rfl)
    | (apply r_l; apply ld_set; assumption; rfl)
    | (apply r_l; apply ld_node; assumption; rfl)
    | (apply r_l; apply ld_kind'; assumption; rfl)
    | (apply r_l; apply ld_mn'; assumption; rfl)
    | (apply r_l; apply ld_mx'; assumption; rfl)
    | (apply r_l; apply ld_subs'; assumption; rfl)
    | (apply r_l; apply ld_node'; assumption; rfl)
    | (apply r_callW; rfl; rfl; rfl; rfl; exact hor)
    | (apply r_p; apply ix_sub0; rfl; rfl; exact hl0)
    | (apply r_callA (ags := [nodeA (subs[0]'hl0), .d (.val (.string s)), .d (.sl (encB q) (s.size + 1))]); rfl; exact hna; exact hcall)
    | (apply r_ldL; rfl; rfl; rfl)
    | (apply r_eql; rfl; rfl; (first | (apply decide_eq_true; omega) | (apply decide_eq_false; omega) | rfl))
    | (apply r_lss; rfl; rfl; (first | (apply decide_eq_true; omega) | (apply decide_eq_false; omega) | rfl))
    | (apply r_leq; rfl; rfl; (first | (apply decide_eq_true; omega) | (apply decide_eq_false; omega) | rfl))
    | (apply r_geq; rfl; rfl; (first | (apply decide_eq_true; omega) | (apply decide_eq_false; omega) | rfl))
    | (apply r_add; rfl; rfl; rfl; omega)
    | (apply r_not; rfl; rfl)
    | (apply r_pickT; rfl)
    | (apply r_pickF; rfl)
    | (apply r_lenD; rfl)
    | (apply r_lenL; rfl)
    | (apply r_len0; rfl)
    | (apply r_lenT; rfl)
    | (apply r_gT; rfl)
    | (apply r_gF'; rfl; rfl)
    | (apply r_gN'; rfl)
    | ((apply r_gS (o := default); rfl) <;> (intro h; try simp only [decide_eq_true_eq, decide_eq_false_iff_not, Bool.not_eq_true, Bool.not_eq_false] at h))
    | (apply r_box; ((conv => lhs; simp only [Nat.reduceAdd]) <;> rfl); rfl; rfl; rfl)
    | (apply r_stL; rfl; rfl; rfl; rfl; (first | rfl | (simp only [z_nil, z_add] <;> rfl)); rfl; rfl)
    | (apply r_p; rfl)
    | (apply r_nilK)
    | (apply r_nil)
    | (apply k_V; rfl)
    | (apply k_P; rfl)
    | (apply k_PL; rfl)
    | (apply k_S; rfl)
    | (apply k_SL; rfl)
    | (apply k_A; rfl)
    | (apply k_T; rfl)
    | (apply k_F; rfl)
    | (apply k_D; rfl; rotate_left; rfl)
    | (apply k_nil)
    | (apply e_ret (vs := [.d (.val _)]); rfl)
    | (apply e_ret; rfl)
    | (apply e_ret' (vs := [.d (.val _)]); rfl)
    | (apply e_ret'; rfl)
    | (apply w_seq)
    | (apply w_ops; ((conv => lhs; simp only [Nat.reduceAdd]) <;> rfl))
    | (apply w_condT; rfl)
    | (apply w_condF; rfl)
    | ((apply w_condS; rfl) <;> (intro h; try simp only [decide_eq_true_eq, decide_eq_false_iff_not, Bool.not_eq_true, Bool.not_eq_false] at h))
    | (apply e_thenN)
    | (apply w_block)
    | (apply e_thenR)
    | (apply e_thenX)
    | (apply e_blkN)
    | (apply e_blkR)
    | (apply e_blkE)
    | (apply w_exit)
    | (apply w_ret)
    | (apply w_skip)
    | (apply e_blkE'; rfl))
        · simp only [Bool.not_eq_true'] at h
          rw [if_neg (by simp [h])] at hm
          rw [hm]
          exact retSB rfl hl2
        · apply e_thenK
          simp only [Bool.not_eq_false'] at h
          rw [if_pos h] at hm
          apply hK (i + 1, rfstG s subs q, (addTo out q (s.size + 1)).1)
          · exact ⟨hnx, hl2, by dsimp only; rw [hf2, hm]; rfl⟩
          · dsimp only; omega
          · refine (wk2C (c := 6) (by omega) (by omega) (by omega) (by omega) (by omega) (by omega) rfl rfl rfl rfl encB_isD ?_).f
            repeat' (first
    | exact FWk.nil
    | (apply FWk.i; rfl; (first | rfl | omega | (simp; done)))
    | (apply FWk.sl; rfl; rfl; rfl; rfl; omega; rfl)
    | (apply FWk.ptr; rfl; rfl; rfl; omega; rfl)
    | (apply FWk.d; rfl; rfl)
    | (apply FWk.a; rfl; rfl; rfl)
    | (apply FWk.slN; rfl; omega; rfl))
      · rw [if_neg hmk] at hm
        repeat' (first
    | (apply r_mvV; rfl)
    | (apply r_mvP; rfl)
    | (apply r_mvPL; rfl)
    | (apply r_mvS; rfl)
    | (apply r_mvSL; rfl)
    | (apply r_mvA; rfl)
    | (apply r_mvT; rfl)
    | (apply r_mvF; rfl)
    | (apply r_mvD; rfl)
    | (apply r_faddD; rfl)
    | (apply r_faddL; rfl)
    | (apply r_l; apply ld_kind; assumption; rfl)
    | (apply r_l; apply ld_mn; assumption; rfl)
    | (apply r_l; apply ld_mx; assumption; rfl)
    | (apply r_l; apply ld_subs; assumption; rfl)
    | (apply r_l; apply ld_set; assumption; rfl)
    | (apply r_l; apply ld_node; assumption; rfl)
    | (apply r_l; apply ld_kind'; assumption; rfl)
    | (apply r_l; apply ld_mn'; assumption; rfl)
    | (apply r_l; apply ld_mx'; assumption; rfl)
    | (apply r_l; apply ld_subs'; assumption; rfl)
    | (apply r_l; apply ld_node'; assumption; rfl)
    | (apply r_p; apply ix_sub0; rfl; rfl; exact hl0)
    | (apply r_callA (ags := [nodeA (subs[0]'hl0), .d (.val (.string s)), .d (.sl (encB q) (s.size + 1))]); rfl; exact hna; exact hcall)
    | (apply r_ldL; rfl; rfl; rfl)
    | (apply r_eql; rfl; rfl; (first | (apply decide_eq_true; omega) | (apply decide_eq_false; omega) | rfl))
    | (apply r_lss; rfl; rfl; (first | (apply decide_eq_true; omega) | (apply decide_eq_false; omega) | rfl))
    | (apply r_leq; rfl; rfl; (first | (apply decide_eq_true; omega) | (apply decide_eq_false; omega) | rfl))
    | (apply r_geq; rfl; rfl; (first | (apply decide_eq_true; omega) | (apply decide_eq_false; omega) | rfl))
    | (apply r_add; rfl; rfl; rfl; omega)
    | (apply r_not; rfl; rfl)
    | (apply r_pickT; rfl)
    | (apply r_pickF; rfl)
    | (apply r_lenD; rfl)
    | (apply r_lenL; rfl)
    | (apply r_len0; rfl)
    | (apply r_lenT; rfl)
    | (apply r_gT; rfl)
    | (apply r_gF'; rfl; rfl)
    | (apply r_gN'; rfl)
    | ((apply r_gS (o := default); rfl) <;> (intro h; try simp only [decide_eq_true_eq, decide_eq_false_iff_not, Bool.not_eq_true, Bool.not_eq_false] at h))
    | (apply r_box; ((conv => lhs; simp only [Nat.reduceAdd]) <;> rfl); rfl; rfl; rfl)
    | (apply r_stL; rfl; rfl; rfl; rfl; (first | rfl | (simp only [z_nil, z_add] <;> rfl)); rfl; rfl)
    | (apply r_p; rfl)
    | (apply r_nilK)
    | (apply r_nil)
    | (apply k_V; rfl)
    | (apply k_P; rfl)
    | (apply k_PL; rfl)
    | (apply k_S; rfl)
    | (apply k_SL; rfl)
    | (apply k_A; rfl)
    | (apply k_T; rfl)
    | (apply k_F; rfl)
    | (apply k_D; rfl; rotate_left; rfl)
    | (apply k_nil)
    | (apply e_ret (vs := [.d (.val _)]); rfl)
    | (apply e_ret; rfl)
    | (apply e_ret' (vs := [.d (.val _)]); rfl)
    | (apply e_ret'; rfl)
    | (apply w_seq)
    | (apply w_ops; ((conv => lhs; simp only [Nat.reduceAdd]) <;> rfl))
    | (apply w_condT; rfl)
    | (apply w_condF; rfl)
    | ((apply w_condS; rfl) <;> (intro h; try simp only [decide_eq_true_eq, decide_eq_false_iff_not, Bool.not_eq_true, Bool.not_eq_false] at h))
    | (apply e_thenN)
    | (apply w_block)
    | (apply e_thenR)
    | (apply e_thenX)
    | (apply e_blkN)
    | (apply e_blkR)
    | (apply e_blkE)
    | (apply w_exit)
    | (apply w_ret)
    | (apply w_skip)
    | (apply e_blkE'; rfl))
        apply e_thenK
        apply hK (i + 1, rfstG s subs q, out)
        · exact ⟨hnx, ho, by dsimp only; rw [hf2, hm]; rfl⟩
        · dsimp only; omega
        · refine (wk2C (c := 6) (by omega) (by omega) (by omega) (by omega) (by omega) (by omega) rfl rfl rfl rfl encB_isD ?_).f
          repeat' (first
    | exact FWk.nil
    | (apply FWk.i; rfl; (first | rfl | omega | (simp; done)))
    | (apply FWk.sl; rfl; rfl; rfl; rfl; omega; rfl)
    | (apply FWk.ptr; rfl; rfl; rfl; omega; rfl)
    | (apply FWk.d; rfl; rfl)
    | (apply FWk.a; rfl; rfl; rfl)
    | (apply FWk.slN; rfl; omega; rfl))
  · exfalso
    have := (plainT_kind hpl).1
    omega
end Go.Sv
namespace Go.Sv
open Go Go.Proofs
def x36 : XC := (.seq (.ops 2 [
    (0, ⟨(some 3), none, .box (.t 0)⟩),
    (1, ⟨(some 6), none, .mv (.k (.d (.val (.slice none 0 0))))⟩)] (some [1, 2, 3])) (.seq (.ops 5 [
    (0, ⟨(some 10), none, .mv (.t 1)⟩),
    (1, ⟨(some 11), none, .lenT (.t 10)⟩),
    (2, ⟨(some 12), none, .arith .add (.t 11) (.k (.d (.val (.int .i64 1))))⟩),
    (3, ⟨(some 13), none, .mks [(.bool false)] 1 (.t 12) (.t 12)⟩),
    (4, ⟨(some 7), none, .mv (.t 13)⟩)] (some [1, 2, 3, 7])) (.seq (.ops 4 [
    (0, ⟨(some 14), none, .mv (.t 7)⟩),
    (1, ⟨(some 15), none, .mv (.t 2)⟩),
    (2, ⟨(some 16), none, .idxS 1 (.t 14) (.t 15)⟩),
    (3, ⟨none, none, .store 1 (.t 16) (.k (.d (.val (.bool true))))⟩)] (some [1, 3, 7])) (.seq (.ops 5 [
    (0, ⟨(some 17), none, .load (some 8) (.t 3)⟩),
    (1, ⟨(some 18), none, .mv (.t 1)⟩),
    (2, ⟨(some 19), none, .mv (.t 7)⟩),
    (3, ⟨(some 20), none, .call 88 [(.t 17), (.t 18), (.t 19)] none false⟩),
    (4, ⟨(some 7), none, .mv (.t 20)⟩)] (some [7])) (.seq (.ops 1 [
    (0, ⟨(some 8), none, .mv (.k (.d (.val (.slice none 0 0))))⟩)] (some [7, 8])) (.seq (.seq (.ops 1 [
    (0, ⟨(some 9), none, .mv (.k (.d (.val (.int .i64 0))))⟩)] (some [7, 8, 9])) (.block 0 (.loop (.seq (.seq (.ops 4 [
    (0, ⟨(some 21), none, .mv (.t 9)⟩),
    (1, ⟨(some 22), none, .mv (.t 7)⟩),
    (2, ⟨(some 23), none, .lenS (.t 22)⟩),
    (3, ⟨(some 24), none, .arith .lss (.t 21) (.t 23)⟩)] (some [7, 8, 9, 24])) (.cond (.t 24) .skip (.exit 0))) (.seq (.block 1 (.seq (.ops 4 [
    (0, ⟨(some 27), none, .mv (.t 7)⟩),
    (1, ⟨(some 28), none, .mv (.t 9)⟩),
    (2, ⟨(some 29), none, .idxS 1 (.t 27) (.t 28)⟩),
    (3, ⟨(some 30), none, .load none (.t 29)⟩)] (some [7, 8, 9, 30])) (.cond (.t 30) (.ops 5 [
    (0, ⟨(some 31), none, .mv (.t 8)⟩),
    (1, ⟨(some 32), none, .mv (.t 9)⟩),
    (2, ⟨(some 33), none, .mkrow [(.int .i64 0)] 1 1 [(0, 1, (.t 32))]⟩),
    (3, ⟨(some 34), none, .app [(.int .i64 0)] 8 (.t 31) (.t 33)⟩),
    (4, ⟨(some 8), none, .mv (.t 34)⟩)] (some [7, 8, 9])) .skip))) (.ops 3 [
    (0, ⟨(some 25), none, .mv (.t 9)⟩),
    (1, ⟨(some 26), none, .arith .add (.t 25) (.k (.d (.val (.int .i64 1))))⟩),
    (2, ⟨(some 9), none, .mv (.t 26)⟩)] (some [7, 8, 9]))))))) (.seq (.ops 2 [
    (0, ⟨(some 35), none, .mv (.t 8)⟩),
    (1, ⟨(some 6), none, .mv (.t 35)⟩)] (some [6])) .ret)))))))
def md36 : FuncId → Option Nat × Bool
  | _ => (none, false)
def od36 : Nat → List (List Nat) × List Nat × Option (List Nat)
  | 0 => ([], [], some [1, 2, 3])
  | 1 => ([], [], some [1, 2, 3, 7])
  | 2 => ([], [], some [1, 3, 7])
  | 3 => ([], [], some [7])
  | 4 => ([], [], some [7, 8])
  | 5 => ([], [], some [7, 8, 9])
  | 6 => ([], [], some [7, 8, 9, 24])
  | 7 => ([], [], some [7, 8, 9])
  | 8 => ([], [], some [7, 8, 9, 30])
  | 9 => ([], [], some [7, 8, 9])
  | 10 => ([], [], some [6])
  | _ => ([], [], none)
theorem b36 {ags : List AV} {row : Option (List DV)} {r : AV} {row' nw : Option (List DV)} (hal : ags.length ≤ 36) (hrow : row'.isSome = true → row.isSome = true) (h : xwp Try.prog x36 (retK [.tmp 6] row.isSome r row' nw) (St.init ags row)) : Good Try.prog 36 ags row r row' nw :=
  good_of_body' (md := md36) (od := od36) Try.f36 (by kernel_rfl) (by kernel_rfl) (by kernel_rfl) (by kernel_rfl) (by kernel_rfl) hal hrow h

def x37 : XC := (.seq (.ops 2 [
    (0, ⟨(some 3), none, .box (.t 0)⟩),
    (1, ⟨(some 6), none, .mv (.k (.d (.val (.int .i64 0))))⟩)] (some [1, 2, 3])) (.seq (.ops 5 [
    (0, ⟨(some 8), none, .load (some 8) (.t 3)⟩),
    (1, ⟨(some 9), none, .mv (.t 1)⟩),
    (2, ⟨(some 10), none, .mv (.t 2)⟩),
    (3, ⟨(some 11), none, .call 36 [(.t 8), (.t 9), (.t 10)] none false⟩),
    (4, ⟨(some 7), none, .mv (.t 11)⟩)] (some [7])) (.seq (.seq (.ops 3 [
    (0, ⟨(some 12), none, .mv (.t 7)⟩),
    (1, ⟨(some 13), none, .lenS (.t 12)⟩),
    (2, ⟨(some 14), none, .arith .eql (.t 13) (.k (.d (.val (.int .i64 0))))⟩)] (some [7, 14])) (.cond (.t 14) (.seq (.ops 1 [
    (0, ⟨(some 6), none, .mv (.k (.d (.val (.int .i64 (-1)))))⟩)] (some [6])) .ret) .skip)) (.seq (.ops 7 [
    (0, ⟨(some 15), none, .mv (.t 7)⟩),
    (1, ⟨(some 16), none, .mv (.t 7)⟩),
    (2, ⟨(some 17), none, .lenS (.t 16)⟩),
    (3, ⟨(some 18), none, .arith .sub (.t 17) (.k (.d (.val (.int .i64 1))))⟩),
    (4, ⟨(some 19), none, .idxS 1 (.t 15) (.t 18)⟩),
    (5, ⟨(some 20), none, .load none (.t 19)⟩),
    (6, ⟨(some 6), none, .mv (.t 20)⟩)] (some [6])) .ret))))
def md37 : FuncId → Option Nat × Bool
  | _ => (none, false)
def od37 : Nat → List (List Nat) × List Nat × Option (List Nat)
  | 0 => ([], [], some [1, 2, 3])
  | 1 => ([], [], some [7])
  | 2 => ([], [], some [7, 14])
  | 3 => ([], [], some [6])
  | 4 => ([], [], some [6])
  | _ => ([], [], none)
theorem b37 {ags : List AV} {row : Option (List DV)} {r : AV} {row' nw : Option (List DV)} (hal : ags.length ≤ 21) (hrow : row'.isSome = true → row.isSome = true) (h : xwp Try.prog x37 (retK [.tmp 6] row.isSome r row' nw) (St.init ags row)) : Good Try.prog 37 ags row r row' nw :=
  good_of_body' (md := md37) (od := od37) Try.f37 (by kernel_rfl) (by kernel_rfl) (by kernel_rfl) (by kernel_rfl) (by kernel_rfl) hal hrow h

def x30 : XC := (.seq (.ops 2 [
    (0, ⟨(some 2), none, .box (.t 0)⟩),
    (1, ⟨(some 4), none, .mv (.k (.d (.val (.bool false))))⟩)] (some [1, 2])) (.seq (.ops 18 [
    (0, ⟨(some 5), none, .load (some 8) (.t 2)⟩),
    (1, ⟨(some 6), none, .call 45 [(.t 5)] none false⟩),
    (2, ⟨(some 7), none, .mv (.t 6)⟩),
    (3, ⟨(some 8), (some (7, true)), .mv (.t 1)⟩),
    (4, ⟨(some 9), (some (7, true)), .lenT (.t 8)⟩),
    (5, ⟨(some 10), (some (7, true)), .arith .leq (.t 9) (.k (.d (.val (.int .i64 40))))⟩),
    (6, ⟨(some 11), none, .pick (.t 7) (.t 10) (.k (.d (.val (.bool false))))⟩),
    (7, ⟨(some 12), none, .mv (.t 11)⟩),
    (8, ⟨(some 13), (some (12, true)), .load (some 8) (.t 2)⟩),
    (9, ⟨(some 14), (some (12, true)), .call 32 [(.t 13)] none false⟩),
    (10, ⟨(some 15), (some (12, true)), .un .not (.t 14)⟩),
    (11, ⟨(some 16), (some (12, true)), .mv (.t 15)⟩),
    (12, ⟨(some 17), (some (16, false)), .load (some 8) (.t 2)⟩),
    (13, ⟨(some 18), (some (16, false)), .call 38 [(.t 17)] none false⟩),
    (14, ⟨(some 19), (some (16, false)), .arith .leq (.t 18) (.k (.d (.val (.int .i64 3000))))⟩),
    (15, ⟨(some 20), (some (12, true)), .pick (.t 16) (.k (.d (.val (.bool true)))) (.t 19)⟩),
    (16, ⟨(some 21), none, .pick (.t 12) (.t 20) (.k (.d (.val (.bool false))))⟩),
    (17, ⟨(some 4), none, .mv (.t 21)⟩)] (some [4])) .ret))
def md30 : FuncId → Option Nat × Bool
  | _ => (none, false)
def od30 : Nat → List (List Nat) × List Nat × Option (List Nat)
  | 0 => ([], [], some [1, 2])
  | 1 => ([], [], some [4])
  | _ => ([], [], none)
theorem b30 {ags : List AV} {row : Option (List DV)} {r : AV} {row' nw : Option (List DV)} (hal : ags.length ≤ 22) (hrow : row'.isSome = true → row.isSome = true) (h : xwp Try.prog x30 (retK [.tmp 4] row.isSome r row' nw) (St.init ags row)) : Good Try.prog 30 ags row r row' nw :=
  good_of_body' (md := md30) (od := od30) Try.f30 (by kernel_rfl) (by kernel_rfl) (by kernel_rfl) (by kernel_rfl) (by kernel_rfl) hal hrow h

section
variable {P : Program} {Q : Cont} {fr : Fr} {C : Heap} {Z Z' : Frz} {nx : Nat} {base n d : Nat} {l : List (Nat × XO)} {kp : Option (List Nat)} {x i y s : X}
theorem convAs_snoc {C : Heap} {ex : Nat → Bool} {v y : AV} {u : List Nat} (hx : convA C ex v = some (y, u)) : ∀ (l : List AV), l.all AV.nrm = true → convAs C ex (l ++ [v]) = some (l ++ [y], u)
  | [], _ => by simp [convAs, hx]
  | a :: l, h => by
    have h1 : [a].all AV.nrm = true := by simp only [List.all_cons, Bool.and_eq_true] at h ⊢; exact ⟨h.1, rfl⟩
    have h2 : l.all AV.nrm = true := by simp only [List.all_cons, Bool.and_eq_true] at h; exact h.2
    have ih := convAs_snoc hx l h2
    have e := convAs_nrm (C := C) (ex := ex) [a] h1
    simp only [convAs, Option.bind_eq_bind] at e
    obtain ⟨⟨y', u'⟩, g1, g2⟩ := Option.bind_eq_some_iff.1 e
    simp at g2
    obtain ⟨rfl, rfl⟩ := g2
    simp only [List.cons_append, convAs, g1, ih, Option.bind_some, Option.map_some, List.nil_append]
theorem r_callLB {f : FuncId} {xs : List X} {ags : List AV} {b m : Nat} {p : List Bool} {r : AV} (ha : xs.map (X.ev fr) = ags ++ [.slL b 0 m 1]) (hn : ags.all AV.nrm = true) (hC : C b = some ((encB p).map AV.d)) (hm : p.length = m) (h0 : 0 < m)
    (hg : Good P f (ags ++ [.d (.sl (encB p) m)]) none r none none) (hz : Z.add (if r.scalar = true then [] else [b]) = Z') (k : R P l base kp Q nx (fr.put d r) C Z') : R P ((n, ⟨some d, none, .call f xs none false⟩) :: l) base kp Q nx fr C Z := by
  refine r_call ha (convAs_snoc ?_ ags hn) hg hz k
  simp only [convA, conv_slB (ex := fun _ => false) rfl hC hm h0, Option.map_some]
theorem retL1 {live : Bool} {b m : Nat} {p : List Int} (hC : C b = some ((encI p).map AV.d)) (hm : p.length = m) : RetOK C Z (tupOf [.slL b 0 m 1]) live (.d (.sl (encI p) m)) none none := by
  refine .data _ ?_
  simp only [tupOf, convT, convA, conv_slI (ex := fun _ => false) rfl hC hm, Option.map_some]
end
set_option maxRecDepth 100000
set_option maxHeartbeats 4000000
attribute [local irreducible] W E R KP thenK blockK retK Good xwp aRun
def rallG (s : ByteArray) (t : T) (j : Nat) : List Int := idxTo (refG s t ((List.replicate (s.size + 1) false).set j true)) (s.size + 1)
theorem all36_good (s : ByteArray) (hsz : s.size ≤ 1000000) (t : T) (hc : t.cnt ≤ 1000000) (hok : okT t) (j : Nat) (hj : j ≤ s.size) : Good Try.prog 36 [nodeA t, .d (.val (.string s)), .i j] none (.d (.sl (encI (rallG s t j)) (rallG s t j).length)) none none := by
  have hl0 : ((List.replicate (s.size + 1) false).set j true).length = s.size + 1 := by simp
  have hst := ref_good s hsz 1000000 t hc (by omega) hok _ hl0
  have hql := refG_len s t _ hl0
  unfold rallG
  generalize refG s t ((List.replicate (s.size + 1) false).set j true) = q at hst hql ⊢
  have hna : [nodeA t, .d (.val (.string s))].all AV.nrm = true := by
    rw [List.all_cons, nodeA_nrm]; rfl
  obtain ⟨k, a, b, c, d, mn, mx, subs⟩ := t
  have e0 : nodeA (.node k a b c d mn mx subs) = .agg [.i k, .d (.val (.int .u64 a)), .d (.val (.int .u64 b)), .d (.val (.int .u64 c)), .d (.val (.int .u64 d)), .i mn, .i mx, .d (.sl (encL subs) subs.length)] := rfl
  rw [e0] at hst hna ⊢
  refine b36 (by simp) (by simp) (w_init ?_)
  unfold x36
  repeat' (first
    | (apply r_mvV; rfl)
    | (apply r_mvP; rfl)
    | (apply r_mvPL; rfl)
    | (apply r_mvS; rfl)
    | (apply r_mvSL; rfl)
    | (apply r_mvA; rfl)
    | (apply r_mvT; rfl)
    | (apply r_mvF; rfl)
    | (apply r_mvD; rfl)
    | (apply r_l; apply ld_kind; assumption; rfl)
    | (apply r_l; apply ld_mn; assumption; rfl)
    | (apply r_l; apply ld_mx; assumption; rfl)
    | (apply r_l; apply ld_subs; assumption; rfl)
    | (apply r_l; apply ld_set; assumption; rfl)
    | (apply r_l; apply ld_node; assumption; rfl)
    | (apply r_l; apply ld_kind'; assumption; rfl)
    | (apply r_l; apply ld_mn'; assumption; rfl)
    | (apply r_l; apply ld_mx'; assumption; rfl)
    | (apply r_l; apply ld_subs'; assumption; rfl)
    | (apply r_l; apply ld_node'; assumption; rfl)
    | (apply r_mksB (m := s.size + 1); rfl; rfl; ((conv => lhs; simp only [Nat.reduceAdd]) <;> rfl); omega; omega)
    | (apply r_ixL (j := j); rfl; rfl; omega)
    | (apply r_stB; rfl; rfl; rfl; rfl; (simp; omega))
    | (apply r_callLB (ags := [.agg [.i k, .d (.val (.int .u64 a)), .d (.val (.int .u64 b)), .d (.val (.int .u64 c)), .d (.val (.int .u64 d)), .i mn, .i mx, .d (.sl (encL subs) subs.length)], .d (.val (.string s))]); rfl; exact hna; rfl; exact hl0; omega; exact hst; rfl)
    | (apply r_ldL; rfl; rfl; rfl)
    | (apply r_lss; rfl; rfl; (first | (apply decide_eq_true; omega) | (apply decide_eq_false; omega) | rfl))
    | (apply r_add; rfl; rfl; rfl; omega)
    | (apply r_lenD; rfl)
    | (apply r_lenL; rfl)
    | (apply r_len0; rfl)
    | (apply r_lenT; rfl)
    | (apply r_box; ((conv => lhs; simp only [Nat.reduceAdd]) <;> rfl); rfl; rfl; rfl)
    | (apply r_stL; rfl; rfl; rfl; rfl; (first | rfl | (simp only [z_nil, z_add] <;> rfl)); rfl; rfl)
    | (apply r_p; rfl)
    | (apply r_nilK)
    | (apply r_nil)
    | (apply k_V; rfl)
    | (apply k_P; rfl)
    | (apply k_PL; rfl)
    | (apply k_S; rfl)
    | (apply k_SL; rfl)
    | (apply k_A; rfl)
    | (apply k_T; rfl)
    | (apply k_F; rfl)
    | (apply k_D; rfl; rotate_left; rfl)
    | (apply k_nil)
    | (apply e_ret (vs := [.d (.val _)]); rfl)
    | (apply e_ret; rfl)
    | (apply e_ret' (vs := [.d (.val _)]); rfl)
    | (apply e_ret'; rfl)
    | (apply w_seq)
    | (apply w_ops; ((conv => lhs; simp only [Nat.reduceAdd]) <;> rfl))
    | (apply w_condT; rfl)
    | (apply w_condF; rfl)
    | ((apply w_condS; rfl) <;> (intro h; try simp only [decide_eq_true_eq, decide_eq_false_iff_not, Bool.not_eq_true, Bool.not_eq_false] at h))
    | (apply e_thenN)
    | (apply w_block)
    | (apply e_thenR)
    | (apply e_thenX)
    | (apply e_blkN)
    | (apply e_blkR)
    | (apply e_blkE)
    | (apply w_exit)
    | (apply w_ret)
    | (apply w_skip)
    | (apply e_blkE'; rfl))
  apply w_loopI (S := fun i : Nat => ⟨((Fr.nil.put 8 (.slL 5 0 (idxTo q i).length 1)).put 7 (.d (.sl (encB q) (s.size + 1)))).put 9 (.i i), Heap.nil.put 5 ((encI (idxTo q i)).map AV.d), Frz.but 200 5, 200⟩) (m := fun i => s.size + 1 - i) (I := fun i => i ≤ s.size + 1) (i0 := 0)
  · exact Nat.zero_le _
  · refine wkN (by omega) (by omega) ?_
    repeat' (first
    | exact FWk.nil
    | (apply FWk.i; rfl; (first | rfl | omega | (simp; done)))
    | (apply FWk.sl; rfl; rfl; rfl; rfl; omega; rfl)
    | (apply FWk.ptr; rfl; rfl; rfl; omega; rfl)
    | (apply FWk.d; rfl; rfl)
    | (apply FWk.a; rfl; rfl; rfl)
    | (apply FWk.slN; rfl; omega; rfl))
  intro i K hi hK
  dsimp only
  rcases Nat.lt_or_ge i (s.size + 1) with hlt | hge
  · have hg : q[i]? = some (q.getD i false) := by
      rw [List.getD_eq_getElem?_getD, List.getElem?_eq_getElem (by omega)]; rfl
    have hidx := idxTo_len q i
    repeat' (first
    | (apply r_mvV; rfl)
    | (apply r_mvP; rfl)
    | (apply r_mvPL; rfl)
    | (apply r_mvS; rfl)
    | (apply r_mvSL; rfl)
    | (apply r_mvA; rfl)
    | (apply r_mvT; rfl)
    | (apply r_mvF; rfl)
    | (apply r_mvD; rfl)
    | (apply r_ixB'; rfl; rfl; exact hlt; exact hql)
    | (apply r_ldB; rfl; exact hg)
    | (apply r_mkrow1; rfl; ((conv => lhs; simp only [Nat.reduceAdd]) <;> rfl))
    | (apply r_app1; rfl; rfl; rfl; rfl; rfl; ((conv => lhs; simp only [Nat.reduceAdd]) <;> rfl); rfl; omega)
    | (apply r_ldL; rfl; rfl; rfl)
    | (apply r_lss; rfl; rfl; (first | (apply decide_eq_true; omega) | (apply decide_eq_false; omega) | rfl))
    | (apply r_add; rfl; rfl; rfl; omega)
    | (apply r_lenD; rfl)
    | (apply r_lenL; rfl)
    | (apply r_len0; rfl)
    | (apply r_lenT; rfl)
    | (apply r_box; ((conv => lhs; simp only [Nat.reduceAdd]) <;> rfl); rfl; rfl; rfl)
    | (apply r_stL; rfl; rfl; rfl; rfl; (first | rfl | (simp only [z_nil, z_add] <;> rfl)); rfl; rfl)
    | (apply r_p; rfl)
    | (apply r_nilK)
    | (apply r_nil)
    | (apply k_V; rfl)
    | (apply k_P; rfl)
    | (apply k_PL; rfl)
    | (apply k_S; rfl)
    | (apply k_SL; rfl)
    | (apply k_A; rfl)
    | (apply k_T; rfl)
    | (apply k_F; rfl)
    | (apply k_D; rfl; rotate_left; rfl)
    | (apply k_nil)
    | (apply e_ret (vs := [.d (.val _)]); rfl)
    | (apply e_ret; rfl)
    | (apply e_ret' (vs := [.d (.val _)]); rfl)
    | (apply e_ret'; rfl)
    | (apply w_seq)
    | (apply w_ops; ((conv => lhs; simp only [Nat.reduceAdd]) <;> rfl))
    | (apply w_condT; rfl)
    | (apply w_condF; rfl)
    | ((apply w_condS; rfl) <;> (intro h; try simp only [decide_eq_true_eq, decide_eq_false_iff_not, Bool.not_eq_true, Bool.not_eq_false] at h))
    | (apply e_thenN)
    | (apply w_block)
    | (apply e_thenR)
    | (apply e_thenX)
    | (apply e_blkN)
    | (apply e_blkR)
    | (apply e_blkE)
    | (apply w_exit)
    | (apply w_ret)
    | (apply w_skip)
    | (apply e_blkE'; rfl))
    · have e : idxTo q (i + 1) = idxTo q i ++ [(i : Int)] := by rw [idxTo, if_pos h]
      apply e_thenK
      apply hK (i + 1)
      · omega
      · omega
      · refine wkC (c := 211) (by omega) (by omega) (by rw [e]; rfl) rfl encI_isD (FWk.i rfl (by simp) (FWk.d rfl rfl (FWk.sl rfl rfl (by rw [e, List.length_append]; rfl) rfl (by omega) rfl FWk.nil)))
    · have e : idxTo q (i + 1) = idxTo q i := by rw [idxTo, if_neg (by simp only [h]; simp)]
      apply e_thenK
      apply hK (i + 1)
      · omega
      · omega
      · refine wkC (c := 5) (by omega) (by omega) (by rw [e]; rfl) rfl encI_isD (FWk.i rfl (by simp) (FWk.d rfl rfl (FWk.sl rfl rfl (by rw [e]) rfl (by omega) rfl FWk.nil)))
  · repeat' (first
    | (apply r_mvV; rfl)
    | (apply r_mvP; rfl)
    | (apply r_mvPL; rfl)
    | (apply r_mvS; rfl)
    | (apply r_mvSL; rfl)
    | (apply r_mvA; rfl)
    | (apply r_mvT; rfl)
    | (apply r_mvF; rfl)
    | (apply r_mvD; rfl)
    | (apply r_ldL; rfl; rfl; rfl)
    | (apply r_lss; rfl; rfl; (first | (apply decide_eq_true; omega) | (apply decide_eq_false; omega) | rfl))
    | (apply r_add; rfl; rfl; rfl; omega)
    | (apply r_lenD; rfl)
    | (apply r_lenL; rfl)
    | (apply r_len0; rfl)
    | (apply r_lenT; rfl)
    | (apply r_box; ((conv => lhs; simp only [Nat.reduceAdd]) <;> rfl); rfl; rfl; rfl)
    | (apply r_stL; rfl; rfl; rfl; rfl; (first | rfl | (simp only [z_nil, z_add] <;> rfl)); rfl; rfl)
    | (apply r_p; rfl)
    | (apply r_nilK)
    | (apply r_nil)
    | (apply k_V; rfl)
    | (apply k_P; rfl)
    | (apply k_PL; rfl)
    | (apply k_S; rfl)
    | (apply k_SL; rfl)
    | (apply k_A; rfl)
    | (apply k_T; rfl)
    | (apply k_F; rfl)
    | (apply k_D; rfl; rotate_left; rfl)
    | (apply k_nil)
    | (apply e_ret (vs := [.d (.val _)]); rfl)
    | (apply e_ret; rfl)
    | (apply e_ret' (vs := [.d (.val _)]); rfl)
    | (apply e_ret'; rfl)
    | (apply w_seq)
    | (apply w_ops; ((conv => lhs; simp only [Nat.reduceAdd]) <;> rfl))
    | (apply w_condT; rfl)
    | (apply w_condF; rfl)
    | ((apply w_condS; rfl) <;> (intro h; try simp only [decide_eq_true_eq, decide_eq_false_iff_not, Bool.not_eq_true, Bool.not_eq_false] at h))
    | (apply e_thenN)
    | (apply w_block)
    | (apply e_thenR)
    | (apply e_thenX)
    | (apply e_blkN)
    | (apply e_blkR)
    | (apply e_blkE)
    | (apply w_exit)
    | (apply w_ret)
    | (apply w_skip)
    | (apply e_blkE'; rfl))
    have ei : i = s.size + 1 := by omega
    subst ei
    exact retL1 rfl rfl
theorem longest37_good (s : ByteArray) (hsz : s.size ≤ 1000000) (t : T) (hc : t.cnt ≤ 1000000) (hok : okT t) (j : Nat) (hj : j ≤ s.size) :
    Good Try.prog 37 [nodeA t, .d (.val (.string s)), .i j] none (.i (lastG (rallG s t j))) none none := by
  have hall := all36_good s hsz t hc hok j hj
  have hL : (rallG s t j).length ≤ 1000001 := Nat.le_trans (idxTo_len _ _) (by omega)
  generalize rallG s t j = L at hall hL ⊢
  obtain ⟨k, a, b, c, d, mn, mx, subs⟩ := t
  have e0 : nodeA (.node k a b c d mn mx subs) = .agg [.i k, .d (.val (.int .u64 a)), .d (.val (.int .u64 b)), .d (.val (.int .u64 c)), .d (.val (.int .u64 d)), .i mn, .i mx, .d (.sl (encL subs) subs.length)] := rfl
  rw [e0] at hall ⊢
  refine b37 (by simp) (by simp) (w_init ?_)
  unfold x37
  rcases Nat.eq_zero_or_pos L.length with h0 | h0
  · repeat' (first
    | (apply r_mvV; rfl)
    | (apply r_mvP; rfl)
    | (apply r_mvPL; rfl)
    | (apply r_mvS; rfl)
    | (apply r_mvSL; rfl)
    | (apply r_mvA; rfl)
    | (apply r_mvT; rfl)
    | (apply r_mvF; rfl)
    | (apply r_mvD; rfl)
    | (apply r_l; apply ld_kind; assumption; rfl)
    | (apply r_l; apply ld_mn; assumption; rfl)
    | (apply r_l; apply ld_mx; assumption; rfl)
    | (apply r_l; apply ld_subs; assumption; rfl)
    | (apply r_l; apply ld_set; assumption; rfl)
    | (apply r_l; apply ld_node; assumption; rfl)
    | (apply r_l; apply ld_kind'; assumption; rfl)
    | (apply r_l; apply ld_mn'; assumption; rfl)
    | (apply r_l; apply ld_mx'; assumption; rfl)
    | (apply r_l; apply ld_subs'; assumption; rfl)
    | (apply r_l; apply ld_node'; assumption; rfl)
    | (apply r_callA; rfl; rfl; exact hall)
    | (apply r_ldL; rfl; rfl; rfl)
    | (apply r_eql; rfl; rfl; (first | (apply decide_eq_true; omega) | (apply decide_eq_false; omega) | rfl))
    | (apply r_sub; rfl; rfl; rfl; omega)
    | (apply r_lenD; rfl)
    | (apply r_lenL; rfl)
    | (apply r_len0; rfl)
    | (apply r_box; ((conv => lhs; simp only [Nat.reduceAdd]) <;> rfl); rfl; rfl; rfl)
    | (apply r_p; rfl)
    | (apply r_nilK)
    | (apply r_nil)
    | (apply k_V; rfl)
    | (apply k_P; rfl)
    | (apply k_PL; rfl)
    | (apply k_S; rfl)
    | (apply k_SL; rfl)
    | (apply k_A; rfl)
    | (apply k_T; rfl)
    | (apply k_F; rfl)
    | (apply k_D; rfl; rotate_left; rfl)
    | (apply k_nil)
    | (apply e_ret (vs := [.d (.val _)]); rfl)
    | (apply e_ret; rfl)
    | (apply e_ret' (vs := [.d (.val _)]); rfl)
    | (apply e_ret'; rfl)
    | (apply w_seq)
    | (apply w_ops; ((conv => lhs; simp only [Nat.reduceAdd]) <;> rfl))
    | (apply w_condT; rfl)
    | (apply w_condF; rfl)
    | ((apply w_condS; rfl) <;> (intro h; try simp only [decide_eq_true_eq, decide_eq_false_iff_not, Bool.not_eq_true, Bool.not_eq_false] at h))
    | (apply e_thenN)
    | (apply w_block)
    | (apply e_thenR)
    | (apply e_thenX)
    | (apply e_blkN)
    | (apply e_blkR)
    | (apply e_blkE)
    | (apply w_exit)
    | (apply w_ret)
    | (apply w_skip)
    | (apply e_blkE'; rfl))
    refine retI ?_
    simp [lastG, h0]
  · have hg : L[L.length - 1]? = some (L.getD (L.length - 1) 0) := by
      rw [List.getD_eq_getElem?_getD, List.getElem?_eq_getElem (by omega)]; rfl
    repeat' (first
    | (apply r_mvV; rfl)
    | (apply r_mvP; rfl)
    | (apply r_mvPL; rfl)
    | (apply r_mvS; rfl)
    | (apply r_mvSL; rfl)
    | (apply r_mvA; rfl)
    | (apply r_mvT; rfl)
    | (apply r_mvF; rfl)
    | (apply r_mvD; rfl)
    | (apply r_l; apply ld_kind; assumption; rfl)
    | (apply r_l; apply ld_mn; assumption; rfl)
    | (apply r_l; apply ld_mx; assumption; rfl)
    | (apply r_l; apply ld_subs; assumption; rfl)
    | (apply r_l; apply ld_set; assumption; rfl)
    | (apply r_l; apply ld_node; assumption; rfl)
    | (apply r_l; apply ld_kind'; assumption; rfl)
    | (apply r_l; apply ld_mn'; assumption; rfl)
    | (apply r_l; apply ld_mx'; assumption; rfl)
    | (apply r_l; apply ld_subs'; assumption; rfl)
    | (apply r_l; apply ld_node'; assumption; rfl)
    | (apply r_callA; rfl; rfl; exact hall)
    | (apply r_ixI (j := L.length - 1); rfl; rfl; omega; rfl; omega)
    | (apply r_ldI; rfl; exact hg)
    | (apply r_ldL; rfl; rfl; rfl)
    | (apply r_eql; rfl; rfl; (first | (apply decide_eq_true; omega) | (apply decide_eq_false; omega) | rfl))
    | (apply r_sub; rfl; rfl; rfl; omega)
    | (apply r_lenD; rfl)
    | (apply r_lenL; rfl)
    | (apply r_len0; rfl)
    | (apply r_box; ((conv => lhs; simp only [Nat.reduceAdd]) <;> rfl); rfl; rfl; rfl)
    | (apply r_p; rfl)
    | (apply r_nilK)
    | (apply r_nil)
    | (apply k_V; rfl)
    | (apply k_P; rfl)
    | (apply k_PL; rfl)
    | (apply k_S; rfl)
    | (apply k_SL; rfl)
    | (apply k_A; rfl)
    | (apply k_T; rfl)
    | (apply k_F; rfl)
    | (apply k_D; rfl; rotate_left; rfl)
    | (apply k_nil)
    | (apply e_ret (vs := [.d (.val _)]); rfl)
    | (apply e_ret; rfl)
    | (apply e_ret' (vs := [.d (.val _)]); rfl)
    | (apply e_ret'; rfl)
    | (apply w_seq)
    | (apply w_ops; ((conv => lhs; simp only [Nat.reduceAdd]) <;> rfl))
    | (apply w_condT; rfl)
    | (apply w_condF; rfl)
    | ((apply w_condS; rfl) <;> (intro h; try simp only [decide_eq_true_eq, decide_eq_false_iff_not, Bool.not_eq_true, Bool.not_eq_false] at h))
    | (apply e_thenN)
    | (apply w_block)
    | (apply e_thenR)
    | (apply e_thenX)
    | (apply e_blkN)
    | (apply e_blkR)
    | (apply e_blkE)
    | (apply w_exit)
    | (apply w_ret)
    | (apply w_skip)
    | (apply e_blkE'; rfl))
    refine retI ?_
    rw [lastG, if_neg (by omega)]
end Go.Sv
