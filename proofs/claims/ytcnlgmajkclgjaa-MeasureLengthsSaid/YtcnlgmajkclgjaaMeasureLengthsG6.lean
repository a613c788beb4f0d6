/- A part of the proof of the law MeasureLengths: that it answers true for every input, and that the input reads behind the call as before (no condition). -/
import Derived.Test.YtcnlgmajkclgjaaMeasureLengthsG5
set_option linter.all false
set_option linter.unusedSectionVars false
set_option linter.unusedVariables false
set_option linter.unusedSimpArgs false
namespace Go.Sv
open Go Go.Proofs
def x121 : XC := (.seq (.ops 3 [
    (0, ⟨(some 1), none, .box (.t 0)⟩),
    (1, ⟨(some 2), none, .alloc [(.bool false), (.int .i64 0), (.int .i64 0), (.int .u64 0), (.int .u64 0), (.int .u64 0), (.int .u64 0)]⟩),
    (2, ⟨(some 3), none, .mv (.k (.d (.val (.bool false))))⟩)] (some [1, 2])) (.seq (.seq (.ops 3 [
    (0, ⟨(some 4), none, .load (some 8) (.t 1)⟩),
    (1, ⟨(some 5), none, .call 84 [(.t 4)] none false⟩),
    (2, ⟨(some 6), none, .un .not (.t 5)⟩)] (some [1, 2, 6])) (.cond (.t 6) (.seq (.ops 3 [
    (0, ⟨(some 7), none, .build [(.bool false), (.int .i64 0), (.int .i64 0), (.int .u64 0), (.int .u64 0), (.int .u64 0), (.int .u64 0)] []⟩),
    (1, ⟨none, none, .store 7 (.t 2) (.t 7)⟩),
    (2, ⟨(some 3), none, .mv (.k (.d (.val (.bool false))))⟩)] (some [2, 3])) .ret) .skip)) (.seq (.ops 3 [
    (0, ⟨(some 8), none, .call 151 [(.t 1)] none false⟩),
    (1, ⟨none, none, .store 7 (.t 2) (.t 8)⟩),
    (2, ⟨(some 3), none, .mv (.k (.d (.val (.bool true))))⟩)] (some [2, 3])) .ret)))
def md121 : FuncId → Option Nat × Bool
  | _ => (none, false)
def od121 : Nat → List (List Nat) × List Nat × Option (List Nat)
  | 0 => ([], [], some [1, 2])
  | 1 => ([], [], some [1, 2, 6])
  | 2 => ([], [], some [2, 3])
  | 3 => ([], [], some [2, 3])
  | _ => ([], [], none)
theorem b121 {ags : List AV} {row : Option (List DV)} {r : AV} {row' nw : Option (List DV)} (hal : ags.length ≤ 9) (hrow : row'.isSome = true → row.isSome = true) (h : xwp Try.prog x121 (retK [.cell 2 (some 7), .tmp 3] row.isSome r row' nw) (St.init ags row)) : Good Try.prog 121 ags row r row' nw :=
  good_of_body' (md := md121) (od := od121) Try.f121 (by kernel_rfl) (by kernel_rfl) (by kernel_rfl) (by kernel_rfl) (by kernel_rfl) hal hrow h

def x69 : XC := (.seq (.ops 2 [
    (0, ⟨(some 1), none, .box (.t 0)⟩),
    (1, ⟨(some 2), none, .mv (.k (.d (.val (.bool false))))⟩)] (some [1])) (.seq (.ops 8 [
    (0, ⟨(some 6), none, .load (some 8) (.t 1)⟩),
    (1, ⟨(some 7), none, .call 121 [(.t 6)] none false⟩),
    (2, ⟨(some 5), none, .mv (.t 7)⟩),
    (3, ⟨(some 8), none, .ext (.t 5) 0⟩),
    (4, ⟨(some 9), none, .ext (.t 5) 1⟩),
    (5, ⟨(some 3), none, .alloc [(.bool false), (.int .i64 0), (.int .i64 0), (.int .u64 0), (.int .u64 0), (.int .u64 0), (.int .u64 0)]⟩),
    (6, ⟨none, none, .store 7 (.t 3) (.t 8)⟩),
    (7, ⟨(some 4), none, .mv (.t 9)⟩)] (some [3, 4])) (.seq (.ops 12 [
    (0, ⟨(some 10), none, .mv (.t 4)⟩),
    (1, ⟨(some 11), none, .mv (.t 10)⟩),
    (2, ⟨(some 12), (some (11, true)), .fadd 0 (.t 3)⟩),
    (3, ⟨(some 13), (some (11, true)), .load none (.t 12)⟩),
    (4, ⟨(some 14), (some (11, true)), .un .not (.t 13)⟩),
    (5, ⟨(some 15), none, .pick (.t 11) (.t 14) (.k (.d (.val (.bool false))))⟩),
    (6, ⟨(some 16), none, .mv (.t 15)⟩),
    (7, ⟨(some 17), (some (16, true)), .fadd 1 (.t 3)⟩),
    (8, ⟨(some 18), (some (16, true)), .load none (.t 17)⟩),
    (9, ⟨(some 19), (some (16, true)), .arith .eql (.t 18) (.k (.d (.val (.int .i64 0))))⟩),
    (10, ⟨(some 20), none, .pick (.t 16) (.t 19) (.k (.d (.val (.bool false))))⟩),
    (11, ⟨(some 2), none, .mv (.t 20)⟩)] (some [2])) .ret)))
def md69 : FuncId → Option Nat × Bool
  | _ => (none, false)
def od69 : Nat → List (List Nat) × List Nat × Option (List Nat)
  | 0 => ([], [], some [1])
  | 1 => ([], [], some [3, 4])
  | 2 => ([], [], some [2])
  | _ => ([], [], none)
theorem b69 {ags : List AV} {row : Option (List DV)} {r : AV} {row' nw : Option (List DV)} (hal : ags.length ≤ 21) (hrow : row'.isSome = true → row.isSome = true) (h : xwp Try.prog x69 (retK [.tmp 2] row.isSome r row' nw) (St.init ags row)) : Good Try.prog 69 ags row r row' nw :=
  good_of_body' (md := md69) (od := od69) Try.f69 (by kernel_rfl) (by kernel_rfl) (by kernel_rfl) (by kernel_rfl) (by kernel_rfl) hal hrow h

def x70 : XC := (.seq (.ops 2 [
    (0, ⟨(some 1), none, .box (.t 0)⟩),
    (1, ⟨(some 2), none, .alloc [(.int .u64 0), (.int .u64 0), (.int .u64 0), (.int .u64 0)]⟩)] (some [1, 2])) (.seq (.ops 8 [
    (0, ⟨(some 6), none, .load (some 8) (.t 1)⟩),
    (1, ⟨(some 7), none, .call 121 [(.t 6)] none false⟩),
    (2, ⟨(some 5), none, .mv (.t 7)⟩),
    (3, ⟨(some 8), none, .ext (.t 5) 0⟩),
    (4, ⟨(some 9), none, .ext (.t 5) 1⟩),
    (5, ⟨(some 3), none, .alloc [(.bool false), (.int .i64 0), (.int .i64 0), (.int .u64 0), (.int .u64 0), (.int .u64 0), (.int .u64 0)]⟩),
    (6, ⟨none, none, .store 7 (.t 3) (.t 8)⟩),
    (7, ⟨(some 4), none, .mv (.t 9)⟩)] (some [2, 3])) (.seq (.ops 3 [
    (0, ⟨(some 10), none, .fadd 3 (.t 3)⟩),
    (1, ⟨(some 11), none, .load (some 4) (.t 10)⟩),
    (2, ⟨none, none, .store 4 (.t 2) (.t 11)⟩)] (some [2])) .ret)))
def md70 : FuncId → Option Nat × Bool
  | _ => (none, false)
def od70 : Nat → List (List Nat) × List Nat × Option (List Nat)
  | 0 => ([], [], some [1, 2])
  | 1 => ([], [], some [2, 3])
  | 2 => ([], [], some [2])
  | _ => ([], [], none)
theorem b70 {ags : List AV} {row : Option (List DV)} {r : AV} {row' nw : Option (List DV)} (hal : ags.length ≤ 12) (hrow : row'.isSome = true → row.isSome = true) (h : xwp Try.prog x70 (retK [.cell 2 (some 4)] row.isSome r row' nw) (St.init ags row)) : Good Try.prog 70 ags row r row' nw :=
  good_of_body' (md := md70) (od := od70) Try.f70 (by kernel_rfl) (by kernel_rfl) (by kernel_rfl) (by kernel_rfl) (by kernel_rfl) hal hrow h

def x66 : XC := (.seq (.ops 3 [
    (0, ⟨(some 1), none, .box (.t 0)⟩),
    (1, ⟨(some 2), none, .mv (.k (.d (.val (.int .i64 0))))⟩),
    (2, ⟨(some 3), none, .mv (.k (.d (.val (.int .i64 0))))⟩)] (some [1])) (.seq (.ops 8 [
    (0, ⟨(some 7), none, .load (some 8) (.t 1)⟩),
    (1, ⟨(some 8), none, .call 121 [(.t 7)] none false⟩),
    (2, ⟨(some 6), none, .mv (.t 8)⟩),
    (3, ⟨(some 9), none, .ext (.t 6) 0⟩),
    (4, ⟨(some 10), none, .ext (.t 6) 1⟩),
    (5, ⟨(some 4), none, .alloc [(.bool false), (.int .i64 0), (.int .i64 0), (.int .u64 0), (.int .u64 0), (.int .u64 0), (.int .u64 0)]⟩),
    (6, ⟨none, none, .store 7 (.t 4) (.t 9)⟩),
    (7, ⟨(some 5), none, .mv (.t 10)⟩)] (some [4])) (.seq (.ops 6 [
    (0, ⟨(some 11), none, .fadd 1 (.t 4)⟩),
    (1, ⟨(some 12), none, .load none (.t 11)⟩),
    (2, ⟨(some 13), none, .fadd 2 (.t 4)⟩),
    (3, ⟨(some 14), none, .load none (.t 13)⟩),
    (4, ⟨(some 2), none, .mv (.t 12)⟩),
    (5, ⟨(some 3), none, .mv (.t 14)⟩)] (some [2, 3])) .ret)))
def md66 : FuncId → Option Nat × Bool
  | _ => (none, false)
def od66 : Nat → List (List Nat) × List Nat × Option (List Nat)
  | 0 => ([], [], some [1])
  | 1 => ([], [], some [4])
  | 2 => ([[], [0], [], [2], [0, 1], [0, 1, 2, 3, 4]], [0, 1, 2, 3, 4, 5], some [2, 3])
  | _ => ([], [], none)
theorem b66 {ags : List AV} {row : Option (List DV)} {r : AV} {row' nw : Option (List DV)} (hal : ags.length ≤ 15) (hrow : row'.isSome = true → row.isSome = true) (h : xwp Try.prog x66 (retK [.tmp 2, .tmp 3] row.isSome r row' nw) (St.init ags row)) : Good Try.prog 66 ags row r row' nw :=
  good_of_body' (md := md66) (od := od66) Try.f66 (by kernel_rfl) (by kernel_rfl) (by kernel_rfl) (by kernel_rfl) (by kernel_rfl) hal hrow h

def x71 : XC := (.seq (.ops 2 [
    (0, ⟨(some 1), none, .box (.t 0)⟩),
    (1, ⟨(some 2), none, .mv (.k (.d (.val (.bool false))))⟩)] (some [1])) (.seq (.ops 8 [
    (0, ⟨(some 6), none, .load (some 8) (.t 1)⟩),
    (1, ⟨(some 7), none, .call 121 [(.t 6)] none false⟩),
    (2, ⟨(some 5), none, .mv (.t 7)⟩),
    (3, ⟨(some 8), none, .ext (.t 5) 0⟩),
    (4, ⟨(some 9), none, .ext (.t 5) 1⟩),
    (5, ⟨(some 3), none, .alloc [(.bool false), (.int .i64 0), (.int .i64 0), (.int .u64 0), (.int .u64 0), (.int .u64 0), (.int .u64 0)]⟩),
    (6, ⟨none, none, .store 7 (.t 3) (.t 8)⟩),
    (7, ⟨(some 4), none, .mv (.t 9)⟩)] (some [3])) (.seq (.ops 3 [
    (0, ⟨(some 10), none, .fadd 0 (.t 3)⟩),
    (1, ⟨(some 11), none, .load none (.t 10)⟩),
    (2, ⟨(some 2), none, .mv (.t 11)⟩)] (some [2])) .ret)))
def md71 : FuncId → Option Nat × Bool
  | _ => (none, false)
def od71 : Nat → List (List Nat) × List Nat × Option (List Nat)
  | 0 => ([], [], some [1])
  | 1 => ([], [], some [3])
  | 2 => ([], [], some [2])
  | _ => ([], [], none)
theorem b71 {ags : List AV} {row : Option (List DV)} {r : AV} {row' nw : Option (List DV)} (hal : ags.length ≤ 12) (hrow : row'.isSome = true → row.isSome = true) (h : xwp Try.prog x71 (retK [.tmp 2] row.isSome r row' nw) (St.init ags row)) : Good Try.prog 71 ags row r row' nw :=
  good_of_body' (md := md71) (od := od71) Try.f71 (by kernel_rfl) (by kernel_rfl) (by kernel_rfl) (by kernel_rfl) (by kernel_rfl) hal hrow h

set_option maxRecDepth 100000
set_option maxHeartbeats 4000000
attribute [local irreducible] W E R KP thenK blockK retK Good xwp aRun
def ofK (t : T) : Fa := if fitsT t 12 = true then knT t else faE
theorem of121_good (t : T) (hc : t.cnt ≤ 200) (hok : fitsT t 12 = true → okT t) : Good Try.prog 121 [nodeA t] none (.tup [faA (ofK t), .b (fitsT t 12)]) none none := by
  have hright := right_good t (by omega)
  have hk := fun (h : fitsT t 12 = true) => know151_good 1000000 t (encN t) 0 (NodeAt.self _) (by omega) (Nat.le_refl _) (hok h) (bT_few hc h)
  have eE : faA faE = .agg [.b false, .i 0, .i 0, .d (.val (.int .u64 0)), .d (.val (.int .u64 0)), .d (.val (.int .u64 0)), .d (.val (.int .u64 0))] := rfl
  unfold ofK
  rcases Bool.eq_false_or_eq_true (fitsT t 12) with hR | hR
  case inr =>
    rw [hR] at hright ⊢
    rw [if_neg (by simp), eE]
    obtain ⟨k, a, b, c, d, mn, mx, subs⟩ := t
    have e0 : nodeA (T.node k a b c d mn mx subs) = .agg [.i k, .d (.val (.int .u64 a)), .d (.val (.int .u64 b)), .d (.val (.int .u64 c)), .d (.val (.int .u64 d)), .i mn, .i mx, .d (.sl (encL subs) subs.length)] := rfl
    rw [e0] at hright ⊢
    refine b121 (by simp) (by simp) (w_init ?_)
    unfold x121
    repeat' (first
    | (apply r_mvV; rfl)
    | (apply r_mvP; rfl)
    | (apply r_mvPL; rfl)
    | (apply r_mvS; rfl)
    | (apply r_mvSL; rfl)
    | (apply r_mvA; rfl)
    | (apply r_mvT; rfl)
    | (apply r_mvF; rfl)
    | (apply r_mvD; rfl)
    | (apply r_l; apply ld_kind; assumption; rfl)
    | (apply r_l; apply ld_mn; assumption; rfl)
    | (apply r_l; apply ld_mx; assumption; rfl)
    | (apply r_l; apply ld_subs; assumption; rfl)
    | (apply r_l; apply ld_set; assumption; rfl)
    | (apply r_l; apply ld_node; assumption; rfl)
    | (apply r_l; apply ld_kind'; assumption; rfl)
    | (apply r_l; apply ld_mn'; assumption; rfl)
    | (apply r_l; apply ld_mx'; assumption; rfl)
    | (apply r_l; apply ld_subs'; assumption; rfl)
    | (apply r_l; apply ld_node'; assumption; rfl)
    | (apply r_callA; rfl; rfl; exact hright)
    | (apply r_p (v := .agg [.b false, .i 0, .i 0, .d (.val (.int .u64 0)), .d (.val (.int .u64 0)), .d (.val (.int .u64 0)), .d (.val (.int .u64 0))]); rfl)
    | (apply r_ldL; rfl; rfl; rfl)
    | (apply r_not; rfl; rfl)
    | (apply r_alloc; ((conv => lhs; simp only [Nat.reduceAdd]) <;> rfl); rfl)
    | (apply r_box; ((conv => lhs; simp only [Nat.reduceAdd]) <;> rfl); rfl; rfl; rfl)
    | (apply r_stL; rfl; rfl; rfl; rfl; (first | rfl | (simp only [z_nil, z_add] <;> rfl)); rfl; rfl)
    | (apply r_p; rfl)
    | (apply r_nilK)
    | (apply r_nil)
    | (apply k_V; rfl)
    | (apply k_P; rfl)
    | (apply k_PL; rfl)
    | (apply k_S; rfl)
    | (apply k_SL; rfl)
    | (apply k_A; rfl)
    | (apply k_T; rfl)
    | (apply k_F; rfl)
    | (apply k_D; rfl; rotate_left; rfl)
    | (apply k_nil)
    | (apply e_ret (vs := [.d (.val _)]); rfl)
    | (apply e_ret; rfl)
    | (apply e_ret' (vs := [.d (.val _)]); rfl)
    | (apply e_ret'; rfl)
    | (apply w_seq)
    | (apply w_ops; ((conv => lhs; simp only [Nat.reduceAdd]) <;> rfl))
    | (apply w_condT; rfl)
    | (apply w_condF; rfl)
    | ((apply w_condS; rfl) <;> (intro h; try simp only [decide_eq_true_eq, decide_eq_false_iff_not, Bool.not_eq_true, Bool.not_eq_false] at h))
    | (apply e_thenN)
    | (apply w_block)
    | (apply e_thenR)
    | (apply e_thenX)
    | (apply e_blkN)
    | (apply e_blkR)
    | (apply e_blkE)
    | (apply w_exit)
    | (apply w_ret)
    | (apply w_skip)
    | (apply e_blkE'; rfl))
    exact .data _ rfl
  have hk := hk hR
  rw [hR] at hright ⊢
  rw [if_pos rfl]
  generalize knT t = f at hk
  obtain ⟨k, a, b, c, d, mn, mx, subs⟩ := t
  have e0 : nodeA (T.node k a b c d mn mx subs) = .agg [.i k, .d (.val (.int .u64 a)), .d (.val (.int .u64 b)), .d (.val (.int .u64 c)), .d (.val (.int .u64 d)), .i mn, .i mx, .d (.sl (encL subs) subs.length)] := rfl
  rw [e0] at hright ⊢
  refine b121 (by simp) (by simp) (w_init ?_)
  unfold x121
  repeat' (first
    | (apply r_mvV; rfl)
    | (apply r_mvP; rfl)
    | (apply r_mvPL; rfl)
    | (apply r_mvS; rfl)
    | (apply r_mvSL; rfl)
    | (apply r_mvA; rfl)
    | (apply r_mvT; rfl)
    | (apply r_mvF; rfl)
    | (apply r_mvD; rfl)
    | (apply r_l; apply ld_kind; assumption; rfl)
    | (apply r_l; apply ld_mn; assumption; rfl)
    | (apply r_l; apply ld_mx; assumption; rfl)
    | (apply r_l; apply ld_subs; assumption; rfl)
    | (apply r_l; apply ld_set; assumption; rfl)
    | (apply r_l; apply ld_node; assumption; rfl)
    | (apply r_l; apply ld_kind'; assumption; rfl)
    | (apply r_l; apply ld_mn'; assumption; rfl)
    | (apply r_l; apply ld_mx'; assumption; rfl)
    | (apply r_l; apply ld_subs'; assumption; rfl)
    | (apply r_l; apply ld_node'; assumption; rfl)
    | (apply r_callA; rfl; rfl; exact hright)
    | (apply r_call (bs := [.d (.ptr (encN (.node k a b c d mn mx subs)) 0)]) (us := [1]); rfl; rfl; exact hk; rfl)
    | (apply r_ldL; rfl; rfl; rfl)
    | (apply r_not; rfl; rfl)
    | (apply r_alloc; ((conv => lhs; simp only [Nat.reduceAdd]) <;> rfl); rfl)
    | (apply r_box; ((conv => lhs; simp only [Nat.reduceAdd]) <;> rfl); rfl; rfl; rfl)
    | (apply r_stL; rfl; rfl; rfl; rfl; (first | rfl | (simp only [z_nil, z_add] <;> rfl)); rfl; rfl)
    | (apply r_p; rfl)
    | (apply r_nilK)
    | (apply r_nil)
    | (apply k_V; rfl)
    | (apply k_P; rfl)
    | (apply k_PL; rfl)
    | (apply k_S; rfl)
    | (apply k_SL; rfl)
    | (apply k_A; rfl)
    | (apply k_T; rfl)
    | (apply k_F; rfl)
    | (apply k_D; rfl; rotate_left; rfl)
    | (apply k_nil)
    | (apply e_ret (vs := [.d (.val _)]); rfl)
    | (apply e_ret; rfl)
    | (apply e_ret' (vs := [.d (.val _)]); rfl)
    | (apply e_ret'; rfl)
    | (apply w_seq)
    | (apply w_ops; ((conv => lhs; simp only [Nat.reduceAdd]) <;> rfl))
    | (apply w_condT; rfl)
    | (apply w_condF; rfl)
    | ((apply w_condS; rfl) <;> (intro h; try simp only [decide_eq_true_eq, decide_eq_false_iff_not, Bool.not_eq_true, Bool.not_eq_false] at h))
    | (apply e_thenN)
    | (apply w_block)
    | (apply e_thenR)
    | (apply e_thenX)
    | (apply e_blkN)
    | (apply e_blkR)
    | (apply e_blkE)
    | (apply w_exit)
    | (apply w_ret)
    | (apply w_skip)
    | (apply e_blkE'; rfl))
  exact .data _ rfl
def nulF (t : T) : Bool := fitsT t 12 && (!(ofK t).no && decide ((ofK t).lo = 0))
theorem null69_good (t : T) (hc : t.cnt ≤ 200) (hok : fitsT t 12 = true → okT t) : Good Try.prog 69 [nodeA t] none (.b (nulF t)) none none := by
  have h := of121_good t hc hok
  unfold nulF
  generalize fitsT t 12 = q at h
  generalize ofK t = f at h
  obtain ⟨fn, fl, fh, fa, fb, fc, fd⟩ := f
  have e : faA ⟨fn, fl, fh, fa, fb, fc, fd⟩ = .agg [.b fn, .i fl, .i fh, .d (.val (.int .u64 fa)), .d (.val (.int .u64 fb)), .d (.val (.int .u64 fc)), .d (.val (.int .u64 fd))] := rfl
  rw [e] at h
  dsimp only
  obtain ⟨k, a, b, c, d, mn, mx, subs⟩ := t
  have e0 : nodeA (T.node k a b c d mn mx subs) = .agg [.i k, .d (.val (.int .u64 a)), .d (.val (.int .u64 b)), .d (.val (.int .u64 c)), .d (.val (.int .u64 d)), .i mn, .i mx, .d (.sl (encL subs) subs.length)] := rfl
  rw [e0] at h ⊢
  cases q with
  | false =>
    refine b69 (by simp) (by simp) (w_init ?_)
    unfold x69
    repeat' (first
    | (apply r_mvV; rfl)
    | (apply r_mvP; rfl)
    | (apply r_mvPL; rfl)
    | (apply r_mvS; rfl)
    | (apply r_mvSL; rfl)
    | (apply r_mvA; rfl)
    | (apply r_mvT; rfl)
    | (apply r_mvF; rfl)
    | (apply r_mvD; rfl)
    | (apply r_faddD; rfl)
    | (apply r_faddL; rfl)
    | (apply r_l; apply ld_kind; assumption; rfl)
    | (apply r_l; apply ld_mn; assumption; rfl)
    | (apply r_l; apply ld_mx; assumption; rfl)
    | (apply r_l; apply ld_subs; assumption; rfl)
    | (apply r_l; apply ld_set; assumption; rfl)
    | (apply r_l; apply ld_node; assumption; rfl)
    | (apply r_l; apply ld_kind'; assumption; rfl)
    | (apply r_l; apply ld_mn'; assumption; rfl)
    | (apply r_l; apply ld_mx'; assumption; rfl)
    | (apply r_l; apply ld_subs'; assumption; rfl)
    | (apply r_l; apply ld_node'; assumption; rfl)
    | (apply r_callA; rfl; rfl; exact h)
    | (apply r_ldL; rfl; rfl; rfl)
    | (apply r_eql; rfl; rfl; (first | (apply decide_eq_true; omega) | (apply decide_eq_false; omega) | rfl))
    | (apply r_not; rfl; rfl)
    | (apply r_pickT; rfl)
    | (apply r_pickF; rfl)
    | (apply r_ext; rfl; rfl)
    | (apply r_gT; rfl)
    | (apply r_gF'; rfl; rfl)
    | (apply r_gN'; rfl)
    | ((apply r_gS (o := default); rfl) <;> (intro h; try simp only [decide_eq_true_eq, decide_eq_false_iff_not, Bool.not_eq_true, Bool.not_eq_false] at h))
    | (apply r_alloc; ((conv => lhs; simp only [Nat.reduceAdd]) <;> rfl); rfl)
    | (apply r_box; ((conv => lhs; simp only [Nat.reduceAdd]) <;> rfl); rfl; rfl; rfl)
    | (apply r_stL; rfl; rfl; rfl; rfl; (first | rfl | (simp only [z_nil, z_add] <;> rfl)); rfl; rfl)
    | (apply r_nilK)
    | (apply r_nil)
    | (apply k_V; rfl)
    | (apply k_P; rfl)
    | (apply k_PL; rfl)
    | (apply k_S; rfl)
    | (apply k_SL; rfl)
    | (apply k_A; rfl)
    | (apply k_T; rfl)
    | (apply k_F; rfl)
    | (apply k_D; rfl; rotate_left; rfl)
    | (apply k_nil)
    | (apply e_ret (vs := [.d (.val _)]); rfl)
    | (apply e_ret; rfl)
    | (apply e_ret' (vs := [.d (.val _)]); rfl)
    | (apply e_ret'; rfl)
    | (apply w_seq)
    | (apply w_ops; ((conv => lhs; simp only [Nat.reduceAdd]) <;> rfl))
    | (apply e_thenN)
    | (apply w_block)
    | (apply e_thenR)
    | (apply e_thenX)
    | (apply e_blkN)
    | (apply e_blkR)
    | (apply e_blkE)
    | (apply w_exit)
    | (apply w_ret)
    | (apply w_skip)
    | (apply e_blkE'; rfl))
    exact retB rfl
  | true =>
  cases fn with
  | true =>
    refine b69 (by simp) (by simp) (w_init ?_)
    unfold x69
    repeat' (first
    | (apply r_mvV; rfl)
    | (apply r_mvP; rfl)
    | (apply r_mvPL; rfl)
    | (apply r_mvS; rfl)
    | (apply r_mvSL; rfl)
    | (apply r_mvA; rfl)
    | (apply r_mvT; rfl)
    | (apply r_mvF; rfl)
    | (apply r_mvD; rfl)
    | (apply r_faddD; rfl)
    | (apply r_faddL; rfl)
    | (apply r_l; apply ld_kind; assumption; rfl)
    | (apply r_l; apply ld_mn; assumption; rfl)
    | (apply r_l; apply ld_mx; assumption; rfl)
    | (apply r_l; apply ld_subs; assumption; rfl)
    | (apply r_l; apply ld_set; assumption; rfl)
    | (apply r_l; apply ld_node; assumption; rfl)
    | (apply r_l; apply ld_kind'; assumption; rfl)
    | (apply r_l; apply ld_mn'; assumption; rfl)
    | (apply r_l; apply ld_mx'; assumption; rfl)
    | (apply r_l; apply ld_subs'; assumption; rfl)
    | (apply r_l; apply ld_node'; assumption; rfl)
    | (apply r_callA; rfl; rfl; exact h)
    | (apply r_ldL (v := .b true); rfl; rfl; rfl)
    | (apply r_ldL; rfl; rfl; rfl)
    | (apply r_eql; rfl; rfl; (first | (apply decide_eq_true; omega) | (apply decide_eq_false; omega) | rfl))
    | (apply r_not; rfl; rfl)
    | (apply r_pickT; rfl)
    | (apply r_pickF; rfl)
    | (apply r_ext; rfl; rfl)
    | (apply r_gT; rfl)
    | (apply r_gF'; rfl; rfl)
    | (apply r_gN'; rfl)
    | ((apply r_gS (o := default); rfl) <;> (intro h; try simp only [decide_eq_true_eq, decide_eq_false_iff_not, Bool.not_eq_true, Bool.not_eq_false] at h))
    | (apply r_alloc; ((conv => lhs; simp only [Nat.reduceAdd]) <;> rfl); rfl)
    | (apply r_box; ((conv => lhs; simp only [Nat.reduceAdd]) <;> rfl); rfl; rfl; rfl)
    | (apply r_stL; rfl; rfl; rfl; rfl; (first | rfl | (simp only [z_nil, z_add] <;> rfl)); rfl; rfl)
    | (apply r_nilK)
    | (apply r_nil)
    | (apply k_V; rfl)
    | (apply k_P; rfl)
    | (apply k_PL; rfl)
    | (apply k_S; rfl)
    | (apply k_SL; rfl)
    | (apply k_A; rfl)
    | (apply k_T; rfl)
    | (apply k_F; rfl)
    | (apply k_D; rfl; rotate_left; rfl)
    | (apply k_nil)
    | (apply e_ret (vs := [.d (.val _)]); rfl)
    | (apply e_ret; rfl)
    | (apply e_ret' (vs := [.d (.val _)]); rfl)
    | (apply e_ret'; rfl)
    | (apply w_seq)
    | (apply w_ops; ((conv => lhs; simp only [Nat.reduceAdd]) <;> rfl))
    | (apply e_thenN)
    | (apply w_block)
    | (apply e_thenR)
    | (apply e_thenX)
    | (apply e_blkN)
    | (apply e_blkR)
    | (apply e_blkE)
    | (apply w_exit)
    | (apply w_ret)
    | (apply w_skip)
    | (apply e_blkE'; rfl))
    exact retB rfl
  | false =>
    refine b69 (by simp) (by simp) (w_init ?_)
    unfold x69
    by_cases hz : fl = 0
    · repeat' (first
    | (apply r_mvV; rfl)
    | (apply r_mvP; rfl)
    | (apply r_mvPL; rfl)
    | (apply r_mvS; rfl)
    | (apply r_mvSL; rfl)
    | (apply r_mvA; rfl)
    | (apply r_mvT; rfl)
    | (apply r_mvF; rfl)
    | (apply r_mvD; rfl)
    | (apply r_faddD; rfl)
    | (apply r_faddL; rfl)
    | (apply r_l; apply ld_kind; assumption; rfl)
    | (apply r_l; apply ld_mn; assumption; rfl)
    | (apply r_l; apply ld_mx; assumption; rfl)
    | (apply r_l; apply ld_subs; assumption; rfl)
    | (apply r_l; apply ld_set; assumption; rfl)
    | (apply r_l; apply ld_node; assumption; rfl)
    | (apply r_l; apply ld_kind'; assumption; rfl)
    | (apply r_l; apply ld_mn'; assumption; rfl)
    | (apply r_l; apply ld_mx'; assumption; rfl)
    | (apply r_l; apply ld_subs'; assumption; rfl)
    | (apply r_l; apply ld_node'; assumption; rfl)
    | (apply r_callA; rfl; rfl; exact h)
    | (apply r_ldL (v := .b false); rfl; rfl; rfl)
    | (apply r_ldL (v := .i fl); rfl; rfl; rfl)
    | (apply r_ldL; rfl; rfl; rfl)
    | (apply r_eql; rfl; rfl; (first | (apply decide_eq_true; omega) | (apply decide_eq_false; omega) | rfl))
    | (apply r_not; rfl; rfl)
    | (apply r_pickT; rfl)
    | (apply r_pickF; rfl)
    | (apply r_ext; rfl; rfl)
    | (apply r_gT; rfl)
    | (apply r_gF'; rfl; rfl)
    | (apply r_gN'; rfl)
    | ((apply r_gS (o := default); rfl) <;> (intro h; try simp only [decide_eq_true_eq, decide_eq_false_iff_not, Bool.not_eq_true, Bool.not_eq_false] at h))
    | (apply r_alloc; ((conv => lhs; simp only [Nat.reduceAdd]) <;> rfl); rfl)
    | (apply r_box; ((conv => lhs; simp only [Nat.reduceAdd]) <;> rfl); rfl; rfl; rfl)
    | (apply r_stL; rfl; rfl; rfl; rfl; (first | rfl | (simp only [z_nil, z_add] <;> rfl)); rfl; rfl)
    | (apply r_nilK)
    | (apply r_nil)
    | (apply k_V; rfl)
    | (apply k_P; rfl)
    | (apply k_PL; rfl)
    | (apply k_S; rfl)
    | (apply k_SL; rfl)
    | (apply k_A; rfl)
    | (apply k_T; rfl)
    | (apply k_F; rfl)
    | (apply k_D; rfl; rotate_left; rfl)
    | (apply k_nil)
    | (apply e_ret (vs := [.d (.val _)]); rfl)
    | (apply e_ret; rfl)
    | (apply e_ret' (vs := [.d (.val _)]); rfl)
    | (apply e_ret'; rfl)
    | (apply w_seq)
    | (apply w_ops; ((conv => lhs; simp only [Nat.reduceAdd]) <;> rfl))
    | (apply e_thenN)
    | (apply w_block)
    | (apply e_thenR)
    | (apply e_thenX)
    | (apply e_blkN)
    | (apply e_blkR)
    | (apply e_blkE)
    | (apply w_exit)
    | (apply w_ret)
    | (apply w_skip)
    | (apply e_blkE'; rfl))
      exact retB (by simp [hz])
    · repeat' (first
    | (apply r_mvV; rfl)
    | (apply r_mvP; rfl)
    | (apply r_mvPL; rfl)
    | (apply r_mvS; rfl)
    | (apply r_mvSL; rfl)
    | (apply r_mvA; rfl)
    | (apply r_mvT; rfl)
    | (apply r_mvF; rfl)
    | (apply r_mvD; rfl)
    | (apply r_faddD; rfl)
    | (apply r_faddL; rfl)
    | (apply r_l; apply ld_kind; assumption; rfl)
    | (apply r_l; apply ld_mn; assumption; rfl)
    | (apply r_l; apply ld_mx; assumption; rfl)
    | (apply r_l; apply ld_subs; assumption; rfl)
    | (apply r_l; apply ld_set; assumption; rfl)
    | (apply r_l; apply ld_node; assumption; rfl)
    | (apply r_l; apply ld_kind'; assumption; rfl)
    | (apply r_l; apply ld_mn'; assumption; rfl)
    | (apply r_l; apply ld_mx'; assumption; rfl)
    | (apply r_l; apply ld_subs'; assumption; rfl)
    | (apply r_l; apply ld_node'; assumption; rfl)
    | (apply r_callA; rfl; rfl; exact h)
    | (apply r_ldL (v := .b false); rfl; rfl; rfl)
    | (apply r_ldL (v := .i fl); rfl; rfl; rfl)
    | (apply r_ldL; rfl; rfl; rfl)
    | (apply r_eql; rfl; rfl; (first | (apply decide_eq_true; omega) | (apply decide_eq_false; omega) | rfl))
    | (apply r_not; rfl; rfl)
    | (apply r_pickT; rfl)
    | (apply r_pickF; rfl)
    | (apply r_ext; rfl; rfl)
    | (apply r_gT; rfl)
    | (apply r_gF'; rfl; rfl)
    | (apply r_gN'; rfl)
    | ((apply r_gS (o := default); rfl) <;> (intro h; try simp only [decide_eq_true_eq, decide_eq_false_iff_not, Bool.not_eq_true, Bool.not_eq_false] at h))
    | (apply r_alloc; ((conv => lhs; simp only [Nat.reduceAdd]) <;> rfl); rfl)
    | (apply r_box; ((conv => lhs; simp only [Nat.reduceAdd]) <;> rfl); rfl; rfl; rfl)
    | (apply r_stL; rfl; rfl; rfl; rfl; (first | rfl | (simp only [z_nil, z_add] <;> rfl)); rfl; rfl)
    | (apply r_nilK)
    | (apply r_nil)
    | (apply k_V; rfl)
    | (apply k_P; rfl)
    | (apply k_PL; rfl)
    | (apply k_S; rfl)
    | (apply k_SL; rfl)
    | (apply k_A; rfl)
    | (apply k_T; rfl)
    | (apply k_F; rfl)
    | (apply k_D; rfl; rotate_left; rfl)
    | (apply k_nil)
    | (apply e_ret (vs := [.d (.val _)]); rfl)
    | (apply e_ret; rfl)
    | (apply e_ret' (vs := [.d (.val _)]); rfl)
    | (apply e_ret'; rfl)
    | (apply w_seq)
    | (apply w_ops; ((conv => lhs; simp only [Nat.reduceAdd]) <;> rfl))
    | (apply e_thenN)
    | (apply w_block)
    | (apply e_thenR)
    | (apply e_thenX)
    | (apply e_blkN)
    | (apply e_blkR)
    | (apply e_blkE)
    | (apply w_exit)
    | (apply w_ret)
    | (apply w_skip)
    | (apply e_blkE'; rfl))
      exact retB (by simp [hz])
theorem len66_good (t : T) (hc : t.cnt ≤ 200) (hok : fitsT t 12 = true → okT t) : Good Try.prog 66 [nodeA t] none (.tup [.i (ofK t).lo, .i (ofK t).hi]) none none := by
  have h := of121_good t hc hok
  generalize fitsT t 12 = q at h
  generalize ofK t = f at h
  obtain ⟨fn, fl, fh, fa, fb, fc, fd⟩ := f
  have e : faA ⟨fn, fl, fh, fa, fb, fc, fd⟩ = .agg [.b fn, .i fl, .i fh, .d (.val (.int .u64 fa)), .d (.val (.int .u64 fb)), .d (.val (.int .u64 fc)), .d (.val (.int .u64 fd))] := rfl
  rw [e] at h
  dsimp only
  obtain ⟨k, a, b, c, d, mn, mx, subs⟩ := t
  have e0 : nodeA (T.node k a b c d mn mx subs) = .agg [.i k, .d (.val (.int .u64 a)), .d (.val (.int .u64 b)), .d (.val (.int .u64 c)), .d (.val (.int .u64 d)), .i mn, .i mx, .d (.sl (encL subs) subs.length)] := rfl
  rw [e0] at h ⊢
  refine b66 (by simp) (by simp) (w_init ?_)
  unfold x66
  repeat' (first
    | (apply r_mvV; rfl)
    | (apply r_mvP; rfl)
    | (apply r_mvPL; rfl)
    | (apply r_mvS; rfl)
    | (apply r_mvSL; rfl)
    | (apply r_mvA; rfl)
    | (apply r_mvT; rfl)
    | (apply r_mvF; rfl)
    | (apply r_mvD; rfl)
    | (apply r_faddD; rfl)
    | (apply r_faddL; rfl)
    | (apply r_l; apply ld_kind; assumption; rfl)
    | (apply r_l; apply ld_mn; assumption; rfl)
    | (apply r_l; apply ld_mx; assumption; rfl)
    | (apply r_l; apply ld_subs; assumption; rfl)
    | (apply r_l; apply ld_set; assumption; rfl)
    | (apply r_l; apply ld_node; assumption; rfl)
    | (apply r_l; apply ld_kind'; assumption; rfl)
    | (apply r_l; apply ld_mn'; assumption; rfl)
    | (apply r_l; apply ld_mx'; assumption; rfl)
    | (apply r_l; apply ld_subs'; assumption; rfl)
    | (apply r_l; apply ld_node'; assumption; rfl)
    | (apply r_callA; rfl; rfl; exact h)
    | (apply r_ldL (v := .i fl); rfl; rfl; rfl)
    | (apply r_ldL (v := .i fh); rfl; rfl; rfl)
    | (apply r_ldL; rfl; rfl; rfl)
    | (apply r_ext; rfl; rfl)
    | (apply r_alloc; ((conv => lhs; simp only [Nat.reduceAdd]) <;> rfl); rfl)
    | (apply r_box; ((conv => lhs; simp only [Nat.reduceAdd]) <;> rfl); rfl; rfl; rfl)
    | (apply r_stL; rfl; rfl; rfl; rfl; (first | rfl | (simp only [z_nil, z_add] <;> rfl)); rfl; rfl)
    | (apply r_nilK)
    | (apply r_nil)
    | (apply k_V; rfl)
    | (apply k_P; rfl)
    | (apply k_PL; rfl)
    | (apply k_S; rfl)
    | (apply k_SL; rfl)
    | (apply k_A; rfl)
    | (apply k_T; rfl)
    | (apply k_F; rfl)
    | (apply k_D; rfl; rotate_left; rfl)
    | (apply k_nil)
    | (apply e_ret (vs := [.d (.val _)]); rfl)
    | (apply e_ret; rfl)
    | (apply e_ret' (vs := [.d (.val _)]); rfl)
    | (apply e_ret'; rfl)
    | (apply w_seq)
    | (apply w_ops; ((conv => lhs; simp only [Nat.reduceAdd]) <;> rfl))
    | (apply e_thenN)
    | (apply w_block)
    | (apply e_thenR)
    | (apply e_thenX)
    | (apply e_blkN)
    | (apply e_blkR)
    | (apply e_blkE)
    | (apply w_exit)
    | (apply w_ret)
    | (apply w_skip)
    | (apply e_blkE'; rfl))
  exact .data _ rfl
theorem none71_good (t : T) (hc : t.cnt ≤ 200) (hok : fitsT t 12 = true → okT t) : Good Try.prog 71 [nodeA t] none (.b (ofK t).no) none none := by
  have h := of121_good t hc hok
  generalize fitsT t 12 = q at h
  generalize ofK t = f at h
  obtain ⟨fn, fl, fh, fa, fb, fc, fd⟩ := f
  have e : faA ⟨fn, fl, fh, fa, fb, fc, fd⟩ = .agg [.b fn, .i fl, .i fh, .d (.val (.int .u64 fa)), .d (.val (.int .u64 fb)), .d (.val (.int .u64 fc)), .d (.val (.int .u64 fd))] := rfl
  rw [e] at h
  dsimp only
  obtain ⟨k, a, b, c, d, mn, mx, subs⟩ := t
  have e0 : nodeA (T.node k a b c d mn mx subs) = .agg [.i k, .d (.val (.int .u64 a)), .d (.val (.int .u64 b)), .d (.val (.int .u64 c)), .d (.val (.int .u64 d)), .i mn, .i mx, .d (.sl (encL subs) subs.length)] := rfl
  rw [e0] at h ⊢
  refine b71 (by simp) (by simp) (w_init ?_)
  unfold x71
  repeat' (first
    | (apply r_mvV; rfl)
    | (apply r_mvP; rfl)
    | (apply r_mvPL; rfl)
    | (apply r_mvS; rfl)
    | (apply r_mvSL; rfl)
    | (apply r_mvA; rfl)
    | (apply r_mvT; rfl)
    | (apply r_mvF; rfl)
    | (apply r_mvD; rfl)
    | (apply r_faddD; rfl)
    | (apply r_faddL; rfl)
    | (apply r_l; apply ld_kind; assumption; rfl)
    | (apply r_l; apply ld_mn; assumption; rfl)
    | (apply r_l; apply ld_mx; assumption; rfl)
    | (apply r_l; apply ld_subs; assumption; rfl)
    | (apply r_l; apply ld_set; assumption; rfl)
    | (apply r_l; apply ld_node; assumption; rfl)
    | (apply r_l; apply ld_kind'; assumption; rfl)
    | (apply r_l; apply ld_mn'; assumption; rfl)
    | (apply r_l; apply ld_mx'; assumption; rfl)
    | (apply r_l; apply ld_subs'; assumption; rfl)
    | (apply r_l; apply ld_node'; assumption; rfl)
    | (apply r_callA; rfl; rfl; exact h)
    | (apply r_ldL (v := .b fn); rfl; rfl; rfl)
    | (apply r_ldL; rfl; rfl; rfl)
    | (apply r_ext; rfl; rfl)
    | (apply r_alloc; ((conv => lhs; simp only [Nat.reduceAdd]) <;> rfl); rfl)
    | (apply r_box; ((conv => lhs; simp only [Nat.reduceAdd]) <;> rfl); rfl; rfl; rfl)
    | (apply r_stL; rfl; rfl; rfl; rfl; (first | rfl | (simp only [z_nil, z_add] <;> rfl)); rfl; rfl)
    | (apply r_nilK)
    | (apply r_nil)
    | (apply k_V; rfl)
    | (apply k_P; rfl)
    | (apply k_PL; rfl)
    | (apply k_S; rfl)
    | (apply k_SL; rfl)
    | (apply k_A; rfl)
    | (apply k_T; rfl)
    | (apply k_F; rfl)
    | (apply k_D; rfl; rotate_left; rfl)
    | (apply k_nil)
    | (apply e_ret (vs := [.d (.val _)]); rfl)
    | (apply e_ret; rfl)
    | (apply e_ret' (vs := [.d (.val _)]); rfl)
    | (apply e_ret'; rfl)
    | (apply w_seq)
    | (apply w_ops; ((conv => lhs; simp only [Nat.reduceAdd]) <;> rfl))
    | (apply e_thenN)
    | (apply w_block)
    | (apply e_thenR)
    | (apply e_thenX)
    | (apply e_blkN)
    | (apply e_blkR)
    | (apply e_blkE)
    | (apply w_exit)
    | (apply w_ret)
    | (apply w_skip)
    | (apply e_blkE'; rfl))
  exact retB rfl
end Go.Sv
namespace Go.Sv
open Go Go.Proofs
def x98 : XC := (.seq (.ops 1 [
    (0, ⟨(some 4), none, .mv (.k (.d (.val (.slice none 0 0))))⟩)] (some [0, 1])) (.seq (.ops 4 [
    (0, ⟨(some 8), none, .mv (.t 0)⟩),
    (1, ⟨(some 9), none, .lenS (.t 8)⟩),
    (2, ⟨(some 10), none, .mks [(.bool false)] 1 (.t 9) (.t 9)⟩),
    (3, ⟨(some 5), none, .mv (.t 10)⟩)] (some [0, 1, 5])) (.seq (.seq (.ops 1 [
    (0, ⟨(some 6), none, .mv (.k (.d (.val (.int .i64 0))))⟩)] (some [0, 1, 5, 6])) (.block 0 (.loop (.seq (.seq (.ops 4 [
    (0, ⟨(some 11), none, .mv (.t 6)⟩),
    (1, ⟨(some 12), none, .mv (.t 0)⟩),
    (2, ⟨(some 13), none, .lenS (.t 12)⟩),
    (3, ⟨(some 14), none, .arith .lss (.t 11) (.t 13)⟩)] (some [0, 1, 5, 6, 14])) (.cond (.t 14) .skip (.exit 0))) (.seq (.block 1 (.seq (.ops 1 [
    (0, ⟨(some 7), none, .mv (.k (.d (.val (.int .i64 0))))⟩)] (some [0, 1, 5, 6, 7])) (.block 2 (.loop (.seq (.seq (.ops 6 [
    (0, ⟨(some 17), none, .mv (.t 6)⟩),
    (1, ⟨(some 18), none, .mv (.t 7)⟩),
    (2, ⟨(some 19), none, .arith .add (.t 17) (.t 18)⟩),
    (3, ⟨(some 20), none, .mv (.t 0)⟩),
    (4, ⟨(some 21), none, .lenS (.t 20)⟩),
    (5, ⟨(some 22), none, .arith .lss (.t 19) (.t 21)⟩)] (some [0, 1, 5, 6, 7, 22])) (.cond (.t 22) .skip (.exit 2))) (.seq (.block 3 (.ops 24 [
    (0, ⟨(some 25), none, .mv (.t 5)⟩),
    (1, ⟨(some 26), none, .mv (.t 6)⟩),
    (2, ⟨(some 27), none, .mv (.t 7)⟩),
    (3, ⟨(some 28), none, .arith .add (.t 26) (.t 27)⟩),
    (4, ⟨(some 29), none, .mv (.t 5)⟩),
    (5, ⟨(some 30), none, .mv (.t 6)⟩),
    (6, ⟨(some 31), none, .mv (.t 7)⟩),
    (7, ⟨(some 32), none, .arith .add (.t 30) (.t 31)⟩),
    (8, ⟨(some 33), none, .idxS 1 (.t 29) (.t 32)⟩),
    (9, ⟨(some 34), none, .load none (.t 33)⟩),
    (10, ⟨(some 35), none, .mv (.t 34)⟩),
    (11, ⟨(some 36), (some (35, false)), .mv (.t 0)⟩),
    (12, ⟨(some 37), (some (35, false)), .mv (.t 6)⟩),
    (13, ⟨(some 38), (some (35, false)), .idxS 1 (.t 36) (.t 37)⟩),
    (14, ⟨(some 39), (some (35, false)), .load none (.t 38)⟩),
    (15, ⟨(some 40), (some (35, false)), .mv (.t 39)⟩),
    (16, ⟨(some 41), (some (40, true)), .mv (.t 1)⟩),
    (17, ⟨(some 42), (some (40, true)), .mv (.t 7)⟩),
    (18, ⟨(some 43), (some (40, true)), .idxS 1 (.t 41) (.t 42)⟩),
    (19, ⟨(some 44), (some (40, true)), .load none (.t 43)⟩),
    (20, ⟨(some 45), (some (35, false)), .pick (.t 40) (.t 44) (.k (.d (.val (.bool false))))⟩),
    (21, ⟨(some 46), none, .pick (.t 35) (.k (.d (.val (.bool true)))) (.t 45)⟩),
    (22, ⟨(some 47), none, .idxS 1 (.t 25) (.t 28)⟩),
    (23, ⟨none, none, .store 1 (.t 47) (.t 46)⟩)] (some [0, 1, 5, 6, 7]))) (.ops 3 [
    (0, ⟨(some 23), none, .mv (.t 7)⟩),
    (1, ⟨(some 24), none, .arith .add (.t 23) (.k (.d (.val (.int .i64 1))))⟩),
    (2, ⟨(some 7), none, .mv (.t 24)⟩)] (some [0, 1, 5, 6, 7])))))))) (.ops 3 [
    (0, ⟨(some 15), none, .mv (.t 6)⟩),
    (1, ⟨(some 16), none, .arith .add (.t 15) (.k (.d (.val (.int .i64 1))))⟩),
    (2, ⟨(some 6), none, .mv (.t 16)⟩)] (some [0, 1, 5, 6]))))))) (.seq (.ops 2 [
    (0, ⟨(some 48), none, .mv (.t 5)⟩),
    (1, ⟨(some 4), none, .mv (.t 48)⟩)] (some [4])) .ret))))
def md98 : FuncId → Option Nat × Bool
  | _ => (none, false)
def od98 : Nat → List (List Nat) × List Nat × Option (List Nat)
  | 0 => ([], [], some [0, 1])
  | 1 => ([], [], some [0, 1, 5])
  | 2 => ([], [], some [0, 1, 5, 6])
  | 3 => ([], [], some [0, 1, 5, 6, 14])
  | 4 => ([], [], some [0, 1, 5, 6])
  | 5 => ([], [], some [0, 1, 5, 6, 7])
  | 6 => ([], [], some [0, 1, 5, 6, 7, 22])
  | 7 => ([], [], some [0, 1, 5, 6, 7])
  | 8 => ([], [], some [0, 1, 5, 6, 7])
  | 9 => ([], [], some [4])
  | _ => ([], [], none)
theorem b98 {ags : List AV} {row : Option (List DV)} {r : AV} {row' nw : Option (List DV)} (hal : ags.length ≤ 49) (hrow : row'.isSome = true → row.isSome = true) (h : xwp Try.prog x98 (retK [.tmp 4] row.isSome r row' nw) (St.init ags row)) : Good Try.prog 98 ags row r row' nw :=
  good_of_body' (md := md98) (od := od98) Try.f98 (by kernel_rfl) (by kernel_rfl) (by kernel_rfl) (by kernel_rfl) (by kernel_rfl) hal hrow h

set_option maxRecDepth 100000
set_option maxHeartbeats 4000000
attribute [local irreducible] W E R KP thenK blockK retK Good xwp aRun
def Joined (a b p : List Bool) (D : Nat → Nat → Prop) : Prop := p.length = a.length ∧ ∀ n, n < a.length → (At p n ↔ ∃ i k, D i k ∧ i + k = n ∧ At a i ∧ At b k)
theorem join98_good (a b : List Bool) {m : Nat} (ha : a.length = m) (hb : b.length = m) (hm : m ≤ 1000000) : Good Try.prog 98 [.d (.sl (encB a) m), .d (.sl (encB b) m)] none (.d (.sl (encB (joinB a b)) m)) none none := by
  refine b98 (by simp) (by simp) (w_init ?_)
  unfold x98
  repeat' (first
    | (apply r_mvV; rfl)
    | (apply r_mvP; rfl)
    | (apply r_mvPL; rfl)
    | (apply r_mvS; rfl)
    | (apply r_mvSL; rfl)
    | (apply r_mvA; rfl)
    | (apply r_mvT; rfl)
    | (apply r_mvF; rfl)
    | (apply r_mvD; rfl)
    | (apply r_mksB (m := m); rfl; rfl; rfl; rfl; omega)
    | (apply r_ldL; rfl; rfl; rfl)
    | (apply r_lss; rfl; rfl; (first | (apply decide_eq_true; omega) | (apply decide_eq_false; omega) | rfl))
    | (apply r_add; rfl; rfl; rfl; omega)
    | (apply r_pickT; rfl)
    | (apply r_pickF; rfl)
    | (apply r_lenD; rfl)
    | (apply r_lenL; rfl)
    | (apply r_len0; rfl)
    | (apply r_gT; rfl)
    | (apply r_gF'; rfl; rfl)
    | (apply r_gN'; rfl)
    | ((apply r_gS (o := default); rfl) <;> (intro h; try simp only [decide_eq_true_eq, decide_eq_false_iff_not, Bool.not_eq_true, Bool.not_eq_false] at h))
    | (apply r_stL; rfl; rfl; rfl; rfl; (first | rfl | (simp only [z_nil, z_add] <;> rfl)); rfl; rfl)
    | (apply r_p; rfl)
    | (apply r_nilK)
    | (apply r_nil)
    | (apply k_V; rfl)
    | (apply k_P; rfl)
    | (apply k_PL; rfl)
    | (apply k_S; rfl)
    | (apply k_SL; rfl)
    | (apply k_A; rfl)
    | (apply k_T; rfl)
    | (apply k_F; rfl)
    | (apply k_D; rfl; rotate_left; rfl)
    | (apply k_nil)
    | (apply e_ret (vs := [.d (.val _)]); rfl)
    | (apply e_ret; rfl)
    | (apply e_ret' (vs := [.d (.val _)]); rfl)
    | (apply e_ret'; rfl)
    | (apply w_seq)
    | (apply w_ops; ((conv => lhs; simp only [Nat.reduceAdd]) <;> rfl))
    | (apply w_condT; rfl)
    | (apply w_condF; rfl)
    | ((apply w_condS; rfl) <;> (intro h; try simp only [decide_eq_true_eq, decide_eq_false_iff_not, Bool.not_eq_true, Bool.not_eq_false] at h))
    | (apply e_thenN)
    | (apply w_block)
    | (apply e_thenR)
    | (apply e_thenX)
    | (apply e_blkN)
    | (apply e_blkR)
    | (apply e_blkE)
    | (apply w_exit)
    | (apply w_ret)
    | (apply w_skip)
    | (apply e_blkE'; rfl))
  apply w_loopI (ι := Nat × List Bool) (S := fun q => ⟨(((Fr.nil.put 0 (.d (.sl (encB a) m))).put 1 (.d (.sl (encB b) m))).put 5 (.slL 50 0 m 1)).put 6 (.i q.1), rowsOf [(50, (encB q.2).map AV.d)], Frz.buts 100 [50], 100⟩) (m := fun q => m - q.1) (I := fun q => q.1 ≤ m ∧ Joined a b q.2 (fun i k => i < q.1)) (i0 := (0, List.replicate m false))
  · refine ⟨Nat.zero_le _, by simp [ha], fun n hn => ⟨fun h => absurd h (at_rep _ _), ?_⟩⟩
    rintro ⟨i, k, h, _⟩
    dsimp only at h
    omega
  · dsimp only
    refine wkM [(50, 4)] [] rfl ?_ ?_ rfl ?_
    · intro p hp
      simp only [List.mem_cons, List.not_mem_nil, or_false] at hp
      rcases hp with rfl
      exact ⟨by omega, .inr ⟨rfl, _, rfl, .data encB_isD⟩⟩
    · intro q hq; simp only [List.mem_cons, List.not_mem_nil, or_false] at hq; rcases hq with rfl <;> rfl
    · repeat' (first
    | exact FWk.nil
    | (apply FWk.i; rfl; (first | rfl | omega | (simp; done)))
    | (apply FWk.sl; rfl; rfl; rfl; rfl; omega; rfl)
    | (apply FWk.ptr; rfl; rfl; rfl; omega; rfl)
    | (apply FWk.d; rfl; rfl)
    | (apply FWk.a; rfl; rfl; rfl)
    | (apply FWk.slN; rfl; omega; rfl))
  rintro ⟨i, p⟩ K ⟨hi, hj⟩ hK
  dsimp only at hi hj hK ⊢
  rcases Nat.lt_or_ge i m with hlt | hge
  · repeat' (first
    | (apply r_mvV; rfl)
    | (apply r_mvP; rfl)
    | (apply r_mvPL; rfl)
    | (apply r_mvS; rfl)
    | (apply r_mvSL; rfl)
    | (apply r_mvA; rfl)
    | (apply r_mvT; rfl)
    | (apply r_mvF; rfl)
    | (apply r_mvD; rfl)
    | (apply r_ldL; rfl; rfl; rfl)
    | (apply r_lss; rfl; rfl; (first | (apply decide_eq_true; omega) | (apply decide_eq_false; omega) | rfl))
    | (apply r_add; rfl; rfl; rfl; omega)
    | (apply r_pickT; rfl)
    | (apply r_pickF; rfl)
    | (apply r_lenD; rfl)
    | (apply r_lenL; rfl)
    | (apply r_len0; rfl)
    | (apply r_gT; rfl)
    | (apply r_gF'; rfl; rfl)
    | (apply r_gN'; rfl)
    | ((apply r_gS (o := default); rfl) <;> (intro h; try simp only [decide_eq_true_eq, decide_eq_false_iff_not, Bool.not_eq_true, Bool.not_eq_false] at h))
    | (apply r_stL; rfl; rfl; rfl; rfl; (first | rfl | (simp only [z_nil, z_add] <;> rfl)); rfl; rfl)
    | (apply r_p; rfl)
    | (apply r_nilK)
    | (apply r_nil)
    | (apply k_V; rfl)
    | (apply k_P; rfl)
    | (apply k_PL; rfl)
    | (apply k_S; rfl)
    | (apply k_SL; rfl)
    | (apply k_A; rfl)
    | (apply k_T; rfl)
    | (apply k_F; rfl)
    | (apply k_D; rfl; rotate_left; rfl)
    | (apply k_nil)
    | (apply e_ret (vs := [.d (.val _)]); rfl)
    | (apply e_ret; rfl)
    | (apply e_ret' (vs := [.d (.val _)]); rfl)
    | (apply e_ret'; rfl)
    | (apply w_seq)
    | (apply w_ops; ((conv => lhs; simp only [Nat.reduceAdd]) <;> rfl))
    | (apply w_condT; rfl)
    | (apply w_condF; rfl)
    | ((apply w_condS; rfl) <;> (intro h; try simp only [decide_eq_true_eq, decide_eq_false_iff_not, Bool.not_eq_true, Bool.not_eq_false] at h))
    | (apply e_thenN)
    | (apply w_block)
    | (apply e_thenR)
    | (apply e_thenX)
    | (apply e_blkN)
    | (apply e_blkR)
    | (apply e_blkE)
    | (apply w_exit)
    | (apply w_ret)
    | (apply w_skip)
    | (apply e_blkE'; rfl))
    apply w_loopI (ι := Nat × List Bool) (S := fun q => ⟨((((Fr.nil.put 0 (.d (.sl (encB a) m))).put 1 (.d (.sl (encB b) m))).put 5 (.slL 50 0 m 1)).put 6 (.i i)).put 7 (.i q.1), rowsOf [(50, (encB q.2).map AV.d)], Frz.buts 200 [50], 200⟩) (m := fun q => m - q.1) (I := fun q => i + q.1 ≤ m ∧ Joined a b q.2 (fun i' k' => i' < i ∨ (i' = i ∧ k' < q.1))) (i0 := (0, p))
    · refine ⟨by dsimp only; omega, hj.1, fun n hn => ?_⟩
      rw [hj.2 n hn]
      dsimp only
      constructor
      · rintro ⟨i', k', h1, h2⟩; exact ⟨i', k', .inl h1, h2⟩
      · rintro ⟨i', k', h1 | h1, h2⟩
        · exact ⟨i', k', h1, h2⟩
        · omega
    · refine wkM [] [] rfl ?_ ?_ rfl ?_
      · intro p hp
        simp only [List.mem_cons, List.not_mem_nil, or_false] at hp
        rcases hp with rfl
        exact ⟨by omega, .inr ⟨rfl, _, rfl, .data encB_isD⟩⟩
      · intro q hq; simp only [List.mem_cons, List.not_mem_nil, or_false] at hq; rcases hq with rfl <;> rfl
      · dsimp only
        repeat' (first
    | exact FWk.nil
    | (apply FWk.i; rfl; (first | rfl | omega | (simp; done)))
    | (apply FWk.sl; rfl; rfl; rfl; rfl; omega; rfl)
    | (apply FWk.ptr; rfl; rfl; rfl; omega; rfl)
    | (apply FWk.d; rfl; rfl)
    | (apply FWk.a; rfl; rfl; rfl)
    | (apply FWk.slN; rfl; omega; rfl))
    rintro ⟨k, p2⟩ K2 ⟨hik, hj2⟩ hK2
    dsimp only at hik hj2 hK2 ⊢
    rcases Nat.lt_or_ge (i + k) m with hlk | hgk
    · have hpl : p2.length = m := hj2.1.trans ha
      have hgp : p2[i + k]? = some (p2.getD (i + k) false) := by rw [List.getD_eq_getElem?_getD, List.getElem?_eq_getElem (by omega)]; rfl
      have hga : a[i]? = some (a.getD i false) := by rw [List.getD_eq_getElem?_getD, List.getElem?_eq_getElem (by omega)]; rfl
      have hgb : b[k]? = some (b.getD k false) := by rw [List.getD_eq_getElem?_getD, List.getElem?_eq_getElem (by omega)]; rfl
      have fin : ∀ v fr C Z nx, v = (p2.getD (i + k) false || a.getD i false && b.getD k false) → Wk ⟨fr, C, Z, nx⟩ ⟨((((Fr.nil.put 0 (.d (.sl (encB a) m))).put 1 (.d (.sl (encB b) m))).put 5 (.slL 50 0 m 1)).put 6 (.i i)).put 7 (.i ((k + 1 : Nat) : Int)), rowsOf [(50, (encB (p2.set (i + k) v)).map AV.d)], Frz.buts 200 [50], 200⟩ → K2 ⟨fr, C, Z, nx⟩ := by
        intro v fr C Z nx hv hw
        refine hK2 (k + 1, p2.set (i + k) v) fr C Z nx ⟨by dsimp only; omega, by dsimp only; rw [List.length_set]; exact hj2.1, fun n hn => ?_⟩ (by dsimp only; omega) hw
        dsimp only
        rw [at_set n (by omega), hj2.2 n hn]
        have hv2 : v = true ↔ (At p2 (i + k) ∨ (At a i ∧ At b k)) := by
          rw [hv]; simp [At]
        rw [hv2]
        constructor
        · rintro (⟨rfl, h | ⟨h1, h2⟩⟩ | ⟨hne, i', k', h1, h2, h3⟩)
          · rw [hj2.2 _ hn] at h
            obtain ⟨i', k', h1, h2⟩ := h
            exact ⟨i', k', by omega, h2⟩
          · exact ⟨i, k, .inr ⟨rfl, by omega⟩, rfl, h1, h2⟩
          · exact ⟨i', k', by omega, h2, h3⟩
        · rintro ⟨i', k', h1, h2, h3, h4⟩
          by_cases hn2 : n = i + k
          · left
            refine ⟨hn2, ?_⟩
            by_cases he : i' = i
            · subst he
              have : k' = k := by omega
              subst this
              exact .inr ⟨h3, h4⟩
            · left
              rw [hj2.2 _ (by omega)]
              exact ⟨i', k', by omega, by omega, h3, h4⟩
          · exact .inr ⟨hn2, i', k', by omega, h2, h3, h4⟩
      generalize hv1 : p2.getD (i + k) false = v1 at hgp fin
      generalize a.getD i false = v2 at hga fin
      generalize b.getD k false = v3 at hgb fin
      cases v1 <;> cases v2
      all_goals
        repeat' (first
    | (apply r_mvV; rfl)
    | (apply r_mvP; rfl)
    | (apply r_mvPL; rfl)
    | (apply r_mvS; rfl)
    | (apply r_mvSL; rfl)
    | (apply r_mvA; rfl)
    | (apply r_mvT; rfl)
    | (apply r_mvF; rfl)
    | (apply r_mvD; rfl)
    | (apply r_ixL (j := i + k); rfl; ((conv => lhs; simp only [Nat.reduceAdd]) <;> rfl); omega)
    | (apply r_ldBL (j := i + k); rfl; rfl; exact hgp)
    | (apply r_ixB' (j := i); rfl; rfl; exact hlt; exact ha)
    | (apply r_ldB (j := i); rfl; exact hga)
    | (apply r_ixB' (j := k); rfl; rfl; omega; exact hb)
    | (apply r_ldB (j := k); rfl; exact hgb)
    | (apply r_stB (j := i + k); rfl; rfl; rfl; rfl; omega)
    | (apply r_ldL; rfl; rfl; rfl)
    | (apply r_lss; rfl; rfl; (first | (apply decide_eq_true; omega) | (apply decide_eq_false; omega) | rfl))
    | (apply r_add; rfl; rfl; rfl; omega)
    | (apply r_pickT; rfl)
    | (apply r_pickF; rfl)
    | (apply r_lenD; rfl)
    | (apply r_lenL; rfl)
    | (apply r_len0; rfl)
    | (apply r_gT; rfl)
    | (apply r_gF'; rfl; rfl)
    | (apply r_gN'; rfl)
    | ((apply r_gS (o := default); rfl) <;> (intro h; try simp only [decide_eq_true_eq, decide_eq_false_iff_not, Bool.not_eq_true, Bool.not_eq_false] at h))
    | (apply r_stL; rfl; rfl; rfl; rfl; (first | rfl | (simp only [z_nil, z_add] <;> rfl)); rfl; rfl)
    | (apply r_p; rfl)
    | (apply r_nilK)
    | (apply r_nil)
    | (apply k_V; rfl)
    | (apply k_P; rfl)
    | (apply k_PL; rfl)
    | (apply k_S; rfl)
    | (apply k_SL; rfl)
    | (apply k_A; rfl)
    | (apply k_T; rfl)
    | (apply k_F; rfl)
    | (apply k_D; rfl; rotate_left; rfl)
    | (apply k_nil)
    | (apply e_ret (vs := [.d (.val _)]); rfl)
    | (apply e_ret; rfl)
    | (apply e_ret' (vs := [.d (.val _)]); rfl)
    | (apply e_ret'; rfl)
    | (apply w_seq)
    | (apply w_ops; ((conv => lhs; simp only [Nat.reduceAdd]) <;> rfl))
    | (apply w_condT; rfl)
    | (apply w_condF; rfl)
    | ((apply w_condS; rfl) <;> (intro h; try simp only [decide_eq_true_eq, decide_eq_false_iff_not, Bool.not_eq_true, Bool.not_eq_false] at h))
    | (apply e_thenN)
    | (apply w_block)
    | (apply e_thenR)
    | (apply e_thenX)
    | (apply e_blkN)
    | (apply e_blkR)
    | (apply e_blkE)
    | (apply w_exit)
    | (apply w_ret)
    | (apply w_skip)
    | (apply e_blkE'; rfl))
        apply e_thenK
        refine fin _ _ _ _ _ (by first | rfl | simp) ?_
        refine wkM [] [] rfl ?_ ?_ rfl ?_
        · intro p hp
          simp only [List.mem_cons, List.not_mem_nil, or_false] at hp
          rcases hp with rfl
          exact ⟨by omega, .inr ⟨rfl, _, rfl, .data encB_isD⟩⟩
        · intro q hq; simp only [List.mem_cons, List.not_mem_nil, or_false] at hq; rcases hq with rfl <;> rfl
        · repeat' (first
    | exact FWk.nil
    | (apply FWk.i; rfl; (first | rfl | omega | (simp; done)))
    | (apply FWk.sl; rfl; rfl; rfl; rfl; omega; rfl)
    | (apply FWk.ptr; rfl; rfl; rfl; omega; rfl)
    | (apply FWk.d; rfl; rfl)
    | (apply FWk.a; rfl; rfl; rfl)
    | (apply FWk.slN; rfl; omega; rfl))
    · repeat' (first
    | (apply r_mvV; rfl)
    | (apply r_mvP; rfl)
    | (apply r_mvPL; rfl)
    | (apply r_mvS; rfl)
    | (apply r_mvSL; rfl)
    | (apply r_mvA; rfl)
    | (apply r_mvT; rfl)
    | (apply r_mvF; rfl)
    | (apply r_mvD; rfl)
    | (apply r_ldL; rfl; rfl; rfl)
    | (apply r_lss; rfl; rfl; (first | (apply decide_eq_true; omega) | (apply decide_eq_false; omega) | rfl))
    | (apply r_add; rfl; rfl; rfl; omega)
    | (apply r_pickT; rfl)
    | (apply r_pickF; rfl)
    | (apply r_lenD; rfl)
    | (apply r_lenL; rfl)
    | (apply r_len0; rfl)
    | (apply r_gT; rfl)
    | (apply r_gF'; rfl; rfl)
    | (apply r_gN'; rfl)
    | ((apply r_gS (o := default); rfl) <;> (intro h; try simp only [decide_eq_true_eq, decide_eq_false_iff_not, Bool.not_eq_true, Bool.not_eq_false] at h))
    | (apply r_stL; rfl; rfl; rfl; rfl; (first | rfl | (simp only [z_nil, z_add] <;> rfl)); rfl; rfl)
    | (apply r_p; rfl)
    | (apply r_nilK)
    | (apply r_nil)
    | (apply k_V; rfl)
    | (apply k_P; rfl)
    | (apply k_PL; rfl)
    | (apply k_S; rfl)
    | (apply k_SL; rfl)
    | (apply k_A; rfl)
    | (apply k_T; rfl)
    | (apply k_F; rfl)
    | (apply k_D; rfl; rotate_left; rfl)
    | (apply k_nil)
    | (apply e_ret (vs := [.d (.val _)]); rfl)
    | (apply e_ret; rfl)
    | (apply e_ret' (vs := [.d (.val _)]); rfl)
    | (apply e_ret'; rfl)
    | (apply w_seq)
    | (apply w_ops; ((conv => lhs; simp only [Nat.reduceAdd]) <;> rfl))
    | (apply w_condT; rfl)
    | (apply w_condF; rfl)
    | ((apply w_condS; rfl) <;> (intro h; try simp only [decide_eq_true_eq, decide_eq_false_iff_not, Bool.not_eq_true, Bool.not_eq_false] at h))
    | (apply e_thenN)
    | (apply w_block)
    | (apply e_thenR)
    | (apply e_thenX)
    | (apply e_blkN)
    | (apply e_blkR)
    | (apply e_blkE)
    | (apply w_exit)
    | (apply w_ret)
    | (apply w_skip)
    | (apply e_blkE'; rfl))
      apply e_thenK
      apply hK (i + 1, p2)
      · refine ⟨by dsimp only; omega, hj2.1, fun n hn => ?_⟩
        rw [hj2.2 n hn]
        dsimp only
        constructor
        · rintro ⟨i', k', h1, h2, h3, h4⟩; exact ⟨i', k', by omega, h2, h3, h4⟩
        · rintro ⟨i', k', h1, h2, h3, h4⟩
          have := h4.lt
          exact ⟨i', k', by omega, h2, h3, h4⟩
      · dsimp only; omega
      · refine wkM [] [] rfl ?_ ?_ rfl ?_
        · intro p hp
          simp only [List.mem_cons, List.not_mem_nil, or_false] at hp
          rcases hp with rfl
          exact ⟨by omega, .inr ⟨rfl, _, rfl, .data encB_isD⟩⟩
        · intro q hq; simp only [List.mem_cons, List.not_mem_nil, or_false] at hq; rcases hq with rfl <;> rfl
        · repeat' (first
    | exact FWk.nil
    | (apply FWk.i; rfl; (first | rfl | omega | (simp; done)))
    | (apply FWk.sl; rfl; rfl; rfl; rfl; omega; rfl)
    | (apply FWk.ptr; rfl; rfl; rfl; omega; rfl)
    | (apply FWk.d; rfl; rfl)
    | (apply FWk.a; rfl; rfl; rfl)
    | (apply FWk.slN; rfl; omega; rfl))
  · have e : p = joinB a b := by
      refine joinB_eq hj.1 fun n hn => ?_
      rw [hj.2 n hn]
      constructor
      · rintro ⟨i', k', h1, rfl, h3, h4⟩; exact ⟨i', by omega, h3, by rw [Nat.add_sub_cancel_left]; exact h4⟩
      · rintro ⟨i', h1, h3, h4⟩
        have := h3.lt
        exact ⟨i', n - i', by omega, by omega, h3, h4⟩
    repeat' (first
    | (apply r_mvV; rfl)
    | (apply r_mvP; rfl)
    | (apply r_mvPL; rfl)
    | (apply r_mvS; rfl)
    | (apply r_mvSL; rfl)
    | (apply r_mvA; rfl)
    | (apply r_mvT; rfl)
    | (apply r_mvF; rfl)
    | (apply r_mvD; rfl)
    | (apply r_ldL; rfl; rfl; rfl)
    | (apply r_lss; rfl; rfl; (first | (apply decide_eq_true; omega) | (apply decide_eq_false; omega) | rfl))
    | (apply r_add; rfl; rfl; rfl; omega)
    | (apply r_pickT; rfl)
    | (apply r_pickF; rfl)
    | (apply r_lenD; rfl)
    | (apply r_lenL; rfl)
    | (apply r_len0; rfl)
    | (apply r_gT; rfl)
    | (apply r_gF'; rfl; rfl)
    | (apply r_gN'; rfl)
    | ((apply r_gS (o := default); rfl) <;> (intro h; try simp only [decide_eq_true_eq, decide_eq_false_iff_not, Bool.not_eq_true, Bool.not_eq_false] at h))
    | (apply r_stL; rfl; rfl; rfl; rfl; (first | rfl | (simp only [z_nil, z_add] <;> rfl)); rfl; rfl)
    | (apply r_p; rfl)
    | (apply r_nilK)
    | (apply r_nil)
    | (apply k_V; rfl)
    | (apply k_P; rfl)
    | (apply k_PL; rfl)
    | (apply k_S; rfl)
    | (apply k_SL; rfl)
    | (apply k_A; rfl)
    | (apply k_T; rfl)
    | (apply k_F; rfl)
    | (apply k_D; rfl; rotate_left; rfl)
    | (apply k_nil)
    | (apply e_ret (vs := [.d (.val _)]); rfl)
    | (apply e_ret; rfl)
    | (apply e_ret' (vs := [.d (.val _)]); rfl)
    | (apply e_ret'; rfl)
    | (apply w_seq)
    | (apply w_ops; ((conv => lhs; simp only [Nat.reduceAdd]) <;> rfl))
    | (apply w_condT; rfl)
    | (apply w_condF; rfl)
    | ((apply w_condS; rfl) <;> (intro h; try simp only [decide_eq_true_eq, decide_eq_false_iff_not, Bool.not_eq_true, Bool.not_eq_false] at h))
    | (apply e_thenN)
    | (apply w_block)
    | (apply e_thenR)
    | (apply e_thenX)
    | (apply e_blkN)
    | (apply e_blkR)
    | (apply e_blkE)
    | (apply w_exit)
    | (apply w_ret)
    | (apply w_skip)
    | (apply e_blkE'; rfl))
    rcases Nat.eq_zero_or_pos m with h0 | h0
    · subst h0
      have hpe : p = [] := List.length_eq_zero_iff.1 (hj.1.trans ha)
      rw [← e, hpe]
      exact .data _ rfl
    · rw [← e]
      exact retSB rfl (hj.1.trans ha)
end Go.Sv
namespace Go.Sv
open Go Go.Proofs
def x49 : XC := (.seq (.ops 2 [
    (0, ⟨(some 2), none, .box (.t 0)⟩),
    (1, ⟨(some 4), none, .mv (.k (.d (.val (.slice none 0 0))))⟩)] (some [1, 2])) (.seq (.ops 4 [
    (0, ⟨(some 15), none, .mv (.t 1)⟩),
    (1, ⟨(some 16), none, .arith .add (.t 15) (.k (.d (.val (.int .i64 1))))⟩),
    (2, ⟨(some 17), none, .mks [(.bool false)] 1 (.t 16) (.t 16)⟩),
    (3, ⟨(some 5), none, .mv (.t 17)⟩)] (some [1, 2, 5])) (.seq (.seq (.ops 2 [
    (0, ⟨(some 18), none, .fadd 0 (.t 2)⟩),
    (1, ⟨(some 19), none, .load none (.t 18)⟩)] (some [1, 2, 5, 19])) (.block 0 (.seq (.ops 2 [
    (0, ⟨(some 21), none, .arith .eql (.t 19) (.k (.d (.val (.int .i64 1))))⟩),
    (1, ⟨(some 20), none, .mv (.t 21)⟩)] (some [1, 2, 5, 19, 20])) (.cond (.t 20) (.ops 3 [
    (0, ⟨(some 22), none, .mv (.t 5)⟩),
    (1, ⟨(some 23), none, .idxS 1 (.t 22) (.k (.d (.val (.int .i64 0))))⟩),
    (2, ⟨none, none, .store 1 (.t 23) (.k (.d (.val (.bool true))))⟩)] (some [5])) (.seq (.ops 2 [
    (0, ⟨(some 25), none, .arith .eql (.t 19) (.k (.d (.val (.int .i64 2))))⟩),
    (1, ⟨(some 24), none, .mv (.t 25)⟩)] (some [1, 2, 5, 19, 24])) (.cond (.t 24) (.seq (.ops 2 [
    (0, ⟨(some 26), none, .mv (.t 1)⟩),
    (1, ⟨(some 27), none, .arith .geq (.t 26) (.k (.d (.val (.int .i64 1))))⟩)] (some [2, 5, 27])) (.cond (.t 27) (.ops 7 [
    (0, ⟨(some 28), none, .mv (.t 5)⟩),
    (1, ⟨(some 29), none, .fadd 1 (.t 2)⟩),
    (2, ⟨(some 30), none, .load (some 4) (.t 29)⟩),
    (3, ⟨(some 31), none, .build [(.int .u64 0), (.int .u64 0), (.int .u64 0), (.int .u64 0)] []⟩),
    (4, ⟨(some 32), none, .eqAgg 4 true (.t 30) (.t 31)⟩),
    (5, ⟨(some 33), none, .idxS 1 (.t 28) (.k (.d (.val (.int .i64 1))))⟩),
    (6, ⟨none, none, .store 1 (.t 33) (.t 32)⟩)] (some [5])) .skip)) (.seq (.ops 2 [
    (0, ⟨(some 35), none, .arith .eql (.t 19) (.k (.d (.val (.int .i64 3))))⟩),
    (1, ⟨(some 34), none, .mv (.t 35)⟩)] (some [1, 2, 5, 19, 34])) (.cond (.t 34) (.seq (.ops 3 [
    (0, ⟨(some 36), none, .mv (.t 5)⟩),
    (1, ⟨(some 37), none, .idxS 1 (.t 36) (.k (.d (.val (.int .i64 0))))⟩),
    (2, ⟨none, none, .store 1 (.t 37) (.k (.d (.val (.bool true))))⟩)] (some [1, 2, 5])) (.seq (.ops 1 [
    (0, ⟨(some 6), none, .mv (.k (.d (.val (.int .i64 0))))⟩)] (some [1, 2, 5, 6])) (.block 1 (.loop (.seq (.seq (.ops 5 [
    (0, ⟨(some 38), none, .mv (.t 6)⟩),
    (1, ⟨(some 39), none, .fadd 7 (.t 2)⟩),
    (2, ⟨(some 40), none, .load none (.t 39)⟩),
    (3, ⟨(some 41), none, .lenS (.t 40)⟩),
    (4, ⟨(some 42), none, .arith .lss (.t 38) (.t 41)⟩)] (some [1, 2, 5, 6, 42])) (.cond (.t 42) .skip (.exit 1))) (.seq (.block 2 (.ops 10 [
    (0, ⟨(some 45), none, .mv (.t 5)⟩),
    (1, ⟨(some 46), none, .fadd 7 (.t 2)⟩),
    (2, ⟨(some 47), none, .load none (.t 46)⟩),
    (3, ⟨(some 48), none, .mv (.t 6)⟩),
    (4, ⟨(some 49), none, .idxS 8 (.t 47) (.t 48)⟩),
    (5, ⟨(some 50), none, .load (some 8) (.t 49)⟩),
    (6, ⟨(some 51), none, .mv (.t 1)⟩),
    (7, ⟨(some 52), none, .call 49 [(.t 50), (.t 51)] none false⟩),
    (8, ⟨(some 53), none, .call 98 [(.t 45), (.t 52)] none false⟩),
    (9, ⟨(some 5), none, .mv (.t 53)⟩)] (some [1, 2, 5, 6]))) (.ops 3 [
    (0, ⟨(some 43), none, .mv (.t 6)⟩),
    (1, ⟨(some 44), none, .arith .add (.t 43) (.k (.d (.val (.int .i64 1))))⟩),
    (2, ⟨(some 6), none, .mv (.t 44)⟩)] (some [1, 2, 5, 6])))))))) (.seq (.ops 2 [
    (0, ⟨(some 55), none, .arith .eql (.t 19) (.k (.d (.val (.int .i64 4))))⟩),
    (1, ⟨(some 54), none, .mv (.t 55)⟩)] (some [1, 2, 5, 19, 54])) (.cond (.t 54) (.seq (.ops 1 [
    (0, ⟨(some 7), none, .mv (.k (.d (.val (.int .i64 0))))⟩)] (some [1, 2, 5, 7])) (.block 3 (.loop (.seq (.seq (.ops 5 [
    (0, ⟨(some 56), none, .mv (.t 7)⟩),
    (1, ⟨(some 57), none, .fadd 7 (.t 2)⟩),
    (2, ⟨(some 58), none, .load none (.t 57)⟩),
    (3, ⟨(some 59), none, .lenS (.t 58)⟩),
    (4, ⟨(some 60), none, .arith .lss (.t 56) (.t 59)⟩)] (some [1, 2, 5, 7, 60])) (.cond (.t 60) .skip (.exit 3))) (.seq (.block 4 (.seq (.ops 8 [
    (0, ⟨(some 63), none, .fadd 7 (.t 2)⟩),
    (1, ⟨(some 64), none, .load none (.t 63)⟩),
    (2, ⟨(some 65), none, .mv (.t 7)⟩),
    (3, ⟨(some 66), none, .idxS 8 (.t 64) (.t 65)⟩),
    (4, ⟨(some 67), none, .load (some 8) (.t 66)⟩),
    (5, ⟨(some 68), none, .mv (.t 1)⟩),
    (6, ⟨(some 69), none, .call 49 [(.t 67), (.t 68)] none false⟩),
    (7, ⟨(some 8), none, .mv (.t 69)⟩)] (some [1, 2, 5, 7, 8])) (.seq (.ops 1 [
    (0, ⟨(some 9), none, .mv (.k (.d (.val (.int .i64 0))))⟩)] (some [1, 2, 5, 7, 8, 9])) (.block 5 (.loop (.seq (.seq (.ops 3 [
    (0, ⟨(some 70), none, .mv (.t 9)⟩),
    (1, ⟨(some 71), none, .mv (.t 1)⟩),
    (2, ⟨(some 72), none, .arith .leq (.t 70) (.t 71)⟩)] (some [1, 2, 5, 7, 8, 9, 72])) (.cond (.t 72) .skip (.exit 5))) (.seq (.block 6 (.ops 14 [
    (0, ⟨(some 75), none, .mv (.t 5)⟩),
    (1, ⟨(some 76), none, .mv (.t 9)⟩),
    (2, ⟨(some 77), none, .mv (.t 5)⟩),
    (3, ⟨(some 78), none, .mv (.t 9)⟩),
    (4, ⟨(some 79), none, .idxS 1 (.t 77) (.t 78)⟩),
    (5, ⟨(some 80), none, .load none (.t 79)⟩),
    (6, ⟨(some 81), none, .mv (.t 80)⟩),
    (7, ⟨(some 82), (some (81, false)), .mv (.t 8)⟩),
    (8, ⟨(some 83), (some (81, false)), .mv (.t 9)⟩),
    (9, ⟨(some 84), (some (81, false)), .idxS 1 (.t 82) (.t 83)⟩),
    (10, ⟨(some 85), (some (81, false)), .load none (.t 84)⟩),
    (11, ⟨(some 86), none, .pick (.t 81) (.k (.d (.val (.bool true)))) (.t 85)⟩),
    (12, ⟨(some 87), none, .idxS 1 (.t 75) (.t 76)⟩),
    (13, ⟨none, none, .store 1 (.t 87) (.t 86)⟩)] (some [1, 2, 5, 7, 8, 9]))) (.ops 3 [
    (0, ⟨(some 73), none, .mv (.t 9)⟩),
    (1, ⟨(some 74), none, .arith .add (.t 73) (.k (.d (.val (.int .i64 1))))⟩),
    (2, ⟨(some 9), none, .mv (.t 74)⟩)] (some [1, 2, 5, 7, 8, 9]))))))))) (.ops 3 [
    (0, ⟨(some 61), none, .mv (.t 7)⟩),
    (1, ⟨(some 62), none, .arith .add (.t 61) (.k (.d (.val (.int .i64 1))))⟩),
    (2, ⟨(some 7), none, .mv (.t 62)⟩)] (some [1, 2, 5, 7]))))))) (.seq (.ops 2 [
    (0, ⟨(some 89), none, .arith .eql (.t 19) (.k (.d (.val (.int .i64 5))))⟩),
    (1, ⟨(some 88), none, .mv (.t 89)⟩)] (some [1, 2, 5, 88])) (.cond (.t 88) (.seq (.ops 7 [
    (0, ⟨(some 90), none, .fadd 7 (.t 2)⟩),
    (1, ⟨(some 91), none, .load none (.t 90)⟩),
    (2, ⟨(some 92), none, .idxS 8 (.t 91) (.k (.d (.val (.int .i64 0))))⟩),
    (3, ⟨(some 93), none, .load (some 8) (.t 92)⟩),
    (4, ⟨(some 94), none, .mv (.t 1)⟩),
    (5, ⟨(some 95), none, .call 49 [(.t 93), (.t 94)] none false⟩),
    (6, ⟨(some 10), none, .mv (.t 95)⟩)] (some [1, 2, 5, 10])) (.seq (.ops 4 [
    (0, ⟨(some 96), none, .mv (.t 1)⟩),
    (1, ⟨(some 97), none, .arith .add (.t 96) (.k (.d (.val (.int .i64 1))))⟩),
    (2, ⟨(some 98), none, .mks [(.bool false)] 1 (.t 97) (.t 97)⟩),
    (3, ⟨(some 11), none, .mv (.t 98)⟩)] (some [1, 2, 5, 10, 11])) (.seq (.ops 3 [
    (0, ⟨(some 99), none, .mv (.t 11)⟩),
    (1, ⟨(some 100), none, .idxS 1 (.t 99) (.k (.d (.val (.int .i64 0))))⟩),
    (2, ⟨none, none, .store 1 (.t 100) (.k (.d (.val (.bool true))))⟩)] (some [1, 2, 5, 10, 11])) (.seq (.ops 3 [
    (0, ⟨(some 101), none, .fadd 6 (.t 2)⟩),
    (1, ⟨(some 102), none, .load none (.t 101)⟩),
    (2, ⟨(some 12), none, .mv (.t 102)⟩)] (some [1, 2, 5, 10, 11, 12])) (.seq (.seq (.ops 2 [
    (0, ⟨(some 103), none, .mv (.t 12)⟩),
    (1, ⟨(some 104), none, .arith .lss (.t 103) (.k (.d (.val (.int .i64 0))))⟩)] (some [1, 2, 5, 10, 11, 12, 104])) (.cond (.t 104) (.ops 5 [
    (0, ⟨(some 105), none, .fadd 5 (.t 2)⟩),
    (1, ⟨(some 106), none, .load none (.t 105)⟩),
    (2, ⟨(some 107), none, .mv (.t 1)⟩),
    (3, ⟨(some 108), none, .arith .add (.t 106) (.t 107)⟩),
    (4, ⟨(some 12), none, .mv (.t 108)⟩)] (some [1, 2, 5, 10, 11, 12])) .skip)) (.seq (.ops 1 [
    (0, ⟨(some 13), none, .mv (.k (.d (.val (.int .i64 0))))⟩)] (some [1, 2, 5, 10, 11, 12, 13])) (.block 7 (.loop (.seq (.seq (.ops 3 [
    (0, ⟨(some 109), none, .mv (.t 13)⟩),
    (1, ⟨(some 110), none, .mv (.t 12)⟩),
    (2, ⟨(some 111), none, .arith .leq (.t 109) (.t 110)⟩)] (some [1, 2, 5, 10, 11, 12, 13, 111])) (.cond (.t 111) .skip (.exit 7))) (.seq (.block 8 (.seq (.seq (.ops 4 [
    (0, ⟨(some 114), none, .mv (.t 13)⟩),
    (1, ⟨(some 115), none, .fadd 5 (.t 2)⟩),
    (2, ⟨(some 116), none, .load none (.t 115)⟩),
    (3, ⟨(some 117), none, .arith .geq (.t 114) (.t 116)⟩)] (some [1, 2, 5, 10, 11, 12, 13, 117])) (.cond (.t 117) (.seq (.ops 1 [
    (0, ⟨(some 14), none, .mv (.k (.d (.val (.int .i64 0))))⟩)] (some [1, 2, 5, 10, 11, 12, 13, 14])) (.block 9 (.loop (.seq (.seq (.ops 3 [
    (0, ⟨(some 118), none, .mv (.t 14)⟩),
    (1, ⟨(some 119), none, .mv (.t 1)⟩),
    (2, ⟨(some 120), none, .arith .leq (.t 118) (.t 119)⟩)] (some [1, 2, 5, 10, 11, 12, 13, 14, 120])) (.cond (.t 120) .skip (.exit 9))) (.seq (.block 10 (.ops 14 [
    (0, ⟨(some 123), none, .mv (.t 5)⟩),
    (1, ⟨(some 124), none, .mv (.t 14)⟩),
    (2, ⟨(some 125), none, .mv (.t 5)⟩),
    (3, ⟨(some 126), none, .mv (.t 14)⟩),
    (4, ⟨(some 127), none, .idxS 1 (.t 125) (.t 126)⟩),
    (5, ⟨(some 128), none, .load none (.t 127)⟩),
    (6, ⟨(some 129), none, .mv (.t 128)⟩),
    (7, ⟨(some 130), (some (129, false)), .mv (.t 11)⟩),
    (8, ⟨(some 131), (some (129, false)), .mv (.t 14)⟩),
    (9, ⟨(some 132), (some (129, false)), .idxS 1 (.t 130) (.t 131)⟩),
    (10, ⟨(some 133), (some (129, false)), .load none (.t 132)⟩),
    (11, ⟨(some 134), none, .pick (.t 129) (.k (.d (.val (.bool true)))) (.t 133)⟩),
    (12, ⟨(some 135), none, .idxS 1 (.t 123) (.t 124)⟩),
    (13, ⟨none, none, .store 1 (.t 135) (.t 134)⟩)] (some [1, 2, 5, 10, 11, 12, 13, 14]))) (.ops 3 [
    (0, ⟨(some 121), none, .mv (.t 14)⟩),
    (1, ⟨(some 122), none, .arith .add (.t 121) (.k (.d (.val (.int .i64 1))))⟩),
    (2, ⟨(some 14), none, .mv (.t 122)⟩)] (some [1, 2, 5, 10, 11, 12, 13, 14]))))))) .skip)) (.ops 4 [
    (0, ⟨(some 136), none, .mv (.t 11)⟩),
    (1, ⟨(some 137), none, .mv (.t 10)⟩),
    (2, ⟨(some 138), none, .call 98 [(.t 136), (.t 137)] none false⟩),
    (3, ⟨(some 11), none, .mv (.t 138)⟩)] (some [1, 2, 5, 10, 11, 12, 13])))) (.ops 3 [
    (0, ⟨(some 112), none, .mv (.t 13)⟩),
    (1, ⟨(some 113), none, .arith .add (.t 112) (.k (.d (.val (.int .i64 1))))⟩),
    (2, ⟨(some 13), none, .mv (.t 113)⟩)] (some [1, 2, 5, 10, 11, 12, 13])))))))))))) .skip)))))))))))) (.seq (.ops 2 [
    (0, ⟨(some 139), none, .mv (.t 5)⟩),
    (1, ⟨(some 4), none, .mv (.t 139)⟩)] (some [4])) .ret))))
def md49 : FuncId → Option Nat × Bool
  | _ => (none, false)
def od49 : Nat → List (List Nat) × List Nat × Option (List Nat)
  | 0 => ([], [], some [1, 2])
  | 1 => ([], [], some [1, 2, 5])
  | 2 => ([], [], some [1, 2, 5, 19])
  | 3 => ([], [], some [1, 2, 5, 19, 20])
  | 4 => ([], [], some [5])
  | 5 => ([], [], some [1, 2, 5, 19, 24])
  | 6 => ([], [], some [2, 5, 27])
  | 7 => ([], [], some [5])
  | 8 => ([], [], some [1, 2, 5, 19, 34])
  | 9 => ([], [], some [1, 2, 5])
  | 10 => ([], [], some [1, 2, 5, 6])
  | 11 => ([], [], some [1, 2, 5, 6, 42])
  | 12 => ([], [], some [1, 2, 5, 6])
  | 13 => ([], [], some [1, 2, 5, 6])
  | 14 => ([], [], some [1, 2, 5, 19, 54])
  | 15 => ([], [], some [1, 2, 5, 7])
  | 16 => ([], [], some [1, 2, 5, 7, 60])
  | 17 => ([], [], some [1, 2, 5, 7])
  | 18 => ([], [], some [1, 2, 5, 7, 8])
  | 19 => ([], [], some [1, 2, 5, 7, 8, 9])
  | 20 => ([], [], some [1, 2, 5, 7, 8, 9, 72])
  | 21 => ([], [], some [1, 2, 5, 7, 8, 9])
  | 22 => ([], [], some [1, 2, 5, 7, 8, 9])
  | 23 => ([], [], some [1, 2, 5, 88])
  | 24 => ([], [], some [1, 2, 5, 10])
  | 25 => ([], [], some [1, 2, 5, 10, 11])
  | 26 => ([], [], some [1, 2, 5, 10, 11])
  | 27 => ([], [], some [1, 2, 5, 10, 11, 12])
  | 28 => ([], [], some [1, 2, 5, 10, 11, 12, 104])
  | 29 => ([], [], some [1, 2, 5, 10, 11, 12])
  | 30 => ([], [], some [1, 2, 5, 10, 11, 12, 13])
  | 31 => ([], [], some [1, 2, 5, 10, 11, 12, 13, 111])
  | 32 => ([], [], some [1, 2, 5, 10, 11, 12, 13])
  | 33 => ([], [], some [1, 2, 5, 10, 11, 12, 13, 117])
  | 34 => ([], [], some [1, 2, 5, 10, 11, 12, 13, 14])
  | 35 => ([], [], some [1, 2, 5, 10, 11, 12, 13, 14, 120])
  | 36 => ([], [], some [1, 2, 5, 10, 11, 12, 13, 14])
  | 37 => ([], [], some [1, 2, 5, 10, 11, 12, 13, 14])
  | 38 => ([], [], some [1, 2, 5, 10, 11, 12, 13])
  | 39 => ([], [], some [4])
  | _ => ([], [], none)
theorem b49 {ags : List AV} {row : Option (List DV)} {r : AV} {row' nw : Option (List DV)} (hal : ags.length ≤ 140) (hrow : row'.isSome = true → row.isSome = true) (h : xwp Try.prog x49 (retK [.tmp 4] row.isSome r row' nw) (St.init ags row)) : Good Try.prog 49 ags row r row' nw :=
  good_of_body' (md := md49) (od := od49) Try.f49 (by kernel_rfl) (by kernel_rfl) (by kernel_rfl) (by kernel_rfl) (by kernel_rfl) hal hrow h

theorem catL_snoc (l : List T) (t : T) (w : List Nat) : catL (l ++ [t]) w ↔ ∃ u v, w = u ++ v ∧ catL l u ∧ L t v := by
  rw [catL_app]; simp only [catL_one]
theorem altL_snoc (l : List T) (t : T) (w : List Nat) : altL (l ++ [t]) w ↔ altL l w ∨ L t w := by
  rw [altL_app]; simp only [altL, or_false]
theorem powL_snoc (P : List Nat → Prop) (k : Nat) (w : List Nat) : powL P (k + 1) w ↔ ∃ u v, w = u ++ v ∧ powL P k u ∧ P v := by
  rw [powL_add]; simp only [powL_one]
def Ored (p q p2 : List Bool) (k : Nat) : Prop := p2.length = p.length ∧ ∀ n, At p2 n ↔ At p n ∨ (n < k ∧ At q n)
theorem Ored.zero (p q : List Bool) : Ored p q p 0 := ⟨rfl, fun n => ⟨.inl, fun h => h.elim id fun h => absurd h.1 (by omega)⟩⟩
theorem Ored.step {p q p2 : List Bool} {k : Nat} (h : Ored p q p2 k) (hk : k < p.length) : Ored p q (p2.set k (p2.getD k false || q.getD k false)) (k + 1) := by
  refine ⟨by rw [List.length_set]; exact h.1, fun n => ?_⟩
  rw [at_set n (by rw [h.1]; exact hk), h.2 n]
  have hv : (p2.getD k false || q.getD k false) = true ↔ At p2 k ∨ At q k := by simp [At]
  rw [hv, h.2 k]
  constructor
  · rintro (⟨rfl, (h1 | h1) | h1⟩ | ⟨h1, h2 | h2⟩)
    · exact .inl h1
    · exact .inr ⟨by omega, h1.2⟩
    · exact .inr ⟨by omega, h1⟩
    · exact .inl h2
    · exact .inr ⟨by omega, h2.2⟩
  · rintro (h1 | ⟨h1, h2⟩)
    · by_cases e : n = k
      · subst e; exact .inl ⟨rfl, .inl (.inl h1)⟩
      · exact .inr ⟨e, .inl h1⟩
    · by_cases e : n = k
      · subst e; exact .inl ⟨rfl, .inr h2⟩
      · exact .inr ⟨e, .inr ⟨by omega, h2⟩⟩
set_option maxRecDepth 100000
set_option maxHeartbeats 4000000
attribute [local irreducible] W E R KP thenK blockK retK Good xwp aRun
theorem len49_good : ∀ (n : Nat) (t : T), t.cnt ≤ n → n ≤ 1000000 → okT t → ∀ m : Nat, m ≤ 1000 → Good Try.prog 49 [nodeA t, .i m] none (.d (.sl (encB (lenS (L t) m)) (m + 1))) none none := by
  intro n
  induction n with
  | zero => intro t ht; have := cnt_pos t; omega
  | succ n ih =>
  intro t ht hc hok m hm
  have hS := okT_S hok
  obtain ⟨k, a, b, c, d, mn, mx, subs⟩ := t
  have hR := okT_R hok
  have hoks := okT_subs hok
  have hpl := okT_plain hok
  have ih' : ∀ i (h : i < subs.length), Good Try.prog 49 [nodeA subs[i], .i m] none (.d (.sl (encB (lenS (L subs[i]) m)) (m + 1))) none none := by
    intro i h
    refine ih _ ?_ (by omega) (okL_get subs i h hoks) m hm
    have := cntL_get subs i h
    simp only [T.cnt] at ht
    omega
  have hlen : subs.length ≤ 1000000 := by
    have := cntL_len subs
    simp only [T.cnt] at ht
    omega
  have e0 : nodeA (.node k a b c d mn mx subs) = .agg [.i k, .d (.val (.int .u64 a)), .d (.val (.int .u64 b)), .d (.val (.int .u64 c)), .d (.val (.int .u64 d)), .i mn, .i mx, .d (.sl (encL subs) subs.length)] := rfl
  have hkind := (plainT_kind hpl).1
  have hk5 : k = 5 → ∃ u, subs = [u] := fun h5 => by subst h5; exact plainT_5 hpl
  have hr0 : (List.replicate (m + 1) false).length = m + 1 := List.length_replicate
  clear ih ht hok hoks hpl
  rw [e0]
  by_cases h1 : k = 1
  · have e : (List.replicate (m + 1) false).set 0 true = lenS (L (.node k a b c d mn mx subs)) m := by
      refine lenS_eq (by simp) fun j hj => ?_
      rw [at_set j (by simp)]
      subst h1
      simp only [L_k1]
      constructor
      · rintro (⟨rfl, _⟩ | ⟨_, h⟩)
        · exact ⟨[], rfl, rfl⟩
        · exact absurd h (at_rep _ _)
      · rintro ⟨w, rfl, h⟩; exact .inl ⟨h.symm, by simp⟩
    rw [← e]
    refine b49 (by simp) (by simp) (w_init ?_)
    unfold x49
    repeat' (first
    | (apply r_mvV; rfl)
    | (apply r_mvP; rfl)
    | (apply r_mvPL; rfl)
    | (apply r_mvS; rfl)
    | (apply r_mvSL; rfl)
    | (apply r_mvA; rfl)
    | (apply r_mvT; rfl)
    | (apply r_mvF; rfl)
    | (apply r_mvD; rfl)
    | (apply r_faddD; rfl)
    | (apply r_faddL; rfl)
    | (apply r_l; apply ld_kind; assumption; rfl)
    | (apply r_l; apply ld_mn; assumption; rfl)
    | (apply r_l; apply ld_mx; assumption; rfl)
    | (apply r_l; apply ld_subs; assumption; rfl)
    | (apply r_l; apply ld_set; assumption; rfl)
    | (apply r_l; apply ld_node; assumption; rfl)
    | (apply r_l; apply ld_kind'; assumption; rfl)
    | (apply r_l; apply ld_mn'; assumption; rfl)
    | (apply r_l; apply ld_mx'; assumption; rfl)
    | (apply r_l; apply ld_subs'; assumption; rfl)
    | (apply r_l; apply ld_node'; assumption; rfl)
    | (apply r_mksB (m := m + 1); rfl; rfl; ((conv => lhs; simp only [Nat.reduceAdd]) <;> rfl); omega; omega)
    | (apply r_ixL (j := 0); rfl; rfl; omega)
    | (apply r_stB (j := 0); rfl; rfl; rfl; rfl; omega)
    | (apply r_ldL; rfl; rfl; rfl)
    | (apply r_eql; rfl; rfl; (first | (apply decide_eq_true; omega) | (apply decide_eq_false; omega) | rfl))
    | (apply r_lss; rfl; rfl; (first | (apply decide_eq_true; omega) | (apply decide_eq_false; omega) | rfl))
    | (apply r_leq; rfl; rfl; (first | (apply decide_eq_true; omega) | (apply decide_eq_false; omega) | rfl))
    | (apply r_geq; rfl; rfl; (first | (apply decide_eq_true; omega) | (apply decide_eq_false; omega) | rfl))
    | (apply r_add; rfl; rfl; rfl; omega)
    | (apply r_pickT; rfl)
    | (apply r_pickF; rfl)
    | (apply r_lenD; rfl)
    | (apply r_lenL; rfl)
    | (apply r_len0; rfl)
    | (apply r_gT; rfl)
    | (apply r_gF'; rfl; rfl)
    | (apply r_gN'; rfl)
    | ((apply r_gS (o := default); rfl) <;> (intro h; try simp only [decide_eq_true_eq, decide_eq_false_iff_not, Bool.not_eq_true, Bool.not_eq_false] at h))
    | (apply r_box; ((conv => lhs; simp only [Nat.reduceAdd]) <;> rfl); rfl; rfl; rfl)
    | (apply r_stL; rfl; rfl; rfl; rfl; (first | rfl | (simp only [z_nil, z_add] <;> rfl)); rfl; rfl)
    | (apply r_p; rfl)
    | (apply r_nilK)
    | (apply r_nil)
    | (apply k_V; rfl)
    | (apply k_P; rfl)
    | (apply k_PL; rfl)
    | (apply k_S; rfl)
    | (apply k_SL; rfl)
    | (apply k_A; rfl)
    | (apply k_T; rfl)
    | (apply k_F; rfl)
    | (apply k_D; rfl; rotate_left; rfl)
    | (apply k_nil)
    | (apply e_ret (vs := [.d (.val _)]); rfl)
    | (apply e_ret; rfl)
    | (apply e_ret' (vs := [.d (.val _)]); rfl)
    | (apply e_ret'; rfl)
    | (apply w_seq)
    | (apply w_ops; ((conv => lhs; simp only [Nat.reduceAdd]) <;> rfl))
    | (apply w_condT; rfl)
    | (apply w_condF; rfl)
    | ((apply w_condS; rfl) <;> (intro h; try simp only [decide_eq_true_eq, decide_eq_false_iff_not, Bool.not_eq_true, Bool.not_eq_false] at h))
    | (apply e_thenN)
    | (apply w_block)
    | (apply e_thenR)
    | (apply e_thenX)
    | (apply e_blkN)
    | (apply e_blkR)
    | (apply e_blkE)
    | (apply w_exit)
    | (apply w_ret)
    | (apply w_skip)
    | (apply e_blkE'; rfl))
    exact retSB rfl (by simp)
  by_cases h2 : k = 2
  · by_cases hm1 : 1 ≤ m
    · have e : (List.replicate (m + 1) false).set 1 (!isZero a b c d) = lenS (L (.node k a b c d mn mx subs)) m := by
        refine lenS_eq (by simp) fun j hj => ?_
        rw [at_set j (by simp; omega)]
        subst h2
        simp only [L_k2]
        have hz := zero_iff hS.1 hS.2.1 hS.2.2.1 hS.2.2.2
        constructor
        · rintro (⟨rfl, h⟩ | ⟨_, h⟩)
          · have hz2 : ¬ ∀ x, x < 256 → inG a b c d x = false := fun h3 => by rw [hz.2 h3] at h; cases h
            have : ∃ x, inG a b c d x = true := Classical.byContradiction fun hc => hz2 fun x _ => by
              cases e : inG a b c d x with
              | false => rfl
              | true => exact absurd ⟨x, e⟩ hc
            obtain ⟨x, hx⟩ := this
            exact ⟨[x], ⟨x, rfl, hx⟩, rfl⟩
          · exact absurd h (at_rep _ _)
        · rintro ⟨w, ⟨x, rfl, hx⟩, h⟩
          refine .inl ⟨h.symm, ?_⟩
          cases e : isZero a b c d with
          | false => rfl
          | true => rw [hz.1 e x (inG_lt hx)] at hx; cases hx
      rw [← e]
      refine b49 (by simp) (by simp) (w_init ?_)
      unfold x49
      repeat' (first
    | (apply r_mvV; rfl)
    | (apply r_mvP; rfl)
    | (apply r_mvPL; rfl)
    | (apply r_mvS; rfl)
    | (apply r_mvSL; rfl)
    | (apply r_mvA; rfl)
    | (apply r_mvT; rfl)
    | (apply r_mvF; rfl)
    | (apply r_mvD; rfl)
    | (apply r_faddD; rfl)
    | (apply r_faddL; rfl)
    | (apply r_l; apply ld_kind; assumption; rfl)
    | (apply r_l; apply ld_mn; assumption; rfl)
    | (apply r_l; apply ld_mx; assumption; rfl)
    | (apply r_l; apply ld_subs; assumption; rfl)
    | (apply r_l; apply ld_set; assumption; rfl)
    | (apply r_l; apply ld_node; assumption; rfl)
    | (apply r_l; apply ld_kind'; assumption; rfl)
    | (apply r_l; apply ld_mn'; assumption; rfl)
    | (apply r_l; apply ld_mx'; assumption; rfl)
    | (apply r_l; apply ld_subs'; assumption; rfl)
    | (apply r_l; apply ld_node'; assumption; rfl)
    | (apply r_mksB (m := m + 1); rfl; rfl; ((conv => lhs; simp only [Nat.reduceAdd]) <;> rfl); omega; omega)
    | (apply r_ldL (v := .agg [.d (.val (.int .u64 a)), .d (.val (.int .u64 b)), .d (.val (.int .u64 c)), .d (.val (.int .u64 d))]); rfl; rfl; rfl)
    | (apply r_p (v := .agg [.d (.val (.int .u64 0)), .d (.val (.int .u64 0)), .d (.val (.int .u64 0)), .d (.val (.int .u64 0))]); rfl)
    | (apply r_eqX (r := !isZero a b c d); rfl; rfl; rfl)
    | (apply r_ixL (j := 1); rfl; rfl; omega)
    | (apply r_stB (j := 1); rfl; rfl; rfl; rfl; omega)
    | (apply r_ldL; rfl; rfl; rfl)
    | (apply r_eql; rfl; rfl; (first | (apply decide_eq_true; omega) | (apply decide_eq_false; omega) | rfl))
    | (apply r_lss; rfl; rfl; (first | (apply decide_eq_true; omega) | (apply decide_eq_false; omega) | rfl))
    | (apply r_leq; rfl; rfl; (first | (apply decide_eq_true; omega) | (apply decide_eq_false; omega) | rfl))
    | (apply r_geq; rfl; rfl; (first | (apply decide_eq_true; omega) | (apply decide_eq_false; omega) | rfl))
    | (apply r_add; rfl; rfl; rfl; omega)
    | (apply r_pickT; rfl)
    | (apply r_pickF; rfl)
    | (apply r_lenD; rfl)
    | (apply r_lenL; rfl)
    | (apply r_len0; rfl)
    | (apply r_gT; rfl)
    | (apply r_gF'; rfl; rfl)
    | (apply r_gN'; rfl)
    | ((apply r_gS (o := default); rfl) <;> (intro h; try simp only [decide_eq_true_eq, decide_eq_false_iff_not, Bool.not_eq_true, Bool.not_eq_false] at h))
    | (apply r_box; ((conv => lhs; simp only [Nat.reduceAdd]) <;> rfl); rfl; rfl; rfl)
    | (apply r_stL; rfl; rfl; rfl; rfl; (first | rfl | (simp only [z_nil, z_add] <;> rfl)); rfl; rfl)
    | (apply r_p; rfl)
    | (apply r_nilK)
    | (apply r_nil)
    | (apply k_V; rfl)
    | (apply k_P; rfl)
    | (apply k_PL; rfl)
    | (apply k_S; rfl)
    | (apply k_SL; rfl)
    | (apply k_A; rfl)
    | (apply k_T; rfl)
    | (apply k_F; rfl)
    | (apply k_D; rfl; rotate_left; rfl)
    | (apply k_nil)
    | (apply e_ret (vs := [.d (.val _)]); rfl)
    | (apply e_ret; rfl)
    | (apply e_ret' (vs := [.d (.val _)]); rfl)
    | (apply e_ret'; rfl)
    | (apply w_seq)
    | (apply w_ops; ((conv => lhs; simp only [Nat.reduceAdd]) <;> rfl))
    | (apply w_condT; rfl)
    | (apply w_condF; rfl)
    | ((apply w_condS; rfl) <;> (intro h; try simp only [decide_eq_true_eq, decide_eq_false_iff_not, Bool.not_eq_true, Bool.not_eq_false] at h))
    | (apply e_thenN)
    | (apply w_block)
    | (apply e_thenR)
    | (apply e_thenX)
    | (apply e_blkN)
    | (apply e_blkR)
    | (apply e_blkE)
    | (apply w_exit)
    | (apply w_ret)
    | (apply w_skip)
    | (apply e_blkE'; rfl))
      exact retSB rfl (by simp)
    · have e : List.replicate (m + 1) false = lenS (L (.node k a b c d mn mx subs)) m := by
        refine lenS_eq (by simp) fun j hj => ?_
        subst h2
        simp only [L_k2]
        constructor
        · intro h; exact absurd h (at_rep _ _)
        · rintro ⟨w, ⟨x, rfl, hx⟩, h⟩; simp at h; omega
      rw [← e]
      refine b49 (by simp) (by simp) (w_init ?_)
      unfold x49
      repeat' (first
    | (apply r_mvV; rfl)
    | (apply r_mvP; rfl)
    | (apply r_mvPL; rfl)
    | (apply r_mvS; rfl)
    | (apply r_mvSL; rfl)
    | (apply r_mvA; rfl)
    | (apply r_mvT; rfl)
    | (apply r_mvF; rfl)
    | (apply r_mvD; rfl)
    | (apply r_faddD; rfl)
    | (apply r_faddL; rfl)
    | (apply r_l; apply ld_kind; assumption; rfl)
    | (apply r_l; apply ld_mn; assumption; rfl)
    | (apply r_l; apply ld_mx; assumption; rfl)
    | (apply r_l; apply ld_subs; assumption; rfl)
    | (apply r_l; apply ld_set; assumption; rfl)
    | (apply r_l; apply ld_node; assumption; rfl)
    | (apply r_l; apply ld_kind'; assumption; rfl)
    | (apply r_l; apply ld_mn'; assumption; rfl)
    | (apply r_l; apply ld_mx'; assumption; rfl)
    | (apply r_l; apply ld_subs'; assumption; rfl)
    | (apply r_l; apply ld_node'; assumption; rfl)
    | (apply r_mksB (m := m + 1); rfl; rfl; ((conv => lhs; simp only [Nat.reduceAdd]) <;> rfl); omega; omega)
    | (apply r_ldL; rfl; rfl; rfl)
    | (apply r_eql; rfl; rfl; (first | (apply decide_eq_true; omega) | (apply decide_eq_false; omega) | rfl))
    | (apply r_lss; rfl; rfl; (first | (apply decide_eq_true; omega) | (apply decide_eq_false; omega) | rfl))
    | (apply r_leq; rfl; rfl; (first | (apply decide_eq_true; omega) | (apply decide_eq_false; omega) | rfl))
    | (apply r_geq; rfl; rfl; (first | (apply decide_eq_true; omega) | (apply decide_eq_false; omega) | rfl))
    | (apply r_add; rfl; rfl; rfl; omega)
    | (apply r_pickT; rfl)
    | (apply r_pickF; rfl)
    | (apply r_lenD; rfl)
    | (apply r_lenL; rfl)
    | (apply r_len0; rfl)
    | (apply r_gT; rfl)
    | (apply r_gF'; rfl; rfl)
    | (apply r_gN'; rfl)
    | ((apply r_gS (o := default); rfl) <;> (intro h; try simp only [decide_eq_true_eq, decide_eq_false_iff_not, Bool.not_eq_true, Bool.not_eq_false] at h))
    | (apply r_box; ((conv => lhs; simp only [Nat.reduceAdd]) <;> rfl); rfl; rfl; rfl)
    | (apply r_stL; rfl; rfl; rfl; rfl; (first | rfl | (simp only [z_nil, z_add] <;> rfl)); rfl; rfl)
    | (apply r_p; rfl)
    | (apply r_nilK)
    | (apply r_nil)
    | (apply k_V; rfl)
    | (apply k_P; rfl)
    | (apply k_PL; rfl)
    | (apply k_S; rfl)
    | (apply k_SL; rfl)
    | (apply k_A; rfl)
    | (apply k_T; rfl)
    | (apply k_F; rfl)
    | (apply k_D; rfl; rotate_left; rfl)
    | (apply k_nil)
    | (apply e_ret (vs := [.d (.val _)]); rfl)
    | (apply e_ret; rfl)
    | (apply e_ret' (vs := [.d (.val _)]); rfl)
    | (apply e_ret'; rfl)
    | (apply w_seq)
    | (apply w_ops; ((conv => lhs; simp only [Nat.reduceAdd]) <;> rfl))
    | (apply w_condT; rfl)
    | (apply w_condF; rfl)
    | ((apply w_condS; rfl) <;> (intro h; try simp only [decide_eq_true_eq, decide_eq_false_iff_not, Bool.not_eq_true, Bool.not_eq_false] at h))
    | (apply e_thenN)
    | (apply w_block)
    | (apply e_thenR)
    | (apply e_thenX)
    | (apply e_blkN)
    | (apply e_blkR)
    | (apply e_blkE)
    | (apply w_exit)
    | (apply w_ret)
    | (apply w_skip)
    | (apply e_blkE'; rfl))
      exact retSB rfl (by simp)
  by_cases h3 : k = 3
  · have e : (List.replicate (m + 1) false).set 0 true = lenS (catL (subs.take 0)) m := by
      refine lenS_eq (by simp) fun j hj => ?_
      rw [at_set j (by simp)]
      simp only [List.take_zero, catL]
      constructor
      · rintro (⟨rfl, _⟩ | ⟨_, h⟩)
        · exact ⟨[], rfl, rfl⟩
        · exact absurd h (at_rep _ _)
      · rintro ⟨w, rfl, h⟩; exact .inl ⟨h.symm, by simp⟩
    refine b49 (by simp) (by simp) (w_init ?_)
    unfold x49
    repeat' (first
    | (apply r_mvV; rfl)
    | (apply r_mvP; rfl)
    | (apply r_mvPL; rfl)
    | (apply r_mvS; rfl)
    | (apply r_mvSL; rfl)
    | (apply r_mvA; rfl)
    | (apply r_mvT; rfl)
    | (apply r_mvF; rfl)
    | (apply r_mvD; rfl)
    | (apply r_faddD; rfl)
    | (apply r_faddL; rfl)
    | (apply r_l; apply ld_kind; assumption; rfl)
    | (apply r_l; apply ld_mn; assumption; rfl)
    | (apply r_l; apply ld_mx; assumption; rfl)
    | (apply r_l; apply ld_subs; assumption; rfl)
    | (apply r_l; apply ld_set; assumption; rfl)
    | (apply r_l; apply ld_node; assumption; rfl)
    | (apply r_l; apply ld_kind'; assumption; rfl)
    | (apply r_l; apply ld_mn'; assumption; rfl)
    | (apply r_l; apply ld_mx'; assumption; rfl)
    | (apply r_l; apply ld_subs'; assumption; rfl)
    | (apply r_l; apply ld_node'; assumption; rfl)
    | (apply r_mksB (m := m + 1); rfl; rfl; ((conv => lhs; simp only [Nat.reduceAdd]) <;> rfl); omega; omega)
    | (apply r_ixL (j := 0); rfl; rfl; omega)
    | (apply r_stB (j := 0); rfl; rfl; rfl; rfl; omega)
    | (apply r_ldL; rfl; rfl; rfl)
    | (apply r_eql; rfl; rfl; (first | (apply decide_eq_true; omega) | (apply decide_eq_false; omega) | rfl))
    | (apply r_lss; rfl; rfl; (first | (apply decide_eq_true; omega) | (apply decide_eq_false; omega) | rfl))
    | (apply r_leq; rfl; rfl; (first | (apply decide_eq_true; omega) | (apply decide_eq_false; omega) | rfl))
    | (apply r_geq; rfl; rfl; (first | (apply decide_eq_true; omega) | (apply decide_eq_false; omega) | rfl))
    | (apply r_add; rfl; rfl; rfl; omega)
    | (apply r_pickT; rfl)
    | (apply r_pickF; rfl)
    | (apply r_lenD; rfl)
    | (apply r_lenL; rfl)
    | (apply r_len0; rfl)
    | (apply r_gT; rfl)
    | (apply r_gF'; rfl; rfl)
    | (apply r_gN'; rfl)
    | ((apply r_gS (o := default); rfl) <;> (intro h; try simp only [decide_eq_true_eq, decide_eq_false_iff_not, Bool.not_eq_true, Bool.not_eq_false] at h))
    | (apply r_box; ((conv => lhs; simp only [Nat.reduceAdd]) <;> rfl); rfl; rfl; rfl)
    | (apply r_stL; rfl; rfl; rfl; rfl; (first | rfl | (simp only [z_nil, z_add] <;> rfl)); rfl; rfl)
    | (apply r_p; rfl)
    | (apply r_nilK)
    | (apply r_nil)
    | (apply k_V; rfl)
    | (apply k_P; rfl)
    | (apply k_PL; rfl)
    | (apply k_S; rfl)
    | (apply k_SL; rfl)
    | (apply k_A; rfl)
    | (apply k_T; rfl)
    | (apply k_F; rfl)
    | (apply k_D; rfl; rotate_left; rfl)
    | (apply k_nil)
    | (apply e_ret (vs := [.d (.val _)]); rfl)
    | (apply e_ret; rfl)
    | (apply e_ret' (vs := [.d (.val _)]); rfl)
    | (apply e_ret'; rfl)
    | (apply w_seq)
    | (apply w_ops; ((conv => lhs; simp only [Nat.reduceAdd]) <;> rfl))
    | (apply w_condT; rfl)
    | (apply w_condF; rfl)
    | ((apply w_condS; rfl) <;> (intro h; try simp only [decide_eq_true_eq, decide_eq_false_iff_not, Bool.not_eq_true, Bool.not_eq_false] at h))
    | (apply e_thenN)
    | (apply w_block)
    | (apply e_thenR)
    | (apply e_thenX)
    | (apply e_blkN)
    | (apply e_blkR)
    | (apply e_blkE)
    | (apply w_exit)
    | (apply w_ret)
    | (apply w_skip)
    | (apply e_blkE'; rfl))
    apply w_loopF (S := fun i : Nat => ⟨(((Fr.nil.put 1 (.i m)).put 2 (.ptrL 1 0)).put 5 (.d (.sl (encB (lenS (catL (subs.take i)) m)) (m + 1)))).put 6 (.i i), rowsOf [(1, [.i k, .d (.val (.int .u64 a)), .d (.val (.int .u64 b)), .d (.val (.int .u64 c)), .d (.val (.int .u64 d)), .i mn, .i mx, .d (.sl (encL subs) subs.length)])], Frz.buts 100 [], 100⟩) (m := fun i => subs.length - i) (I := fun i => i ≤ subs.length) (i0 := 0)
    · exact Nat.zero_le _
    · refine fzB (k := 5) (b := 5) (m := m + 1) (p := (List.replicate (m + 1) false).set 0 true) rfl rfl (by simp) (by omega) ?_
      rw [e]
      refine wkM [] [] rfl ?_ ?_ rfl ?_
      · intro p hp
        simp only [List.mem_cons, List.not_mem_nil, or_false] at hp
        rcases hp with rfl
        exact ⟨by omega, .inr ⟨rfl, _, rfl, .data rfl⟩⟩
      · intro q hq; simp at hq
      · repeat' (first
    | exact FWk.nil
    | (apply FWk.i; rfl; (first | rfl | omega | (simp; done)))
    | (apply FWk.sl; rfl; rfl; rfl; rfl; omega; rfl)
    | (apply FWk.ptr; rfl; rfl; rfl; omega; rfl)
    | (apply FWk.d; rfl; rfl)
    | (apply FWk.a; rfl; rfl; rfl)
    | (apply FWk.slN; rfl; omega; rfl))
    intro i K hi hK
    dsimp only
    rcases Nat.lt_or_ge i subs.length with hlt | hge
    · have hs := NodeAt.sub hlt
      have hg := ih' i hlt
      have hj := join98_good (lenS (catL (subs.take i)) m) (lenS (L subs[i]) m) (lenS_len _ _) (lenS_len _ _) (by omega)
      have ej : joinB (lenS (catL (subs.take i)) m) (lenS (L subs[i]) m) = lenS (catL (subs.take (i + 1))) m := by
        rw [joinB_lenS]
        refine lenS_congr (fun w => ?_) m
        rw [List.take_succ_eq_append_getElem hlt, catL_snoc]
      rw [ej] at hj
      have hna : [nodeA subs[i], .i m].all AV.nrm = true := by rw [List.all_cons, nodeA_nrm]; rfl
      repeat' (first
    | (apply r_mvV; rfl)
    | (apply r_mvP; rfl)
    | (apply r_mvPL; rfl)
    | (apply r_mvS; rfl)
    | (apply r_mvSL; rfl)
    | (apply r_mvA; rfl)
    | (apply r_mvT; rfl)
    | (apply r_mvF; rfl)
    | (apply r_mvD; rfl)
    | (apply r_faddD; rfl)
    | (apply r_faddL; rfl)
    | (apply r_l; apply ld_kind; assumption; rfl)
    | (apply r_l; apply ld_mn; assumption; rfl)
    | (apply r_l; apply ld_mx; assumption; rfl)
    | (apply r_l; apply ld_subs; assumption; rfl)
    | (apply r_l; apply ld_set; assumption; rfl)
    | (apply r_l; apply ld_node; assumption; rfl)
    | (apply r_l; apply ld_kind'; assumption; rfl)
    | (apply r_l; apply ld_mn'; assumption; rfl)
    | (apply r_l; apply ld_mx'; assumption; rfl)
    | (apply r_l; apply ld_subs'; assumption; rfl)
    | (apply r_l; apply ld_node'; assumption; rfl)
    | (apply r_p; apply ix_sub; rfl; rfl; omega)
    | (apply r_callA (ags := [nodeA subs[i], .i m]); rfl; exact hna; exact hg)
    | (apply r_callA; rfl; rfl; exact hj)
    | (apply r_ldL; rfl; rfl; rfl)
    | (apply r_eql; rfl; rfl; (first | (apply decide_eq_true; omega) | (apply decide_eq_false; omega) | rfl))
    | (apply r_lss; rfl; rfl; (first | (apply decide_eq_true; omega) | (apply decide_eq_false; omega) | rfl))
    | (apply r_leq; rfl; rfl; (first | (apply decide_eq_true; omega) | (apply decide_eq_false; omega) | rfl))
    | (apply r_geq; rfl; rfl; (first | (apply decide_eq_true; omega) | (apply decide_eq_false; omega) | rfl))
    | (apply r_add; rfl; rfl; rfl; omega)
    | (apply r_pickT; rfl)
    | (apply r_pickF; rfl)
    | (apply r_lenD; rfl)
    | (apply r_lenL; rfl)
    | (apply r_len0; rfl)
    | (apply r_gT; rfl)
    | (apply r_gF'; rfl; rfl)
    | (apply r_gN'; rfl)
    | ((apply r_gS (o := default); rfl) <;> (intro h; try simp only [decide_eq_true_eq, decide_eq_false_iff_not, Bool.not_eq_true, Bool.not_eq_false] at h))
    | (apply r_box; ((conv => lhs; simp only [Nat.reduceAdd]) <;> rfl); rfl; rfl; rfl)
    | (apply r_stL; rfl; rfl; rfl; rfl; (first | rfl | (simp only [z_nil, z_add] <;> rfl)); rfl; rfl)
    | (apply r_p; rfl)
    | (apply r_nilK)
    | (apply r_nil)
    | (apply k_V; rfl)
    | (apply k_P; rfl)
    | (apply k_PL; rfl)
    | (apply k_S; rfl)
    | (apply k_SL; rfl)
    | (apply k_A; rfl)
    | (apply k_T; rfl)
    | (apply k_F; rfl)
    | (apply k_D; rfl; rotate_left; rfl)
    | (apply k_nil)
    | (apply e_ret (vs := [.d (.val _)]); rfl)
    | (apply e_ret; rfl)
    | (apply e_ret' (vs := [.d (.val _)]); rfl)
    | (apply e_ret'; rfl)
    | (apply w_seq)
    | (apply w_ops; ((conv => lhs; simp only [Nat.reduceAdd]) <;> rfl))
    | (apply w_condT; rfl)
    | (apply w_condF; rfl)
    | ((apply w_condS; rfl) <;> (intro h; try simp only [decide_eq_true_eq, decide_eq_false_iff_not, Bool.not_eq_true, Bool.not_eq_false] at h))
    | (apply e_thenN)
    | (apply w_block)
    | (apply e_thenR)
    | (apply e_thenX)
    | (apply e_blkN)
    | (apply e_blkR)
    | (apply e_blkE)
    | (apply w_exit)
    | (apply w_ret)
    | (apply w_skip)
    | (apply e_blkE'; rfl))
      apply e_thenK
      apply hK (i + 1)
      · omega
      · omega
      · refine Wk.f (wkM [] [] rfl ?_ ?_ rfl ?_)
        · intro p hp
          simp only [List.mem_cons, List.not_mem_nil, or_false] at hp
          rcases hp with rfl
          exact ⟨by omega, .inr ⟨rfl, _, rfl, .data rfl⟩⟩
        · intro q hq; simp at hq
        · repeat' (first
    | exact FWk.nil
    | (apply FWk.i; rfl; (first | rfl | omega | (simp; done)))
    | (apply FWk.sl; rfl; rfl; rfl; rfl; omega; rfl)
    | (apply FWk.ptr; rfl; rfl; rfl; omega; rfl)
    | (apply FWk.d; rfl; rfl)
    | (apply FWk.a; rfl; rfl; rfl)
    | (apply FWk.slN; rfl; omega; rfl))
    · have ei : i = subs.length := by omega
      subst ei
      repeat' (first
    | (apply r_mvV; rfl)
    | (apply r_mvP; rfl)
    | (apply r_mvPL; rfl)
    | (apply r_mvS; rfl)
    | (apply r_mvSL; rfl)
    | (apply r_mvA; rfl)
    | (apply r_mvT; rfl)
    | (apply r_mvF; rfl)
    | (apply r_mvD; rfl)
    | (apply r_faddD; rfl)
    | (apply r_faddL; rfl)
    | (apply r_l; apply ld_kind; assumption; rfl)
    | (apply r_l; apply ld_mn; assumption; rfl)
    | (apply r_l; apply ld_mx; assumption; rfl)
    | (apply r_l; apply ld_subs; assumption; rfl)
    | (apply r_l; apply ld_set; assumption; rfl)
    | (apply r_l; apply ld_node; assumption; rfl)
    | (apply r_l; apply ld_kind'; assumption; rfl)
    | (apply r_l; apply ld_mn'; assumption; rfl)
    | (apply r_l; apply ld_mx'; assumption; rfl)
    | (apply r_l; apply ld_subs'; assumption; rfl)
    | (apply r_l; apply ld_node'; assumption; rfl)
    | (apply r_ldL; rfl; rfl; rfl)
    | (apply r_eql; rfl; rfl; (first | (apply decide_eq_true; omega) | (apply decide_eq_false; omega) | rfl))
    | (apply r_lss; rfl; rfl; (first | (apply decide_eq_true; omega) | (apply decide_eq_false; omega) | rfl))
    | (apply r_leq; rfl; rfl; (first | (apply decide_eq_true; omega) | (apply decide_eq_false; omega) | rfl))
    | (apply r_geq; rfl; rfl; (first | (apply decide_eq_true; omega) | (apply decide_eq_false; omega) | rfl))
    | (apply r_add; rfl; rfl; rfl; omega)
    | (apply r_pickT; rfl)
    | (apply r_pickF; rfl)
    | (apply r_lenD; rfl)
    | (apply r_lenL; rfl)
    | (apply r_len0; rfl)
    | (apply r_gT; rfl)
    | (apply r_gF'; rfl; rfl)
    | (apply r_gN'; rfl)
    | ((apply r_gS (o := default); rfl) <;> (intro h; try simp only [decide_eq_true_eq, decide_eq_false_iff_not, Bool.not_eq_true, Bool.not_eq_false] at h))
    | (apply r_box; ((conv => lhs; simp only [Nat.reduceAdd]) <;> rfl); rfl; rfl; rfl)
    | (apply r_stL; rfl; rfl; rfl; rfl; (first | rfl | (simp only [z_nil, z_add] <;> rfl)); rfl; rfl)
    | (apply r_p; rfl)
    | (apply r_nilK)
    | (apply r_nil)
    | (apply k_V; rfl)
    | (apply k_P; rfl)
    | (apply k_PL; rfl)
    | (apply k_S; rfl)
    | (apply k_SL; rfl)
    | (apply k_A; rfl)
    | (apply k_T; rfl)
    | (apply k_F; rfl)
    | (apply k_D; rfl; rotate_left; rfl)
    | (apply k_nil)
    | (apply e_ret (vs := [.d (.val _)]); rfl)
    | (apply e_ret; rfl)
    | (apply e_ret' (vs := [.d (.val _)]); rfl)
    | (apply e_ret'; rfl)
    | (apply w_seq)
    | (apply w_ops; ((conv => lhs; simp only [Nat.reduceAdd]) <;> rfl))
    | (apply w_condT; rfl)
    | (apply w_condF; rfl)
    | ((apply w_condS; rfl) <;> (intro h; try simp only [decide_eq_true_eq, decide_eq_false_iff_not, Bool.not_eq_true, Bool.not_eq_false] at h))
    | (apply e_thenN)
    | (apply w_block)
    | (apply e_thenR)
    | (apply e_thenX)
    | (apply e_blkN)
    | (apply e_blkR)
    | (apply e_blkE)
    | (apply w_exit)
    | (apply w_ret)
    | (apply w_skip)
    | (apply e_blkE'; rfl))
      refine retSD ?_
      rw [List.take_length]
      refine lenS_congr (fun w => ?_) m
      subst h3
      rw [L_k3]
  by_cases h4 : k = 4
  · have e : List.replicate (m + 1) false = lenS (altL (subs.take 0)) m := by
      refine lenS_eq (by simp) fun j hj => ?_
      simp only [List.take_zero, altL]
      constructor
      · intro h; exact absurd h (at_rep _ _)
      · rintro ⟨w, h, _⟩; exact h.elim
    refine b49 (by simp) (by simp) (w_init ?_)
    unfold x49
    repeat' (first
    | (apply r_mvV; rfl)
    | (apply r_mvP; rfl)
    | (apply r_mvPL; rfl)
    | (apply r_mvS; rfl)
    | (apply r_mvSL; rfl)
    | (apply r_mvA; rfl)
    | (apply r_mvT; rfl)
    | (apply r_mvF; rfl)
    | (apply r_mvD; rfl)
    | (apply r_faddD; rfl)
    | (apply r_faddL; rfl)
    | (apply r_l; apply ld_kind; assumption; rfl)
    | (apply r_l; apply ld_mn; assumption; rfl)
    | (apply r_l; apply ld_mx; assumption; rfl)
    | (apply r_l; apply ld_subs; assumption; rfl)
    | (apply r_l; apply ld_set; assumption; rfl)
    | (apply r_l; apply ld_node; assumption; rfl)
    | (apply r_l; apply ld_kind'; assumption; rfl)
    | (apply r_l; apply ld_mn'; assumption; rfl)
    | (apply r_l; apply ld_mx'; assumption; rfl)
    | (apply r_l; apply ld_subs'; assumption; rfl)
    | (apply r_l; apply ld_node'; assumption; rfl)
    | (apply r_mksB (m := m + 1); rfl; rfl; ((conv => lhs; simp only [Nat.reduceAdd]) <;> rfl); omega; omega)
    | (apply r_ldL; rfl; rfl; rfl)
    | (apply r_eql; rfl; rfl; (first | (apply decide_eq_true; omega) | (apply decide_eq_false; omega) | rfl))
    | (apply r_lss; rfl; rfl; (first | (apply decide_eq_true; omega) | (apply decide_eq_false; omega) | rfl))
    | (apply r_leq; rfl; rfl; (first | (apply decide_eq_true; omega) | (apply decide_eq_false; omega) | rfl))
    | (apply r_geq; rfl; rfl; (first | (apply decide_eq_true; omega) | (apply decide_eq_false; omega) | rfl))
    | (apply r_add; rfl; rfl; rfl; omega)
    | (apply r_pickT; rfl)
    | (apply r_pickF; rfl)
    | (apply r_lenD; rfl)
    | (apply r_lenL; rfl)
    | (apply r_len0; rfl)
    | (apply r_gT; rfl)
    | (apply r_gF'; rfl; rfl)
    | (apply r_gN'; rfl)
    | ((apply r_gS (o := default); rfl) <;> (intro h; try simp only [decide_eq_true_eq, decide_eq_false_iff_not, Bool.not_eq_true, Bool.not_eq_false] at h))
    | (apply r_box; ((conv => lhs; simp only [Nat.reduceAdd]) <;> rfl); rfl; rfl; rfl)
    | (apply r_stL; rfl; rfl; rfl; rfl; (first | rfl | (simp only [z_nil, z_add] <;> rfl)); rfl; rfl)
    | (apply r_p; rfl)
    | (apply r_nilK)
    | (apply r_nil)
    | (apply k_V; rfl)
    | (apply k_P; rfl)
    | (apply k_PL; rfl)
    | (apply k_S; rfl)
    | (apply k_SL; rfl)
    | (apply k_A; rfl)
    | (apply k_T; rfl)
    | (apply k_F; rfl)
    | (apply k_D; rfl; rotate_left; rfl)
    | (apply k_nil)
    | (apply e_ret (vs := [.d (.val _)]); rfl)
    | (apply e_ret; rfl)
    | (apply e_ret' (vs := [.d (.val _)]); rfl)
    | (apply e_ret'; rfl)
    | (apply w_seq)
    | (apply w_ops; ((conv => lhs; simp only [Nat.reduceAdd]) <;> rfl))
    | (apply w_condT; rfl)
    | (apply w_condF; rfl)
    | ((apply w_condS; rfl) <;> (intro h; try simp only [decide_eq_true_eq, decide_eq_false_iff_not, Bool.not_eq_true, Bool.not_eq_false] at h))
    | (apply e_thenN)
    | (apply w_block)
    | (apply e_thenR)
    | (apply e_thenX)
    | (apply e_blkN)
    | (apply e_blkR)
    | (apply e_blkE)
    | (apply w_exit)
    | (apply w_ret)
    | (apply w_skip)
    | (apply e_blkE'; rfl))
    apply w_loopI (S := fun i : Nat => ⟨(((Fr.nil.put 1 (.i m)).put 2 (.ptrL 1 0)).put 5 (.slL 50 0 (m + 1) 1)).put 7 (.i i), rowsOf [(1, [.i k, .d (.val (.int .u64 a)), .d (.val (.int .u64 b)), .d (.val (.int .u64 c)), .d (.val (.int .u64 d)), .i mn, .i mx, .d (.sl (encL subs) subs.length)]), (50, (encB (lenS (altL (subs.take i)) m)).map AV.d)], Frz.buts 100 [50], 100⟩) (m := fun i => subs.length - i) (I := fun i => i ≤ subs.length) (i0 := 0)
    · exact Nat.zero_le _
    · rw [← e]
      refine wkM [(50, 5)] [] rfl ?_ ?_ rfl ?_
      · intro p hp; simp only [List.mem_cons, List.not_mem_nil, or_false] at hp; rcases hp with rfl | rfl <;> first | exact ⟨by omega, .inr ⟨rfl, _, rfl, .data rfl⟩⟩ | exact ⟨by omega, .inr ⟨rfl, _, rfl, .data encB_isD⟩⟩
      · intro q hq; simp only [List.mem_cons, List.not_mem_nil, or_false] at hq; rcases hq with rfl <;> rfl
      · repeat' (first
    | exact FWk.nil
    | (apply FWk.i; rfl; (first | rfl | omega | (simp; done)))
    | (apply FWk.sl; rfl; rfl; rfl; rfl; omega; rfl)
    | (apply FWk.ptr; rfl; rfl; rfl; omega; rfl)
    | (apply FWk.d; rfl; rfl)
    | (apply FWk.a; rfl; rfl; rfl)
    | (apply FWk.slN; rfl; omega; rfl))
    intro i K hi hK
    dsimp only
    rcases Nat.lt_or_ge i subs.length with hlt | hge
    · have hs := NodeAt.sub hlt
      have hg := ih' i hlt
      have hna : [nodeA subs[i], .i m].all AV.nrm = true := by rw [List.all_cons, nodeA_nrm]; rfl
      have hfin : ∀ p2, Ored (lenS (altL (subs.take i)) m) (lenS (L subs[i]) m) p2 (m + 1) → p2 = lenS (altL (subs.take (i + 1))) m := by
        intro p2 h
        refine lenS_eq (h.1.trans (lenS_len _ _)) fun j hj => ?_
        rw [h.2 j, at_lenS, at_lenS, List.take_succ_eq_append_getElem hlt]
        simp only [altL_snoc]
        constructor
        · rintro (⟨_, w, hw, hl⟩ | ⟨_, _, w, hw, hl⟩)
          · exact ⟨w, .inl hw, hl⟩
          · exact ⟨w, .inr hw, hl⟩
        · rintro ⟨w, hw | hw, hl⟩
          · exact .inl ⟨hj, w, hw, hl⟩
          · exact .inr ⟨by omega, hj, w, hw, hl⟩
      have hql := lenS_len (L subs[i]) m
      have hpl := lenS_len (altL (subs.take i)) m
      generalize lenS (L subs[i]) m = q at hg hfin hql
      generalize lenS (altL (subs.take i)) m = p at hfin hpl ⊢
      repeat' (first
    | (apply r_mvV; rfl)
    | (apply r_mvP; rfl)
    | (apply r_mvPL; rfl)
    | (apply r_mvS; rfl)
    | (apply r_mvSL; rfl)
    | (apply r_mvA; rfl)
    | (apply r_mvT; rfl)
    | (apply r_mvF; rfl)
    | (apply r_mvD; rfl)
    | (apply r_faddD; rfl)
    | (apply r_faddL; rfl)
    | (apply r_l; apply ld_kind; assumption; rfl)
    | (apply r_l; apply ld_mn; assumption; rfl)
    | (apply r_l; apply ld_mx; assumption; rfl)
    | (apply r_l; apply ld_subs; assumption; rfl)
    | (apply r_l; apply ld_set; assumption; rfl)
    | (apply r_l; apply ld_node; assumption; rfl)
    | (apply r_l; apply ld_kind'; assumption; rfl)
    | (apply r_l; apply ld_mn'; assumption; rfl)
    | (apply r_l; apply ld_mx'; assumption; rfl)
    | (apply r_l; apply ld_subs'; assumption; rfl)
    | (apply r_l; apply ld_node'; assumption; rfl)
    | (apply r_p; apply ix_sub; rfl; rfl; omega)
    | (apply r_callA (ags := [nodeA subs[i], .i m]); rfl; exact hna; exact hg)
    | (apply r_ldL; rfl; rfl; rfl)
    | (apply r_eql; rfl; rfl; (first | (apply decide_eq_true; omega) | (apply decide_eq_false; omega) | rfl))
    | (apply r_lss; rfl; rfl; (first | (apply decide_eq_true; omega) | (apply decide_eq_false; omega) | rfl))
    | (apply r_leq; rfl; rfl; (first | (apply decide_eq_true; omega) | (apply decide_eq_false; omega) | rfl))
    | (apply r_geq; rfl; rfl; (first | (apply decide_eq_true; omega) | (apply decide_eq_false; omega) | rfl))
    | (apply r_add; rfl; rfl; rfl; omega)
    | (apply r_pickT; rfl)
    | (apply r_pickF; rfl)
    | (apply r_lenD; rfl)
    | (apply r_lenL; rfl)
    | (apply r_len0; rfl)
    | (apply r_gT; rfl)
    | (apply r_gF'; rfl; rfl)
    | (apply r_gN'; rfl)
    | ((apply r_gS (o := default); rfl) <;> (intro h; try simp only [decide_eq_true_eq, decide_eq_false_iff_not, Bool.not_eq_true, Bool.not_eq_false] at h))
    | (apply r_box; ((conv => lhs; simp only [Nat.reduceAdd]) <;> rfl); rfl; rfl; rfl)
    | (apply r_stL; rfl; rfl; rfl; rfl; (first | rfl | (simp only [z_nil, z_add] <;> rfl)); rfl; rfl)
    | (apply r_p; rfl)
    | (apply r_nilK)
    | (apply r_nil)
    | (apply k_V; rfl)
    | (apply k_P; rfl)
    | (apply k_PL; rfl)
    | (apply k_S; rfl)
    | (apply k_SL; rfl)
    | (apply k_A; rfl)
    | (apply k_T; rfl)
    | (apply k_F; rfl)
    | (apply k_D; rfl; rotate_left; rfl)
    | (apply k_nil)
    | (apply e_ret (vs := [.d (.val _)]); rfl)
    | (apply e_ret; rfl)
    | (apply e_ret' (vs := [.d (.val _)]); rfl)
    | (apply e_ret'; rfl)
    | (apply w_seq)
    | (apply w_ops; ((conv => lhs; simp only [Nat.reduceAdd]) <;> rfl))
    | (apply w_condT; rfl)
    | (apply w_condF; rfl)
    | ((apply w_condS; rfl) <;> (intro h; try simp only [decide_eq_true_eq, decide_eq_false_iff_not, Bool.not_eq_true, Bool.not_eq_false] at h))
    | (apply e_thenN)
    | (apply w_block)
    | (apply e_thenR)
    | (apply e_thenX)
    | (apply e_blkN)
    | (apply e_blkR)
    | (apply e_blkE)
    | (apply w_exit)
    | (apply w_ret)
    | (apply w_skip)
    | (apply e_blkE'; rfl))
      apply w_loopI (ι := Nat × List Bool) (S := fun z => ⟨(((((Fr.nil.put 1 (.i m)).put 2 (.ptrL 1 0)).put 5 (.slL 50 0 (m + 1) 1)).put 7 (.i i)).put 8 (.d (.sl (encB q) (m + 1)))).put 9 (.i z.1), rowsOf [(1, [.i k, .d (.val (.int .u64 a)), .d (.val (.int .u64 b)), .d (.val (.int .u64 c)), .d (.val (.int .u64 d)), .i mn, .i mx, .d (.sl (encL subs) subs.length)]), (50, (encB z.2).map AV.d)], Frz.buts 200 [50], 200⟩) (m := fun z => m + 1 - z.1) (I := fun z => z.1 ≤ m + 1 ∧ Ored p q z.2 z.1) (i0 := (0, p))
      · exact ⟨Nat.zero_le _, .zero _ _⟩
      · dsimp only
        refine wkM [] [] rfl ?_ ?_ rfl ?_
        · intro p hp; simp only [List.mem_cons, List.not_mem_nil, or_false] at hp; rcases hp with rfl | rfl <;> first | exact ⟨by omega, .inr ⟨rfl, _, rfl, .data rfl⟩⟩ | exact ⟨by omega, .inr ⟨rfl, _, rfl, .data encB_isD⟩⟩
        · intro q hq; simp only [List.mem_cons, List.not_mem_nil, or_false] at hq; rcases hq with rfl <;> rfl
        · repeat' (first
    | exact FWk.nil
    | (apply FWk.i; rfl; (first | rfl | omega | (simp; done)))
    | (apply FWk.sl; rfl; rfl; rfl; rfl; omega; rfl)
    | (apply FWk.ptr; rfl; rfl; rfl; omega; rfl)
    | (apply FWk.d; rfl; rfl)
    | (apply FWk.a; rfl; rfl; rfl)
    | (apply FWk.slN; rfl; omega; rfl))
      rintro ⟨j, p2⟩ K2 ⟨hj, ho⟩ hK2
      dsimp only at hj ho hK2 ⊢
      have hp2 : p2.length = m + 1 := ho.1.trans hpl
      rcases Nat.lt_or_ge j (m + 1) with hlj | hgj
      · have hgp : p2[j]? = some (p2.getD j false) := by rw [List.getD_eq_getElem?_getD, List.getElem?_eq_getElem (by omega)]; rfl
        have hgq : q[j]? = some (q.getD j false) := by rw [List.getD_eq_getElem?_getD, List.getElem?_eq_getElem (by omega)]; rfl
        have hst := ho.step (by omega)
        have fin : ∀ v fr C Z nx, v = (p2.getD j false || q.getD j false) → Wk ⟨fr, C, Z, nx⟩ ⟨(((((Fr.nil.put 1 (.i m)).put 2 (.ptrL 1 0)).put 5 (.slL 50 0 (m + 1) 1)).put 7 (.i i)).put 8 (.d (.sl (encB q) (m + 1)))).put 9 (.i ((j + 1 : Nat) : Int)), rowsOf [(1, [.i k, .d (.val (.int .u64 a)), .d (.val (.int .u64 b)), .d (.val (.int .u64 c)), .d (.val (.int .u64 d)), .i mn, .i mx, .d (.sl (encL subs) subs.length)]), (50, (encB (p2.set j v)).map AV.d)], Frz.buts 200 [50], 200⟩ → K2 ⟨fr, C, Z, nx⟩ := by
          intro v fr C Z nx hv hw
          subst hv
          exact hK2 (j + 1, _) fr C Z nx ⟨by dsimp only; omega, hst⟩ (by dsimp only; omega) hw
        generalize p2.getD j false = v1 at hgp fin
        generalize q.getD j false = v2 at hgq fin
        cases v1
        all_goals
          repeat' (first
    | (apply r_mvV; rfl)
    | (apply r_mvP; rfl)
    | (apply r_mvPL; rfl)
    | (apply r_mvS; rfl)
    | (apply r_mvSL; rfl)
    | (apply r_mvA; rfl)
    | (apply r_mvT; rfl)
    | (apply r_mvF; rfl)
    | (apply r_mvD; rfl)
    | (apply r_faddD; rfl)
    | (apply r_faddL; rfl)
    | (apply r_ixL (j := j); rfl; rfl; omega)
    | (apply r_ldBL (j := j); rfl; rfl; exact hgp)
    | (apply r_ixB' (j := j); rfl; rfl; exact hlj; exact hql)
    | (apply r_ldB (j := j); rfl; exact hgq)
    | (apply r_stB (j := j); rfl; rfl; rfl; rfl; omega)
    | (apply r_ldL; rfl; rfl; rfl)
    | (apply r_eql; rfl; rfl; (first | (apply decide_eq_true; omega) | (apply decide_eq_false; omega) | rfl))
    | (apply r_lss; rfl; rfl; (first | (apply decide_eq_true; omega) | (apply decide_eq_false; omega) | rfl))
    | (apply r_leq; rfl; rfl; (first | (apply decide_eq_true; omega) | (apply decide_eq_false; omega) | rfl))
    | (apply r_geq; rfl; rfl; (first | (apply decide_eq_true; omega) | (apply decide_eq_false; omega) | rfl))
    | (apply r_add; rfl; rfl; rfl; omega)
    | (apply r_pickT; rfl)
    | (apply r_pickF; rfl)
    | (apply r_lenD; rfl)
    | (apply r_lenL; rfl)
    | (apply r_len0; rfl)
    | (apply r_gT; rfl)
    | (apply r_gF'; rfl; rfl)
    | (apply r_gN'; rfl)
    | ((apply r_gS (o := default); rfl) <;> (intro h; try simp only [decide_eq_true_eq, decide_eq_false_iff_not, Bool.not_eq_true, Bool.not_eq_false] at h))
    | (apply r_box; ((conv => lhs; simp only [Nat.reduceAdd]) <;> rfl); rfl; rfl; rfl)
    | (apply r_stL; rfl; rfl; rfl; rfl; (first | rfl | (simp only [z_nil, z_add] <;> rfl)); rfl; rfl)
    | (apply r_p; rfl)
    | (apply r_nilK)
    | (apply r_nil)
    | (apply k_V; rfl)
    | (apply k_P; rfl)
    | (apply k_PL; rfl)
    | (apply k_S; rfl)
    | (apply k_SL; rfl)
    | (apply k_A; rfl)
    | (apply k_T; rfl)
    | (apply k_F; rfl)
    | (apply k_D; rfl; rotate_left; rfl)
    | (apply k_nil)
    | (apply e_ret (vs := [.d (.val _)]); rfl)
    | (apply e_ret; rfl)
    | (apply e_ret' (vs := [.d (.val _)]); rfl)
    | (apply e_ret'; rfl)
    | (apply w_seq)
    | (apply w_ops; ((conv => lhs; simp only [Nat.reduceAdd]) <;> rfl))
    | (apply w_condT; rfl)
    | (apply w_condF; rfl)
    | ((apply w_condS; rfl) <;> (intro h; try simp only [decide_eq_true_eq, decide_eq_false_iff_not, Bool.not_eq_true, Bool.not_eq_false] at h))
    | (apply e_thenN)
    | (apply w_block)
    | (apply e_thenR)
    | (apply e_thenX)
    | (apply e_blkN)
    | (apply e_blkR)
    | (apply e_blkE)
    | (apply w_exit)
    | (apply w_ret)
    | (apply w_skip)
    | (apply e_blkE'; rfl))
          apply e_thenK
          refine fin _ _ _ _ _ (by first | rfl | simp) ?_
          refine wkM [] [] rfl ?_ ?_ rfl ?_
          · intro p hp; simp only [List.mem_cons, List.not_mem_nil, or_false] at hp; rcases hp with rfl | rfl <;> first | exact ⟨by omega, .inr ⟨rfl, _, rfl, .data rfl⟩⟩ | exact ⟨by omega, .inr ⟨rfl, _, rfl, .data encB_isD⟩⟩
          · intro q hq; simp only [List.mem_cons, List.not_mem_nil, or_false] at hq; rcases hq with rfl <;> rfl
          · repeat' (first
    | exact FWk.nil
    | (apply FWk.i; rfl; (first | rfl | omega | (simp; done)))
    | (apply FWk.sl; rfl; rfl; rfl; rfl; omega; rfl)
    | (apply FWk.ptr; rfl; rfl; rfl; omega; rfl)
    | (apply FWk.d; rfl; rfl)
    | (apply FWk.a; rfl; rfl; rfl)
    | (apply FWk.slN; rfl; omega; rfl))
      · have ej : j = m + 1 := by omega
        subst ej
        have e2 := hfin p2 ho
        repeat' (first
    | (apply r_mvV; rfl)
    | (apply r_mvP; rfl)
    | (apply r_mvPL; rfl)
    | (apply r_mvS; rfl)
    | (apply r_mvSL; rfl)
    | (apply r_mvA; rfl)
    | (apply r_mvT; rfl)
    | (apply r_mvF; rfl)
    | (apply r_mvD; rfl)
    | (apply r_faddD; rfl)
    | (apply r_faddL; rfl)
    | (apply r_ldL; rfl; rfl; rfl)
    | (apply r_eql; rfl; rfl; (first | (apply decide_eq_true; omega) | (apply decide_eq_false; omega) | rfl))
    | (apply r_lss; rfl; rfl; (first | (apply decide_eq_true; omega) | (apply decide_eq_false; omega) | rfl))
    | (apply r_leq; rfl; rfl; (first | (apply decide_eq_true; omega) | (apply decide_eq_false; omega) | rfl))
    | (apply r_geq; rfl; rfl; (first | (apply decide_eq_true; omega) | (apply decide_eq_false; omega) | rfl))
    | (apply r_add; rfl; rfl; rfl; omega)
    | (apply r_pickT; rfl)
    | (apply r_pickF; rfl)
    | (apply r_lenD; rfl)
    | (apply r_lenL; rfl)
    | (apply r_len0; rfl)
    | (apply r_gT; rfl)
    | (apply r_gF'; rfl; rfl)
    | (apply r_gN'; rfl)
    | ((apply r_gS (o := default); rfl) <;> (intro h; try simp only [decide_eq_true_eq, decide_eq_false_iff_not, Bool.not_eq_true, Bool.not_eq_false] at h))
    | (apply r_box; ((conv => lhs; simp only [Nat.reduceAdd]) <;> rfl); rfl; rfl; rfl)
    | (apply r_stL; rfl; rfl; rfl; rfl; (first | rfl | (simp only [z_nil, z_add] <;> rfl)); rfl; rfl)
    | (apply r_p; rfl)
    | (apply r_nilK)
    | (apply r_nil)
    | (apply k_V; rfl)
    | (apply k_P; rfl)
    | (apply k_PL; rfl)
    | (apply k_S; rfl)
    | (apply k_SL; rfl)
    | (apply k_A; rfl)
    | (apply k_T; rfl)
    | (apply k_F; rfl)
    | (apply k_D; rfl; rotate_left; rfl)
    | (apply k_nil)
    | (apply e_ret (vs := [.d (.val _)]); rfl)
    | (apply e_ret; rfl)
    | (apply e_ret' (vs := [.d (.val _)]); rfl)
    | (apply e_ret'; rfl)
    | (apply w_seq)
    | (apply w_ops; ((conv => lhs; simp only [Nat.reduceAdd]) <;> rfl))
    | (apply w_condT; rfl)
    | (apply w_condF; rfl)
    | ((apply w_condS; rfl) <;> (intro h; try simp only [decide_eq_true_eq, decide_eq_false_iff_not, Bool.not_eq_true, Bool.not_eq_false] at h))
    | (apply e_thenN)
    | (apply w_block)
    | (apply e_thenR)
    | (apply e_thenX)
    | (apply e_blkN)
    | (apply e_blkR)
    | (apply e_blkE)
    | (apply w_exit)
    | (apply w_ret)
    | (apply w_skip)
    | (apply e_blkE'; rfl))
        apply e_thenK
        apply hK (i + 1)
        · omega
        · omega
        · rw [← e2]
          refine wkM [] [] rfl ?_ ?_ rfl ?_
          · intro p hp; simp only [List.mem_cons, List.not_mem_nil, or_false] at hp; rcases hp with rfl | rfl <;> first | exact ⟨by omega, .inr ⟨rfl, _, rfl, .data rfl⟩⟩ | exact ⟨by omega, .inr ⟨rfl, _, rfl, .data encB_isD⟩⟩
          · intro q hq; simp only [List.mem_cons, List.not_mem_nil, or_false] at hq; rcases hq with rfl <;> rfl
          · repeat' (first
    | exact FWk.nil
    | (apply FWk.i; rfl; (first | rfl | omega | (simp; done)))
    | (apply FWk.sl; rfl; rfl; rfl; rfl; omega; rfl)
    | (apply FWk.ptr; rfl; rfl; rfl; omega; rfl)
    | (apply FWk.d; rfl; rfl)
    | (apply FWk.a; rfl; rfl; rfl)
    | (apply FWk.slN; rfl; omega; rfl))
    · have ei : i = subs.length := by omega
      subst ei
      repeat' (first
    | (apply r_mvV; rfl)
    | (apply r_mvP; rfl)
    | (apply r_mvPL; rfl)
    | (apply r_mvS; rfl)
    | (apply r_mvSL; rfl)
    | (apply r_mvA; rfl)
    | (apply r_mvT; rfl)
    | (apply r_mvF; rfl)
    | (apply r_mvD; rfl)
    | (apply r_faddD; rfl)
    | (apply r_faddL; rfl)
    | (apply r_l; apply ld_kind; assumption; rfl)
    | (apply r_l; apply ld_mn; assumption; rfl)
    | (apply r_l; apply ld_mx; assumption; rfl)
    | (apply r_l; apply ld_subs; assumption; rfl)
    | (apply r_l; apply ld_set; assumption; rfl)
    | (apply r_l; apply ld_node; assumption; rfl)
    | (apply r_l; apply ld_kind'; assumption; rfl)
    | (apply r_l; apply ld_mn'; assumption; rfl)
    | (apply r_l; apply ld_mx'; assumption; rfl)
    | (apply r_l; apply ld_subs'; assumption; rfl)
    | (apply r_l; apply ld_node'; assumption; rfl)
    | (apply r_ldL; rfl; rfl; rfl)
    | (apply r_eql; rfl; rfl; (first | (apply decide_eq_true; omega) | (apply decide_eq_false; omega) | rfl))
    | (apply r_lss; rfl; rfl; (first | (apply decide_eq_true; omega) | (apply decide_eq_false; omega) | rfl))
    | (apply r_leq; rfl; rfl; (first | (apply decide_eq_true; omega) | (apply decide_eq_false; omega) | rfl))
    | (apply r_geq; rfl; rfl; (first | (apply decide_eq_true; omega) | (apply decide_eq_false; omega) | rfl))
    | (apply r_add; rfl; rfl; rfl; omega)
    | (apply r_pickT; rfl)
    | (apply r_pickF; rfl)
    | (apply r_lenD; rfl)
    | (apply r_lenL; rfl)
    | (apply r_len0; rfl)
    | (apply r_gT; rfl)
    | (apply r_gF'; rfl; rfl)
    | (apply r_gN'; rfl)
    | ((apply r_gS (o := default); rfl) <;> (intro h; try simp only [decide_eq_true_eq, decide_eq_false_iff_not, Bool.not_eq_true, Bool.not_eq_false] at h))
    | (apply r_box; ((conv => lhs; simp only [Nat.reduceAdd]) <;> rfl); rfl; rfl; rfl)
    | (apply r_stL; rfl; rfl; rfl; rfl; (first | rfl | (simp only [z_nil, z_add] <;> rfl)); rfl; rfl)
    | (apply r_p; rfl)
    | (apply r_nilK)
    | (apply r_nil)
    | (apply k_V; rfl)
    | (apply k_P; rfl)
    | (apply k_PL; rfl)
    | (apply k_S; rfl)
    | (apply k_SL; rfl)
    | (apply k_A; rfl)
    | (apply k_T; rfl)
    | (apply k_F; rfl)
    | (apply k_D; rfl; rotate_left; rfl)
    | (apply k_nil)
    | (apply e_ret (vs := [.d (.val _)]); rfl)
    | (apply e_ret; rfl)
    | (apply e_ret' (vs := [.d (.val _)]); rfl)
    | (apply e_ret'; rfl)
    | (apply w_seq)
    | (apply w_ops; ((conv => lhs; simp only [Nat.reduceAdd]) <;> rfl))
    | (apply w_condT; rfl)
    | (apply w_condF; rfl)
    | ((apply w_condS; rfl) <;> (intro h; try simp only [decide_eq_true_eq, decide_eq_false_iff_not, Bool.not_eq_true, Bool.not_eq_false] at h))
    | (apply e_thenN)
    | (apply w_block)
    | (apply e_thenR)
    | (apply e_thenX)
    | (apply e_blkN)
    | (apply e_blkR)
    | (apply e_blkE)
    | (apply w_exit)
    | (apply w_ret)
    | (apply w_skip)
    | (apply e_blkE'; rfl))
      have e2 : lenS (altL (subs.take subs.length)) m = lenS (L (.node k a b c d mn mx subs)) m := by
        rw [List.take_length]
        refine lenS_congr (fun w => ?_) m
        subst h4
        rw [L_k4]
      rw [← e2]
      exact retSB rfl (lenS_len _ _)
  have h5 : k = 5 := by omega
  obtain ⟨u, hu⟩ := hk5 h5
  have hl1 : 0 < subs.length := by rw [hu]; simp
  have hg := ih' 0 hl1
  have hs := NodeAt.sub hl1
  have hu0 : subs[0] = u := by simp [hu]
  rw [hu0] at hg hs
  have hr5 := hR h5
  have eL : ∀ w, L (.node k a b c d mn mx subs) w ↔ ∃ r : Nat, mn ≤ r ∧ (mx < 0 ∨ (r : Int) ≤ mx) ∧ powL (L u) r w := by
    intro w
    subst h5
    rw [L_k5, hu]
    have : ∀ w, fstL [u] w ↔ L u w := fun w => by rw [fstL]
    simp only [powL_congr this]
  have hna : [nodeA u, .i m].all AV.nrm = true := by rw [List.all_cons, nodeA_nrm]; rfl
  clear hu0 hu hk5 ih' hkind
  obtain ⟨mnN, rfl⟩ := Int.eq_ofNat_of_zero_le hr5.1.1
  obtain ⟨last, hlast, hfin⟩ : ∃ last : Nat, last ≤ 1100 ∧ ((last : Int) = if mx < 0 then (mnN : Int) + m else mx) ∧ mnN ≤ last ∧ ∀ j, j ≤ m → ((∃ r : Nat, mnN ≤ r ∧ r < last + 1 ∧ ∃ w, powL (L u) r w ∧ w.length = j) ↔ ∃ w, L (.node k a b c d mnN mx subs) w ∧ w.length = j) := by
    by_cases hmx : mx < 0
    · refine ⟨mnN + m, by omega, by rw [if_pos hmx]; omega, by omega, fun j hj => ?_⟩
      constructor
      · rintro ⟨r, g1, g2, w, g3, g4⟩; exact ⟨w, (eL w).2 ⟨r, by omega, .inl hmx, g3⟩, g4⟩
      · rintro ⟨w, hw, g4⟩
        obtain ⟨r, g1, _, g3⟩ := (eL w).1 hw
        by_cases hr : r ≤ mnN + m
        · exact ⟨r, by omega, by omega, w, g3, g4⟩
        · exact ⟨mnN + m, by omega, by omega, w, powL_cut w _ (by omega) r (by omega) g3, g4⟩
    · obtain ⟨x, rfl⟩ := Int.eq_ofNat_of_zero_le (show 0 ≤ mx by omega)
      refine ⟨x, by omega, by rw [if_neg hmx], by omega, fun j hj => ?_⟩
      constructor
      · rintro ⟨r, g1, g2, w, g3, g4⟩; exact ⟨w, (eL w).2 ⟨r, by omega, by omega, g3⟩, g4⟩
      · rintro ⟨w, hw, g4⟩
        obtain ⟨r, g1, g2, g3⟩ := (eL w).1 hw
        exact ⟨r, by omega, by omega, w, g3, g4⟩
  obtain ⟨hle, hml, hfin⟩ := hfin
  have e : (List.replicate (m + 1) false).set 0 true = lenS (powL (L u) 0) m := by
    refine lenS_eq (by simp) fun j hj => ?_
    rw [at_set j (by simp)]
    simp only [powL]
    constructor
    · rintro (⟨rfl, _⟩ | ⟨_, h⟩)
      · exact ⟨[], rfl, rfl⟩
      · exact absurd h (at_rep _ _)
    · rintro ⟨w, rfl, h⟩; exact .inl ⟨h.symm, by simp⟩
  refine b49 (by simp) (by simp) (w_init ?_)
  unfold x49
  repeat' (first
    | (apply r_mvV; rfl)
    | (apply r_mvP; rfl)
    | (apply r_mvPL; rfl)
    | (apply r_mvS; rfl)
    | (apply r_mvSL; rfl)
    | (apply r_mvA; rfl)
    | (apply r_mvT; rfl)
    | (apply r_mvF; rfl)
    | (apply r_mvD; rfl)
    | (apply r_faddD; rfl)
    | (apply r_faddL; rfl)
    | (apply r_l; apply ld_kind; assumption; rfl)
    | (apply r_l; apply ld_mn; assumption; rfl)
    | (apply r_l; apply ld_mx; assumption; rfl)
    | (apply r_l; apply ld_subs; assumption; rfl)
    | (apply r_l; apply ld_set; assumption; rfl)
    | (apply r_l; apply ld_node; assumption; rfl)
    | (apply r_l; apply ld_kind'; assumption; rfl)
    | (apply r_l; apply ld_mn'; assumption; rfl)
    | (apply r_l; apply ld_mx'; assumption; rfl)
    | (apply r_l; apply ld_subs'; assumption; rfl)
    | (apply r_l; apply ld_node'; assumption; rfl)
    | (apply r_mksB (m := m + 1); rfl; rfl; ((conv => lhs; simp only [Nat.reduceAdd]) <;> rfl); omega; omega)
    | (apply r_ixL (j := 0); rfl; rfl; omega)
    | (apply r_stB (j := 0); rfl; rfl; rfl; rfl; omega)
    | (apply r_p (v := .d (.ptr (encL subs) 0)); exact ix_sub0 rfl rfl hl1)
    | (apply r_l; apply ld_node'; exact hs; rfl)
    | (apply r_callA (ags := [nodeA u, .i m]); rfl; exact hna; exact hg)
    | (apply r_ldL; rfl; rfl; rfl)
    | (apply r_eql; rfl; rfl; (first | (apply decide_eq_true; omega) | (apply decide_eq_false; omega) | rfl))
    | (apply r_lss; rfl; rfl; (first | (apply decide_eq_true; omega) | (apply decide_eq_false; omega) | rfl))
    | (apply r_leq; rfl; rfl; (first | (apply decide_eq_true; omega) | (apply decide_eq_false; omega) | rfl))
    | (apply r_geq; rfl; rfl; (first | (apply decide_eq_true; omega) | (apply decide_eq_false; omega) | rfl))
    | (apply r_add; rfl; rfl; rfl; omega)
    | (apply r_pickT; rfl)
    | (apply r_pickF; rfl)
    | (apply r_lenD; rfl)
    | (apply r_lenL; rfl)
    | (apply r_len0; rfl)
    | (apply r_gT; rfl)
    | (apply r_gF'; rfl; rfl)
    | (apply r_gN'; rfl)
    | ((apply r_gS (o := default); rfl) <;> (intro h; try simp only [decide_eq_true_eq, decide_eq_false_iff_not, Bool.not_eq_true, Bool.not_eq_false] at h))
    | (apply r_box; ((conv => lhs; simp only [Nat.reduceAdd]) <;> rfl); rfl; rfl; rfl)
    | (apply r_stL; rfl; rfl; rfl; rfl; (first | rfl | (simp only [z_nil, z_add] <;> rfl)); rfl; rfl)
    | (apply r_p; rfl)
    | (apply r_nilK)
    | (apply r_nil)
    | (apply k_V; rfl)
    | (apply k_P; rfl)
    | (apply k_PL; rfl)
    | (apply k_S; rfl)
    | (apply k_SL; rfl)
    | (apply k_A; rfl)
    | (apply k_T; rfl)
    | (apply k_F; rfl)
    | (apply k_D; rfl; rotate_left; rfl)
    | (apply k_nil)
    | (apply e_ret (vs := [.d (.val _)]); rfl)
    | (apply e_ret; rfl)
    | (apply e_ret' (vs := [.d (.val _)]); rfl)
    | (apply e_ret'; rfl)
    | (apply w_seq)
    | (apply w_ops; ((conv => lhs; simp only [Nat.reduceAdd]) <;> rfl))
    | (apply w_condT; rfl)
    | (apply w_condF; rfl)
    | ((apply w_condS; rfl) <;> (intro h; try simp only [decide_eq_true_eq, decide_eq_false_iff_not, Bool.not_eq_true, Bool.not_eq_false] at h))
    | (apply e_thenN)
    | (apply w_block)
    | (apply e_thenR)
    | (apply e_thenX)
    | (apply e_blkN)
    | (apply e_blkR)
    | (apply e_blkE)
    | (apply w_exit)
    | (apply w_ret)
    | (apply w_skip)
    | (apply e_blkE'; rfl))
  all_goals
    apply w_loopF (ι := Nat × List Bool) (S := fun z => ⟨((((((Fr.nil.put 1 (.i m)).put 2 (.ptrL 1 0)).put 5 (.slL 50 0 (m + 1) 1)).put 10 (.d (.sl (encB (lenS (L u) m)) (m + 1)))).put 11 (.d (.sl (encB (lenS (powL (L u) z.1) m)) (m + 1)))).put 12 (.i last)).put 13 (.i z.1), rowsOf [(1, [.i k, .d (.val (.int .u64 a)), .d (.val (.int .u64 b)), .d (.val (.int .u64 c)), .d (.val (.int .u64 d)), .i mnN, .i mx, .d (.sl (encL subs) subs.length)]), (50, (encB z.2).map AV.d)], Frz.buts 100 [50], 100⟩) (m := fun z => last + 1 - z.1) (I := fun z => z.1 ≤ last + 1 ∧ z.2.length = m + 1 ∧ ∀ j, j ≤ m → (At z.2 j ↔ ∃ r : Nat, mnN ≤ r ∧ r < z.1 ∧ ∃ w, powL (L u) r w ∧ w.length = j)) (i0 := (0, List.replicate (m + 1) false))
    · refine ⟨Nat.zero_le _, by simp, fun j hj => ⟨fun h => absurd h (at_rep _ _), ?_⟩⟩
      rintro ⟨r, _, h, _⟩
      dsimp only at h
      omega
    · refine fzB (k := 11) (b := 28) (m := m + 1) (p := (List.replicate (m + 1) false).set 0 true) rfl rfl (by simp) (by omega) ?_
      rw [e]
      dsimp only
      refine wkM [(50, 5)] [] rfl ?_ ?_ rfl ?_
      · intro p hp; simp only [List.mem_cons, List.not_mem_nil, or_false] at hp; rcases hp with rfl | rfl <;> first | exact ⟨by omega, .inr ⟨rfl, _, rfl, .data rfl⟩⟩ | exact ⟨by omega, .inr ⟨rfl, _, rfl, .data encB_isD⟩⟩
      · intro q hq; simp only [List.mem_cons, List.not_mem_nil, or_false] at hq; rcases hq with rfl <;> rfl
      · repeat' (first
    | exact FWk.nil
    | (apply FWk.i; rfl; (first | rfl | omega | (simp; done)))
    | (apply FWk.sl; rfl; rfl; rfl; rfl; omega; rfl)
    | (apply FWk.ptr; rfl; rfl; rfl; omega; rfl)
    | (apply FWk.d; rfl; rfl)
    | (apply FWk.a; rfl; rfl; rfl)
    | (apply FWk.slN; rfl; omega; rfl))
    rintro ⟨kk, p⟩ K ⟨hk1, hpl, hp⟩ hK
    dsimp only at hk1 hpl hp hK ⊢
    rcases Nat.lt_or_ge last kk with hgt | hlek
    · have ek : kk = last + 1 := by omega
      subst ek
      have e2 : p = lenS (L (.node k a b c d mnN mx subs)) m := lenS_eq hpl fun j hj => by rw [hp j hj, hfin j hj]
      repeat' (first
    | (apply r_mvV; rfl)
    | (apply r_mvP; rfl)
    | (apply r_mvPL; rfl)
    | (apply r_mvS; rfl)
    | (apply r_mvSL; rfl)
    | (apply r_mvA; rfl)
    | (apply r_mvT; rfl)
    | (apply r_mvF; rfl)
    | (apply r_mvD; rfl)
    | (apply r_faddD; rfl)
    | (apply r_faddL; rfl)
    | (apply r_ldL; rfl; rfl; rfl)
    | (apply r_eql; rfl; rfl; (first | (apply decide_eq_true; omega) | (apply decide_eq_false; omega) | rfl))
    | (apply r_lss; rfl; rfl; (first | (apply decide_eq_true; omega) | (apply decide_eq_false; omega) | rfl))
    | (apply r_leq; rfl; rfl; (first | (apply decide_eq_true; omega) | (apply decide_eq_false; omega) | rfl))
    | (apply r_geq; rfl; rfl; (first | (apply decide_eq_true; omega) | (apply decide_eq_false; omega) | rfl))
    | (apply r_add; rfl; rfl; rfl; omega)
    | (apply r_pickT; rfl)
    | (apply r_pickF; rfl)
    | (apply r_lenD; rfl)
    | (apply r_lenL; rfl)
    | (apply r_len0; rfl)
    | (apply r_gT; rfl)
    | (apply r_gF'; rfl; rfl)
    | (apply r_gN'; rfl)
    | ((apply r_gS (o := default); rfl) <;> (intro h; try simp only [decide_eq_true_eq, decide_eq_false_iff_not, Bool.not_eq_true, Bool.not_eq_false] at h))
    | (apply r_box; ((conv => lhs; simp only [Nat.reduceAdd]) <;> rfl); rfl; rfl; rfl)
    | (apply r_stL; rfl; rfl; rfl; rfl; (first | rfl | (simp only [z_nil, z_add] <;> rfl)); rfl; rfl)
    | (apply r_p; rfl)
    | (apply r_nilK)
    | (apply r_nil)
    | (apply k_V; rfl)
    | (apply k_P; rfl)
    | (apply k_PL; rfl)
    | (apply k_S; rfl)
    | (apply k_SL; rfl)
    | (apply k_A; rfl)
    | (apply k_T; rfl)
    | (apply k_F; rfl)
    | (apply k_D; rfl; rotate_left; rfl)
    | (apply k_nil)
    | (apply e_ret (vs := [.d (.val _)]); rfl)
    | (apply e_ret; rfl)
    | (apply e_ret' (vs := [.d (.val _)]); rfl)
    | (apply e_ret'; rfl)
    | (apply w_seq)
    | (apply w_ops; ((conv => lhs; simp only [Nat.reduceAdd]) <;> rfl))
    | (apply w_condT; rfl)
    | (apply w_condF; rfl)
    | ((apply w_condS; rfl) <;> (intro h; try simp only [decide_eq_true_eq, decide_eq_false_iff_not, Bool.not_eq_true, Bool.not_eq_false] at h))
    | (apply e_thenN)
    | (apply w_block)
    | (apply e_thenR)
    | (apply e_thenX)
    | (apply e_blkN)
    | (apply e_blkR)
    | (apply e_blkE)
    | (apply w_exit)
    | (apply w_ret)
    | (apply w_skip)
    | (apply e_blkE'; rfl))
      rw [← e2]
      exact retSB rfl hpl
    have hj98 := join98_good (lenS (powL (L u) kk) m) (lenS (L u) m) (lenS_len _ _) (lenS_len _ _) (by omega)
    have ej : joinB (lenS (powL (L u) kk) m) (lenS (L u) m) = lenS (powL (L u) (kk + 1)) m := by
      rw [joinB_lenS]
      exact lenS_congr (fun w => (powL_snoc (L u) kk w).symm) m
    rw [ej] at hj98
    by_cases hmk : mnN ≤ kk
    · have hfin2 : ∀ p2, Ored p (lenS (powL (L u) kk) m) p2 (m + 1) → ∀ j, j ≤ m → (At p2 j ↔ ∃ r : Nat, mnN ≤ r ∧ r < kk + 1 ∧ ∃ w, powL (L u) r w ∧ w.length = j) := by
        intro p2 h j hj
        rw [h.2 j, at_lenS, hp j hj]
        constructor
        · rintro (⟨r, g1, g2, g3⟩ | ⟨_, _, g3⟩)
          · exact ⟨r, g1, by omega, g3⟩
          · exact ⟨kk, hmk, by omega, g3⟩
        · rintro ⟨r, g1, g2, g3⟩
          by_cases er : r = kk
          · subst er; exact .inr ⟨by omega, hj, g3⟩
          · exact .inl ⟨r, g1, by omega, g3⟩
      have hql := lenS_len (powL (L u) kk) m
      generalize lenS (powL (L u) kk) m = q at hj98 hfin2 hql ⊢
      repeat' (first
    | (apply r_mvV; rfl)
    | (apply r_mvP; rfl)
    | (apply r_mvPL; rfl)
    | (apply r_mvS; rfl)
    | (apply r_mvSL; rfl)
    | (apply r_mvA; rfl)
    | (apply r_mvT; rfl)
    | (apply r_mvF; rfl)
    | (apply r_mvD; rfl)
    | (apply r_faddD; rfl)
    | (apply r_faddL; rfl)
    | (apply r_l; apply ld_kind; assumption; rfl)
    | (apply r_l; apply ld_mn; assumption; rfl)
    | (apply r_l; apply ld_mx; assumption; rfl)
    | (apply r_l; apply ld_subs; assumption; rfl)
    | (apply r_l; apply ld_set; assumption; rfl)
    | (apply r_l; apply ld_node; assumption; rfl)
    | (apply r_l; apply ld_kind'; assumption; rfl)
    | (apply r_l; apply ld_mn'; assumption; rfl)
    | (apply r_l; apply ld_mx'; assumption; rfl)
    | (apply r_l; apply ld_subs'; assumption; rfl)
    | (apply r_l; apply ld_node'; assumption; rfl)
    | (apply r_ldL; rfl; rfl; rfl)
    | (apply r_eql; rfl; rfl; (first | (apply decide_eq_true; omega) | (apply decide_eq_false; omega) | rfl))
    | (apply r_lss; rfl; rfl; (first | (apply decide_eq_true; omega) | (apply decide_eq_false; omega) | rfl))
    | (apply r_leq; rfl; rfl; (first | (apply decide_eq_true; omega) | (apply decide_eq_false; omega) | rfl))
    | (apply r_geq; rfl; rfl; (first | (apply decide_eq_true; omega) | (apply decide_eq_false; omega) | rfl))
    | (apply r_add; rfl; rfl; rfl; omega)
    | (apply r_pickT; rfl)
    | (apply r_pickF; rfl)
    | (apply r_lenD; rfl)
    | (apply r_lenL; rfl)
    | (apply r_len0; rfl)
    | (apply r_gT; rfl)
    | (apply r_gF'; rfl; rfl)
    | (apply r_gN'; rfl)
    | ((apply r_gS (o := default); rfl) <;> (intro h; try simp only [decide_eq_true_eq, decide_eq_false_iff_not, Bool.not_eq_true, Bool.not_eq_false] at h))
    | (apply r_box; ((conv => lhs; simp only [Nat.reduceAdd]) <;> rfl); rfl; rfl; rfl)
    | (apply r_stL; rfl; rfl; rfl; rfl; (first | rfl | (simp only [z_nil, z_add] <;> rfl)); rfl; rfl)
    | (apply r_p; rfl)
    | (apply r_nilK)
    | (apply r_nil)
    | (apply k_V; rfl)
    | (apply k_P; rfl)
    | (apply k_PL; rfl)
    | (apply k_S; rfl)
    | (apply k_SL; rfl)
    | (apply k_A; rfl)
    | (apply k_T; rfl)
    | (apply k_F; rfl)
    | (apply k_D; rfl; rotate_left; rfl)
    | (apply k_nil)
    | (apply e_ret (vs := [.d (.val _)]); rfl)
    | (apply e_ret; rfl)
    | (apply e_ret' (vs := [.d (.val _)]); rfl)
    | (apply e_ret'; rfl)
    | (apply w_seq)
    | (apply w_ops; ((conv => lhs; simp only [Nat.reduceAdd]) <;> rfl))
    | (apply w_condT; rfl)
    | (apply w_condF; rfl)
    | ((apply w_condS; rfl) <;> (intro h; try simp only [decide_eq_true_eq, decide_eq_false_iff_not, Bool.not_eq_true, Bool.not_eq_false] at h))
    | (apply e_thenN)
    | (apply w_block)
    | (apply e_thenR)
    | (apply e_thenX)
    | (apply e_blkN)
    | (apply e_blkR)
    | (apply e_blkE)
    | (apply w_exit)
    | (apply w_ret)
    | (apply w_skip)
    | (apply e_blkE'; rfl))
      apply w_loopI (ι := Nat × List Bool) (S := fun z => ⟨(((((((Fr.nil.put 1 (.i m)).put 2 (.ptrL 1 0)).put 5 (.slL 50 0 (m + 1) 1)).put 10 (.d (.sl (encB (lenS (L u) m)) (m + 1)))).put 11 (.d (.sl (encB q) (m + 1)))).put 12 (.i last)).put 13 (.i kk)).put 14 (.i z.1), rowsOf [(1, [.i k, .d (.val (.int .u64 a)), .d (.val (.int .u64 b)), .d (.val (.int .u64 c)), .d (.val (.int .u64 d)), .i mnN, .i mx, .d (.sl (encL subs) subs.length)]), (50, (encB z.2).map AV.d)], Frz.buts 200 [50], 200⟩) (m := fun z => m + 1 - z.1) (I := fun z => z.1 ≤ m + 1 ∧ Ored p q z.2 z.1) (i0 := (0, p))
      · exact ⟨Nat.zero_le _, .zero _ _⟩
      · dsimp only
        refine wkM [] [] rfl ?_ ?_ rfl ?_
        · intro p hp; simp only [List.mem_cons, List.not_mem_nil, or_false] at hp; rcases hp with rfl | rfl <;> first | exact ⟨by omega, .inr ⟨rfl, _, rfl, .data rfl⟩⟩ | exact ⟨by omega, .inr ⟨rfl, _, rfl, .data encB_isD⟩⟩
        · intro q hq; simp only [List.mem_cons, List.not_mem_nil, or_false] at hq; rcases hq with rfl <;> rfl
        · repeat' (first
    | exact FWk.nil
    | (apply FWk.i; rfl; (first | rfl | omega | (simp; done)))
    | (apply FWk.sl; rfl; rfl; rfl; rfl; omega; rfl)
    | (apply FWk.ptr; rfl; rfl; rfl; omega; rfl)
    | (apply FWk.d; rfl; rfl)
    | (apply FWk.a; rfl; rfl; rfl)
    | (apply FWk.slN; rfl; omega; rfl))
      rintro ⟨j, p2⟩ K2 ⟨hj, ho⟩ hK2
      dsimp only at hj ho hK2 ⊢
      have hp2 : p2.length = m + 1 := ho.1.trans hpl
      rcases Nat.lt_or_ge j (m + 1) with hlj | hgj
      · have hgp : p2[j]? = some (p2.getD j false) := by rw [List.getD_eq_getElem?_getD, List.getElem?_eq_getElem (by omega)]; rfl
        have hgq : q[j]? = some (q.getD j false) := by rw [List.getD_eq_getElem?_getD, List.getElem?_eq_getElem (by omega)]; rfl
        have hst := ho.step (by omega)
        have fin : ∀ v fr C Z nx, v = (p2.getD j false || q.getD j false) → Wk ⟨fr, C, Z, nx⟩ ⟨(((((((Fr.nil.put 1 (.i m)).put 2 (.ptrL 1 0)).put 5 (.slL 50 0 (m + 1) 1)).put 10 (.d (.sl (encB (lenS (L u) m)) (m + 1)))).put 11 (.d (.sl (encB q) (m + 1)))).put 12 (.i last)).put 13 (.i kk)).put 14 (.i ((j + 1 : Nat) : Int)), rowsOf [(1, [.i k, .d (.val (.int .u64 a)), .d (.val (.int .u64 b)), .d (.val (.int .u64 c)), .d (.val (.int .u64 d)), .i mnN, .i mx, .d (.sl (encL subs) subs.length)]), (50, (encB (p2.set j v)).map AV.d)], Frz.buts 200 [50], 200⟩ → K2 ⟨fr, C, Z, nx⟩ := by
          intro v fr C Z nx hv hw
          subst hv
          exact hK2 (j + 1, _) fr C Z nx ⟨by dsimp only; omega, hst⟩ (by dsimp only; omega) hw
        generalize p2.getD j false = v1 at hgp fin
        generalize q.getD j false = v2 at hgq fin
        cases v1
        all_goals
          repeat' (first
    | (apply r_mvV; rfl)
    | (apply r_mvP; rfl)
    | (apply r_mvPL; rfl)
    | (apply r_mvS; rfl)
    | (apply r_mvSL; rfl)
    | (apply r_mvA; rfl)
    | (apply r_mvT; rfl)
    | (apply r_mvF; rfl)
    | (apply r_mvD; rfl)
    | (apply r_faddD; rfl)
    | (apply r_faddL; rfl)
    | (apply r_ixL (j := j); rfl; rfl; omega)
    | (apply r_ldBL (j := j); rfl; rfl; exact hgp)
    | (apply r_ixB' (j := j); rfl; rfl; exact hlj; exact hql)
    | (apply r_ldB (j := j); rfl; exact hgq)
    | (apply r_stB (j := j); rfl; rfl; rfl; rfl; omega)
    | (apply r_ldL; rfl; rfl; rfl)
    | (apply r_eql; rfl; rfl; (first | (apply decide_eq_true; omega) | (apply decide_eq_false; omega) | rfl))
    | (apply r_lss; rfl; rfl; (first | (apply decide_eq_true; omega) | (apply decide_eq_false; omega) | rfl))
    | (apply r_leq; rfl; rfl; (first | (apply decide_eq_true; omega) | (apply decide_eq_false; omega) | rfl))
    | (apply r_geq; rfl; rfl; (first | (apply decide_eq_true; omega) | (apply decide_eq_false; omega) | rfl))
    | (apply r_add; rfl; rfl; rfl; omega)
    | (apply r_pickT; rfl)
    | (apply r_pickF; rfl)
    | (apply r_lenD; rfl)
    | (apply r_lenL; rfl)
    | (apply r_len0; rfl)
    | (apply r_gT; rfl)
    | (apply r_gF'; rfl; rfl)
    | (apply r_gN'; rfl)
    | ((apply r_gS (o := default); rfl) <;> (intro h; try simp only [decide_eq_true_eq, decide_eq_false_iff_not, Bool.not_eq_true, Bool.not_eq_false] at h))
    | (apply r_box; ((conv => lhs; simp only [Nat.reduceAdd]) <;> rfl); rfl; rfl; rfl)
    | (apply r_stL; rfl; rfl; rfl; rfl; (first | rfl | (simp only [z_nil, z_add] <;> rfl)); rfl; rfl)
    | (apply r_p; rfl)
    | (apply r_nilK)
    | (apply r_nil)
    | (apply k_V; rfl)
    | (apply k_P; rfl)
    | (apply k_PL; rfl)
    | (apply k_S; rfl)
    | (apply k_SL; rfl)
    | (apply k_A; rfl)
    | (apply k_T; rfl)
    | (apply k_F; rfl)
    | (apply k_D; rfl; rotate_left; rfl)
    | (apply k_nil)
    | (apply e_ret (vs := [.d (.val _)]); rfl)
    | (apply e_ret; rfl)
    | (apply e_ret' (vs := [.d (.val _)]); rfl)
    | (apply e_ret'; rfl)
    | (apply w_seq)
    | (apply w_ops; ((conv => lhs; simp only [Nat.reduceAdd]) <;> rfl))
    | (apply w_condT; rfl)
    | (apply w_condF; rfl)
    | ((apply w_condS; rfl) <;> (intro h; try simp only [decide_eq_true_eq, decide_eq_false_iff_not, Bool.not_eq_true, Bool.not_eq_false] at h))
    | (apply e_thenN)
    | (apply w_block)
    | (apply e_thenR)
    | (apply e_thenX)
    | (apply e_blkN)
    | (apply e_blkR)
    | (apply e_blkE)
    | (apply w_exit)
    | (apply w_ret)
    | (apply w_skip)
    | (apply e_blkE'; rfl))
          apply e_thenK
          refine fin _ _ _ _ _ (by first | rfl | simp) ?_
          refine wkM [] [] rfl ?_ ?_ rfl ?_
          · intro p hp; simp only [List.mem_cons, List.not_mem_nil, or_false] at hp; rcases hp with rfl | rfl <;> first | exact ⟨by omega, .inr ⟨rfl, _, rfl, .data rfl⟩⟩ | exact ⟨by omega, .inr ⟨rfl, _, rfl, .data encB_isD⟩⟩
          · intro q hq; simp only [List.mem_cons, List.not_mem_nil, or_false] at hq; rcases hq with rfl <;> rfl
          · repeat' (first
    | exact FWk.nil
    | (apply FWk.i; rfl; (first | rfl | omega | (simp; done)))
    | (apply FWk.sl; rfl; rfl; rfl; rfl; omega; rfl)
    | (apply FWk.ptr; rfl; rfl; rfl; omega; rfl)
    | (apply FWk.d; rfl; rfl)
    | (apply FWk.a; rfl; rfl; rfl)
    | (apply FWk.slN; rfl; omega; rfl))
      · have ej2 : j = m + 1 := by omega
        subst ej2
        have e2 := hfin2 p2 ho
        repeat' (first
    | (apply r_mvV; rfl)
    | (apply r_mvP; rfl)
    | (apply r_mvPL; rfl)
    | (apply r_mvS; rfl)
    | (apply r_mvSL; rfl)
    | (apply r_mvA; rfl)
    | (apply r_mvT; rfl)
    | (apply r_mvF; rfl)
    | (apply r_mvD; rfl)
    | (apply r_faddD; rfl)
    | (apply r_faddL; rfl)
    | (apply r_callA; rfl; rfl; exact hj98)
    | (apply r_ldL; rfl; rfl; rfl)
    | (apply r_eql; rfl; rfl; (first | (apply decide_eq_true; omega) | (apply decide_eq_false; omega) | rfl))
    | (apply r_lss; rfl; rfl; (first | (apply decide_eq_true; omega) | (apply decide_eq_false; omega) | rfl))
    | (apply r_leq; rfl; rfl; (first | (apply decide_eq_true; omega) | (apply decide_eq_false; omega) | rfl))
    | (apply r_geq; rfl; rfl; (first | (apply decide_eq_true; omega) | (apply decide_eq_false; omega) | rfl))
    | (apply r_add; rfl; rfl; rfl; omega)
    | (apply r_pickT; rfl)
    | (apply r_pickF; rfl)
    | (apply r_lenD; rfl)
    | (apply r_lenL; rfl)
    | (apply r_len0; rfl)
    | (apply r_gT; rfl)
    | (apply r_gF'; rfl; rfl)
    | (apply r_gN'; rfl)
    | ((apply r_gS (o := default); rfl) <;> (intro h; try simp only [decide_eq_true_eq, decide_eq_false_iff_not, Bool.not_eq_true, Bool.not_eq_false] at h))
    | (apply r_box; ((conv => lhs; simp only [Nat.reduceAdd]) <;> rfl); rfl; rfl; rfl)
    | (apply r_stL; rfl; rfl; rfl; rfl; (first | rfl | (simp only [z_nil, z_add] <;> rfl)); rfl; rfl)
    | (apply r_p; rfl)
    | (apply r_nilK)
    | (apply r_nil)
    | (apply k_V; rfl)
    | (apply k_P; rfl)
    | (apply k_PL; rfl)
    | (apply k_S; rfl)
    | (apply k_SL; rfl)
    | (apply k_A; rfl)
    | (apply k_T; rfl)
    | (apply k_F; rfl)
    | (apply k_D; rfl; rotate_left; rfl)
    | (apply k_nil)
    | (apply e_ret (vs := [.d (.val _)]); rfl)
    | (apply e_ret; rfl)
    | (apply e_ret' (vs := [.d (.val _)]); rfl)
    | (apply e_ret'; rfl)
    | (apply w_seq)
    | (apply w_ops; ((conv => lhs; simp only [Nat.reduceAdd]) <;> rfl))
    | (apply w_condT; rfl)
    | (apply w_condF; rfl)
    | ((apply w_condS; rfl) <;> (intro h; try simp only [decide_eq_true_eq, decide_eq_false_iff_not, Bool.not_eq_true, Bool.not_eq_false] at h))
    | (apply e_thenN)
    | (apply w_block)
    | (apply e_thenR)
    | (apply e_thenX)
    | (apply e_blkN)
    | (apply e_blkR)
    | (apply e_blkE)
    | (apply w_exit)
    | (apply w_ret)
    | (apply w_skip)
    | (apply e_blkE'; rfl))
        apply e_thenK
        apply hK (kk + 1, p2)
        · exact ⟨by dsimp only; omega, hp2, e2⟩
        · dsimp only; omega
        · dsimp only
          refine Wk.f (wkM [] [] rfl ?_ ?_ rfl ?_)
          · intro p hp; simp only [List.mem_cons, List.not_mem_nil, or_false] at hp; rcases hp with rfl | rfl <;> first | exact ⟨by omega, .inr ⟨rfl, _, rfl, .data rfl⟩⟩ | exact ⟨by omega, .inr ⟨rfl, _, rfl, .data encB_isD⟩⟩
          · intro q hq; simp only [List.mem_cons, List.not_mem_nil, or_false] at hq; rcases hq with rfl <;> rfl
          · repeat' (first
    | exact FWk.nil
    | (apply FWk.i; rfl; (first | rfl | omega | (simp; done)))
    | (apply FWk.sl; rfl; rfl; rfl; rfl; omega; rfl)
    | (apply FWk.ptr; rfl; rfl; rfl; omega; rfl)
    | (apply FWk.d; rfl; rfl)
    | (apply FWk.a; rfl; rfl; rfl)
    | (apply FWk.slN; rfl; omega; rfl))
    · repeat' (first
    | (apply r_mvV; rfl)
    | (apply r_mvP; rfl)
    | (apply r_mvPL; rfl)
    | (apply r_mvS; rfl)
    | (apply r_mvSL; rfl)
    | (apply r_mvA; rfl)
    | (apply r_mvT; rfl)
    | (apply r_mvF; rfl)
    | (apply r_mvD; rfl)
    | (apply r_faddD; rfl)
    | (apply r_faddL; rfl)
    | (apply r_l; apply ld_kind; assumption; rfl)
    | (apply r_l; apply ld_mn; assumption; rfl)
    | (apply r_l; apply ld_mx; assumption; rfl)
    | (apply r_l; apply ld_subs; assumption; rfl)
    | (apply r_l; apply ld_set; assumption; rfl)
    | (apply r_l; apply ld_node; assumption; rfl)
    | (apply r_l; apply ld_kind'; assumption; rfl)
    | (apply r_l; apply ld_mn'; assumption; rfl)
    | (apply r_l; apply ld_mx'; assumption; rfl)
    | (apply r_l; apply ld_subs'; assumption; rfl)
    | (apply r_l; apply ld_node'; assumption; rfl)
    | (apply r_callA; rfl; rfl; exact hj98)
    | (apply r_ldL; rfl; rfl; rfl)
    | (apply r_eql; rfl; rfl; (first | (apply decide_eq_true; omega) | (apply decide_eq_false; omega) | rfl))
    | (apply r_lss; rfl; rfl; (first | (apply decide_eq_true; omega) | (apply decide_eq_false; omega) | rfl))
    | (apply r_leq; rfl; rfl; (first | (apply decide_eq_true; omega) | (apply decide_eq_false; omega) | rfl))
    | (apply r_geq; rfl; rfl; (first | (apply decide_eq_true; omega) | (apply decide_eq_false; omega) | rfl))
    | (apply r_add; rfl; rfl; rfl; omega)
    | (apply r_pickT; rfl)
    | (apply r_pickF; rfl)
    | (apply r_lenD; rfl)
    | (apply r_lenL; rfl)
    | (apply r_len0; rfl)
    | (apply r_gT; rfl)
    | (apply r_gF'; rfl; rfl)
    | (apply r_gN'; rfl)
    | ((apply r_gS (o := default); rfl) <;> (intro h; try simp only [decide_eq_true_eq, decide_eq_false_iff_not, Bool.not_eq_true, Bool.not_eq_false] at h))
    | (apply r_box; ((conv => lhs; simp only [Nat.reduceAdd]) <;> rfl); rfl; rfl; rfl)
    | (apply r_stL; rfl; rfl; rfl; rfl; (first | rfl | (simp only [z_nil, z_add] <;> rfl)); rfl; rfl)
    | (apply r_p; rfl)
    | (apply r_nilK)
    | (apply r_nil)
    | (apply k_V; rfl)
    | (apply k_P; rfl)
    | (apply k_PL; rfl)
    | (apply k_S; rfl)
    | (apply k_SL; rfl)
    | (apply k_A; rfl)
    | (apply k_T; rfl)
    | (apply k_F; rfl)
    | (apply k_D; rfl; rotate_left; rfl)
    | (apply k_nil)
    | (apply e_ret (vs := [.d (.val _)]); rfl)
    | (apply e_ret; rfl)
    | (apply e_ret' (vs := [.d (.val _)]); rfl)
    | (apply e_ret'; rfl)
    | (apply w_seq)
    | (apply w_ops; ((conv => lhs; simp only [Nat.reduceAdd]) <;> rfl))
    | (apply w_condT; rfl)
    | (apply w_condF; rfl)
    | ((apply w_condS; rfl) <;> (intro h; try simp only [decide_eq_true_eq, decide_eq_false_iff_not, Bool.not_eq_true, Bool.not_eq_false] at h))
    | (apply e_thenN)
    | (apply w_block)
    | (apply e_thenR)
    | (apply e_thenX)
    | (apply e_blkN)
    | (apply e_blkR)
    | (apply e_blkE)
    | (apply w_exit)
    | (apply w_ret)
    | (apply w_skip)
    | (apply e_blkE'; rfl))
      apply e_thenK
      apply hK (kk + 1, p)
      · refine ⟨by dsimp only; omega, hpl, fun j hj => ?_⟩
        rw [hp j hj]
        dsimp only
        constructor
        · rintro ⟨r, g1, g2, g3⟩; omega
        · rintro ⟨r, g1, g2, g3⟩; omega
      · dsimp only; omega
      · dsimp only
        refine Wk.f (wkM [] [] rfl ?_ ?_ rfl ?_)
        · intro p hp; simp only [List.mem_cons, List.not_mem_nil, or_false] at hp; rcases hp with rfl | rfl <;> first | exact ⟨by omega, .inr ⟨rfl, _, rfl, .data rfl⟩⟩ | exact ⟨by omega, .inr ⟨rfl, _, rfl, .data encB_isD⟩⟩
        · intro q hq; simp only [List.mem_cons, List.not_mem_nil, or_false] at hq; rcases hq with rfl <;> rfl
        · repeat' (first
    | exact FWk.nil
    | (apply FWk.i; rfl; (first | rfl | omega | (simp; done)))
    | (apply FWk.sl; rfl; rfl; rfl; rfl; omega; rfl)
    | (apply FWk.ptr; rfl; rfl; rfl; omega; rfl)
    | (apply FWk.d; rfl; rfl)
    | (apply FWk.a; rfl; rfl; rfl)
    | (apply FWk.slN; rfl; omega; rfl))
noncomputable def nullS (t : T) : Bool := @decide (L t []) (Classical.propDecidable _)
end Go.Sv
namespace Go.Sv
open Go
set_option linter.unusedVariables false
structure FOf (P : List Nat → Prop) (f : Fa) : Prop where
  no : f.no = true → ∀ w, ¬ P w
  lo : f.no = false → (∃ w, P w ∧ (w.length : Int) = f.lo) ∧ ∀ w, P w → f.lo ≤ w.length
  hi : f.no = false → 0 ≤ f.hi → ∀ w, P w → (w.length : Int) ≤ f.hi
  fi : ∀ y, y < 256 → (inG f.a f.b f.c f.d y = true ↔ ∃ w, P (y :: w))
theorem inG_zero (y : Nat) : inG 0 0 0 0 y = false := by
  cases h : inG 0 0 0 0 y with
  | false => rfl
  | true =>
    have h1 := inG_lt h
    have h2 := (zero_iff (a := 0) (b := 0) (c := 0) (d := 0) (by unfold okW; omega) (by unfold okW; omega) (by unfold okW; omega) (by unfold okW; omega)).1 (by decide) y h1
    rw [h] at h2; exact h2
theorem FOf.congr {P Q : List Nat → Prop} {f : Fa} (h : FOf P f) (e : ∀ w, Q w ↔ P w) : FOf Q f := by
  have : Q = P := funext fun w => propext (e w)
  rw [this]; exact h
theorem fof_no {P : List Nat → Prop} (h : ∀ w, ¬ P w) : FOf P faNo :=
  ⟨fun _ => h, fun h => by simp [faNo] at h, fun h => by simp [faNo] at h, fun y hy => by
    simp only [faNo, inG_zero]
    exact ⟨fun h => by simp at h, fun ⟨w, hw⟩ => absurd hw (h _)⟩⟩
theorem fof_E {P : List Nat → Prop} (h : ∀ w, P w ↔ w = []) : FOf P faE :=
  ⟨fun h => by simp [faE] at h, fun _ => ⟨⟨[], (h []).2 rfl, rfl⟩, fun w _ => by simp [faE]⟩, fun _ _ w hw => by rw [(h w).1 hw]; simp [faE], fun y hy => by
    simp only [faE, inG_zero]
    exact ⟨fun h => by simp at h, fun ⟨w, hw⟩ => by have := (h _).1 hw; simp at this⟩⟩
def cat2 (P Q : List Nat → Prop) (w : List Nat) : Prop := ∃ u v, w = u ++ v ∧ P u ∧ Q v
theorem FOf.some {P : List Nat → Prop} {f : Fa} (h : FOf P f) (hn : f.no = false) : ∃ w, P w := by
  obtain ⟨w, hw, _⟩ := (h.lo hn).1
  exact ⟨w, hw⟩
theorem FOf.nil {P : List Nat → Prop} {f : Fa} (h : FOf P f) (hn : f.no = false) (ho : 0 ≤ f.lo) : f.lo = 0 ↔ P [] := by
  obtain ⟨⟨w, hw, hl⟩, h2⟩ := h.lo hn
  constructor
  · intro e
    have : w = [] := List.length_eq_zero_iff.1 (by omega)
    rwa [this] at hw
  · intro hp
    have := h2 [] hp
    simp at this
    omega
theorem fof_then {P Q : List Nat → Prop} {f g : Fa} {X Y : Int} (hf : FOf P f) (hg : FOf Q g) (of : okF f X) (og : okF g Y) : FOf (cat2 P Q) (faThen f g) := by
  obtain ⟨⟨fa, fb, fc, fd⟩, f1, f2, _, _⟩ := of
  obtain ⟨⟨ga, gb, gc, gd⟩, g1, g2, _, _⟩ := og
  unfold faThen
  split
  · rename_i h
    refine fof_no ?_
    rintro w ⟨u, v, _, h1, h2⟩
    rcases h with h | h
    · exact hf.no h u h1
    · exact hg.no h v h2
  · rename_i h
    have hfn : f.no = false := by cases e : f.no <;> simp_all
    have hgn : g.no = false := by cases e : g.no <;> simp_all
    have b1 := f2 hfn
    have b2 := g2 hgn
    have hlo : (∃ w, cat2 P Q w ∧ (w.length : Int) = f.lo + g.lo) ∧ ∀ w, cat2 P Q w → f.lo + g.lo ≤ w.length := by
      obtain ⟨⟨u, hu, lu⟩, mu⟩ := hf.lo hfn
      obtain ⟨⟨v, hv, lv⟩, mv⟩ := hg.lo hgn
      refine ⟨⟨u ++ v, ⟨u, v, rfl, hu, hv⟩, by rw [List.length_append]; omega⟩, ?_⟩
      rintro w ⟨a, b, rfl, ha, hb⟩
      have := mu a ha
      have := mv b hb
      rw [List.length_append]; omega
    have hhi : 0 ≤ plusH f.hi g.hi → ∀ w, cat2 P Q w → (w.length : Int) ≤ plusH f.hi g.hi := by
      intro h0
      unfold plusH at h0 ⊢
      split at h0
      · omega
      · rename_i hne
        rw [if_neg hne]
        rintro w ⟨a, b, rfl, ha, hb⟩
        have := hf.hi hfn (by omega) a ha
        have := hg.hi hgn (by omega) b hb
        rw [List.length_append]; omega
    split
    · rename_i h0
      refine ⟨fun h => by simp at h, fun _ => hlo, fun _ => hhi, fun y hy => ?_⟩
      dsimp only
      rw [inG_or fa fb fc fd ga gb gc gd, Bool.or_eq_true, hf.fi y hy, hg.fi y hy]
      have hn := (hf.nil hfn b1.1).1 h0
      obtain ⟨v0, hv0⟩ := hg.some hgn
      constructor
      · rintro (⟨w, hw⟩ | ⟨w, hw⟩)
        · exact ⟨w ++ v0, y :: w, v0, rfl, hw, hv0⟩
        · exact ⟨w, [], y :: w, rfl, hn, hw⟩
      · rintro ⟨w, u, v, e, hu, hv⟩
        cases u with
        | nil => exact .inr ⟨w, by rw [e]; exact hv⟩
        | cons z u =>
          simp only [List.cons_append, List.cons.injEq] at e
          obtain ⟨rfl, _⟩ := e
          exact .inl ⟨u, hu⟩
    · rename_i h0
      refine ⟨fun h => by simp at h, fun _ => hlo, fun _ => hhi, fun y hy => ?_⟩
      dsimp only
      rw [hf.fi y hy]
      have hn : ¬ P [] := fun h => h0 ((hf.nil hfn b1.1).2 h)
      obtain ⟨v0, hv0⟩ := hg.some hgn
      constructor
      · rintro ⟨w, hw⟩
        exact ⟨w ++ v0, y :: w, v0, rfl, hw, hv0⟩
      · rintro ⟨w, u, v, e, hu, hv⟩
        cases u with
        | nil => exact absurd hu hn
        | cons z u =>
          simp only [List.cons_append, List.cons.injEq] at e
          obtain ⟨rfl, _⟩ := e
          exact ⟨u, hu⟩
theorem fof_or {P Q : List Nat → Prop} {f g : Fa} {X Y : Int} (hf : FOf P f) (hg : FOf Q g) (of : okF f X) (og : okF g Y) : FOf (fun w => P w ∨ Q w) (faOr f g) := by
  obtain ⟨⟨fa, fb, fc, fd⟩, f1, f2, _, _⟩ := of
  obtain ⟨⟨ga, gb, gc, gd⟩, g1, g2, _, _⟩ := og
  unfold faOr
  split
  · rename_i h
    exact hg.congr fun w => ⟨fun h2 => h2.resolve_left (hf.no h w), .inr⟩
  · rename_i h
    have hfn : f.no = false := by simpa using h
    split
    · rename_i h2
      exact hf.congr fun w => ⟨fun h3 => h3.resolve_right (hg.no h2 w), .inl⟩
    · rename_i h2
      have hgn : g.no = false := by simpa using h2
      have b1 := f2 hfn
      have b2 := g2 hgn
      obtain ⟨⟨u, hu, lu⟩, mu⟩ := hf.lo hfn
      obtain ⟨⟨v, hv, lv⟩, mv⟩ := hg.lo hgn
      refine ⟨fun h => by simp at h, fun _ => ⟨?_, ?_⟩, fun _ h0 => ?_, fun y hy => ?_⟩
      · dsimp only
        rcases Int.le_total f.lo g.lo with h3 | h3
        · exact ⟨u, .inl hu, by omega⟩
        · exact ⟨v, .inr hv, by omega⟩
      · dsimp only
        rintro w (h | h)
        · have := mu w h; omega
        · have := mv w h; omega
      · dsimp only at h0 ⊢
        split at h0
        · omega
        · rename_i hne
          rw [if_neg hne]
          rintro w (h | h)
          · have := hf.hi hfn (by omega) w h; omega
          · have := hg.hi hgn (by omega) w h; omega
      · dsimp only
        rw [inG_or fa fb fc fd ga gb gc gd, Bool.or_eq_true, hf.fi y hy, hg.fi y hy]
        constructor
        · rintro (⟨w, hw⟩ | ⟨w, hw⟩)
          · exact ⟨w, .inl hw⟩
          · exact ⟨w, .inr hw⟩
        · rintro ⟨w, hw | hw⟩
          · exact .inl ⟨w, hw⟩
          · exact .inr ⟨w, hw⟩
theorem pow_lo {P : List Nat → Prop} {lo : Int} (h : ∀ w, P w → lo ≤ w.length) : ∀ (r : Nat) (w : List Nat), powL P r w → r * lo ≤ w.length
  | 0, w, _ => by simp
  | r + 1, w, ⟨u, v, e, h1, h2⟩ => by
    have a1 := h u h1
    have a2 := pow_lo h r v h2
    rw [e, List.length_append]
    have : ((r + 1 : Nat) : Int) * lo = r * lo + lo := by rw [Int.natCast_add, Int.add_mul]; simp
    omega
theorem pow_hi {P : List Nat → Prop} {hi : Int} (h : ∀ w, P w → (w.length : Int) ≤ hi) : ∀ (r : Nat) (w : List Nat), powL P r w → (w.length : Int) ≤ r * hi
  | 0, w, h0 => by have h0 : w = [] := h0; subst h0; simp
  | r + 1, w, ⟨u, v, e, h1, h2⟩ => by
    have a1 := h u h1
    have a2 := pow_hi h r v h2
    rw [e, List.length_append]
    have : ((r + 1 : Nat) : Int) * hi = r * hi + hi := by rw [Int.natCast_add, Int.add_mul]; simp
    omega
theorem pow_len {P : List Nat → Prop} {u : List Nat} (h : P u) : ∀ r : Nat, ∃ w, powL P r w ∧ w.length = r * u.length
  | 0 => ⟨[], rfl, by simp⟩
  | r + 1 => by
    obtain ⟨w, hw, hl⟩ := pow_len h r
    exact ⟨u ++ w, ⟨u, w, rfl, h, hw⟩, by rw [List.length_append, hl, Nat.succ_mul]; omega⟩
theorem fof_times {P : List Nat → Prop} {f : Fa} {X mn mx : Int} (hf : FOf P f) (of : okF f X) (h1 : 0 ≤ mn ∧ mn ≤ 20) (h2 : mx = -1 ∨ (mn ≤ mx ∧ mx ≤ 20)) :
    FOf (fun w => ∃ r : Nat, mn ≤ r ∧ (mx < 0 ∨ (r : Int) ≤ mx) ∧ powL P r w) (faTimes f mn mx) := by
  obtain ⟨⟨fa, fb, fc, fd⟩, f1, f2, _, _⟩ := of
  unfold faTimes
  split
  · rename_i h
    refine fof_E fun w => ?_
    constructor
    · rintro ⟨r, a, b, hp⟩
      rcases h with h | ⟨h, h0⟩
      · have : r = 0 := by omega
        subst this; exact hp
      · cases r with
        | zero => exact hp
        | succ r => obtain ⟨u, v, _, hu, _⟩ := hp; exact absurd hu (hf.no h u)
    · rintro rfl
      refine ⟨0, ?_, ?_, rfl⟩
      · rcases h with h | ⟨h, h0⟩ <;> omega
      · rcases h with h | ⟨h, h0⟩ <;> omega
  · rename_i h
    split
    · rename_i hno
      refine fof_no ?_
      rintro w ⟨r, a, b, hp⟩
      cases r with
      | zero => simp [hno] at h; omega
      | succ r => obtain ⟨u, v, _, hu, _⟩ := hp; exact absurd hu (hf.no hno u)
    · rename_i hno
      have hfn : f.no = false := by simpa using hno
      have b1 := f2 hfn
      have hx : mx ≠ 0 := fun e => h (.inl e)
      obtain ⟨⟨u, hu, lu⟩, mu⟩ := hf.lo hfn
      obtain ⟨m, rfl⟩ := Int.eq_ofNat_of_zero_le h1.1
      refine ⟨fun h => by simp at h, fun _ => ⟨?_, ?_⟩, fun _ h0 => ?_, fun y hy => ?_⟩
      · obtain ⟨w, hw, hl⟩ := pow_len hu m
        refine ⟨w, ⟨m, by omega, by omega, hw⟩, ?_⟩
        dsimp only
        rw [hl, Int.natCast_mul, lu, Int.mul_comm]
      · dsimp only
        rintro w ⟨r, a, b, hp⟩
        have := pow_lo mu r w hp
        have : f.lo * (m : Int) ≤ f.lo * r := Int.mul_le_mul_of_nonneg_left a b1.1
        rw [Int.mul_comm (r : Int)] at *
        omega
      · dsimp only at h0 ⊢
        rintro w ⟨r, a, b, hp⟩
        split at h0
        · rename_i hz
          rw [if_pos hz]
          have h3 := hf.hi hfn (by omega)
          have := pow_hi h3 r w hp
          rw [hz] at this; simpa using this
        · rename_i hz
          rw [if_neg hz]
          split at h0
          · omega
          · rename_i hne
            rw [if_neg hne]
            have h3 := hf.hi hfn (by omega)
            have h4 := pow_hi h3 r w hp
            have h5 : f.hi * (r : Int) ≤ f.hi * mx := Int.mul_le_mul_of_nonneg_left (by omega) (by omega)
            rw [Int.mul_comm (r : Int)] at h4
            omega
      · dsimp only
        rw [hf.fi y hy]
        exact (rep_first (P := P) h1.1 (by omega) hx y).symm
theorem knC_of : ∀ (l : List T) (f : Fa) (P : List Nat → Prop) (X : Int) (o : Nat), 0 ≤ X → FOf P f → okF f X → (∀ u ∈ l, okF (knT u) ((u.cnt : Nat) * pw o) ∧ FOf (L u) (knT u)) → FOf (cat2 P (catL l)) (knC l f)
  | [], f, P, X, o, hX, hf, of, _ => by
    rw [knC]
    refine hf.congr fun w => ?_
    constructor
    · rintro ⟨u, v, rfl, hu, hv⟩
      have hv : v = [] := hv
      rw [hv, List.append_nil]; exact hu
    · intro h; exact ⟨w, [], by simp, h, rfl⟩
  | t :: l, f, P, X, o, hX, hf, of, h => by
    have hp := pw_pos o
    have h1 := h t (by simp)
    have h0 : 0 ≤ ((t.cnt : Nat) : Int) * pw o := Int.mul_nonneg (by omega) (by omega)
    have := knC_of l (faThen f (knT t)) (cat2 P (L t)) _ o (by omega) (fof_then hf h1.2 of h1.1) (okF_then of h1.1 hX h0) (fun u hu => h u (by simp [hu]))
    rw [knC]
    refine this.congr fun w => ?_
    constructor
    · rintro ⟨a, b, rfl, ha, c, d, rfl, hc, hd⟩
      exact ⟨a ++ c, d, by simp, ⟨a, c, rfl, ha, hc⟩, hd⟩
    · rintro ⟨a, b, rfl, ⟨c, d, rfl, hc, hd⟩, hb⟩
      exact ⟨c, d ++ b, by simp, hc, d, b, rfl, hd, hb⟩
theorem knO_of : ∀ (l : List T) (f : Fa) (P : List Nat → Prop) (X : Int) (o : Nat), 0 ≤ X → FOf P f → okF f X → (∀ u ∈ l, okF (knT u) ((u.cnt : Nat) * pw o) ∧ FOf (L u) (knT u)) → FOf (fun w => P w ∨ altL l w) (knO l f)
  | [], f, P, X, o, hX, hf, of, _ => by
    rw [knO]
    exact hf.congr fun w => ⟨fun h => h.resolve_right fun h => h.elim, .inl⟩
  | t :: l, f, P, X, o, hX, hf, of, h => by
    have hp := pw_pos o
    have h1 := h t (by simp)
    have h0 : 0 ≤ ((t.cnt : Nat) : Int) * pw o := Int.mul_nonneg (by omega) (by omega)
    have := knO_of l (faOr f (knT t)) (fun w => P w ∨ L t w) _ o (by omega) (fof_or hf h1.2 of h1.1) (okF_or of h1.1 hX h0) (fun u hu => h u (by simp [hu]))
    rw [knO]
    refine this.congr fun w => ?_
    simp only [altL, or_assoc]
mutual
theorem kn_of : ∀ t : T, okT t → FOf (L t) (knT t)
  | .node k a b c d mn mx subs, ho => by
    have hsub := knL_of subs (okT_subs ho)
    have hS := okT_S ho
    obtain ⟨ha, hb, hc, hd⟩ := hS
    have hop := open_nonneg _ ho
    have hsub' : ∀ u ∈ subs, okF (knT u) ((u.cnt : Nat) * pw (openT (.node k a b c d mn mx subs)).toNat) ∧ FOf (L u) (knT u) := fun u hu => by
      refine ⟨okF_mono (kn_ok u ((okL_iff _).1 (okT_subs ho) u hu)) ?_, hsub u hu⟩
      have h1 := sub_open (u := u) ho hu
      exact bT_le (Nat.le_refl _) (by omega)
    have hk := (plainT_kind (okT_plain ho)).1
    rw [knT]
    rcases hk with rfl | rfl | rfl | rfl | rfl
    · exact fof_E fun w => L_k1
    · rw [if_pos rfl]
      split
      · rename_i hz
        refine fof_no fun w hw => ?_
        obtain ⟨x, rfl, hx⟩ := L_k2.1 hw
        have := (zero_iff ha hb hc hd).1 hz x (inG_lt hx)
        rw [this] at hx; cases hx
      · rename_i hz
        have hne : ∃ x, inG a b c d x = true := Classical.byContradiction fun hn => hz ((zero_iff ha hb hc hd).2 fun x _ => by
          cases e : inG a b c d x with
          | false => rfl
          | true => exact absurd ⟨x, e⟩ hn)
        obtain ⟨x, hx⟩ := hne
        refine ⟨fun h => by simp at h, fun _ => ⟨⟨[x], L_k2.2 ⟨x, rfl, hx⟩, rfl⟩, fun w hw => ?_⟩, fun _ _ w hw => ?_, fun y hy => ?_⟩
        · obtain ⟨z, rfl, _⟩ := L_k2.1 hw; simp
        · obtain ⟨z, rfl, _⟩ := L_k2.1 hw; simp
        · dsimp only
          constructor
          · intro h; exact ⟨[], L_k2.2 ⟨y, rfl, h⟩⟩
          · rintro ⟨w, hw⟩
            obtain ⟨z, e, hz⟩ := L_k2.1 hw
            simp only [List.cons.injEq] at e
            obtain ⟨rfl, _⟩ := e
            exact hz
    · rw [if_neg (by omega), if_pos rfl]
      refine (knC_of subs faE (fun w => w = []) 0 _ (Int.le_refl _) (fof_E fun w => Iff.rfl) (okF_E (Int.le_refl _)) hsub').congr fun w => ?_
      rw [L_k3]
      constructor
      · intro h; exact ⟨[], w, rfl, rfl, h⟩
      · rintro ⟨u, v, rfl, rfl, h⟩; exact h
    · rw [if_neg (by omega), if_neg (by omega), if_pos rfl]
      refine (knO_of subs faNo (fun w => False) 0 _ (Int.le_refl _) (fof_no fun w h => h) (okF_no (Int.le_refl _)) hsub').congr fun w => ?_
      rw [L_k4]
      exact ⟨.inr, fun h => h.resolve_left id⟩
    · rw [if_neg (by omega), if_neg (by omega), if_neg (by omega), if_pos rfl]
      obtain ⟨u, rfl⟩ := plainT_5 (okT_plain ho)
      have hR := okT_R ho rfl
      rw [knR]
      refine (fof_times (hsub u (by simp)) (hsub' u (by simp)).1 hR.1 hR.2).congr fun w => ?_
      rw [L_k5]; rfl
theorem knL_of : ∀ l : List T, okL l → ∀ u ∈ l, FOf (L u) (knT u)
  | [], _ => by simp
  | t :: l, h => by
    simp only [okL] at h
    intro u hu
    rcases List.mem_cons.1 hu with e | hu
    · rw [e]; exact kn_of t h.1
    · exact knL_of l h.2 u hu
end
end Go.Sv
namespace Go.Sv
open Go Go.Proofs
set_option maxRecDepth 100000
def x64 : XC := (.seq (.ops 1 [
    (0, ⟨(some 0), none, .mv (.k (.d (.val (.bool false))))⟩)] (some [])) (.seq (.ops 9 [
    (0, ⟨(some 12), none, .call 118 [(.k (.d (.val (.string ⟨#[97, 123, 50, 44, 51, 125, 124, 98, 42]⟩))))] none false⟩),
    (1, ⟨(some 11), none, .mv (.t 12)⟩),
    (2, ⟨(some 13), none, .ext (.t 11) 0⟩),
    (3, ⟨(some 14), none, .ext (.t 11) 1⟩),
    (4, ⟨(some 15), none, .ext (.t 11) 2⟩),
    (5, ⟨(some 1), none, .alloc [(.int .i64 0), (.int .u64 0), (.int .u64 0), (.int .u64 0), (.int .u64 0), (.int .i64 0), (.int .i64 0), (.slice none 0 0)]⟩),
    (6, ⟨none, none, .store 8 (.t 1) (.t 13)⟩),
    (7, ⟨(some 2), none, .mv (.t 14)⟩),
    (8, ⟨(some 3), none, .mv (.t 15)⟩)] (some [1])) (.seq (.ops 9 [
    (0, ⟨(some 17), none, .call 118 [(.k (.d (.val (.string ⟨#[97, 91, 93]⟩))))] none false⟩),
    (1, ⟨(some 16), none, .mv (.t 17)⟩),
    (2, ⟨(some 18), none, .ext (.t 16) 0⟩),
    (3, ⟨(some 19), none, .ext (.t 16) 1⟩),
    (4, ⟨(some 20), none, .ext (.t 16) 2⟩),
    (5, ⟨(some 4), none, .alloc [(.int .i64 0), (.int .u64 0), (.int .u64 0), (.int .u64 0), (.int .u64 0), (.int .i64 0), (.int .i64 0), (.slice none 0 0)]⟩),
    (6, ⟨none, none, .store 8 (.t 4) (.t 18)⟩),
    (7, ⟨(some 5), none, .mv (.t 19)⟩),
    (8, ⟨(some 6), none, .mv (.t 20)⟩)] (some [1, 4])) (.seq (.ops 7 [
    (0, ⟨(some 22), none, .load (some 8) (.t 1)⟩),
    (1, ⟨(some 23), none, .call 66 [(.t 22)] none false⟩),
    (2, ⟨(some 21), none, .mv (.t 23)⟩),
    (3, ⟨(some 24), none, .ext (.t 21) 0⟩),
    (4, ⟨(some 25), none, .ext (.t 21) 1⟩),
    (5, ⟨(some 7), none, .mv (.t 24)⟩),
    (6, ⟨(some 8), none, .mv (.t 25)⟩)] (some [1, 4, 7, 8])) (.seq (.ops 7 [
    (0, ⟨(some 27), none, .load (some 8) (.t 4)⟩),
    (1, ⟨(some 28), none, .call 66 [(.t 27)] none false⟩),
    (2, ⟨(some 26), none, .mv (.t 28)⟩),
    (3, ⟨(some 29), none, .ext (.t 26) 0⟩),
    (4, ⟨(some 30), none, .ext (.t 26) 1⟩),
    (5, ⟨(some 9), none, .mv (.t 29)⟩),
    (6, ⟨(some 10), none, .mv (.t 30)⟩)] (some [1, 4, 7, 8, 9, 10])) (.seq (.ops 60 [
    (0, ⟨(some 31), none, .load (some 8) (.t 1)⟩),
    (1, ⟨(some 32), none, .call 67 [(.t 31)] none false⟩),
    (2, ⟨(some 33), none, .arith .eql (.t 32) (.k (.d (.val (.int .i64 5))))⟩),
    (3, ⟨(some 34), none, .mv (.t 33)⟩),
    (4, ⟨(some 35), (some (34, true)), .load (some 8) (.t 1)⟩),
    (5, ⟨(some 36), (some (34, true)), .call 68 [(.t 35)] none false⟩),
    (6, ⟨(some 37), (some (34, true)), .arith .eql (.t 36) (.k (.d (.val (.int .i64 14))))⟩),
    (7, ⟨(some 38), none, .pick (.t 34) (.t 37) (.k (.d (.val (.bool false))))⟩),
    (8, ⟨(some 39), none, .mv (.t 38)⟩),
    (9, ⟨(some 40), (some (39, true)), .load (some 8) (.t 1)⟩),
    (10, ⟨(some 41), (some (39, true)), .call 69 [(.t 40)] none false⟩),
    (11, ⟨(some 42), none, .pick (.t 39) (.t 41) (.k (.d (.val (.bool false))))⟩),
    (12, ⟨(some 43), none, .mv (.t 42)⟩),
    (13, ⟨(some 44), (some (43, true)), .load (some 8) (.t 1)⟩),
    (14, ⟨(some 45), (some (43, true)), .call 70 [(.t 44)] none false⟩),
    (15, ⟨(some 46), (some (43, true)), .call 119 [(.k (.d (.val (.int .u8 97)))), (.k (.d (.val (.int .u8 98))))] none false⟩),
    (16, ⟨(some 47), (some (43, true)), .eqAgg 4 false (.t 45) (.t 46)⟩),
    (17, ⟨(some 48), none, .pick (.t 43) (.t 47) (.k (.d (.val (.bool false))))⟩),
    (18, ⟨(some 49), none, .mv (.t 48)⟩),
    (19, ⟨(some 50), (some (49, true)), .mv (.t 7)⟩),
    (20, ⟨(some 51), (some (49, true)), .arith .eql (.t 50) (.k (.d (.val (.int .i64 0))))⟩),
    (21, ⟨(some 52), none, .pick (.t 49) (.t 51) (.k (.d (.val (.bool false))))⟩),
    (22, ⟨(some 53), none, .mv (.t 52)⟩),
    (23, ⟨(some 54), (some (53, true)), .mv (.t 8)⟩),
    (24, ⟨(some 55), (some (53, true)), .arith .eql (.t 54) (.k (.d (.val (.int .i64 (-1)))))⟩),
    (25, ⟨(some 56), none, .pick (.t 53) (.t 55) (.k (.d (.val (.bool false))))⟩),
    (26, ⟨(some 57), none, .mv (.t 56)⟩),
    (27, ⟨(some 58), (some (57, true)), .mv (.t 9)⟩),
    (28, ⟨(some 59), (some (57, true)), .arith .eql (.t 58) (.k (.d (.val (.int .i64 (-1)))))⟩),
    (29, ⟨(some 60), none, .pick (.t 57) (.t 59) (.k (.d (.val (.bool false))))⟩),
    (30, ⟨(some 61), none, .mv (.t 60)⟩),
    (31, ⟨(some 62), (some (61, true)), .mv (.t 10)⟩),
    (32, ⟨(some 63), (some (61, true)), .arith .eql (.t 62) (.k (.d (.val (.int .i64 (-1)))))⟩),
    (33, ⟨(some 64), none, .pick (.t 61) (.t 63) (.k (.d (.val (.bool false))))⟩),
    (34, ⟨(some 65), none, .mv (.t 64)⟩),
    (35, ⟨(some 66), (some (65, true)), .load (some 8) (.t 4)⟩),
    (36, ⟨(some 67), (some (65, true)), .call 71 [(.t 66)] none false⟩),
    (37, ⟨(some 68), none, .pick (.t 65) (.t 67) (.k (.d (.val (.bool false))))⟩),
    (38, ⟨(some 69), none, .mv (.t 68)⟩),
    (39, ⟨(some 70), (some (69, true)), .load (some 8) (.t 1)⟩),
    (40, ⟨(some 71), (some (69, true)), .call 71 [(.t 70)] none false⟩),
    (41, ⟨(some 72), (some (69, true)), .un .not (.t 71)⟩),
    (42, ⟨(some 73), none, .pick (.t 69) (.t 72) (.k (.d (.val (.bool false))))⟩),
    (43, ⟨(some 74), none, .mv (.t 73)⟩),
    (44, ⟨(some 75), (some (74, true)), .load (some 8) (.t 1)⟩),
    (45, ⟨(some 76), (some (74, true)), .call 65 [(.t 75)] none false⟩),
    (46, ⟨(some 77), (some (74, true)), .lenS (.t 76)⟩),
    (47, ⟨(some 78), (some (74, true)), .arith .eql (.t 77) (.k (.d (.val (.int .i64 2))))⟩),
    (48, ⟨(some 79), none, .pick (.t 74) (.t 78) (.k (.d (.val (.bool false))))⟩),
    (49, ⟨(some 80), none, .mv (.t 79)⟩),
    (50, ⟨(some 81), (some (80, true)), .build [(.int .i64 0), (.int .u64 0), (.int .u64 0), (.int .u64 0), (.int .u64 0), (.int .i64 0), (.int .i64 0), (.slice none 0 0)] []⟩),
    (51, ⟨(some 82), (some (80, true)), .call 67 [(.t 81)] none false⟩),
    (52, ⟨(some 83), (some (80, true)), .arith .eql (.t 82) (.k (.d (.val (.int .i64 0))))⟩),
    (53, ⟨(some 84), none, .pick (.t 80) (.t 83) (.k (.d (.val (.bool false))))⟩),
    (54, ⟨(some 85), none, .mv (.t 84)⟩),
    (55, ⟨(some 86), (some (85, true)), .build [(.int .i64 0), (.int .u64 0), (.int .u64 0), (.int .u64 0), (.int .u64 0), (.int .i64 0), (.int .i64 0), (.slice none 0 0)] []⟩),
    (56, ⟨(some 87), (some (85, true)), .call 68 [(.t 86)] none false⟩),
    (57, ⟨(some 88), (some (85, true)), .arith .eql (.t 87) (.k (.d (.val (.int .i64 0))))⟩),
    (58, ⟨(some 89), none, .pick (.t 85) (.t 88) (.k (.d (.val (.bool false))))⟩),
    (59, ⟨(some 0), none, .mv (.t 89)⟩)] (some [0])) .ret))))))
def md64 : FuncId → Option Nat × Bool
  | _ => (none, false)
def od64 : Nat → List (List Nat) × List Nat × Option (List Nat)
  | 0 => ([], [], some [])
  | 1 => ([], [], some [1])
  | 2 => ([], [], some [1, 4])
  | 3 => ([], [], some [1, 4, 7, 8])
  | 4 => ([], [], some [1, 4, 7, 8, 9, 10])
  | 5 => ([], [], some [0])
  | _ => ([], [], none)
theorem b64 {ags : List AV} {row : Option (List DV)} {r : AV} {row' nw : Option (List DV)} (hal : ags.length ≤ 90) (hrow : row'.isSome = true → row.isSome = true) (h : xwp Try.prog x64 (retK [.tmp 0] row.isSome r row' nw) (St.init ags row)) : Good Try.prog 64 ags row r row' nw :=
  good_of_body' (md := md64) (od := od64) Try.f64 (by kernel_rfl) (by kernel_rfl) (by kernel_rfl) (by kernel_rfl) (by kernel_rfl) hal hrow h

def x65 : XC := (.seq (.ops 2 [
    (0, ⟨(some 1), none, .box (.t 0)⟩),
    (1, ⟨(some 2), none, .mv (.k (.d (.val (.slice none 0 0))))⟩)] (some [1])) (.seq (.seq (.ops 3 [
    (0, ⟨(some 3), none, .load (some 8) (.t 1)⟩),
    (1, ⟨(some 4), none, .call 84 [(.t 3)] none false⟩),
    (2, ⟨(some 5), none, .un .not (.t 4)⟩)] (some [1, 5])) (.cond (.t 5) (.seq (.ops 1 [
    (0, ⟨(some 2), none, .mv (.k (.d (.val (.slice none 0 0))))⟩)] (some [2])) .ret) .skip)) (.seq (.ops 2 [
    (0, ⟨(some 6), none, .call 120 [(.t 1), (.k (.d (.val (.slice none 0 0))))] (some 1) true⟩),
    (1, ⟨(some 2), none, .mv (.t 6)⟩)] (some [2])) .ret)))
def md65 : FuncId → Option Nat × Bool
  | 120 => (some 1, true)
  | _ => (none, false)
def od65 : Nat → List (List Nat) × List Nat × Option (List Nat)
  | 0 => ([], [], some [1])
  | 1 => ([], [], some [1, 5])
  | 2 => ([], [], some [2])
  | 3 => ([], [], some [2])
  | _ => ([], [], none)
theorem b65 {ags : List AV} {row : Option (List DV)} {r : AV} {row' nw : Option (List DV)} (hal : ags.length ≤ 7) (hrow : row'.isSome = true → row.isSome = true) (h : xwp Try.prog x65 (retK [.tmp 2] row.isSome r row' nw) (St.init ags row)) : Good Try.prog 65 ags row r row' nw :=
  good_of_body' (md := md65) (od := od65) Try.f65 (by kernel_rfl) (by kernel_rfl) (by kernel_rfl) (by kernel_rfl) (by kernel_rfl) hal hrow h

def x67 : XC := (.seq (.ops 2 [
    (0, ⟨(some 1), none, .box (.t 0)⟩),
    (1, ⟨(some 2), none, .mv (.k (.d (.val (.int .i64 0))))⟩)] (some [1])) (.seq (.seq (.ops 3 [
    (0, ⟨(some 3), none, .load (some 8) (.t 1)⟩),
    (1, ⟨(some 4), none, .call 84 [(.t 3)] none false⟩),
    (2, ⟨(some 5), none, .un .not (.t 4)⟩)] (some [1, 5])) (.cond (.t 5) (.seq (.ops 1 [
    (0, ⟨(some 2), none, .mv (.k (.d (.val (.int .i64 0))))⟩)] (some [2])) .ret) .skip)) (.seq (.ops 2 [
    (0, ⟨(some 6), none, .call 122 [(.t 1)] none false⟩),
    (1, ⟨(some 2), none, .mv (.t 6)⟩)] (some [2])) .ret)))
def md67 : FuncId → Option Nat × Bool
  | _ => (none, false)
def od67 : Nat → List (List Nat) × List Nat × Option (List Nat)
  | 0 => ([], [], some [1])
  | 1 => ([], [], some [1, 5])
  | 2 => ([], [], some [2])
  | 3 => ([], [], some [2])
  | _ => ([], [], none)
theorem b67 {ags : List AV} {row : Option (List DV)} {r : AV} {row' nw : Option (List DV)} (hal : ags.length ≤ 7) (hrow : row'.isSome = true → row.isSome = true) (h : xwp Try.prog x67 (retK [.tmp 2] row.isSome r row' nw) (St.init ags row)) : Good Try.prog 67 ags row r row' nw :=
  good_of_body' (md := md67) (od := od67) Try.f67 (by kernel_rfl) (by kernel_rfl) (by kernel_rfl) (by kernel_rfl) (by kernel_rfl) hal hrow h

def x120 : XC := (.seq (.ops 1 [
    (0, ⟨(some 4), none, .mv (.k (.d (.val (.slice none 0 0))))⟩)] (some [0, 1])) (.seq (.seq (.ops 5 [
    (0, ⟨(some 6), none, .mv (.t 0)⟩),
    (1, ⟨(some 7), none, .nilck (.t 6)⟩),
    (2, ⟨(some 8), none, .fadd 0 (.t 7)⟩),
    (3, ⟨(some 9), none, .load none (.t 8)⟩),
    (4, ⟨(some 10), none, .arith .eql (.t 9) (.k (.d (.val (.int .i64 2))))⟩)] (some [0, 1, 10])) (.cond (.t 10) (.seq (.ops 8 [
    (0, ⟨(some 11), none, .mv (.t 1)⟩),
    (1, ⟨(some 12), none, .mv (.t 0)⟩),
    (2, ⟨(some 13), none, .nilck (.t 12)⟩),
    (3, ⟨(some 14), none, .fadd 1 (.t 13)⟩),
    (4, ⟨(some 15), none, .load (some 4) (.t 14)⟩),
    (5, ⟨(some 16), none, .mkrow [(.int .u64 0), (.int .u64 0), (.int .u64 0), (.int .u64 0)] 1 4 [(0, 4, (.t 15))]⟩),
    (6, ⟨(some 17), none, .app [(.int .u64 0), (.int .u64 0), (.int .u64 0), (.int .u64 0)] 32 (.t 11) (.t 16)⟩),
    (7, ⟨(some 4), none, .mv (.t 17)⟩)] (some [4])) .ret) .skip)) (.seq (.seq (.ops 6 [
    (0, ⟨(some 18), none, .mv (.t 0)⟩),
    (1, ⟨(some 19), none, .nilck (.t 18)⟩),
    (2, ⟨(some 20), none, .fadd 7 (.t 19)⟩),
    (3, ⟨(some 21), none, .load none (.t 20)⟩),
    (4, ⟨(some 22), none, .lenS (.t 21)⟩),
    (5, ⟨(some 23), none, .mv (.k (.d (.val (.int .i64 0))))⟩)] (some [0, 1, 22, 23])) (.block 0 (.loop (.seq (.ops 1 [
    (0, ⟨(some 24), none, .arith .lss (.t 23) (.t 22)⟩)] (some [0, 1, 22, 23, 24])) (.seq (.cond (.t 24) .skip (.exit 0)) (.seq (.block 1 (.seq (.ops 2 [
    (0, ⟨(some 25), none, .mv (.t 23)⟩),
    (1, ⟨(some 5), none, .mv (.t 25)⟩)] (some [0, 1, 5, 22, 23])) (.ops 9 [
    (0, ⟨(some 26), none, .mv (.t 0)⟩),
    (1, ⟨(some 27), none, .nilck (.t 26)⟩),
    (2, ⟨(some 28), none, .fadd 7 (.t 27)⟩),
    (3, ⟨(some 29), none, .load none (.t 28)⟩),
    (4, ⟨(some 30), none, .mv (.t 5)⟩),
    (5, ⟨(some 31), none, .idxS 8 (.t 29) (.t 30)⟩),
    (6, ⟨(some 32), none, .mv (.t 1)⟩),
    (7, ⟨(some 33), none, .call 120 [(.t 31), (.t 32)] (some 1) true⟩),
    (8, ⟨(some 1), none, .mv (.t 33)⟩)] (some [0, 1, 22, 23])))) (.ops 2 [
    (0, ⟨(some 34), none, .arith .add (.t 23) (.k (.d (.val (.int .i64 1))))⟩),
    (1, ⟨(some 23), none, .mv (.t 34)⟩)] (some [0, 1, 22, 23])))))))) (.seq (.ops 2 [
    (0, ⟨(some 35), none, .mv (.t 1)⟩),
    (1, ⟨(some 4), none, .mv (.t 35)⟩)] (some [4])) .ret))))
def md120 : FuncId → Option Nat × Bool
  | 120 => (some 1, true)
  | _ => (none, false)
def od120 : Nat → List (List Nat) × List Nat × Option (List Nat)
  | 0 => ([], [], some [0, 1])
  | 1 => ([], [], some [0, 1, 10])
  | 2 => ([], [], some [4])
  | 3 => ([], [], some [0, 1, 22, 23])
  | 4 => ([], [], some [0, 1, 22, 23, 24])
  | 5 => ([], [], some [0, 1, 5, 22, 23])
  | 6 => ([], [], some [0, 1, 22, 23])
  | 7 => ([], [], some [0, 1, 22, 23])
  | 8 => ([], [], some [4])
  | _ => ([], [], none)
theorem b120 {ags : List AV} {row : Option (List DV)} {r : AV} {row' nw : Option (List DV)} (hal : ags.length ≤ 36) (hrow : row'.isSome = true → row.isSome = true) (h : xwp Try.prog x120 (retK [.tmp 4] row.isSome r row' nw) (St.init ags row)) : Good Try.prog 120 ags row r row' nw :=
  good_of_body' (md := md120) (od := od120) Try.f120 (by kernel_rfl) (by kernel_rfl) (by kernel_rfl) (by kernel_rfl) (by kernel_rfl) hal hrow h

def x122 : XC := (.seq (.ops 1 [
    (0, ⟨(some 2), none, .mv (.k (.d (.val (.int .i64 0))))⟩)] (some [0])) (.seq (.ops 1 [
    (0, ⟨(some 3), none, .mv (.k (.d (.val (.int .i64 1))))⟩)] (some [0, 3])) (.seq (.seq (.ops 6 [
    (0, ⟨(some 5), none, .mv (.t 0)⟩),
    (1, ⟨(some 6), none, .nilck (.t 5)⟩),
    (2, ⟨(some 7), none, .fadd 7 (.t 6)⟩),
    (3, ⟨(some 8), none, .load none (.t 7)⟩),
    (4, ⟨(some 9), none, .lenS (.t 8)⟩),
    (5, ⟨(some 10), none, .mv (.k (.d (.val (.int .i64 0))))⟩)] (some [0, 3, 9, 10])) (.block 0 (.loop (.seq (.ops 1 [
    (0, ⟨(some 11), none, .arith .lss (.t 10) (.t 9)⟩)] (some [0, 3, 9, 10, 11])) (.seq (.cond (.t 11) .skip (.exit 0)) (.seq (.block 1 (.seq (.ops 2 [
    (0, ⟨(some 12), none, .mv (.t 10)⟩),
    (1, ⟨(some 4), none, .mv (.t 12)⟩)] (some [0, 3, 4, 9, 10])) (.ops 10 [
    (0, ⟨(some 13), none, .mv (.t 3)⟩),
    (1, ⟨(some 14), none, .mv (.t 0)⟩),
    (2, ⟨(some 15), none, .nilck (.t 14)⟩),
    (3, ⟨(some 16), none, .fadd 7 (.t 15)⟩),
    (4, ⟨(some 17), none, .load none (.t 16)⟩),
    (5, ⟨(some 18), none, .mv (.t 4)⟩),
    (6, ⟨(some 19), none, .idxS 8 (.t 17) (.t 18)⟩),
    (7, ⟨(some 20), none, .call 122 [(.t 19)] none false⟩),
    (8, ⟨(some 21), none, .arith .add (.t 13) (.t 20)⟩),
    (9, ⟨(some 3), none, .mv (.t 21)⟩)] (some [0, 3, 9, 10])))) (.ops 2 [
    (0, ⟨(some 22), none, .arith .add (.t 10) (.k (.d (.val (.int .i64 1))))⟩),
    (1, ⟨(some 10), none, .mv (.t 22)⟩)] (some [0, 3, 9, 10])))))))) (.seq (.ops 2 [
    (0, ⟨(some 23), none, .mv (.t 3)⟩),
    (1, ⟨(some 2), none, .mv (.t 23)⟩)] (some [2])) .ret))))
def md122 : FuncId → Option Nat × Bool
  | _ => (none, false)
def od122 : Nat → List (List Nat) × List Nat × Option (List Nat)
  | 0 => ([], [], some [0])
  | 1 => ([], [], some [0, 3])
  | 2 => ([], [], some [0, 3, 9, 10])
  | 3 => ([], [], some [0, 3, 9, 10, 11])
  | 4 => ([], [], some [0, 3, 4, 9, 10])
  | 5 => ([], [], some [0, 3, 9, 10])
  | 6 => ([], [], some [0, 3, 9, 10])
  | 7 => ([], [], some [2])
  | _ => ([], [], none)
theorem b122 {ags : List AV} {row : Option (List DV)} {r : AV} {row' nw : Option (List DV)} (hal : ags.length ≤ 24) (hrow : row'.isSome = true → row.isSome = true) (h : xwp Try.prog x122 (retK [.tmp 2] row.isSome r row' nw) (St.init ags row)) : Good Try.prog 122 ags row r row' nw :=
  good_of_body' (md := md122) (od := od122) Try.f122 (by kernel_rfl) (by kernel_rfl) (by kernel_rfl) (by kernel_rfl) (by kernel_rfl) hal hrow h

def tabM : Tab
  | 64 => some ⟨x64, [.tmp 0], 90, false, 8⟩
  | 65 => some ⟨x65, [.tmp 2], 7, false, 8⟩
  | 67 => some ⟨x67, [.tmp 2], 7, false, 8⟩
  | 120 => some ⟨x120, [.tmp 4], 36, true, 4⟩
  | 122 => some ⟨x122, [.tmp 2], 24, false, 8⟩
  | 121 => some ⟨x121, [.cell 2 (some 7), .tmp 3], 9, false, 8⟩
  | 69 => some ⟨x69, [.tmp 2], 21, false, 8⟩
  | 70 => some ⟨x70, [.cell 2 (some 4)], 12, false, 8⟩
  | 66 => some ⟨x66, [.tmp 2, .tmp 3], 15, false, 8⟩
  | 71 => some ⟨x71, [.tmp 2], 12, false, 8⟩
  | 151 => some ⟨x151, [.cell 2 (some 7)], 87, false, 8⟩
  | 165 => some ⟨x165, [.cell 0 (some 7)], 2, false, 8⟩
  | 173 => some ⟨x173, [.tmp 4], 14, false, 8⟩
  | 166 => some ⟨x166, [.cell 4 (some 7)], 34, false, 8⟩
  | 167 => some ⟨x167, [.cell 4 (some 7)], 39, false, 8⟩
  | 168 => some ⟨x168, [.cell 6 (some 7)], 45, false, 8⟩
  | 68 => some ⟨x68, [.tmp 2], 7, false, 8⟩
  | 123 => some ⟨x123, [.tmp 2], 54, false, 8⟩
  | 84 => some ⟨x84, [.tmp 2], 4, false, 8⟩
  | 132 => some ⟨x132, [.tmp 4], 46, false, 8⟩
  | 156 => some ⟨x156, [.tmp 2], 121, false, 8⟩
  | 157 => some ⟨x157, [.tmp 4], 24, false, 8⟩
  | 83 => some ⟨x83, [.cell 2 (some 8)], 13, false, 8⟩
  | 119 => some ⟨x119, [.cell 4 (some 4)], 24, false, 8⟩
  | 149 => some ⟨x149, [.cell 2 (some 8)], 16, false, 8⟩
  | 150 => some ⟨x150, [], 10, false, 8⟩
  | 162 => some ⟨x162, [.cell 2 (some 8)], 14, false, 8⟩
  | 163 => some ⟨x163, [.tmp 4], 17, false, 8⟩
  | 164 => some ⟨x164, [.cell 4 (some 8)], 20, false, 8⟩
  | 170 => some ⟨x170, [.tmp 2], 16, false, 8⟩
  | 171 => some ⟨x171, [.cell 2 (some 8)], 33, false, 8⟩
  | 172 => some ⟨x172, [.tmp 2], 23, false, 8⟩
  | 176 => some ⟨x176, [.cell 2 (some 8)], 60, false, 8⟩
  | 177 => some ⟨x177, [.tmp 2, .tmp 3], 29, false, 8⟩
  | 178 => some ⟨x178, [], 15, false, 8⟩
  | 179 => some ⟨x179, [.cell 2 (some 4)], 19, false, 8⟩
  | 180 => some ⟨x180, [.cell 2 (some 4)], 10, false, 8⟩
  | 181 => some ⟨x181, [.tmp 2], 34, false, 8⟩
  | 182 => some ⟨x182, [.tmp 2], 54, false, 8⟩
  | 183 => some ⟨x183, [.cell 2 (some 4)], 28, false, 8⟩
  | 184 => some ⟨x184, [.cell 2 (some 4)], 15, false, 8⟩
  | 185 => some ⟨x185, [.tmp 2], 50, false, 8⟩
  | 186 => some ⟨x186, [.tmp 2], 22, false, 8⟩
  | 187 => some ⟨x187, [.tmp 2], 28, false, 8⟩
  | 188 => some ⟨x188, [.tmp 4], 8, false, 8⟩
  | 189 => some ⟨x189, [.tmp 2], 24, false, 8⟩
  | 190 => some ⟨x190, [.tmp 4], 8, false, 8⟩
  | 73 => some ⟨x73, [.cell 4 (some 4)], 19, false, 8⟩
  | _ => none
theorem tabM_ok : TabOK Try.prog tabM := by
  intro f t h ags row r row' nw hal hrow hx
  unfold tabM at h
  split at h
  · cases h; exact b64 hal hrow hx
  · cases h; exact b65 hal hrow hx
  · cases h; exact b67 hal hrow hx
  · cases h; exact b120 hal hrow hx
  · cases h; exact b122 hal hrow hx
  · cases h; exact b121 hal hrow hx
  · cases h; exact b69 hal hrow hx
  · cases h; exact b70 hal hrow hx
  · cases h; exact b66 hal hrow hx
  · cases h; exact b71 hal hrow hx
  · cases h; exact b151 hal hrow hx
  · cases h; exact b165 hal hrow hx
  · cases h; exact b173 hal hrow hx
  · cases h; exact b166 hal hrow hx
  · cases h; exact b167 hal hrow hx
  · cases h; exact b168 hal hrow hx
  · cases h; exact b68 hal hrow hx
  · cases h; exact b123 hal hrow hx
  · cases h; exact b84 hal hrow hx
  · cases h; exact b132 hal hrow hx
  · cases h; exact b156 hal hrow hx
  · cases h; exact b157 hal hrow hx
  · cases h; exact b83 hal hrow hx
  · cases h; exact b119 hal hrow hx
  · cases h; exact b149 hal hrow hx
  · cases h; exact b150 hal hrow hx
  · cases h; exact b162 hal hrow hx
  · cases h; exact b163 hal hrow hx
  · cases h; exact b164 hal hrow hx
  · cases h; exact b170 hal hrow hx
  · cases h; exact b171 hal hrow hx
  · cases h; exact b172 hal hrow hx
  · cases h; exact b176 hal hrow hx
  · cases h; exact b177 hal hrow hx
  · cases h; exact b178 hal hrow hx
  · cases h; exact b179 hal hrow hx
  · cases h; exact b180 hal hrow hx
  · cases h; exact b181 hal hrow hx
  · cases h; exact b182 hal hrow hx
  · cases h; exact b183 hal hrow hx
  · cases h; exact b184 hal hrow hx
  · cases h; exact b185 hal hrow hx
  · cases h; exact b186 hal hrow hx
  · cases h; exact b187 hal hrow hx
  · cases h; exact b188 hal hrow hx
  · cases h; exact b189 hal hrow hx
  · cases h; exact b190 hal hrow hx
  · cases h; exact b73 hal hrow hx
  · cases h

theorem awake64_ev : evF tabM (spP 100) 100 40 64 [] none = some (.b true, none, none) := by kernel_rfl
theorem awake64_good : Good Try.prog 64 [] none (.b true) none none := evF_sound tabM_ok (spP_ok 100) 40 64 [] none _ _ _ awake64_ev
end Go.Sv
