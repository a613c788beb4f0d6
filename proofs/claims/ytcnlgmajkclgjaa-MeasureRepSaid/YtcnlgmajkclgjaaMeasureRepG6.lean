/- A part of the proof of the law MeasureRep: that it answers true for every input, and that the input reads behind the call as before (no condition). -/
import Derived.Test.YtcnlgmajkclgjaaMeasureRepG5
set_option linter.all false
set_option linter.unusedSectionVars false
set_option linter.unusedVariables false
set_option linter.unusedSimpArgs false
namespace Go.Sv
open Go Go.Proofs
def x121 : XC := (.seq (.ops 3 [
    (0, ⟨(some 1), none, .box (.t 0)⟩),
    (1, ⟨(some 2), none, .alloc [(.bool false), (.int .i64 0), (.int .i64 0), (.int .u64 0), (.int .u64 0), (.int .u64 0), (.int .u64 0)]⟩),
    (2, ⟨(some 3), none, .mv (.k (.d (.val (.bool false))))⟩)] (some [1, 2])) (.seq (.seq (.ops 3 [
    (0, ⟨(some 4), none, .load (some 8) (.t 1)⟩),
    (1, ⟨(some 5), none, .call 84 [(.t 4)] none false⟩),
    (2, ⟨(some 6), none, .un .not (.t 5)⟩)] (some [1, 2, 6])) (.cond (.t 6) (.seq (.ops 3 [
    (0, ⟨(some 7), none, .build [(.bool false), (.int .i64 0), (.int .i64 0), (.int .u64 0), (.int .u64 0), (.int .u64 0), (.int .u64 0)] []⟩),
    (1, ⟨none, none, .store 7 (.t 2) (.t 7)⟩),
    (2, ⟨(some 3), none, .mv (.k (.d (.val (.bool false))))⟩)] (some [2, 3])) .ret) .skip)) (.seq (.ops 3 [
    (0, ⟨(some 8), none, .call 151 [(.t 1)] none false⟩),
    (1, ⟨none, none, .store 7 (.t 2) (.t 8)⟩),
    (2, ⟨(some 3), none, .mv (.k (.d (.val (.bool true))))⟩)] (some [2, 3])) .ret)))
def md121 : FuncId → Option Nat × Bool
  | _ => (none, false)
def od121 : Nat → List (List Nat) × List Nat × Option (List Nat)
  | 0 => ([], [], some [1, 2])
  | 1 => ([], [], some [1, 2, 6])
  | 2 => ([], [], some [2, 3])
  | 3 => ([], [], some [2, 3])
  | _ => ([], [], none)
theorem b121 {ags : List AV} {row : Option (List DV)} {r : AV} {row' nw : Option (List DV)} (hal : ags.length ≤ 9) (hrow : row'.isSome = true → row.isSome = true) (h : xwp Try.prog x121 (retK [.cell 2 (some 7), .tmp 3] row.isSome r row' nw) (St.init ags row)) : Good Try.prog 121 ags row r row' nw :=
  good_of_body' (md := md121) (od := od121) Try.f121 (by kernel_rfl) (by kernel_rfl) (by kernel_rfl) (by kernel_rfl) (by kernel_rfl) hal hrow h

def x69 : XC := (.seq (.ops 2 [
    (0, ⟨(some 1), none, .box (.t 0)⟩),
    (1, ⟨(some 2), none, .mv (.k (.d (.val (.bool false))))⟩)] (some [1])) (.seq (.ops 8 [
    (0, ⟨(some 6), none, .load (some 8) (.t 1)⟩),
    (1, ⟨(some 7), none, .call 121 [(.t 6)] none false⟩),
    (2, ⟨(some 5), none, .mv (.t 7)⟩),
    (3, ⟨(some 8), none, .ext (.t 5) 0⟩),
    (4, ⟨(some 9), none, .ext (.t 5) 1⟩),
    (5, ⟨(some 3), none, .alloc [(.bool false), (.int .i64 0), (.int .i64 0), (.int .u64 0), (.int .u64 0), (.int .u64 0), (.int .u64 0)]⟩),
    (6, ⟨none, none, .store 7 (.t 3) (.t 8)⟩),
    (7, ⟨(some 4), none, .mv (.t 9)⟩)] (some [3, 4])) (.seq (.ops 12 [
    (0, ⟨(some 10), none, .mv (.t 4)⟩),
    (1, ⟨(some 11), none, .mv (.t 10)⟩),
    (2, ⟨(some 12), (some (11, true)), .fadd 0 (.t 3)⟩),
    (3, ⟨(some 13), (some (11, true)), .load none (.t 12)⟩),
    (4, ⟨(some 14), (some (11, true)), .un .not (.t 13)⟩),
    (5, ⟨(some 15), none, .pick (.t 11) (.t 14) (.k (.d (.val (.bool false))))⟩),
    (6, ⟨(some 16), none, .mv (.t 15)⟩),
    (7, ⟨(some 17), (some (16, true)), .fadd 1 (.t 3)⟩),
    (8, ⟨(some 18), (some (16, true)), .load none (.t 17)⟩),
    (9, ⟨(some 19), (some (16, true)), .arith .eql (.t 18) (.k (.d (.val (.int .i64 0))))⟩),
    (10, ⟨(some 20), none, .pick (.t 16) (.t 19) (.k (.d (.val (.bool false))))⟩),
    (11, ⟨(some 2), none, .mv (.t 20)⟩)] (some [2])) .ret)))
def md69 : FuncId → Option Nat × Bool
  | _ => (none, false)
def od69 : Nat → List (List Nat) × List Nat × Option (List Nat)
  | 0 => ([], [], some [1])
  | 1 => ([], [], some [3, 4])
  | 2 => ([], [], some [2])
  | _ => ([], [], none)
theorem b69 {ags : List AV} {row : Option (List DV)} {r : AV} {row' nw : Option (List DV)} (hal : ags.length ≤ 21) (hrow : row'.isSome = true → row.isSome = true) (h : xwp Try.prog x69 (retK [.tmp 2] row.isSome r row' nw) (St.init ags row)) : Good Try.prog 69 ags row r row' nw :=
  good_of_body' (md := md69) (od := od69) Try.f69 (by kernel_rfl) (by kernel_rfl) (by kernel_rfl) (by kernel_rfl) (by kernel_rfl) hal hrow h

def x70 : XC := (.seq (.ops 2 [
    (0, ⟨(some 1), none, .box (.t 0)⟩),
    (1, ⟨(some 2), none, .alloc [(.int .u64 0), (.int .u64 0), (.int .u64 0), (.int .u64 0)]⟩)] (some [1, 2])) (.seq (.ops 8 [
    (0, ⟨(some 6), none, .load (some 8) (.t 1)⟩),
    (1, ⟨(some 7), none, .call 121 [(.t 6)] none false⟩),
    (2, ⟨(some 5), none, .mv (.t 7)⟩),
    (3, ⟨(some 8), none, .ext (.t 5) 0⟩),
    (4, ⟨(some 9), none, .ext (.t 5) 1⟩),
    (5, ⟨(some 3), none, .alloc [(.bool false), (.int .i64 0), (.int .i64 0), (.int .u64 0), (.int .u64 0), (.int .u64 0), (.int .u64 0)]⟩),
    (6, ⟨none, none, .store 7 (.t 3) (.t 8)⟩),
    (7, ⟨(some 4), none, .mv (.t 9)⟩)] (some [2, 3])) (.seq (.ops 3 [
    (0, ⟨(some 10), none, .fadd 3 (.t 3)⟩),
    (1, ⟨(some 11), none, .load (some 4) (.t 10)⟩),
    (2, ⟨none, none, .store 4 (.t 2) (.t 11)⟩)] (some [2])) .ret)))
def md70 : FuncId → Option Nat × Bool
  | _ => (none, false)
def od70 : Nat → List (List Nat) × List Nat × Option (List Nat)
  | 0 => ([], [], some [1, 2])
  | 1 => ([], [], some [2, 3])
  | 2 => ([], [], some [2])
  | _ => ([], [], none)
theorem b70 {ags : List AV} {row : Option (List DV)} {r : AV} {row' nw : Option (List DV)} (hal : ags.length ≤ 12) (hrow : row'.isSome = true → row.isSome = true) (h : xwp Try.prog x70 (retK [.cell 2 (some 4)] row.isSome r row' nw) (St.init ags row)) : Good Try.prog 70 ags row r row' nw :=
  good_of_body' (md := md70) (od := od70) Try.f70 (by kernel_rfl) (by kernel_rfl) (by kernel_rfl) (by kernel_rfl) (by kernel_rfl) hal hrow h

def x66 : XC := (.seq (.ops 3 [
    (0, ⟨(some 1), none, .box (.t 0)⟩),
    (1, ⟨(some 2), none, .mv (.k (.d (.val (.int .i64 0))))⟩),
    (2, ⟨(some 3), none, .mv (.k (.d (.val (.int .i64 0))))⟩)] (some [1])) (.seq (.ops 8 [
    (0, ⟨(some 7), none, .load (some 8) (.t 1)⟩),
    (1, ⟨(some 8), none, .call 121 [(.t 7)] none false⟩),
    (2, ⟨(some 6), none, .mv (.t 8)⟩),
    (3, ⟨(some 9), none, .ext (.t 6) 0⟩),
    (4, ⟨(some 10), none, .ext (.t 6) 1⟩),
    (5, ⟨(some 4), none, .alloc [(.bool false), (.int .i64 0), (.int .i64 0), (.int .u64 0), (.int .u64 0), (.int .u64 0), (.int .u64 0)]⟩),
    (6, ⟨none, none, .store 7 (.t 4) (.t 9)⟩),
    (7, ⟨(some 5), none, .mv (.t 10)⟩)] (some [4])) (.seq (.ops 6 [
    (0, ⟨(some 11), none, .fadd 1 (.t 4)⟩),
    (1, ⟨(some 12), none, .load none (.t 11)⟩),
    (2, ⟨(some 13), none, .fadd 2 (.t 4)⟩),
    (3, ⟨(some 14), none, .load none (.t 13)⟩),
    (4, ⟨(some 2), none, .mv (.t 12)⟩),
    (5, ⟨(some 3), none, .mv (.t 14)⟩)] (some [2, 3])) .ret)))
def md66 : FuncId → Option Nat × Bool
  | _ => (none, false)
def od66 : Nat → List (List Nat) × List Nat × Option (List Nat)
  | 0 => ([], [], some [1])
  | 1 => ([], [], some [4])
  | 2 => ([[], [0], [], [2], [0, 1], [0, 1, 2, 3, 4]], [0, 1, 2, 3, 4, 5], some [2, 3])
  | _ => ([], [], none)
theorem b66 {ags : List AV} {row : Option (List DV)} {r : AV} {row' nw : Option (List DV)} (hal : ags.length ≤ 15) (hrow : row'.isSome = true → row.isSome = true) (h : xwp Try.prog x66 (retK [.tmp 2, .tmp 3] row.isSome r row' nw) (St.init ags row)) : Good Try.prog 66 ags row r row' nw :=
  good_of_body' (md := md66) (od := od66) Try.f66 (by kernel_rfl) (by kernel_rfl) (by kernel_rfl) (by kernel_rfl) (by kernel_rfl) hal hrow h

def x71 : XC := (.seq (.ops 2 [
    (0, ⟨(some 1), none, .box (.t 0)⟩),
    (1, ⟨(some 2), none, .mv (.k (.d (.val (.bool false))))⟩)] (some [1])) (.seq (.ops 8 [
    (0, ⟨(some 6), none, .load (some 8) (.t 1)⟩),
    (1, ⟨(some 7), none, .call 121 [(.t 6)] none false⟩),
    (2, ⟨(some 5), none, .mv (.t 7)⟩),
    (3, ⟨(some 8), none, .ext (.t 5) 0⟩),
    (4, ⟨(some 9), none, .ext (.t 5) 1⟩),
    (5, ⟨(some 3), none, .alloc [(.bool false), (.int .i64 0), (.int .i64 0), (.int .u64 0), (.int .u64 0), (.int .u64 0), (.int .u64 0)]⟩),
    (6, ⟨none, none, .store 7 (.t 3) (.t 8)⟩),
    (7, ⟨(some 4), none, .mv (.t 9)⟩)] (some [3])) (.seq (.ops 3 [
    (0, ⟨(some 10), none, .fadd 0 (.t 3)⟩),
    (1, ⟨(some 11), none, .load none (.t 10)⟩),
    (2, ⟨(some 2), none, .mv (.t 11)⟩)] (some [2])) .ret)))
def md71 : FuncId → Option Nat × Bool
  | _ => (none, false)
def od71 : Nat → List (List Nat) × List Nat × Option (List Nat)
  | 0 => ([], [], some [1])
  | 1 => ([], [], some [3])
  | 2 => ([], [], some [2])
  | _ => ([], [], none)
theorem b71 {ags : List AV} {row : Option (List DV)} {r : AV} {row' nw : Option (List DV)} (hal : ags.length ≤ 12) (hrow : row'.isSome = true → row.isSome = true) (h : xwp Try.prog x71 (retK [.tmp 2] row.isSome r row' nw) (St.init ags row)) : Good Try.prog 71 ags row r row' nw :=
  good_of_body' (md := md71) (od := od71) Try.f71 (by kernel_rfl) (by kernel_rfl) (by kernel_rfl) (by kernel_rfl) (by kernel_rfl) hal hrow h

set_option maxRecDepth 100000
set_option maxHeartbeats 4000000
attribute [local irreducible] W E R KP thenK blockK retK Good xwp aRun
def ofK (t : T) : Fa := if fitsT t 12 = true then knT t else faE
theorem of121_good (t : T) (hc : t.cnt ≤ 200) (hok : fitsT t 12 = true → okT t) : Good Try.prog 121 [nodeA t] none (.tup [faA (ofK t), .b (fitsT t 12)]) none none := by
  have hright := right_good t (by omega)
  have hk := fun (h : fitsT t 12 = true) => know151_good 1000000 t (encN t) 0 (NodeAt.self _) (by omega) (Nat.le_refl _) (hok h) (bT_few hc h)
  have eE : faA faE = .agg [.b false, .i 0, .i 0, .d (.val (.int .u64 0)), .d (.val (.int .u64 0)), .d (.val (.int .u64 0)), .d (.val (.int .u64 0))] := rfl
  unfold ofK
  rcases Bool.eq_false_or_eq_true (fitsT t 12) with hR | hR
  case inr =>
    rw [hR] at hright ⊢
    rw [if_neg (by simp), eE]
    obtain ⟨k, a, b, c, d, mn, mx, subs⟩ := t
    have e0 : nodeA (T.node k a b c d mn mx subs) = .agg [.i k, .d (.val (.int .u64 a)), .d (.val (.int .u64 b)), .d (.val (.int .u64 c)), .d (.val (.int .u64 d)), .i mn, .i mx, .d (.sl (encL subs) subs.length)] := rfl
    rw [e0] at hright ⊢
    refine b121 (by simp) (by simp) (w_init ?_)
    unfold x121
    repeat' (first
    | (apply r_mvV; rfl)
    | (apply r_mvP; rfl)
    | (apply r_mvPL; rfl)
    | (apply r_mvS; rfl)
    | (apply r_mvSL; rfl)
    | (apply r_mvA; rfl)
    | (apply r_mvT; rfl)
    | (apply r_mvF; rfl)
    | (apply r_mvD; rfl)
    | (apply r_l; apply ld_kind; assumption; rfl)
    | (apply r_l; apply ld_mn; assumption; rfl)
    | (apply r_l; apply ld_mx; assumption; rfl)
    | (apply r_l; apply ld_subs; assumption; rfl)
    | (apply r_l; apply ld_set; assumption; rfl)
    | (apply r_l; apply ld_node; assumption; rfl)
    | (apply r_l; apply ld_kind'; assumption; rfl)
    | (apply r_l; apply ld_mn'; assumption; rfl)
    | (apply r_l; apply ld_mx'; assumption; rfl)
    | (apply r_l; apply ld_subs'; assumption; rfl)
    | (apply r_l; apply ld_node'; assumption; rfl)
    | (apply r_callA; rfl; rfl; exact hright)
    | (apply r_p (v := .agg [.b false, .i 0, .i 0, .d (.val (.int .u64 0)), .d (.val (.int .u64 0)), .d (.val (.int .u64 0)), .d (.val (.int .u64 0))]); rfl)
    | (apply r_ldL; rfl; rfl; rfl)
    | (apply r_not; rfl; rfl)
    | (apply r_alloc; ((conv => lhs; simp only [Nat.reduceAdd]) <;> rfl); rfl)
    | (apply r_box; ((conv => lhs; simp only [Nat.reduceAdd]) <;> rfl); rfl; rfl; rfl)
    | (apply r_stL; rfl; rfl; rfl; rfl; (first | rfl | (simp only [z_nil, z_add] <;> rfl)); rfl; rfl)
    | (apply r_p; rfl)
    | (apply r_nilK)
    | (apply r_nil)
    | (apply k_V; rfl)
    | (apply k_P; rfl)
    | (apply k_PL; rfl)
    | (apply k_S; rfl)
    | (apply k_SL; rfl)
    | (apply k_A; rfl)
    | (apply k_T; rfl)
    | (apply k_F; rfl)
    | (apply k_D; rfl; rotate_left; rfl)
    | (apply k_nil)
    | (apply e_ret (vs := [.d (.val _)]); rfl)
    | (apply e_ret; rfl)
    | (apply e_ret' (vs := [.d (.val _)]); rfl)
    | (apply e_ret'; rfl)
    | (apply w_seq)
    | (apply w_ops; ((conv => lhs; simp only [Nat.reduceAdd]) <;> rfl))
    | (apply w_condT; rfl)
    | (apply w_condF; rfl)
    | ((apply w_condS; rfl) <;> (intro h; try simp only [decide_eq_true_eq, decide_eq_false_iff_not, Bool.not_eq_true, Bool.not_eq_false] at h))
    | (apply e_thenN)
    | (apply w_block)
    | (apply e_thenR)
    | (apply e_thenX)
    | (apply e_blkN)
    | (apply e_blkR)
    | (apply e_blkE)
    | (apply w_exit)
    | (apply w_ret)
    | (apply w_skip)
    | (apply e_blkE'; rfl))
    exact .data _ rfl
  have hk := hk hR
  rw [hR] at hright ⊢
  rw [if_pos rfl]
  generalize knT t = f at hk
  obtain ⟨k, a, b, c, d, mn, mx, subs⟩ := t
  have e0 : nodeA (T.node k a b c d mn mx subs) = .agg [.i k, .d (.val (.int .u64 a)), .d (.val (.int .u64 b)), .d (.val (.int .u64 c)), .d (.val (.int .u64 d)), .i mn, .i mx, .d (.sl (encL subs) subs.length)] := rfl
  rw [e0] at hright ⊢
  refine b121 (by simp) (by simp) (w_init ?_)
  unfold x121
  repeat' (first
    | (apply r_mvV; rfl)
    | (apply r_mvP; rfl)
    | (apply r_mvPL; rfl)
    | (apply r_mvS; rfl)
    | (apply r_mvSL; rfl)
    | (apply r_mvA; rfl)
    | (apply r_mvT; rfl)
    | (apply r_mvF; rfl)
    | (apply r_mvD; rfl)
    | (apply r_l; apply ld_kind; assumption; rfl)
    | (apply r_l; apply ld_mn; assumption; rfl)
    | (apply r_l; apply ld_mx; assumption; rfl)
    | (apply r_l; apply ld_subs; assumption; rfl)
    | (apply r_l; apply ld_set; assumption; rfl)
    | (apply r_l; apply ld_node; assumption; rfl)
    | (apply r_l; apply ld_kind'; assumption; rfl)
    | (apply r_l; apply ld_mn'; assumption; rfl)
    | (apply r_l; apply ld_mx'; assumption; rfl)
    | (apply r_l; apply ld_subs'; assumption; rfl)
    | (apply r_l; apply ld_node'; assumption; rfl)
    | (apply r_callA; rfl; rfl; exact hright)
    | (apply r_call (bs := [.d (.ptr (encN (.node k a b c d mn mx subs)) 0)]) (us := [1]); rfl; rfl; exact hk; rfl)
    | (apply r_ldL; rfl; rfl; rfl)
    | (apply r_not; rfl; rfl)
    | (apply r_alloc; ((conv => lhs; simp only [Nat.reduceAdd]) <;> rfl); rfl)
    | (apply r_box; ((conv => lhs; simp only [Nat.reduceAdd]) <;> rfl); rfl; rfl; rfl)
    | (apply r_stL; rfl; rfl; rfl; rfl; (first | rfl | (simp only [z_nil, z_add] <;> rfl)); rfl; rfl)
    | (apply r_p; rfl)
    | (apply r_nilK)
    | (apply r_nil)
    | (apply k_V; rfl)
    | (apply k_P; rfl)
    | (apply k_PL; rfl)
    | (apply k_S; rfl)
    | (apply k_SL; rfl)
    | (apply k_A; rfl)
    | (apply k_T; rfl)
    | (apply k_F; rfl)
    | (apply k_D; rfl; rotate_left; rfl)
    | (apply k_nil)
    | (apply e_ret (vs := [.d (.val _)]); rfl)
    | (apply e_ret; rfl)
    | (apply e_ret' (vs := [.d (.val _)]); rfl)
    | (apply e_ret'; rfl)
    | (apply w_seq)
    | (apply w_ops; ((conv => lhs; simp only [Nat.reduceAdd]) <;> rfl))
    | (apply w_condT; rfl)
    | (apply w_condF; rfl)
    | ((apply w_condS; rfl) <;> (intro h; try simp only [decide_eq_true_eq, decide_eq_false_iff_not, Bool.not_eq_true, Bool.not_eq_false] at h))
    | (apply e_thenN)
    | (apply w_block)
    | (apply e_thenR)
    | (apply e_thenX)
    | (apply e_blkN)
    | (apply e_blkR)
    | (apply e_blkE)
    | (apply w_exit)
    | (apply w_ret)
    | (apply w_skip)
    | (apply e_blkE'; rfl))
  exact .data _ rfl
def nulF (t : T) : Bool := fitsT t 12 && (!(ofK t).no && decide ((ofK t).lo = 0))
theorem null69_good (t : T) (hc : t.cnt ≤ 200) (hok : fitsT t 12 = true → okT t) : Good Try.prog 69 [nodeA t] none (.b (nulF t)) none none := by
  have h := of121_good t hc hok
  unfold nulF
  generalize fitsT t 12 = q at h
  generalize ofK t = f at h
  obtain ⟨fn, fl, fh, fa, fb, fc, fd⟩ := f
  have e : faA ⟨fn, fl, fh, fa, fb, fc, fd⟩ = .agg [.b fn, .i fl, .i fh, .d (.val (.int .u64 fa)), .d (.val (.int .u64 fb)), .d (.val (.int .u64 fc)), .d (.val (.int .u64 fd))] := rfl
  rw [e] at h
  dsimp only
  obtain ⟨k, a, b, c, d, mn, mx, subs⟩ := t
  have e0 : nodeA (T.node k a b c d mn mx subs) = .agg [.i k, .d (.val (.int .u64 a)), .d (.val (.int .u64 b)), .d (.val (.int .u64 c)), .d (.val (.int .u64 d)), .i mn, .i mx, .d (.sl (encL subs) subs.length)] := rfl
  rw [e0] at h ⊢
  cases q with
  | false =>
    refine b69 (by simp) (by simp) (w_init ?_)
    unfold x69
    repeat' (first
    | (apply r_mvV; rfl)
    | (apply r_mvP; rfl)
    | (apply r_mvPL; rfl)
    | (apply r_mvS; rfl)
    | (apply r_mvSL; rfl)
    | (apply r_mvA; rfl)
    | (apply r_mvT; rfl)
    | (apply r_mvF; rfl)
    | (apply r_mvD; rfl)
    | (apply r_faddD; rfl)
    | (apply r_faddL; rfl)
    | (apply r_l; apply ld_kind; assumption; rfl)
    | (apply r_l; apply ld_mn; assumption; rfl)
    | (apply r_l; apply ld_mx; assumption; rfl)
    | (apply r_l; apply ld_subs; assumption; rfl)
    | (apply r_l; apply ld_set; assumption; rfl)
    | (apply r_l; apply ld_node; assumption; rfl)
    | (apply r_l; apply ld_kind'; assumption; rfl)
    | (apply r_l; apply ld_mn'; assumption; rfl)
    | (apply r_l; apply ld_mx'; assumption; rfl)
    | (apply r_l; apply ld_subs'; assumption; rfl)
    | (apply r_l; apply ld_node'; assumption; rfl)
    | (apply r_callA; rfl; rfl; exact h)
    | (apply r_ldL; rfl; rfl; rfl)
    | (apply r_eql; rfl; rfl; (first | (apply decide_eq_true; omega) | (apply decide_eq_false; omega) | rfl))
    | (apply r_not; rfl; rfl)
    | (apply r_pickT; rfl)
    | (apply r_pickF; rfl)
    | (apply r_ext; rfl; rfl)
    | (apply r_gT; rfl)
    | (apply r_gF'; rfl; rfl)
    | (apply r_gN'; rfl)
    | ((apply r_gS (o := default); rfl) <;> (intro h; try simp only [decide_eq_true_eq, decide_eq_false_iff_not, Bool.not_eq_true, Bool.not_eq_false] at h))
    | (apply r_alloc; ((conv => lhs; simp only [Nat.reduceAdd]) <;> rfl); rfl)
    | (apply r_box; ((conv => lhs; simp only [Nat.reduceAdd]) <;> rfl); rfl; rfl; rfl)
    | (apply r_stL; rfl; rfl; rfl; rfl; (first | rfl | (simp only [z_nil, z_add] <;> rfl)); rfl; rfl)
    | (apply r_nilK)
    | (apply r_nil)
    | (apply k_V; rfl)
    | (apply k_P; rfl)
    | (apply k_PL; rfl)
    | (apply k_S; rfl)
    | (apply k_SL; rfl)
    | (apply k_A; rfl)
    | (apply k_T; rfl)
    | (apply k_F; rfl)
    | (apply k_D; rfl; rotate_left; rfl)
    | (apply k_nil)
    | (apply e_ret (vs := [.d (.val _)]); rfl)
    | (apply e_ret; rfl)
    | (apply e_ret' (vs := [.d (.val _)]); rfl)
    | (apply e_ret'; rfl)
    | (apply w_seq)
    | (apply w_ops; ((conv => lhs; simp only [Nat.reduceAdd]) <;> rfl))
    | (apply e_thenN)
    | (apply w_block)
    | (apply e_thenR)
    | (apply e_thenX)
    | (apply e_blkN)
    | (apply e_blkR)
    | (apply e_blkE)
    | (apply w_exit)
    | (apply w_ret)
    | (apply w_skip)
    | (apply e_blkE'; rfl))
    exact retB rfl
  | true =>
  cases fn with
  | true =>
    refine b69 (by simp) (by simp) (w_init ?_)
    unfold x69
    repeat' (first
    | (apply r_mvV; rfl)
    | (apply r_mvP; rfl)
    | (apply r_mvPL; rfl)
    | (apply r_mvS; rfl)
    | (apply r_mvSL; rfl)
    | (apply r_mvA; rfl)
    | (apply r_mvT; rfl)
    | (apply r_mvF; rfl)
    | (apply r_mvD; rfl)
    | (apply r_faddD; rfl)
    | (apply r_faddL; rfl)
    | (apply r_l; apply ld_kind; assumption; rfl)
    | (apply r_l; apply ld_mn; assumption; rfl)
    | (apply r_l; apply ld_mx; assumption; rfl)
    | (apply r_l; apply ld_subs; assumption; rfl)
    | (apply r_l; apply ld_set; assumption; rfl)
    | (apply r_l; apply ld_node; assumption; rfl)
    | (apply r_l; apply ld_kind'; assumption; rfl)
    | (apply r_l; apply ld_mn'; assumption; rfl)
    | (apply r_l; apply ld_mx'; assumption; rfl)
    | (apply r_l; apply ld_subs'; assumption; rfl)
    | (apply r_l; apply ld_node'; assumption; rfl)
    | (apply r_callA; rfl; rfl; exact h)
    | (apply r_ldL (v := .b true); rfl; rfl; rfl)
    | (apply r_ldL; rfl; rfl; rfl)
    | (apply r_eql; rfl; rfl; (first | (apply decide_eq_true; omega) | (apply decide_eq_false; omega) | rfl))
    | (apply r_not; rfl; rfl)
    | (apply r_pickT; rfl)
    | (apply r_pickF; rfl)
    | (apply r_ext; rfl; rfl)
    | (apply r_gT; rfl)
    | (apply r_gF'; rfl; rfl)
    | (apply r_gN'; rfl)
    | ((apply r_gS (o := default); rfl) <;> (intro h; try simp only [decide_eq_true_eq, decide_eq_false_iff_not, Bool.not_eq_true, Bool.not_eq_false] at h))
    | (apply r_alloc; ((conv => lhs; simp only [Nat.reduceAdd]) <;> rfl); rfl)
    | (apply r_box; ((conv => lhs; simp only [Nat.reduceAdd]) <;> rfl); rfl; rfl; rfl)
    | (apply r_stL; rfl; rfl; rfl; rfl; (first | rfl | (simp only [z_nil, z_add] <;> rfl)); rfl; rfl)
    | (apply r_nilK)
    | (apply r_nil)
    | (apply k_V; rfl)
    | (apply k_P; rfl)
    | (apply k_PL; rfl)
    | (apply k_S; rfl)
    | (apply k_SL; rfl)
    | (apply k_A; rfl)
    | (apply k_T; rfl)
    | (apply k_F; rfl)
    | (apply k_D; rfl; rotate_left; rfl)
    | (apply k_nil)
    | (apply e_ret (vs := [.d (.val _)]); rfl)
    | (apply e_ret; rfl)
    | (apply e_ret' (vs := [.d (.val _)]); rfl)
    | (apply e_ret'; rfl)
    | (apply w_seq)
    | (apply w_ops; ((conv => lhs; simp only [Nat.reduceAdd]) <;> rfl))
    | (apply e_thenN)
    | (apply w_block)
    | (apply e_thenR)
    | (apply e_thenX)
    | (apply e_blkN)
    | (apply e_blkR)
    | (apply e_blkE)
    | (apply w_exit)
    | (apply w_ret)
    | (apply w_skip)
    | (apply e_blkE'; rfl))
    exact retB rfl
  | false =>
    refine b69 (by simp) (by simp) (w_init ?_)
    unfold x69
    by_cases hz : fl = 0
    · repeat' (first
    | (apply r_mvV; rfl)
    | (apply r_mvP; rfl)
    | (apply r_mvPL; rfl)
    | (apply r_mvS; rfl)
    | (apply r_mvSL; rfl)
    | (apply r_mvA; rfl)
    | (apply r_mvT; rfl)
    | (apply r_mvF; rfl)
    | (apply r_mvD; rfl)
    | (apply r_faddD; rfl)
    | (apply r_faddL; rfl)
    | (apply r_l; apply ld_kind; assumption; rfl)
    | (apply r_l; apply ld_mn; assumption; rfl)
    | (apply r_l; apply ld_mx; assumption; rfl)
    | (apply r_l; apply ld_subs; assumption; rfl)
    | (apply r_l; apply ld_set; assumption; rfl)
    | (apply r_l; apply ld_node; assumption; rfl)
    | (apply r_l; apply ld_kind'; assumption; rfl)
    | (apply r_l; apply ld_mn'; assumption; rfl)
    | (apply r_l; apply ld_mx'; assumption; rfl)
    | (apply r_l; apply ld_subs'; assumption; rfl)
    | (apply r_l; apply ld_node'; assumption; rfl)
    | (apply r_callA; rfl; rfl; exact h)
    | (apply r_ldL (v := .b false); rfl; rfl; rfl)
    | (apply r_ldL (v := .i fl); rfl; rfl; rfl)
    | (apply r_ldL; rfl; rfl; rfl)
    | (apply r_eql; rfl; rfl; (first | (apply decide_eq_true; omega) | (apply decide_eq_false; omega) | rfl))
    | (apply r_not; rfl; rfl)
    | (apply r_pickT; rfl)
    | (apply r_pickF; rfl)
    | (apply r_ext; rfl; rfl)
    | (apply r_gT; rfl)
    | (apply r_gF'; rfl; rfl)
    | (apply r_gN'; rfl)
    | ((apply r_gS (o := default); rfl) <;> (intro h; try simp only [decide_eq_true_eq, decide_eq_false_iff_not, Bool.not_eq_true, Bool.not_eq_false] at h))
    | (apply r_alloc; ((conv => lhs; simp only [Nat.reduceAdd]) <;> rfl); rfl)
    | (apply r_box; ((conv => lhs; simp only [Nat.reduceAdd]) <;> rfl); rfl; rfl; rfl)
    | (apply r_stL; rfl; rfl; rfl; rfl; (first | rfl | (simp only [z_nil, z_add] <;> rfl)); rfl; rfl)
    | (apply r_nilK)
    | (apply r_nil)
    | (apply k_V; rfl)
    | (apply k_P; rfl)
    | (apply k_PL; rfl)
    | (apply k_S; rfl)
    | (apply k_SL; rfl)
    | (apply k_A; rfl)
    | (apply k_T; rfl)
    | (apply k_F; rfl)
    | (apply k_D; rfl; rotate_left; rfl)
    | (apply k_nil)
    | (apply e_ret (vs := [.d (.val _)]); rfl)
    | (apply e_ret; rfl)
    | (apply e_ret' (vs := [.d (.val _)]); rfl)
    | (apply e_ret'; rfl)
    | (apply w_seq)
    | (apply w_ops; ((conv => lhs; simp only [Nat.reduceAdd]) <;> rfl))
    | (apply e_thenN)
    | (apply w_block)
    | (apply e_thenR)
    | (apply e_thenX)
    | (apply e_blkN)
    | (apply e_blkR)
    | (apply e_blkE)
    | (apply w_exit)
    | (apply w_ret)
    | (apply w_skip)
    | (apply e_blkE'; rfl))
      exact retB (by simp [hz])
    · repeat' (first
    | (apply r_mvV; rfl)
    | (apply r_mvP; rfl)
    | (apply r_mvPL; rfl)
    | (apply r_mvS; rfl)
    | (apply r_mvSL; rfl)
    | (apply r_mvA; rfl)
    | (apply r_mvT; rfl)
    | (apply r_mvF; rfl)
    | (apply r_mvD; rfl)
    | (apply r_faddD; rfl)
    | (apply r_faddL; rfl)
    | (apply r_l; apply ld_kind; assumption; rfl)
    | (apply r_l; apply ld_mn; assumption; rfl)
    | (apply r_l; apply ld_mx; assumption; rfl)
    | (apply r_l; apply ld_subs; assumption; rfl)
    | (apply r_l; apply ld_set; assumption; rfl)
    | (apply r_l; apply ld_node; assumption; rfl)
    | (apply r_l; apply ld_kind'; assumption; rfl)
    | (apply r_l; apply ld_mn'; assumption; rfl)
    | (apply r_l; apply ld_mx'; assumption; rfl)
    | (apply r_l; apply ld_subs'; assumption; rfl)
    | (apply r_l; apply ld_node'; assumption; rfl)
    | (apply r_callA; rfl; rfl; exact h)
    | (apply r_ldL (v := .b false); rfl; rfl; rfl)
    | (apply r_ldL (v := .i fl); rfl; rfl; rfl)
    | (apply r_ldL; rfl; rfl; rfl)
    | (apply r_eql; rfl; rfl; (first | (apply decide_eq_true; omega) | (apply decide_eq_false; omega) | rfl))
    | (apply r_not; rfl; rfl)
    | (apply r_pickT; rfl)
    | (apply r_pickF; rfl)
    | (apply r_ext; rfl; rfl)
    | (apply r_gT; rfl)
    | (apply r_gF'; rfl; rfl)
    | (apply r_gN'; rfl)
    | ((apply r_gS (o := default); rfl) <;> (intro h; try simp only [decide_eq_true_eq, decide_eq_false_iff_not, Bool.not_eq_true, Bool.not_eq_false] at h))
    | (apply r_alloc; ((conv => lhs; simp only [Nat.reduceAdd]) <;> rfl); rfl)
    | (apply r_box; ((conv => lhs; simp only [Nat.reduceAdd]) <;> rfl); rfl; rfl; rfl)
    | (apply r_stL; rfl; rfl; rfl; rfl; (first | rfl | (simp only [z_nil, z_add] <;> rfl)); rfl; rfl)
    | (apply r_nilK)
    | (apply r_nil)
    | (apply k_V; rfl)
    | (apply k_P; rfl)
    | (apply k_PL; rfl)
    | (apply k_S; rfl)
    | (apply k_SL; rfl)
    | (apply k_A; rfl)
    | (apply k_T; rfl)
    | (apply k_F; rfl)
    | (apply k_D; rfl; rotate_left; rfl)
    | (apply k_nil)
    | (apply e_ret (vs := [.d (.val _)]); rfl)
    | (apply e_ret; rfl)
    | (apply e_ret' (vs := [.d (.val _)]); rfl)
    | (apply e_ret'; rfl)
    | (apply w_seq)
    | (apply w_ops; ((conv => lhs; simp only [Nat.reduceAdd]) <;> rfl))
    | (apply e_thenN)
    | (apply w_block)
    | (apply e_thenR)
    | (apply e_thenX)
    | (apply e_blkN)
    | (apply e_blkR)
    | (apply e_blkE)
    | (apply w_exit)
    | (apply w_ret)
    | (apply w_skip)
    | (apply e_blkE'; rfl))
      exact retB (by simp [hz])
theorem len66_good (t : T) (hc : t.cnt ≤ 200) (hok : fitsT t 12 = true → okT t) : Good Try.prog 66 [nodeA t] none (.tup [.i (ofK t).lo, .i (ofK t).hi]) none none := by
  have h := of121_good t hc hok
  generalize fitsT t 12 = q at h
  generalize ofK t = f at h
  obtain ⟨fn, fl, fh, fa, fb, fc, fd⟩ := f
  have e : faA ⟨fn, fl, fh, fa, fb, fc, fd⟩ = .agg [.b fn, .i fl, .i fh, .d (.val (.int .u64 fa)), .d (.val (.int .u64 fb)), .d (.val (.int .u64 fc)), .d (.val (.int .u64 fd))] := rfl
  rw [e] at h
  dsimp only
  obtain ⟨k, a, b, c, d, mn, mx, subs⟩ := t
  have e0 : nodeA (T.node k a b c d mn mx subs) = .agg [.i k, .d (.val (.int .u64 a)), .d (.val (.int .u64 b)), .d (.val (.int .u64 c)), .d (.val (.int .u64 d)), .i mn, .i mx, .d (.sl (encL subs) subs.length)] := rfl
  rw [e0] at h ⊢
  refine b66 (by simp) (by simp) (w_init ?_)
  unfold x66
  repeat' (first
    | (apply r_mvV; rfl)
    | (apply r_mvP; rfl)
    | (apply r_mvPL; rfl)
    | (apply r_mvS; rfl)
    | (apply r_mvSL; rfl)
    | (apply r_mvA; rfl)
    | (apply r_mvT; rfl)
    | (apply r_mvF; rfl)
    | (apply r_mvD; rfl)
    | (apply r_faddD; rfl)
    | (apply r_faddL; rfl)
    | (apply r_l; apply ld_kind; assumption; rfl)
    | (apply r_l; apply ld_mn; assumption; rfl)
    | (apply r_l; apply ld_mx; assumption; rfl)
    | (apply r_l; apply ld_subs; assumption; rfl)
    | (apply r_l; apply ld_set; assumption; rfl)
    | (apply r_l; apply ld_node; assumption; rfl)
    | (apply r_l; apply ld_kind'; assumption; rfl)
    | (apply r_l; apply ld_mn'; assumption; rfl)
    | (apply r_l; apply ld_mx'; assumption; rfl)
    | (apply r_l; apply ld_subs'; assumption; rfl)
    | (apply r_l; apply ld_node'; assumption; rfl)
    | (apply r_callA; rfl; rfl; exact h)
    | (apply r_ldL (v := .i fl); rfl; rfl; rfl)
    | (apply r_ldL (v := .i fh); rfl; rfl; rfl)
    | (apply r_ldL; rfl; rfl; rfl)
    | (apply r_ext; rfl; rfl)
    | (apply r_alloc; ((conv => lhs; simp only [Nat.reduceAdd]) <;> rfl); rfl)
    | (apply r_box; ((conv => lhs; simp only [Nat.reduceAdd]) <;> rfl); rfl; rfl; rfl)
    | (apply r_stL; rfl; rfl; rfl; rfl; (first | rfl | (simp only [z_nil, z_add] <;> rfl)); rfl; rfl)
    | (apply r_nilK)
    | (apply r_nil)
    | (apply k_V; rfl)
    | (apply k_P; rfl)
    | (apply k_PL; rfl)
    | (apply k_S; rfl)
    | (apply k_SL; rfl)
    | (apply k_A; rfl)
    | (apply k_T; rfl)
    | (apply k_F; rfl)
    | (apply k_D; rfl; rotate_left; rfl)
    | (apply k_nil)
    | (apply e_ret (vs := [.d (.val _)]); rfl)
    | (apply e_ret; rfl)
    | (apply e_ret' (vs := [.d (.val _)]); rfl)
    | (apply e_ret'; rfl)
    | (apply w_seq)
    | (apply w_ops; ((conv => lhs; simp only [Nat.reduceAdd]) <;> rfl))
    | (apply e_thenN)
    | (apply w_block)
    | (apply e_thenR)
    | (apply e_thenX)
    | (apply e_blkN)
    | (apply e_blkR)
    | (apply e_blkE)
    | (apply w_exit)
    | (apply w_ret)
    | (apply w_skip)
    | (apply e_blkE'; rfl))
  exact .data _ rfl
theorem none71_good (t : T) (hc : t.cnt ≤ 200) (hok : fitsT t 12 = true → okT t) : Good Try.prog 71 [nodeA t] none (.b (ofK t).no) none none := by
  have h := of121_good t hc hok
  generalize fitsT t 12 = q at h
  generalize ofK t = f at h
  obtain ⟨fn, fl, fh, fa, fb, fc, fd⟩ := f
  have e : faA ⟨fn, fl, fh, fa, fb, fc, fd⟩ = .agg [.b fn, .i fl, .i fh, .d (.val (.int .u64 fa)), .d (.val (.int .u64 fb)), .d (.val (.int .u64 fc)), .d (.val (.int .u64 fd))] := rfl
  rw [e] at h
  dsimp only
  obtain ⟨k, a, b, c, d, mn, mx, subs⟩ := t
  have e0 : nodeA (T.node k a b c d mn mx subs) = .agg [.i k, .d (.val (.int .u64 a)), .d (.val (.int .u64 b)), .d (.val (.int .u64 c)), .d (.val (.int .u64 d)), .i mn, .i mx, .d (.sl (encL subs) subs.length)] := rfl
  rw [e0] at h ⊢
  refine b71 (by simp) (by simp) (w_init ?_)
  unfold x71
  repeat' (first
    | (apply r_mvV; rfl)
    | (apply r_mvP; rfl)
    | (apply r_mvPL; rfl)
    | (apply r_mvS; rfl)
    | (apply r_mvSL; rfl)
    | (apply r_mvA; rfl)
    | (apply r_mvT; rfl)
    | (apply r_mvF; rfl)
    | (apply r_mvD; rfl)
    | (apply r_faddD; rfl)
    | (apply r_faddL; rfl)
    | (apply r_l; apply ld_kind; assumption; rfl)
    | (apply r_l; apply ld_mn; assumption; rfl)
    | (apply r_l; apply ld_mx; assumption; rfl)
    | (apply r_l; apply ld_subs; assumption; rfl)
    | (apply r_l; apply ld_set; assumption; rfl)
    | (apply r_l; apply ld_node; assumption; rfl)
    | (apply r_l; apply ld_kind'; assumption; rfl)
    | (apply r_l; apply ld_mn'; assumption; rfl)
    | (apply r_l; apply ld_mx'; assumption; rfl)
    | (apply r_l; apply ld_subs'; assumption; rfl)
    | (apply r_l; apply ld_node'; assumption; rfl)
    | (apply r_callA; rfl; rfl; exact h)
    | (apply r_ldL (v := .b fn); rfl; rfl; rfl)
    | (apply r_ldL; rfl; rfl; rfl)
    | (apply r_ext; rfl; rfl)
    | (apply r_alloc; ((conv => lhs; simp only [Nat.reduceAdd]) <;> rfl); rfl)
    | (apply r_box; ((conv => lhs; simp only [Nat.reduceAdd]) <;> rfl); rfl; rfl; rfl)
    | (apply r_stL; rfl; rfl; rfl; rfl; (first | rfl | (simp only [z_nil, z_add] <;> rfl)); rfl; rfl)
    | (apply r_nilK)
    | (apply r_nil)
    | (apply k_V; rfl)
    | (apply k_P; rfl)
    | (apply k_PL; rfl)
    | (apply k_S; rfl)
    | (apply k_SL; rfl)
    | (apply k_A; rfl)
    | (apply k_T; rfl)
    | (apply k_F; rfl)
    | (apply k_D; rfl; rotate_left; rfl)
    | (apply k_nil)
    | (apply e_ret (vs := [.d (.val _)]); rfl)
    | (apply e_ret; rfl)
    | (apply e_ret' (vs := [.d (.val _)]); rfl)
    | (apply e_ret'; rfl)
    | (apply w_seq)
    | (apply w_ops; ((conv => lhs; simp only [Nat.reduceAdd]) <;> rfl))
    | (apply e_thenN)
    | (apply w_block)
    | (apply e_thenR)
    | (apply e_thenX)
    | (apply e_blkN)
    | (apply e_blkR)
    | (apply e_blkE)
    | (apply w_exit)
    | (apply w_ret)
    | (apply w_skip)
    | (apply e_blkE'; rfl))
  exact retB rfl
end Go.Sv
namespace Go.Sv
open Go Go.Proofs
set_option maxRecDepth 100000
set_option maxHeartbeats 4000000
attribute [local irreducible] W E R KP thenK blockK retK Good xwp aRun
end Go.Sv
namespace Go.Sv
open Go Go.Proofs
def Ored (p q p2 : List Bool) (k : Nat) : Prop := p2.length = p.length ∧ ∀ n, At p2 n ↔ At p n ∨ (n < k ∧ At q n)
theorem Ored.zero (p q : List Bool) : Ored p q p 0 := ⟨rfl, fun n => ⟨.inl, fun h => h.elim id fun h => absurd h.1 (by omega)⟩⟩
theorem Ored.step {p q p2 : List Bool} {k : Nat} (h : Ored p q p2 k) (hk : k < p.length) : Ored p q (p2.set k (p2.getD k false || q.getD k false)) (k + 1) := by
  refine ⟨by rw [List.length_set]; exact h.1, fun n => ?_⟩
  rw [at_set n (by rw [h.1]; exact hk), h.2 n]
  have hv : (p2.getD k false || q.getD k false) = true ↔ At p2 k ∨ At q k := by simp [At]
  rw [hv, h.2 k]
  constructor
  · rintro (⟨rfl, (h1 | h1) | h1⟩ | ⟨h1, h2 | h2⟩)
    · exact .inl h1
    · exact .inr ⟨by omega, h1.2⟩
    · exact .inr ⟨by omega, h1⟩
    · exact .inl h2
    · exact .inr ⟨by omega, h2.2⟩
  · rintro (h1 | ⟨h1, h2⟩)
    · by_cases e : n = k
      · subst e; exact .inl ⟨rfl, .inl (.inl h1)⟩
      · exact .inr ⟨e, .inl h1⟩
    · by_cases e : n = k
      · subst e; exact .inl ⟨rfl, .inr h2⟩
      · exact .inr ⟨e, .inr ⟨by omega, h2⟩⟩
set_option maxRecDepth 100000
set_option maxHeartbeats 4000000
attribute [local irreducible] W E R KP thenK blockK retK Good xwp aRun
noncomputable def nullS (t : T) : Bool := @decide (L t []) (Classical.propDecidable _)
end Go.Sv
namespace Go.Sv
open Go
set_option linter.unusedVariables false
structure FOf (P : List Nat → Prop) (f : Fa) : Prop where
  no : f.no = true → ∀ w, ¬ P w
  lo : f.no = false → (∃ w, P w ∧ (w.length : Int) = f.lo) ∧ ∀ w, P w → f.lo ≤ w.length
  hi : f.no = false → 0 ≤ f.hi → ∀ w, P w → (w.length : Int) ≤ f.hi
  fi : ∀ y, y < 256 → (inG f.a f.b f.c f.d y = true ↔ ∃ w, P (y :: w))
theorem FOf.congr {P Q : List Nat → Prop} {f : Fa} (h : FOf P f) (e : ∀ w, Q w ↔ P w) : FOf Q f := by
  have : Q = P := funext fun w => propext (e w)
  rw [this]; exact h
theorem FOf.some {P : List Nat → Prop} {f : Fa} (h : FOf P f) (hn : f.no = false) : ∃ w, P w := by
  obtain ⟨w, hw, _⟩ := (h.lo hn).1
  exact ⟨w, hw⟩
theorem FOf.nil {P : List Nat → Prop} {f : Fa} (h : FOf P f) (hn : f.no = false) (ho : 0 ≤ f.lo) : f.lo = 0 ↔ P [] := by
  obtain ⟨⟨w, hw, hl⟩, h2⟩ := h.lo hn
  constructor
  · intro e
    have : w = [] := List.length_eq_zero_iff.1 (by omega)
    rwa [this] at hw
  · intro hp
    have := h2 [] hp
    simp at this
    omega
end Go.Sv
namespace Go.Sv
open Go Go.Proofs
set_option maxRecDepth 100000
def x64 : XC := (.seq (.ops 1 [
    (0, ⟨(some 0), none, .mv (.k (.d (.val (.bool false))))⟩)] (some [])) (.seq (.ops 9 [
    (0, ⟨(some 12), none, .call 118 [(.k (.d (.val (.string ⟨#[97, 123, 50, 44, 51, 125, 124, 98, 42]⟩))))] none false⟩),
    (1, ⟨(some 11), none, .mv (.t 12)⟩),
    (2, ⟨(some 13), none, .ext (.t 11) 0⟩),
    (3, ⟨(some 14), none, .ext (.t 11) 1⟩),
    (4, ⟨(some 15), none, .ext (.t 11) 2⟩),
    (5, ⟨(some 1), none, .alloc [(.int .i64 0), (.int .u64 0), (.int .u64 0), (.int .u64 0), (.int .u64 0), (.int .i64 0), (.int .i64 0), (.slice none 0 0)]⟩),
    (6, ⟨none, none, .store 8 (.t 1) (.t 13)⟩),
    (7, ⟨(some 2), none, .mv (.t 14)⟩),
    (8, ⟨(some 3), none, .mv (.t 15)⟩)] (some [1])) (.seq (.ops 9 [
    (0, ⟨(some 17), none, .call 118 [(.k (.d (.val (.string ⟨#[97, 91, 93]⟩))))] none false⟩),
    (1, ⟨(some 16), none, .mv (.t 17)⟩),
    (2, ⟨(some 18), none, .ext (.t 16) 0⟩),
    (3, ⟨(some 19), none, .ext (.t 16) 1⟩),
    (4, ⟨(some 20), none, .ext (.t 16) 2⟩),
    (5, ⟨(some 4), none, .alloc [(.int .i64 0), (.int .u64 0), (.int .u64 0), (.int .u64 0), (.int .u64 0), (.int .i64 0), (.int .i64 0), (.slice none 0 0)]⟩),
    (6, ⟨none, none, .store 8 (.t 4) (.t 18)⟩),
    (7, ⟨(some 5), none, .mv (.t 19)⟩),
    (8, ⟨(some 6), none, .mv (.t 20)⟩)] (some [1, 4])) (.seq (.ops 7 [
    (0, ⟨(some 22), none, .load (some 8) (.t 1)⟩),
    (1, ⟨(some 23), none, .call 66 [(.t 22)] none false⟩),
    (2, ⟨(some 21), none, .mv (.t 23)⟩),
    (3, ⟨(some 24), none, .ext (.t 21) 0⟩),
    (4, ⟨(some 25), none, .ext (.t 21) 1⟩),
    (5, ⟨(some 7), none, .mv (.t 24)⟩),
    (6, ⟨(some 8), none, .mv (.t 25)⟩)] (some [1, 4, 7, 8])) (.seq (.ops 7 [
    (0, ⟨(some 27), none, .load (some 8) (.t 4)⟩),
    (1, ⟨(some 28), none, .call 66 [(.t 27)] none false⟩),
    (2, ⟨(some 26), none, .mv (.t 28)⟩),
    (3, ⟨(some 29), none, .ext (.t 26) 0⟩),
    (4, ⟨(some 30), none, .ext (.t 26) 1⟩),
    (5, ⟨(some 9), none, .mv (.t 29)⟩),
    (6, ⟨(some 10), none, .mv (.t 30)⟩)] (some [1, 4, 7, 8, 9, 10])) (.seq (.ops 60 [
    (0, ⟨(some 31), none, .load (some 8) (.t 1)⟩),
    (1, ⟨(some 32), none, .call 67 [(.t 31)] none false⟩),
    (2, ⟨(some 33), none, .arith .eql (.t 32) (.k (.d (.val (.int .i64 5))))⟩),
    (3, ⟨(some 34), none, .mv (.t 33)⟩),
    (4, ⟨(some 35), (some (34, true)), .load (some 8) (.t 1)⟩),
    (5, ⟨(some 36), (some (34, true)), .call 68 [(.t 35)] none false⟩),
    (6, ⟨(some 37), (some (34, true)), .arith .eql (.t 36) (.k (.d (.val (.int .i64 14))))⟩),
    (7, ⟨(some 38), none, .pick (.t 34) (.t 37) (.k (.d (.val (.bool false))))⟩),
    (8, ⟨(some 39), none, .mv (.t 38)⟩),
    (9, ⟨(some 40), (some (39, true)), .load (some 8) (.t 1)⟩),
    (10, ⟨(some 41), (some (39, true)), .call 69 [(.t 40)] none false⟩),
    (11, ⟨(some 42), none, .pick (.t 39) (.t 41) (.k (.d (.val (.bool false))))⟩),
    (12, ⟨(some 43), none, .mv (.t 42)⟩),
    (13, ⟨(some 44), (some (43, true)), .load (some 8) (.t 1)⟩),
    (14, ⟨(some 45), (some (43, true)), .call 70 [(.t 44)] none false⟩),
    (15, ⟨(some 46), (some (43, true)), .call 119 [(.k (.d (.val (.int .u8 97)))), (.k (.d (.val (.int .u8 98))))] none false⟩),
    (16, ⟨(some 47), (some (43, true)), .eqAgg 4 false (.t 45) (.t 46)⟩),
    (17, ⟨(some 48), none, .pick (.t 43) (.t 47) (.k (.d (.val (.bool false))))⟩),
    (18, ⟨(some 49), none, .mv (.t 48)⟩),
    (19, ⟨(some 50), (some (49, true)), .mv (.t 7)⟩),
    (20, ⟨(some 51), (some (49, true)), .arith .eql (.t 50) (.k (.d (.val (.int .i64 0))))⟩),
    (21, ⟨(some 52), none, .pick (.t 49) (.t 51) (.k (.d (.val (.bool false))))⟩),
    (22, ⟨(some 53), none, .mv (.t 52)⟩),
    (23, ⟨(some 54), (some (53, true)), .mv (.t 8)⟩),
    (24, ⟨(some 55), (some (53, true)), .arith .eql (.t 54) (.k (.d (.val (.int .i64 (-1)))))⟩),
    (25, ⟨(some 56), none, .pick (.t 53) (.t 55) (.k (.d (.val (.bool false))))⟩),
    (26, ⟨(some 57), none, .mv (.t 56)⟩),
    (27, ⟨(some 58), (some (57, true)), .mv (.t 9)⟩),
    (28, ⟨(some 59), (some (57, true)), .arith .eql (.t 58) (.k (.d (.val (.int .i64 (-1)))))⟩),
    (29, ⟨(some 60), none, .pick (.t 57) (.t 59) (.k (.d (.val (.bool false))))⟩),
    (30, ⟨(some 61), none, .mv (.t 60)⟩),
    (31, ⟨(some 62), (some (61, true)), .mv (.t 10)⟩),
    (32, ⟨(some 63), (some (61, true)), .arith .eql (.t 62) (.k (.d (.val (.int .i64 (-1)))))⟩),
    (33, ⟨(some 64), none, .pick (.t 61) (.t 63) (.k (.d (.val (.bool false))))⟩),
    (34, ⟨(some 65), none, .mv (.t 64)⟩),
    (35, ⟨(some 66), (some (65, true)), .load (some 8) (.t 4)⟩),
    (36, ⟨(some 67), (some (65, true)), .call 71 [(.t 66)] none false⟩),
    (37, ⟨(some 68), none, .pick (.t 65) (.t 67) (.k (.d (.val (.bool false))))⟩),
    (38, ⟨(some 69), none, .mv (.t 68)⟩),
    (39, ⟨(some 70), (some (69, true)), .load (some 8) (.t 1)⟩),
    (40, ⟨(some 71), (some (69, true)), .call 71 [(.t 70)] none false⟩),
    (41, ⟨(some 72), (some (69, true)), .un .not (.t 71)⟩),
    (42, ⟨(some 73), none, .pick (.t 69) (.t 72) (.k (.d (.val (.bool false))))⟩),
    (43, ⟨(some 74), none, .mv (.t 73)⟩),
    (44, ⟨(some 75), (some (74, true)), .load (some 8) (.t 1)⟩),
    (45, ⟨(some 76), (some (74, true)), .call 65 [(.t 75)] none false⟩),
    (46, ⟨(some 77), (some (74, true)), .lenS (.t 76)⟩),
    (47, ⟨(some 78), (some (74, true)), .arith .eql (.t 77) (.k (.d (.val (.int .i64 2))))⟩),
    (48, ⟨(some 79), none, .pick (.t 74) (.t 78) (.k (.d (.val (.bool false))))⟩),
    (49, ⟨(some 80), none, .mv (.t 79)⟩),
    (50, ⟨(some 81), (some (80, true)), .build [(.int .i64 0), (.int .u64 0), (.int .u64 0), (.int .u64 0), (.int .u64 0), (.int .i64 0), (.int .i64 0), (.slice none 0 0)] []⟩),
    (51, ⟨(some 82), (some (80, true)), .call 67 [(.t 81)] none false⟩),
    (52, ⟨(some 83), (some (80, true)), .arith .eql (.t 82) (.k (.d (.val (.int .i64 0))))⟩),
    (53, ⟨(some 84), none, .pick (.t 80) (.t 83) (.k (.d (.val (.bool false))))⟩),
    (54, ⟨(some 85), none, .mv (.t 84)⟩),
    (55, ⟨(some 86), (some (85, true)), .build [(.int .i64 0), (.int .u64 0), (.int .u64 0), (.int .u64 0), (.int .u64 0), (.int .i64 0), (.int .i64 0), (.slice none 0 0)] []⟩),
    (56, ⟨(some 87), (some (85, true)), .call 68 [(.t 86)] none false⟩),
    (57, ⟨(some 88), (some (85, true)), .arith .eql (.t 87) (.k (.d (.val (.int .i64 0))))⟩),
    (58, ⟨(some 89), none, .pick (.t 85) (.t 88) (.k (.d (.val (.bool false))))⟩),
    (59, ⟨(some 0), none, .mv (.t 89)⟩)] (some [0])) .ret))))))
def md64 : FuncId → Option Nat × Bool
  | _ => (none, false)
def od64 : Nat → List (List Nat) × List Nat × Option (List Nat)
  | 0 => ([], [], some [])
  | 1 => ([], [], some [1])
  | 2 => ([], [], some [1, 4])
  | 3 => ([], [], some [1, 4, 7, 8])
  | 4 => ([], [], some [1, 4, 7, 8, 9, 10])
  | 5 => ([], [], some [0])
  | _ => ([], [], none)
theorem b64 {ags : List AV} {row : Option (List DV)} {r : AV} {row' nw : Option (List DV)} (hal : ags.length ≤ 90) (hrow : row'.isSome = true → row.isSome = true) (h : xwp Try.prog x64 (retK [.tmp 0] row.isSome r row' nw) (St.init ags row)) : Good Try.prog 64 ags row r row' nw :=
  good_of_body' (md := md64) (od := od64) Try.f64 (by kernel_rfl) (by kernel_rfl) (by kernel_rfl) (by kernel_rfl) (by kernel_rfl) hal hrow h

def x65 : XC := (.seq (.ops 2 [
    (0, ⟨(some 1), none, .box (.t 0)⟩),
    (1, ⟨(some 2), none, .mv (.k (.d (.val (.slice none 0 0))))⟩)] (some [1])) (.seq (.seq (.ops 3 [
    (0, ⟨(some 3), none, .load (some 8) (.t 1)⟩),
    (1, ⟨(some 4), none, .call 84 [(.t 3)] none false⟩),
    (2, ⟨(some 5), none, .un .not (.t 4)⟩)] (some [1, 5])) (.cond (.t 5) (.seq (.ops 1 [
    (0, ⟨(some 2), none, .mv (.k (.d (.val (.slice none 0 0))))⟩)] (some [2])) .ret) .skip)) (.seq (.ops 2 [
    (0, ⟨(some 6), none, .call 120 [(.t 1), (.k (.d (.val (.slice none 0 0))))] (some 1) true⟩),
    (1, ⟨(some 2), none, .mv (.t 6)⟩)] (some [2])) .ret)))
def md65 : FuncId → Option Nat × Bool
  | 120 => (some 1, true)
  | _ => (none, false)
def od65 : Nat → List (List Nat) × List Nat × Option (List Nat)
  | 0 => ([], [], some [1])
  | 1 => ([], [], some [1, 5])
  | 2 => ([], [], some [2])
  | 3 => ([], [], some [2])
  | _ => ([], [], none)
theorem b65 {ags : List AV} {row : Option (List DV)} {r : AV} {row' nw : Option (List DV)} (hal : ags.length ≤ 7) (hrow : row'.isSome = true → row.isSome = true) (h : xwp Try.prog x65 (retK [.tmp 2] row.isSome r row' nw) (St.init ags row)) : Good Try.prog 65 ags row r row' nw :=
  good_of_body' (md := md65) (od := od65) Try.f65 (by kernel_rfl) (by kernel_rfl) (by kernel_rfl) (by kernel_rfl) (by kernel_rfl) hal hrow h

def x67 : XC := (.seq (.ops 2 [
    (0, ⟨(some 1), none, .box (.t 0)⟩),
    (1, ⟨(some 2), none, .mv (.k (.d (.val (.int .i64 0))))⟩)] (some [1])) (.seq (.seq (.ops 3 [
    (0, ⟨(some 3), none, .load (some 8) (.t 1)⟩),
    (1, ⟨(some 4), none, .call 84 [(.t 3)] none false⟩),
    (2, ⟨(some 5), none, .un .not (.t 4)⟩)] (some [1, 5])) (.cond (.t 5) (.seq (.ops 1 [
    (0, ⟨(some 2), none, .mv (.k (.d (.val (.int .i64 0))))⟩)] (some [2])) .ret) .skip)) (.seq (.ops 2 [
    (0, ⟨(some 6), none, .call 122 [(.t 1)] none false⟩),
    (1, ⟨(some 2), none, .mv (.t 6)⟩)] (some [2])) .ret)))
def md67 : FuncId → Option Nat × Bool
  | _ => (none, false)
def od67 : Nat → List (List Nat) × List Nat × Option (List Nat)
  | 0 => ([], [], some [1])
  | 1 => ([], [], some [1, 5])
  | 2 => ([], [], some [2])
  | 3 => ([], [], some [2])
  | _ => ([], [], none)
theorem b67 {ags : List AV} {row : Option (List DV)} {r : AV} {row' nw : Option (List DV)} (hal : ags.length ≤ 7) (hrow : row'.isSome = true → row.isSome = true) (h : xwp Try.prog x67 (retK [.tmp 2] row.isSome r row' nw) (St.init ags row)) : Good Try.prog 67 ags row r row' nw :=
  good_of_body' (md := md67) (od := od67) Try.f67 (by kernel_rfl) (by kernel_rfl) (by kernel_rfl) (by kernel_rfl) (by kernel_rfl) hal hrow h

def x120 : XC := (.seq (.ops 1 [
    (0, ⟨(some 4), none, .mv (.k (.d (.val (.slice none 0 0))))⟩)] (some [0, 1])) (.seq (.seq (.ops 5 [
    (0, ⟨(some 6), none, .mv (.t 0)⟩),
    (1, ⟨(some 7), none, .nilck (.t 6)⟩),
    (2, ⟨(some 8), none, .fadd 0 (.t 7)⟩),
    (3, ⟨(some 9), none, .load none (.t 8)⟩),
    (4, ⟨(some 10), none, .arith .eql (.t 9) (.k (.d (.val (.int .i64 2))))⟩)] (some [0, 1, 10])) (.cond (.t 10) (.seq (.ops 8 [
    (0, ⟨(some 11), none, .mv (.t 1)⟩),
    (1, ⟨(some 12), none, .mv (.t 0)⟩),
    (2, ⟨(some 13), none, .nilck (.t 12)⟩),
    (3, ⟨(some 14), none, .fadd 1 (.t 13)⟩),
    (4, ⟨(some 15), none, .load (some 4) (.t 14)⟩),
    (5, ⟨(some 16), none, .mkrow [(.int .u64 0), (.int .u64 0), (.int .u64 0), (.int .u64 0)] 1 4 [(0, 4, (.t 15))]⟩),
    (6, ⟨(some 17), none, .app [(.int .u64 0), (.int .u64 0), (.int .u64 0), (.int .u64 0)] 32 (.t 11) (.t 16)⟩),
    (7, ⟨(some 4), none, .mv (.t 17)⟩)] (some [4])) .ret) .skip)) (.seq (.seq (.ops 6 [
    (0, ⟨(some 18), none, .mv (.t 0)⟩),
    (1, ⟨(some 19), none, .nilck (.t 18)⟩),
    (2, ⟨(some 20), none, .fadd 7 (.t 19)⟩),
    (3, ⟨(some 21), none, .load none (.t 20)⟩),
    (4, ⟨(some 22), none, .lenS (.t 21)⟩),
    (5, ⟨(some 23), none, .mv (.k (.d (.val (.int .i64 0))))⟩)] (some [0, 1, 22, 23])) (.block 0 (.loop (.seq (.ops 1 [
    (0, ⟨(some 24), none, .arith .lss (.t 23) (.t 22)⟩)] (some [0, 1, 22, 23, 24])) (.seq (.cond (.t 24) .skip (.exit 0)) (.seq (.block 1 (.seq (.ops 2 [
    (0, ⟨(some 25), none, .mv (.t 23)⟩),
    (1, ⟨(some 5), none, .mv (.t 25)⟩)] (some [0, 1, 5, 22, 23])) (.ops 9 [
    (0, ⟨(some 26), none, .mv (.t 0)⟩),
    (1, ⟨(some 27), none, .nilck (.t 26)⟩),
    (2, ⟨(some 28), none, .fadd 7 (.t 27)⟩),
    (3, ⟨(some 29), none, .load none (.t 28)⟩),
    (4, ⟨(some 30), none, .mv (.t 5)⟩),
    (5, ⟨(some 31), none, .idxS 8 (.t 29) (.t 30)⟩),
    (6, ⟨(some 32), none, .mv (.t 1)⟩),
    (7, ⟨(some 33), none, .call 120 [(.t 31), (.t 32)] (some 1) true⟩),
    (8, ⟨(some 1), none, .mv (.t 33)⟩)] (some [0, 1, 22, 23])))) (.ops 2 [
    (0, ⟨(some 34), none, .arith .add (.t 23) (.k (.d (.val (.int .i64 1))))⟩),
    (1, ⟨(some 23), none, .mv (.t 34)⟩)] (some [0, 1, 22, 23])))))))) (.seq (.ops 2 [
    (0, ⟨(some 35), none, .mv (.t 1)⟩),
    (1, ⟨(some 4), none, .mv (.t 35)⟩)] (some [4])) .ret))))
def md120 : FuncId → Option Nat × Bool
  | 120 => (some 1, true)
  | _ => (none, false)
def od120 : Nat → List (List Nat) × List Nat × Option (List Nat)
  | 0 => ([], [], some [0, 1])
  | 1 => ([], [], some [0, 1, 10])
  | 2 => ([], [], some [4])
  | 3 => ([], [], some [0, 1, 22, 23])
  | 4 => ([], [], some [0, 1, 22, 23, 24])
  | 5 => ([], [], some [0, 1, 5, 22, 23])
  | 6 => ([], [], some [0, 1, 22, 23])
  | 7 => ([], [], some [0, 1, 22, 23])
  | 8 => ([], [], some [4])
  | _ => ([], [], none)
theorem b120 {ags : List AV} {row : Option (List DV)} {r : AV} {row' nw : Option (List DV)} (hal : ags.length ≤ 36) (hrow : row'.isSome = true → row.isSome = true) (h : xwp Try.prog x120 (retK [.tmp 4] row.isSome r row' nw) (St.init ags row)) : Good Try.prog 120 ags row r row' nw :=
  good_of_body' (md := md120) (od := od120) Try.f120 (by kernel_rfl) (by kernel_rfl) (by kernel_rfl) (by kernel_rfl) (by kernel_rfl) hal hrow h

def x122 : XC := (.seq (.ops 1 [
    (0, ⟨(some 2), none, .mv (.k (.d (.val (.int .i64 0))))⟩)] (some [0])) (.seq (.ops 1 [
    (0, ⟨(some 3), none, .mv (.k (.d (.val (.int .i64 1))))⟩)] (some [0, 3])) (.seq (.seq (.ops 6 [
    (0, ⟨(some 5), none, .mv (.t 0)⟩),
    (1, ⟨(some 6), none, .nilck (.t 5)⟩),
    (2, ⟨(some 7), none, .fadd 7 (.t 6)⟩),
    (3, ⟨(some 8), none, .load none (.t 7)⟩),
    (4, ⟨(some 9), none, .lenS (.t 8)⟩),
    (5, ⟨(some 10), none, .mv (.k (.d (.val (.int .i64 0))))⟩)] (some [0, 3, 9, 10])) (.block 0 (.loop (.seq (.ops 1 [
    (0, ⟨(some 11), none, .arith .lss (.t 10) (.t 9)⟩)] (some [0, 3, 9, 10, 11])) (.seq (.cond (.t 11) .skip (.exit 0)) (.seq (.block 1 (.seq (.ops 2 [
    (0, ⟨(some 12), none, .mv (.t 10)⟩),
    (1, ⟨(some 4), none, .mv (.t 12)⟩)] (some [0, 3, 4, 9, 10])) (.ops 10 [
    (0, ⟨(some 13), none, .mv (.t 3)⟩),
    (1, ⟨(some 14), none, .mv (.t 0)⟩),
    (2, ⟨(some 15), none, .nilck (.t 14)⟩),
    (3, ⟨(some 16), none, .fadd 7 (.t 15)⟩),
    (4, ⟨(some 17), none, .load none (.t 16)⟩),
    (5, ⟨(some 18), none, .mv (.t 4)⟩),
    (6, ⟨(some 19), none, .idxS 8 (.t 17) (.t 18)⟩),
    (7, ⟨(some 20), none, .call 122 [(.t 19)] none false⟩),
    (8, ⟨(some 21), none, .arith .add (.t 13) (.t 20)⟩),
    (9, ⟨(some 3), none, .mv (.t 21)⟩)] (some [0, 3, 9, 10])))) (.ops 2 [
    (0, ⟨(some 22), none, .arith .add (.t 10) (.k (.d (.val (.int .i64 1))))⟩),
    (1, ⟨(some 10), none, .mv (.t 22)⟩)] (some [0, 3, 9, 10])))))))) (.seq (.ops 2 [
    (0, ⟨(some 23), none, .mv (.t 3)⟩),
    (1, ⟨(some 2), none, .mv (.t 23)⟩)] (some [2])) .ret))))
def md122 : FuncId → Option Nat × Bool
  | _ => (none, false)
def od122 : Nat → List (List Nat) × List Nat × Option (List Nat)
  | 0 => ([], [], some [0])
  | 1 => ([], [], some [0, 3])
  | 2 => ([], [], some [0, 3, 9, 10])
  | 3 => ([], [], some [0, 3, 9, 10, 11])
  | 4 => ([], [], some [0, 3, 4, 9, 10])
  | 5 => ([], [], some [0, 3, 9, 10])
  | 6 => ([], [], some [0, 3, 9, 10])
  | 7 => ([], [], some [2])
  | _ => ([], [], none)
theorem b122 {ags : List AV} {row : Option (List DV)} {r : AV} {row' nw : Option (List DV)} (hal : ags.length ≤ 24) (hrow : row'.isSome = true → row.isSome = true) (h : xwp Try.prog x122 (retK [.tmp 2] row.isSome r row' nw) (St.init ags row)) : Good Try.prog 122 ags row r row' nw :=
  good_of_body' (md := md122) (od := od122) Try.f122 (by kernel_rfl) (by kernel_rfl) (by kernel_rfl) (by kernel_rfl) (by kernel_rfl) hal hrow h

def tabM : Tab
  | 64 => some ⟨x64, [.tmp 0], 90, false, 8⟩
  | 65 => some ⟨x65, [.tmp 2], 7, false, 8⟩
  | 67 => some ⟨x67, [.tmp 2], 7, false, 8⟩
  | 120 => some ⟨x120, [.tmp 4], 36, true, 4⟩
  | 122 => some ⟨x122, [.tmp 2], 24, false, 8⟩
  | 121 => some ⟨x121, [.cell 2 (some 7), .tmp 3], 9, false, 8⟩
  | 69 => some ⟨x69, [.tmp 2], 21, false, 8⟩
  | 70 => some ⟨x70, [.cell 2 (some 4)], 12, false, 8⟩
  | 66 => some ⟨x66, [.tmp 2, .tmp 3], 15, false, 8⟩
  | 71 => some ⟨x71, [.tmp 2], 12, false, 8⟩
  | 151 => some ⟨x151, [.cell 2 (some 7)], 87, false, 8⟩
  | 165 => some ⟨x165, [.cell 0 (some 7)], 2, false, 8⟩
  | 173 => some ⟨x173, [.tmp 4], 14, false, 8⟩
  | 166 => some ⟨x166, [.cell 4 (some 7)], 34, false, 8⟩
  | 167 => some ⟨x167, [.cell 4 (some 7)], 39, false, 8⟩
  | 168 => some ⟨x168, [.cell 6 (some 7)], 45, false, 8⟩
  | 68 => some ⟨x68, [.tmp 2], 7, false, 8⟩
  | 123 => some ⟨x123, [.tmp 2], 54, false, 8⟩
  | 84 => some ⟨x84, [.tmp 2], 4, false, 8⟩
  | 132 => some ⟨x132, [.tmp 4], 46, false, 8⟩
  | 156 => some ⟨x156, [.tmp 2], 121, false, 8⟩
  | 157 => some ⟨x157, [.tmp 4], 24, false, 8⟩
  | 83 => some ⟨x83, [.cell 2 (some 8)], 13, false, 8⟩
  | 119 => some ⟨x119, [.cell 4 (some 4)], 24, false, 8⟩
  | 149 => some ⟨x149, [.cell 2 (some 8)], 16, false, 8⟩
  | 150 => some ⟨x150, [], 10, false, 8⟩
  | 162 => some ⟨x162, [.cell 2 (some 8)], 14, false, 8⟩
  | 163 => some ⟨x163, [.tmp 4], 17, false, 8⟩
  | 164 => some ⟨x164, [.cell 4 (some 8)], 20, false, 8⟩
  | 170 => some ⟨x170, [.tmp 2], 16, false, 8⟩
  | 171 => some ⟨x171, [.cell 2 (some 8)], 33, false, 8⟩
  | 172 => some ⟨x172, [.tmp 2], 23, false, 8⟩
  | 176 => some ⟨x176, [.cell 2 (some 8)], 60, false, 8⟩
  | 177 => some ⟨x177, [.tmp 2, .tmp 3], 29, false, 8⟩
  | 178 => some ⟨x178, [], 15, false, 8⟩
  | 179 => some ⟨x179, [.cell 2 (some 4)], 19, false, 8⟩
  | 180 => some ⟨x180, [.cell 2 (some 4)], 10, false, 8⟩
  | 181 => some ⟨x181, [.tmp 2], 34, false, 8⟩
  | 182 => some ⟨x182, [.tmp 2], 54, false, 8⟩
  | 183 => some ⟨x183, [.cell 2 (some 4)], 28, false, 8⟩
  | 184 => some ⟨x184, [.cell 2 (some 4)], 15, false, 8⟩
  | 185 => some ⟨x185, [.tmp 2], 50, false, 8⟩
  | 186 => some ⟨x186, [.tmp 2], 22, false, 8⟩
  | 187 => some ⟨x187, [.tmp 2], 28, false, 8⟩
  | 188 => some ⟨x188, [.tmp 4], 8, false, 8⟩
  | 189 => some ⟨x189, [.tmp 2], 24, false, 8⟩
  | 190 => some ⟨x190, [.tmp 4], 8, false, 8⟩
  | 73 => some ⟨x73, [.cell 4 (some 4)], 19, false, 8⟩
  | _ => none
theorem tabM_ok : TabOK Try.prog tabM := by
  intro f t h ags row r row' nw hal hrow hx
  unfold tabM at h
  split at h
  · cases h; exact b64 hal hrow hx
  · cases h; exact b65 hal hrow hx
  · cases h; exact b67 hal hrow hx
  · cases h; exact b120 hal hrow hx
  · cases h; exact b122 hal hrow hx
  · cases h; exact b121 hal hrow hx
  · cases h; exact b69 hal hrow hx
  · cases h; exact b70 hal hrow hx
  · cases h; exact b66 hal hrow hx
  · cases h; exact b71 hal hrow hx
  · cases h; exact b151 hal hrow hx
  · cases h; exact b165 hal hrow hx
  · cases h; exact b173 hal hrow hx
  · cases h; exact b166 hal hrow hx
  · cases h; exact b167 hal hrow hx
  · cases h; exact b168 hal hrow hx
  · cases h; exact b68 hal hrow hx
  · cases h; exact b123 hal hrow hx
  · cases h; exact b84 hal hrow hx
  · cases h; exact b132 hal hrow hx
  · cases h; exact b156 hal hrow hx
  · cases h; exact b157 hal hrow hx
  · cases h; exact b83 hal hrow hx
  · cases h; exact b119 hal hrow hx
  · cases h; exact b149 hal hrow hx
  · cases h; exact b150 hal hrow hx
  · cases h; exact b162 hal hrow hx
  · cases h; exact b163 hal hrow hx
  · cases h; exact b164 hal hrow hx
  · cases h; exact b170 hal hrow hx
  · cases h; exact b171 hal hrow hx
  · cases h; exact b172 hal hrow hx
  · cases h; exact b176 hal hrow hx
  · cases h; exact b177 hal hrow hx
  · cases h; exact b178 hal hrow hx
  · cases h; exact b179 hal hrow hx
  · cases h; exact b180 hal hrow hx
  · cases h; exact b181 hal hrow hx
  · cases h; exact b182 hal hrow hx
  · cases h; exact b183 hal hrow hx
  · cases h; exact b184 hal hrow hx
  · cases h; exact b185 hal hrow hx
  · cases h; exact b186 hal hrow hx
  · cases h; exact b187 hal hrow hx
  · cases h; exact b188 hal hrow hx
  · cases h; exact b189 hal hrow hx
  · cases h; exact b190 hal hrow hx
  · cases h; exact b73 hal hrow hx
  · cases h

theorem awake64_ev : evF tabM (spP 100) 100 40 64 [] none = some (.b true, none, none) := by kernel_rfl
theorem awake64_good : Good Try.prog 64 [] none (.b true) none none := evF_sound tabM_ok (spP_ok 100) 40 64 [] none _ _ _ awake64_ev
end Go.Sv
namespace Go.Sv
open Go Go.Proofs
set_option maxRecDepth 100000
set_option maxHeartbeats 4000000
attribute [local irreducible] W E R KP thenK blockK retK Good xwp aRun
end Go.Sv
namespace Go.Sv
open Go Go.Proofs
def x7 : XC := (.seq (.ops 2 [
    (0, ⟨(some 4), none, .box (.t 0)⟩),
    (1, ⟨(some 8), none, .mv (.k (.d (.val (.bool false))))⟩)] (some [1, 2, 3, 4])) (.seq (.seq (.ops 25 [
    (0, ⟨(some 15), none, .call 29 [] none false⟩),
    (1, ⟨(some 16), none, .un .not (.t 15)⟩),
    (2, ⟨(some 17), none, .mv (.t 16)⟩),
    (3, ⟨(some 18), (some (17, false)), .load (some 8) (.t 4)⟩),
    (4, ⟨(some 19), (some (17, false)), .mv (.t 1)⟩),
    (5, ⟨(some 20), (some (17, false)), .mv (.t 2)⟩),
    (6, ⟨(some 21), (some (17, false)), .arith .add (.t 19) (.t 20)⟩),
    (7, ⟨(some 22), (some (17, false)), .call 30 [(.t 18), (.t 21)] none false⟩),
    (8, ⟨(some 23), (some (17, false)), .un .not (.t 22)⟩),
    (9, ⟨(some 24), none, .pick (.t 17) (.k (.d (.val (.bool true)))) (.t 23)⟩),
    (10, ⟨(some 25), none, .mv (.t 24)⟩),
    (11, ⟨(some 26), (some (25, false)), .load (some 8) (.t 4)⟩),
    (12, ⟨(some 27), (some (25, false)), .call 32 [(.t 26)] none false⟩),
    (13, ⟨(some 28), (some (25, false)), .un .not (.t 27)⟩),
    (14, ⟨(some 29), none, .pick (.t 25) (.k (.d (.val (.bool true)))) (.t 28)⟩),
    (15, ⟨(some 30), none, .mv (.t 29)⟩),
    (16, ⟨(some 31), (some (30, false)), .mv (.t 3)⟩),
    (17, ⟨(some 32), (some (30, false)), .arith .lss (.t 31) (.k (.d (.val (.int .i64 0))))⟩),
    (18, ⟨(some 33), none, .pick (.t 30) (.k (.d (.val (.bool true)))) (.t 32)⟩),
    (19, ⟨(some 34), none, .mv (.t 33)⟩),
    (20, ⟨(some 35), (some (34, false)), .mv (.t 3)⟩),
    (21, ⟨(some 36), (some (34, false)), .mv (.t 1)⟩),
    (22, ⟨(some 37), (some (34, false)), .lenT (.t 36)⟩),
    (23, ⟨(some 38), (some (34, false)), .arith .gtr (.t 35) (.t 37)⟩),
    (24, ⟨(some 39), none, .pick (.t 34) (.k (.d (.val (.bool true)))) (.t 38)⟩)] (some [1, 2, 3, 4, 39])) (.cond (.t 39) (.seq (.ops 2 [
    (0, ⟨(some 40), none, .call 29 [] none false⟩),
    (1, ⟨(some 8), none, .mv (.t 40)⟩)] (some [8])) .ret) .skip)) (.seq (.ops 9 [
    (0, ⟨(some 42), none, .load (some 8) (.t 4)⟩),
    (1, ⟨(some 43), none, .mv (.t 1)⟩),
    (2, ⟨(some 44), none, .mv (.t 3)⟩),
    (3, ⟨(some 45), none, .call 31 [(.t 42), (.t 43), (.t 44)] none false⟩),
    (4, ⟨(some 41), none, .mv (.t 45)⟩),
    (5, ⟨(some 46), none, .ext (.t 41) 0⟩),
    (6, ⟨(some 47), none, .ext (.t 41) 1⟩),
    (7, ⟨(some 9), none, .mv (.t 46)⟩),
    (8, ⟨(some 10), none, .mv (.t 47)⟩)] (some [1, 2, 3, 4, 9, 10])) (.seq (.ops 11 [
    (0, ⟨(some 49), none, .load (some 8) (.t 4)⟩),
    (1, ⟨(some 50), none, .mv (.t 1)⟩),
    (2, ⟨(some 51), none, .mv (.t 2)⟩),
    (3, ⟨(some 52), none, .arith .add (.t 50) (.t 51)⟩),
    (4, ⟨(some 53), none, .mv (.t 3)⟩),
    (5, ⟨(some 54), none, .call 31 [(.t 49), (.t 52), (.t 53)] none false⟩),
    (6, ⟨(some 48), none, .mv (.t 54)⟩),
    (7, ⟨(some 55), none, .ext (.t 48) 0⟩),
    (8, ⟨(some 56), none, .ext (.t 48) 1⟩),
    (9, ⟨(some 11), none, .mv (.t 55)⟩),
    (10, ⟨(some 12), none, .mv (.t 56)⟩)] (some [1, 9, 10, 11, 12])) (.seq (.seq (.ops 22 [
    (0, ⟨(some 57), none, .mv (.t 10)⟩),
    (1, ⟨(some 58), none, .arith .neq (.t 57) (.k (.d (.val (.int .i64 0))))⟩),
    (2, ⟨(some 59), none, .mv (.t 58)⟩),
    (3, ⟨(some 60), (some (59, false)), .mv (.t 12)⟩),
    (4, ⟨(some 61), (some (59, false)), .arith .neq (.t 60) (.k (.d (.val (.int .i64 0))))⟩),
    (5, ⟨(some 62), none, .pick (.t 59) (.k (.d (.val (.bool true)))) (.t 61)⟩),
    (6, ⟨(some 63), none, .mv (.t 62)⟩),
    (7, ⟨(some 64), (some (63, false)), .mv (.t 11)⟩),
    (8, ⟨(some 65), (some (63, false)), .lenS (.t 64)⟩),
    (9, ⟨(some 66), (some (63, false)), .mv (.t 9)⟩),
    (10, ⟨(some 67), (some (63, false)), .lenS (.t 66)⟩),
    (11, ⟨(some 68), (some (63, false)), .arith .lss (.t 65) (.t 67)⟩),
    (12, ⟨(some 69), none, .pick (.t 63) (.k (.d (.val (.bool true)))) (.t 68)⟩),
    (13, ⟨(some 70), none, .mv (.t 69)⟩),
    (14, ⟨(some 71), (some (70, false)), .mv (.t 9)⟩),
    (15, ⟨(some 72), (some (70, false)), .mv (.t 11)⟩),
    (16, ⟨(some 73), (some (70, false)), .mv (.t 9)⟩),
    (17, ⟨(some 74), (some (70, false)), .lenS (.t 73)⟩),
    (18, ⟨(some 75), (some (70, false)), .slS 1 (.t 72) none (some (.t 74))⟩),
    (19, ⟨(some 76), (some (70, false)), .call 35 [(.t 71), (.t 75)] none false⟩),
    (20, ⟨(some 77), (some (70, false)), .un .not (.t 76)⟩),
    (21, ⟨(some 78), none, .pick (.t 70) (.k (.d (.val (.bool true)))) (.t 77)⟩)] (some [1, 9, 11, 78])) (.cond (.t 78) (.seq (.ops 1 [
    (0, ⟨(some 8), none, .mv (.k (.d (.val (.bool false))))⟩)] (some [8])) .ret) .skip)) (.seq (.seq (.ops 6 [
    (0, ⟨(some 79), none, .mv (.t 11)⟩),
    (1, ⟨(some 80), none, .mv (.t 9)⟩),
    (2, ⟨(some 81), none, .lenS (.t 80)⟩),
    (3, ⟨(some 82), none, .slS 1 (.t 79) (some (.t 81)) none⟩),
    (4, ⟨(some 83), none, .lenS (.t 82)⟩),
    (5, ⟨(some 84), none, .mv (.k (.d (.val (.int .i64 0))))⟩)] (some [1, 82, 83, 84])) (.block 0 (.loop (.seq (.ops 1 [
    (0, ⟨(some 85), none, .arith .lss (.t 84) (.t 83)⟩)] (some [1, 82, 83, 84, 85])) (.seq (.cond (.t 85) .skip (.exit 0)) (.seq (.block 1 (.seq (.ops 3 [
    (0, ⟨(some 86), none, .idxS 1 (.t 82) (.t 84)⟩),
    (1, ⟨(some 87), none, .load none (.t 86)⟩),
    (2, ⟨(some 14), none, .mv (.t 87)⟩)] (some [1, 14, 82, 83, 84])) (.seq (.ops 4 [
    (0, ⟨(some 88), none, .mv (.t 14)⟩),
    (1, ⟨(some 89), none, .mv (.t 1)⟩),
    (2, ⟨(some 90), none, .lenT (.t 89)⟩),
    (3, ⟨(some 91), none, .arith .leq (.t 88) (.t 90)⟩)] (some [1, 82, 83, 84, 91])) (.cond (.t 91) (.seq (.ops 1 [
    (0, ⟨(some 8), none, .mv (.k (.d (.val (.bool false))))⟩)] (some [8])) .ret) .skip)))) (.ops 2 [
    (0, ⟨(some 92), none, .arith .add (.t 84) (.k (.d (.val (.int .i64 1))))⟩),
    (1, ⟨(some 84), none, .mv (.t 92)⟩)] (some [1, 82, 83, 84])))))))) (.seq (.ops 1 [
    (0, ⟨(some 8), none, .mv (.k (.d (.val (.bool true))))⟩)] (some [8])) .ret)))))))
def md7 : FuncId → Option Nat × Bool
  | _ => (none, false)
def od7 : Nat → List (List Nat) × List Nat × Option (List Nat)
  | 0 => ([], [], some [1, 2, 3, 4])
  | 1 => ([], [], some [1, 2, 3, 4, 39])
  | 2 => ([], [], some [8])
  | 3 => ([], [], some [1, 2, 3, 4, 9, 10])
  | 4 => ([], [], some [1, 9, 10, 11, 12])
  | 5 => ([], [], some [1, 9, 11, 78])
  | 6 => ([], [], some [8])
  | 7 => ([], [], some [1, 82, 83, 84])
  | 8 => ([], [], some [1, 82, 83, 84, 85])
  | 9 => ([], [], some [1, 14, 82, 83, 84])
  | 10 => ([], [], some [1, 82, 83, 84, 91])
  | 11 => ([], [], some [8])
  | 12 => ([], [], some [1, 82, 83, 84])
  | 13 => ([], [], some [8])
  | _ => ([], [], none)
theorem b7 {ags : List AV} {row : Option (List DV)} {r : AV} {row' nw : Option (List DV)} (hal : ags.length ≤ 93) (hrow : row'.isSome = true → row.isSome = true) (h : xwp Try.prog x7 (retK [.tmp 8] row.isSome r row' nw) (St.init ags row)) : Good Try.prog 7 ags row r row' nw :=
  good_of_body' (md := md7) (od := od7) Try.f7 (by kernel_rfl) (by kernel_rfl) (by kernel_rfl) (by kernel_rfl) (by kernel_rfl) hal hrow h

section
variable {P : Program} {Q : Cont} {fr : Fr} {C : Heap} {Z Z' : Frz} {nx : Nat} {base n d : Nat} {l : List (Nat × XO)} {kp : Option (List Nat)} {x i y s : X}
end
set_option maxRecDepth 100000
set_option maxHeartbeats 4000000
attribute [local irreducible] W E R KP thenK blockK retK Good xwp aRun
end Go.Sv
namespace Go.Sv
open Go Go.Proofs
def x9 : XC := (.seq (.ops 2 [
    (0, ⟨(some 2), none, .box (.t 0)⟩),
    (1, ⟨(some 4), none, .mv (.k (.d (.val (.bool false))))⟩)] (some [1, 2])) (.seq (.ops 5 [
    (0, ⟨(some 12), none, .load (some 8) (.t 2)⟩),
    (1, ⟨(some 13), none, .mkrow [(.int .i64 0), (.int .u64 0), (.int .u64 0), (.int .u64 0), (.int .u64 0), (.int .i64 0), (.int .i64 0), (.slice none 0 0)] 1 8 [(0, 8, (.t 12))]⟩),
    (2, ⟨(some 14), none, .build [(.int .i64 0), (.int .u64 0), (.int .u64 0), (.int .u64 0), (.int .u64 0), (.int .i64 0), (.int .i64 0), (.slice none 0 0)] [(0, 1, (.k (.d (.val (.int .i64 5))))), (6, 1, (.k (.d (.val (.int .i64 (-1)))))), (7, 1, (.t 13))]⟩),
    (3, ⟨(some 5), none, .alloc [(.int .i64 0), (.int .u64 0), (.int .u64 0), (.int .u64 0), (.int .u64 0), (.int .i64 0), (.int .i64 0), (.slice none 0 0)]⟩),
    (4, ⟨none, none, .store 8 (.t 5) (.t 14)⟩)] (some [1, 2, 5])) (.seq (.ops 9 [
    (0, ⟨(some 15), none, .build [(.int .i64 0), (.int .u64 0), (.int .u64 0), (.int .u64 0), (.int .u64 0), (.int .i64 0), (.int .i64 0), (.slice none 0 0)] [(0, 1, (.k (.d (.val (.int .i64 1)))))]⟩),
    (1, ⟨(some 16), none, .load (some 8) (.t 2)⟩),
    (2, ⟨(some 17), none, .load (some 8) (.t 5)⟩),
    (3, ⟨(some 18), none, .mkrow [(.int .i64 0), (.int .u64 0), (.int .u64 0), (.int .u64 0), (.int .u64 0), (.int .i64 0), (.int .i64 0), (.slice none 0 0)] 2 8 [(0, 8, (.t 16)), (8, 8, (.t 17))]⟩),
    (4, ⟨(some 19), none, .build [(.int .i64 0), (.int .u64 0), (.int .u64 0), (.int .u64 0), (.int .u64 0), (.int .i64 0), (.int .i64 0), (.slice none 0 0)] [(0, 1, (.k (.d (.val (.int .i64 3))))), (7, 1, (.t 18))]⟩),
    (5, ⟨(some 20), none, .mkrow [(.int .i64 0), (.int .u64 0), (.int .u64 0), (.int .u64 0), (.int .u64 0), (.int .i64 0), (.int .i64 0), (.slice none 0 0)] 2 8 [(0, 8, (.t 15)), (8, 8, (.t 19))]⟩),
    (6, ⟨(some 21), none, .build [(.int .i64 0), (.int .u64 0), (.int .u64 0), (.int .u64 0), (.int .u64 0), (.int .i64 0), (.int .i64 0), (.slice none 0 0)] [(0, 1, (.k (.d (.val (.int .i64 4))))), (7, 1, (.t 20))]⟩),
    (7, ⟨(some 6), none, .alloc [(.int .i64 0), (.int .u64 0), (.int .u64 0), (.int .u64 0), (.int .u64 0), (.int .i64 0), (.int .i64 0), (.slice none 0 0)]⟩),
    (8, ⟨none, none, .store 8 (.t 6) (.t 21)⟩)] (some [1, 5, 6])) (.seq (.seq (.ops 13 [
    (0, ⟨(some 22), none, .call 29 [] none false⟩),
    (1, ⟨(some 23), none, .un .not (.t 22)⟩),
    (2, ⟨(some 24), none, .mv (.t 23)⟩),
    (3, ⟨(some 25), (some (24, false)), .load (some 8) (.t 6)⟩),
    (4, ⟨(some 26), (some (24, false)), .mv (.t 1)⟩),
    (5, ⟨(some 27), (some (24, false)), .call 30 [(.t 25), (.t 26)] none false⟩),
    (6, ⟨(some 28), (some (24, false)), .un .not (.t 27)⟩),
    (7, ⟨(some 29), none, .pick (.t 24) (.k (.d (.val (.bool true)))) (.t 28)⟩),
    (8, ⟨(some 30), none, .mv (.t 29)⟩),
    (9, ⟨(some 31), (some (30, false)), .load (some 8) (.t 6)⟩),
    (10, ⟨(some 32), (some (30, false)), .call 32 [(.t 31)] none false⟩),
    (11, ⟨(some 33), (some (30, false)), .un .not (.t 32)⟩),
    (12, ⟨(some 34), none, .pick (.t 30) (.k (.d (.val (.bool true)))) (.t 33)⟩)] (some [1, 5, 6, 34])) (.cond (.t 34) (.seq (.ops 2 [
    (0, ⟨(some 35), none, .call 29 [] none false⟩),
    (1, ⟨(some 4), none, .mv (.t 35)⟩)] (some [4])) .ret) .skip)) (.seq (.seq (.ops 4 [
    (0, ⟨(some 36), none, .mv (.t 1)⟩),
    (1, ⟨(some 37), none, .lenT (.t 36)⟩),
    (2, ⟨(some 38), none, .arith .add (.t 37) (.k (.d (.val (.int .i64 1))))⟩),
    (3, ⟨(some 39), none, .mv (.k (.d (.val (.int .i64 0))))⟩)] (some [1, 5, 6, 38, 39])) (.block 0 (.loop (.seq (.ops 1 [
    (0, ⟨(some 40), none, .arith .lss (.t 39) (.t 38)⟩)] (some [1, 5, 6, 38, 39, 40])) (.seq (.cond (.t 40) .skip (.exit 0)) (.seq (.block 1 (.seq (.ops 2 [
    (0, ⟨(some 41), none, .mv (.t 39)⟩),
    (1, ⟨(some 7), none, .mv (.t 41)⟩)] (some [1, 5, 6, 7, 38, 39])) (.seq (.ops 9 [
    (0, ⟨(some 43), none, .load (some 8) (.t 5)⟩),
    (1, ⟨(some 44), none, .mv (.t 1)⟩),
    (2, ⟨(some 45), none, .mv (.t 7)⟩),
    (3, ⟨(some 46), none, .call 31 [(.t 43), (.t 44), (.t 45)] none false⟩),
    (4, ⟨(some 42), none, .mv (.t 46)⟩),
    (5, ⟨(some 47), none, .ext (.t 42) 0⟩),
    (6, ⟨(some 48), none, .ext (.t 42) 1⟩),
    (7, ⟨(some 8), none, .mv (.t 47)⟩),
    (8, ⟨(some 9), none, .mv (.t 48)⟩)] (some [1, 5, 6, 7, 8, 9, 38, 39])) (.seq (.ops 9 [
    (0, ⟨(some 50), none, .load (some 8) (.t 6)⟩),
    (1, ⟨(some 51), none, .mv (.t 1)⟩),
    (2, ⟨(some 52), none, .mv (.t 7)⟩),
    (3, ⟨(some 53), none, .call 31 [(.t 50), (.t 51), (.t 52)] none false⟩),
    (4, ⟨(some 49), none, .mv (.t 53)⟩),
    (5, ⟨(some 54), none, .ext (.t 49) 0⟩),
    (6, ⟨(some 55), none, .ext (.t 49) 1⟩),
    (7, ⟨(some 10), none, .mv (.t 54)⟩),
    (8, ⟨(some 11), none, .mv (.t 55)⟩)] (some [1, 5, 6, 7, 8, 9, 10, 11, 38, 39])) (.seq (.ops 24 [
    (0, ⟨(some 56), none, .mv (.t 9)⟩),
    (1, ⟨(some 57), none, .arith .neq (.t 56) (.k (.d (.val (.int .i64 0))))⟩),
    (2, ⟨(some 58), none, .mv (.t 57)⟩),
    (3, ⟨(some 59), (some (58, false)), .mv (.t 11)⟩),
    (4, ⟨(some 60), (some (58, false)), .arith .neq (.t 59) (.k (.d (.val (.int .i64 0))))⟩),
    (5, ⟨(some 61), none, .pick (.t 58) (.k (.d (.val (.bool true)))) (.t 60)⟩),
    (6, ⟨(some 62), none, .mv (.t 61)⟩),
    (7, ⟨(some 63), (some (62, false)), .mv (.t 8)⟩),
    (8, ⟨(some 64), (some (62, false)), .mv (.t 10)⟩),
    (9, ⟨(some 65), (some (62, false)), .call 35 [(.t 63), (.t 64)] none false⟩),
    (10, ⟨(some 66), (some (62, false)), .un .not (.t 65)⟩),
    (11, ⟨(some 67), none, .pick (.t 62) (.k (.d (.val (.bool true)))) (.t 66)⟩),
    (12, ⟨(some 68), none, .mv (.t 67)⟩),
    (13, ⟨(some 69), (some (68, false)), .mv (.t 8)⟩),
    (14, ⟨(some 70), (some (68, false)), .lenS (.t 69)⟩),
    (15, ⟨(some 71), (some (68, false)), .arith .eql (.t 70) (.k (.d (.val (.int .i64 0))))⟩),
    (16, ⟨(some 72), none, .pick (.t 68) (.k (.d (.val (.bool true)))) (.t 71)⟩),
    (17, ⟨(some 73), none, .mv (.t 72)⟩),
    (18, ⟨(some 74), (some (73, false)), .mv (.t 8)⟩),
    (19, ⟨(some 75), (some (73, false)), .idxS 1 (.t 74) (.k (.d (.val (.int .i64 0))))⟩),
    (20, ⟨(some 76), (some (73, false)), .load none (.t 75)⟩),
    (21, ⟨(some 77), (some (73, false)), .mv (.t 7)⟩),
    (22, ⟨(some 78), (some (73, false)), .arith .neq (.t 76) (.t 77)⟩),
    (23, ⟨(some 79), none, .pick (.t 73) (.k (.d (.val (.bool true)))) (.t 78)⟩)] (some [1, 5, 6, 38, 39, 79])) (.cond (.t 79) (.seq (.ops 1 [
    (0, ⟨(some 4), none, .mv (.k (.d (.val (.bool false))))⟩)] (some [4])) .ret) .skip)))))) (.ops 2 [
    (0, ⟨(some 80), none, .arith .add (.t 39) (.k (.d (.val (.int .i64 1))))⟩),
    (1, ⟨(some 39), none, .mv (.t 80)⟩)] (some [1, 5, 6, 38, 39])))))))) (.seq (.ops 1 [
    (0, ⟨(some 4), none, .mv (.k (.d (.val (.bool true))))⟩)] (some [4])) .ret))))))
def md9 : FuncId → Option Nat × Bool
  | _ => (none, false)
def od9 : Nat → List (List Nat) × List Nat × Option (List Nat)
  | 0 => ([], [], some [1, 2])
  | 1 => ([], [], some [1, 2, 5])
  | 2 => ([], [], some [1, 5, 6])
  | 3 => ([], [], some [1, 5, 6, 34])
  | 4 => ([], [], some [4])
  | 5 => ([], [], some [1, 5, 6, 38, 39])
  | 6 => ([], [], some [1, 5, 6, 38, 39, 40])
  | 7 => ([], [], some [1, 5, 6, 7, 38, 39])
  | 8 => ([], [], some [1, 5, 6, 7, 8, 9, 38, 39])
  | 9 => ([], [], some [1, 5, 6, 7, 8, 9, 10, 11, 38, 39])
  | 10 => ([], [], some [1, 5, 6, 38, 39, 79])
  | 11 => ([], [], some [4])
  | 12 => ([], [], some [1, 5, 6, 38, 39])
  | 13 => ([], [], some [4])
  | _ => ([], [], none)
theorem b9 {ags : List AV} {row : Option (List DV)} {r : AV} {row' nw : Option (List DV)} (hal : ags.length ≤ 81) (hrow : row'.isSome = true → row.isSome = true) (h : xwp Try.prog x9 (retK [.tmp 4] row.isSome r row' nw) (St.init ags row)) : Good Try.prog 9 ags row r row' nw :=
  good_of_body' (md := md9) (od := od9) Try.f9 (by kernel_rfl) (by kernel_rfl) (by kernel_rfl) (by kernel_rfl) (by kernel_rfl) hal hrow h

theorem openL_sub (k : Int) : ∀ (l : List T) (m : Int), 0 ≤ openL k l m → m ≤ openL k l m ∧ ∀ i (h : i < l.length), 0 ≤ openT l[i] ∧ openT l[i] ≤ openL k l m
  | [], m, h => ⟨by simp [openL], fun i h => by simp at h⟩
  | t :: l, m, h => by
    simp only [openL] at h ⊢
    split at h
    · omega
    · rename_i hn
      rw [if_neg hn]
      obtain ⟨h1, h2⟩ := openL_sub k l _ h
      generalize openL k l (max m (if roundG k t.kind = true then openT t + 1 else openT t)) = q at h1 h2 ⊢
      have h3 : openT t ≤ (if roundG k t.kind = true then openT t + 1 else openT t) := by split <;> omega
      refine ⟨by omega, fun i hi => ?_⟩
      cases i with
      | zero =>
        simp only [List.getElem_cons_zero]
        omega
      | succ i => simpa using h2 i (by simpa using hi)
theorem right_sub {k a b c d mn mx : Int} {subs : List T} (h : rightT (.node k a b c d mn mx subs) = true) (i : Nat) (hi : i < subs.length) : rightT subs[i] = true := by
  simp only [rightT, openT] at h
  split at h
  · simp only [Bool.and_eq_true, decide_eq_true_eq] at h
    have := (openL_sub k subs 0 h.1).2 i hi
    simp only [rightT, Bool.and_eq_true, decide_eq_true_eq]; omega
  · simp at h
set_option maxRecDepth 100000
set_option maxHeartbeats 4000000
attribute [local irreducible] W E R KP thenK blockK retK Good xwp aRun
end Go.Sv
namespace Go.Sv
open Go Go.Proofs
def x23 : XC := (.seq (.ops 2 [
    (0, ⟨(some 3), none, .box (.t 0)⟩),
    (1, ⟨(some 6), none, .mv (.k (.d (.val (.bool false))))⟩)] (some [1, 2, 3])) (.seq (.ops 7 [
    (0, ⟨(some 12), none, .mv (.t 1)⟩),
    (1, ⟨(some 13), none, .mv (.t 2)⟩),
    (2, ⟨(some 14), none, .load (some 8) (.t 3)⟩),
    (3, ⟨(some 15), none, .mkrow [(.int .i64 0), (.int .u64 0), (.int .u64 0), (.int .u64 0), (.int .u64 0), (.int .i64 0), (.int .i64 0), (.slice none 0 0)] 1 8 [(0, 8, (.t 14))]⟩),
    (4, ⟨(some 16), none, .build [(.int .i64 0), (.int .u64 0), (.int .u64 0), (.int .u64 0), (.int .u64 0), (.int .i64 0), (.int .i64 0), (.slice none 0 0)] [(0, 1, (.k (.d (.val (.int .i64 5))))), (5, 1, (.t 12)), (6, 1, (.t 13)), (7, 1, (.t 15))]⟩),
    (5, ⟨(some 7), none, .alloc [(.int .i64 0), (.int .u64 0), (.int .u64 0), (.int .u64 0), (.int .u64 0), (.int .i64 0), (.int .i64 0), (.slice none 0 0)]⟩),
    (6, ⟨none, none, .store 8 (.t 7) (.t 16)⟩)] (some [1, 2, 3, 7])) (.seq (.seq (.ops 12 [
    (0, ⟨(some 17), none, .call 64 [] none false⟩),
    (1, ⟨(some 18), none, .un .not (.t 17)⟩),
    (2, ⟨(some 19), none, .mv (.t 18)⟩),
    (3, ⟨(some 20), (some (19, false)), .load (some 8) (.t 7)⟩),
    (4, ⟨(some 21), (some (19, false)), .call 45 [(.t 20)] none false⟩),
    (5, ⟨(some 22), (some (19, false)), .un .not (.t 21)⟩),
    (6, ⟨(some 23), none, .pick (.t 19) (.k (.d (.val (.bool true)))) (.t 22)⟩),
    (7, ⟨(some 24), none, .mv (.t 23)⟩),
    (8, ⟨(some 25), (some (24, false)), .load (some 8) (.t 7)⟩),
    (9, ⟨(some 26), (some (24, false)), .call 32 [(.t 25)] none false⟩),
    (10, ⟨(some 27), (some (24, false)), .un .not (.t 26)⟩),
    (11, ⟨(some 28), none, .pick (.t 24) (.k (.d (.val (.bool true)))) (.t 27)⟩)] (some [1, 2, 3, 7, 28])) (.cond (.t 28) (.seq (.ops 2 [
    (0, ⟨(some 29), none, .call 64 [] none false⟩),
    (1, ⟨(some 6), none, .mv (.t 29)⟩)] (some [6])) .ret) .skip)) (.seq (.ops 7 [
    (0, ⟨(some 31), none, .load (some 8) (.t 3)⟩),
    (1, ⟨(some 32), none, .call 66 [(.t 31)] none false⟩),
    (2, ⟨(some 30), none, .mv (.t 32)⟩),
    (3, ⟨(some 33), none, .ext (.t 30) 0⟩),
    (4, ⟨(some 34), none, .ext (.t 30) 1⟩),
    (5, ⟨(some 8), none, .mv (.t 33)⟩),
    (6, ⟨(some 9), none, .mv (.t 34)⟩)] (some [1, 2, 3, 7, 8, 9])) (.seq (.ops 7 [
    (0, ⟨(some 36), none, .load (some 8) (.t 7)⟩),
    (1, ⟨(some 37), none, .call 66 [(.t 36)] none false⟩),
    (2, ⟨(some 35), none, .mv (.t 37)⟩),
    (3, ⟨(some 38), none, .ext (.t 35) 0⟩),
    (4, ⟨(some 39), none, .ext (.t 35) 1⟩),
    (5, ⟨(some 10), none, .mv (.t 38)⟩),
    (6, ⟨(some 11), none, .mv (.t 39)⟩)] (some [1, 2, 3, 7, 8, 9, 10, 11])) (.seq (.seq (.ops 6 [
    (0, ⟨(some 40), none, .load (some 8) (.t 3)⟩),
    (1, ⟨(some 41), none, .call 71 [(.t 40)] none false⟩),
    (2, ⟨(some 42), none, .mv (.t 41)⟩),
    (3, ⟨(some 43), (some (42, false)), .mv (.t 2)⟩),
    (4, ⟨(some 44), (some (42, false)), .arith .eql (.t 43) (.k (.d (.val (.int .i64 0))))⟩),
    (5, ⟨(some 45), none, .pick (.t 42) (.k (.d (.val (.bool true)))) (.t 44)⟩)] (some [1, 2, 3, 7, 8, 9, 10, 11, 45])) (.cond (.t 45) (.seq (.ops 22 [
    (0, ⟨(some 46), none, .load (some 8) (.t 7)⟩),
    (1, ⟨(some 47), none, .call 71 [(.t 46)] none false⟩),
    (2, ⟨(some 48), none, .load (some 8) (.t 3)⟩),
    (3, ⟨(some 49), none, .call 71 [(.t 48)] none false⟩),
    (4, ⟨(some 50), none, .mv (.t 49)⟩),
    (5, ⟨(some 51), (some (50, true)), .mv (.t 1)⟩),
    (6, ⟨(some 52), (some (50, true)), .arith .gtr (.t 51) (.k (.d (.val (.int .i64 0))))⟩),
    (7, ⟨(some 53), none, .pick (.t 50) (.t 52) (.k (.d (.val (.bool false))))⟩),
    (8, ⟨(some 54), none, .beq false (.t 47) (.t 53)⟩),
    (9, ⟨(some 55), none, .mv (.t 54)⟩),
    (10, ⟨(some 56), (some (55, true)), .load (some 8) (.t 7)⟩),
    (11, ⟨(some 57), (some (55, true)), .call 71 [(.t 56)] none false⟩),
    (12, ⟨(some 58), (some (55, true)), .mv (.t 57)⟩),
    (13, ⟨(some 59), (some (58, false)), .mv (.t 10)⟩),
    (14, ⟨(some 60), (some (58, false)), .arith .eql (.t 59) (.k (.d (.val (.int .i64 0))))⟩),
    (15, ⟨(some 61), (some (58, false)), .mv (.t 60)⟩),
    (16, ⟨(some 62), (some (61, true)), .mv (.t 11)⟩),
    (17, ⟨(some 63), (some (61, true)), .arith .eql (.t 62) (.k (.d (.val (.int .i64 0))))⟩),
    (18, ⟨(some 64), (some (58, false)), .pick (.t 61) (.t 63) (.k (.d (.val (.bool false))))⟩),
    (19, ⟨(some 65), (some (55, true)), .pick (.t 58) (.k (.d (.val (.bool true)))) (.t 64)⟩),
    (20, ⟨(some 66), none, .pick (.t 55) (.t 65) (.k (.d (.val (.bool false))))⟩),
    (21, ⟨(some 6), none, .mv (.t 66)⟩)] (some [6])) .ret) .skip)) (.seq (.seq (.ops 16 [
    (0, ⟨(some 67), none, .mv (.t 10)⟩),
    (1, ⟨(some 68), none, .mv (.t 8)⟩),
    (2, ⟨(some 69), none, .mv (.t 1)⟩),
    (3, ⟨(some 70), none, .arith .mul (.t 68) (.t 69)⟩),
    (4, ⟨(some 71), none, .arith .neq (.t 67) (.t 70)⟩),
    (5, ⟨(some 72), none, .mv (.t 71)⟩),
    (6, ⟨(some 73), (some (72, false)), .load (some 8) (.t 7)⟩),
    (7, ⟨(some 74), (some (72, false)), .call 69 [(.t 73)] none false⟩),
    (8, ⟨(some 75), (some (72, false)), .mv (.t 1)⟩),
    (9, ⟨(some 76), (some (72, false)), .arith .eql (.t 75) (.k (.d (.val (.int .i64 0))))⟩),
    (10, ⟨(some 77), (some (72, false)), .mv (.t 76)⟩),
    (11, ⟨(some 78), (some (77, false)), .load (some 8) (.t 3)⟩),
    (12, ⟨(some 79), (some (77, false)), .call 69 [(.t 78)] none false⟩),
    (13, ⟨(some 80), (some (72, false)), .pick (.t 77) (.k (.d (.val (.bool true)))) (.t 79)⟩),
    (14, ⟨(some 81), (some (72, false)), .beq true (.t 74) (.t 80)⟩),
    (15, ⟨(some 82), none, .pick (.t 72) (.k (.d (.val (.bool true)))) (.t 81)⟩)] (some [2, 9, 11, 82])) (.cond (.t 82) (.seq (.ops 1 [
    (0, ⟨(some 6), none, .mv (.k (.d (.val (.bool false))))⟩)] (some [6])) .ret) .skip)) (.seq (.block 0 (.seq (.ops 3 [
    (0, ⟨(some 84), none, .mv (.t 9)⟩),
    (1, ⟨(some 85), none, .arith .eql (.t 84) (.k (.d (.val (.int .i64 0))))⟩),
    (2, ⟨(some 83), none, .mv (.t 85)⟩)] (some [2, 9, 11, 83])) (.cond (.t 83) (.seq (.ops 3 [
    (0, ⟨(some 86), none, .mv (.t 11)⟩),
    (1, ⟨(some 87), none, .arith .eql (.t 86) (.k (.d (.val (.int .i64 0))))⟩),
    (2, ⟨(some 6), none, .mv (.t 87)⟩)] (some [6])) .ret) (.seq (.ops 7 [
    (0, ⟨(some 89), none, .mv (.t 9)⟩),
    (1, ⟨(some 90), none, .arith .lss (.t 89) (.k (.d (.val (.int .i64 0))))⟩),
    (2, ⟨(some 91), none, .mv (.t 90)⟩),
    (3, ⟨(some 92), (some (91, false)), .mv (.t 2)⟩),
    (4, ⟨(some 93), (some (91, false)), .arith .lss (.t 92) (.k (.d (.val (.int .i64 0))))⟩),
    (5, ⟨(some 94), none, .pick (.t 91) (.k (.d (.val (.bool true)))) (.t 93)⟩),
    (6, ⟨(some 88), none, .mv (.t 94)⟩)] (some [2, 9, 11, 88])) (.cond (.t 88) (.seq (.ops 3 [
    (0, ⟨(some 95), none, .mv (.t 11)⟩),
    (1, ⟨(some 96), none, .arith .eql (.t 95) (.k (.d (.val (.int .i64 (-1)))))⟩),
    (2, ⟨(some 6), none, .mv (.t 96)⟩)] (some [6])) .ret) .skip))))) (.seq (.ops 6 [
    (0, ⟨(some 97), none, .mv (.t 11)⟩),
    (1, ⟨(some 98), none, .mv (.t 9)⟩),
    (2, ⟨(some 99), none, .mv (.t 2)⟩),
    (3, ⟨(some 100), none, .arith .mul (.t 98) (.t 99)⟩),
    (4, ⟨(some 101), none, .arith .eql (.t 97) (.t 100)⟩),
    (5, ⟨(some 6), none, .mv (.t 101)⟩)] (some [6])) .ret)))))))))
def md23 : FuncId → Option Nat × Bool
  | _ => (none, false)
def od23 : Nat → List (List Nat) × List Nat × Option (List Nat)
  | 0 => ([], [], some [1, 2, 3])
  | 1 => ([], [], some [1, 2, 3, 7])
  | 2 => ([], [], some [1, 2, 3, 7, 28])
  | 3 => ([], [], some [6])
  | 4 => ([], [], some [1, 2, 3, 7, 8, 9])
  | 5 => ([], [], some [1, 2, 3, 7, 8, 9, 10, 11])
  | 6 => ([], [], some [1, 2, 3, 7, 8, 9, 10, 11, 45])
  | 7 => ([[], [0], [], [0, 1, 2], [0, 1, 2, 3], [0, 1, 2, 3, 4], [0, 1, 2, 3, 4, 5], [0, 1, 2, 3, 4, 5, 6], [0, 1, 2, 3, 4, 5, 6, 7], [0, 1, 2, 3, 4, 5, 6, 7, 8], [0, 1, 2, 3, 4, 5, 6, 7, 8, 9], [0, 1, 2, 3, 4, 5, 6, 7, 8, 9, 10], [0, 1, 2, 3, 4, 5, 6, 7, 8, 9, 10, 11], [0, 1, 2, 3, 4, 5, 6, 7, 8, 9, 10, 11, 12], [0, 1, 2, 3, 4, 5, 6, 7, 8, 9, 10, 11, 12, 13], [0, 1, 2, 3, 4, 5, 6, 7, 8, 9, 10, 11, 12, 13, 14], [0, 1, 2, 3, 4, 5, 6, 7, 8, 9, 10, 11, 12, 13, 14, 15], [0, 1, 2, 3, 4, 5, 6, 7, 8, 9, 10, 11, 12, 13, 14, 15, 16], [0, 1, 2, 3, 4, 5, 6, 7, 8, 9, 10, 11, 12, 13, 14, 15, 16, 17], [0, 1, 2, 3, 4, 5, 6, 7, 8, 9, 10, 11, 12, 13, 14, 15, 16, 17, 18], [0, 1, 2, 3, 4, 5, 6, 7, 8, 9, 10, 11, 12, 13, 14, 15, 16, 17, 18, 19], [0, 1, 2, 3, 4, 5, 6, 7, 8, 9, 10, 11, 12, 13, 14, 15, 16, 17, 18, 19, 20]], [0, 1, 2, 3, 4, 5, 6, 7, 8, 9, 10, 11, 12, 13, 14, 15, 16, 17, 18, 19, 20, 21], some [6])
  | 8 => ([], [], some [2, 9, 11, 82])
  | 9 => ([], [], some [6])
  | 10 => ([], [], some [2, 9, 11, 83])
  | 11 => ([], [], some [6])
  | 12 => ([], [], some [2, 9, 11, 88])
  | 13 => ([], [], some [6])
  | 14 => ([], [], some [6])
  | _ => ([], [], none)
theorem b23 {ags : List AV} {row : Option (List DV)} {r : AV} {row' nw : Option (List DV)} (hal : ags.length ≤ 102) (hrow : row'.isSome = true → row.isSome = true) (h : xwp Try.prog x23 (retK [.tmp 6] row.isSome r row' nw) (St.init ags row)) : Good Try.prog 23 ags row r row' nw :=
  good_of_body' (md := md23) (od := od23) Try.f23 (by kernel_rfl) (by kernel_rfl) (by kernel_rfl) (by kernel_rfl) (by kernel_rfl) hal hrow h

def repTT (lo hi : Int) (t : T) : T := .node 5 0 0 0 0 lo hi [t]
set_option maxRecDepth 100000
set_option maxHeartbeats 4000000
attribute [local irreducible] W E R KP thenK blockK retK Good xwp aRun
theorem law23 (t : T) (lo hi : Int) (ht : inT t) (hlo : inW lo) (hhi : inW hi) : Good Try.prog 23 [nodeA t, .i lo, .i hi] none (.b true) none none := by
  have haw := awake64_good
  have hin : inT (repTT lo hi t) := by
    have o : okW 0 := by unfold okW; omega
    have k5 : inW 5 := by unfold inW; omega
    simp only [repTT, inT, inL, o, k5, ht, hlo, hhi, and_self]
  have h45 := few_good (repTT lo hi t)
  by_cases hf : sizeT (repTT lo hi t) 601 ≤ 200
  case neg =>
    rw [show decide (sizeT (repTT lo hi t) 601 ≤ 200) = false by simp [hf]] at h45
    clear ht hf hin hlo hhi
    obtain ⟨k, a, b, c, d, mn, mx, subs⟩ := t
    have e0 : nodeA (T.node k a b c d mn mx subs) = .agg [.i k, .d (.val (.int .u64 a)), .d (.val (.int .u64 b)), .d (.val (.int .u64 c)), .d (.val (.int .u64 d)), .i mn, .i mx, .d (.sl (encL subs) subs.length)] := rfl
    rw [e0]
    refine b23 (by simp) (by simp) (w_init ?_)
    unfold x23
    repeat' (first
    | (apply r_mvV; rfl)
    | (apply r_mvP; rfl)
    | (apply r_mvPL; rfl)
    | (apply r_mvS; rfl)
    | (apply r_mvSL; rfl)
    | (apply r_mvA; rfl)
    | (apply r_mvT; rfl)
    | (apply r_mvF; rfl)
    | (apply r_mvD; rfl)
    | (apply r_ldL (v := .agg [.i k, .d (.val (.int .u64 a)), .d (.val (.int .u64 b)), .d (.val (.int .u64 c)), .d (.val (.int .u64 d)), .i mn, .i mx, .d (.sl (encL subs) subs.length)]); rfl; rfl; rfl)
    | (apply r_ldL (v := .agg [.i 5, .d (.val (.int .u64 0)), .d (.val (.int .u64 0)), .d (.val (.int .u64 0)), .d (.val (.int .u64 0)), .i lo, .i hi, .slL 6 0 1 8]); rfl; rfl; rfl)
    | (apply r_n (v := .slL 6 0 1 8) (r := [.i k, .d (.val (.int .u64 a)), .d (.val (.int .u64 b)), .d (.val (.int .u64 c)), .d (.val (.int .u64 d)), .i mn, .i mx, .d (.sl (encL subs) subs.length)]); rfl)
    | (apply r_p (v := .agg [.i 5, .d (.val (.int .u64 0)), .d (.val (.int .u64 0)), .d (.val (.int .u64 0)), .d (.val (.int .u64 0)), .i lo, .i hi, .slL 6 0 1 8]); rfl)
    | (apply r_callA (f := 64) (ags := []); rfl; rfl; exact haw)
    | (apply r_call (f := 45) (bs := [nodeA (repTT lo hi (T.node k a b c d mn mx subs))]) (us := [6]); rfl; rfl; exact h45; rfl)
    | (apply r_ldL; rfl; rfl; rfl)
    | (apply r_eql; rfl; rfl; (first | (apply decide_eq_true; omega) | (apply decide_eq_false; omega) | rfl))
    | (apply r_neq; rfl; rfl; (first | (apply decide_eq_true; omega) | (apply decide_eq_false; omega) | rfl))
    | (apply r_lss; rfl; rfl; (first | (apply decide_eq_true; omega) | (apply decide_eq_false; omega) | rfl))
    | (apply r_gtr; rfl; rfl; (first | (apply decide_eq_true; omega) | (apply decide_eq_false; omega) | rfl))
    | (apply r_not; rfl; rfl)
    | (apply r_beq; rfl; rfl; rfl)
    | (apply r_bne; rfl; rfl; rfl)
    | (apply r_pickT; rfl)
    | (apply r_pickF; rfl)
    | (apply r_ext; rfl; rfl)
    | (apply r_gT; rfl)
    | (apply r_gF'; rfl; rfl)
    | (apply r_gN'; rfl)
    | ((apply r_gS (o := default); rfl) <;> (intro h; try simp only [decide_eq_true_eq, decide_eq_false_iff_not, Bool.not_eq_true, Bool.not_eq_false] at h))
    | (apply r_alloc; ((conv => lhs; simp only [Nat.reduceAdd]) <;> rfl); rfl)
    | (apply r_box; ((conv => lhs; simp only [Nat.reduceAdd]) <;> rfl); rfl; rfl; rfl)
    | (apply r_stL; rfl; rfl; rfl; rfl; (first | rfl | (simp only [z_nil, z_add] <;> rfl)); rfl; rfl)
    | (apply r_p; rfl)
    | (apply r_nilK)
    | (apply r_nil)
    | (apply k_V; rfl)
    | (apply k_P; rfl)
    | (apply k_PL; rfl)
    | (apply k_S; rfl)
    | (apply k_SL; rfl)
    | (apply k_A; rfl)
    | (apply k_T; rfl)
    | (apply k_F; rfl)
    | (apply k_D; rfl; rotate_left; rfl)
    | (apply k_nil)
    | (apply e_ret (vs := [.d (.val _)]); rfl)
    | (apply e_ret; rfl)
    | (apply e_ret' (vs := [.d (.val _)]); rfl)
    | (apply e_ret'; rfl)
    | (apply w_seq)
    | (apply w_ops; ((conv => lhs; simp only [Nat.reduceAdd]) <;> rfl))
    | (apply w_condT; rfl)
    | (apply w_condF; rfl)
    | ((apply w_condS; rfl) <;> (intro h; try simp only [decide_eq_true_eq, decide_eq_false_iff_not, Bool.not_eq_true, Bool.not_eq_false] at h))
    | (apply e_thenN)
    | (apply w_block)
    | (apply e_thenR)
    | (apply e_thenX)
    | (apply e_blkN)
    | (apply e_blkR)
    | (apply e_blkE)
    | (apply w_exit)
    | (apply w_ret)
    | (apply w_skip)
    | (apply e_blkE'; rfl))
    exact retB rfl
  have hc := few_cnt hf
  have h32 := right8_good (repTT lo hi t) (by omega)
  rw [show decide (sizeT (repTT lo hi t) 601 ≤ 200) = true by simp [hf]] at h45
  by_cases hr : rightT (repTT lo hi t) = true
  case neg =>
    have hr : rightT (repTT lo hi t) = false := by simpa using hr
    rw [hr] at h32
    clear ht hf hin hlo hhi hc hr
    obtain ⟨k, a, b, c, d, mn, mx, subs⟩ := t
    have e0 : nodeA (T.node k a b c d mn mx subs) = .agg [.i k, .d (.val (.int .u64 a)), .d (.val (.int .u64 b)), .d (.val (.int .u64 c)), .d (.val (.int .u64 d)), .i mn, .i mx, .d (.sl (encL subs) subs.length)] := rfl
    rw [e0]
    refine b23 (by simp) (by simp) (w_init ?_)
    unfold x23
    repeat' (first
    | (apply r_mvV; rfl)
    | (apply r_mvP; rfl)
    | (apply r_mvPL; rfl)
    | (apply r_mvS; rfl)
    | (apply r_mvSL; rfl)
    | (apply r_mvA; rfl)
    | (apply r_mvT; rfl)
    | (apply r_mvF; rfl)
    | (apply r_mvD; rfl)
    | (apply r_ldL (v := .agg [.i k, .d (.val (.int .u64 a)), .d (.val (.int .u64 b)), .d (.val (.int .u64 c)), .d (.val (.int .u64 d)), .i mn, .i mx, .d (.sl (encL subs) subs.length)]); rfl; rfl; rfl)
    | (apply r_ldL (v := .agg [.i 5, .d (.val (.int .u64 0)), .d (.val (.int .u64 0)), .d (.val (.int .u64 0)), .d (.val (.int .u64 0)), .i lo, .i hi, .slL 6 0 1 8]); rfl; rfl; rfl)
    | (apply r_n (v := .slL 6 0 1 8) (r := [.i k, .d (.val (.int .u64 a)), .d (.val (.int .u64 b)), .d (.val (.int .u64 c)), .d (.val (.int .u64 d)), .i mn, .i mx, .d (.sl (encL subs) subs.length)]); rfl)
    | (apply r_p (v := .agg [.i 5, .d (.val (.int .u64 0)), .d (.val (.int .u64 0)), .d (.val (.int .u64 0)), .d (.val (.int .u64 0)), .i lo, .i hi, .slL 6 0 1 8]); rfl)
    | (apply r_callA (f := 64) (ags := []); rfl; rfl; exact haw)
    | (apply r_call (f := 45) (bs := [nodeA (repTT lo hi (T.node k a b c d mn mx subs))]) (us := [6]); rfl; rfl; exact h45; rfl)
    | (apply r_call (f := 32) (bs := [nodeA (repTT lo hi (T.node k a b c d mn mx subs))]) (us := [6]); rfl; rfl; exact h32; rfl)
    | (apply r_ldL; rfl; rfl; rfl)
    | (apply r_eql; rfl; rfl; (first | (apply decide_eq_true; omega) | (apply decide_eq_false; omega) | rfl))
    | (apply r_neq; rfl; rfl; (first | (apply decide_eq_true; omega) | (apply decide_eq_false; omega) | rfl))
    | (apply r_lss; rfl; rfl; (first | (apply decide_eq_true; omega) | (apply decide_eq_false; omega) | rfl))
    | (apply r_gtr; rfl; rfl; (first | (apply decide_eq_true; omega) | (apply decide_eq_false; omega) | rfl))
    | (apply r_not; rfl; rfl)
    | (apply r_beq; rfl; rfl; rfl)
    | (apply r_bne; rfl; rfl; rfl)
    | (apply r_pickT; rfl)
    | (apply r_pickF; rfl)
    | (apply r_ext; rfl; rfl)
    | (apply r_gT; rfl)
    | (apply r_gF'; rfl; rfl)
    | (apply r_gN'; rfl)
    | ((apply r_gS (o := default); rfl) <;> (intro h; try simp only [decide_eq_true_eq, decide_eq_false_iff_not, Bool.not_eq_true, Bool.not_eq_false] at h))
    | (apply r_alloc; ((conv => lhs; simp only [Nat.reduceAdd]) <;> rfl); rfl)
    | (apply r_box; ((conv => lhs; simp only [Nat.reduceAdd]) <;> rfl); rfl; rfl; rfl)
    | (apply r_stL; rfl; rfl; rfl; rfl; (first | rfl | (simp only [z_nil, z_add] <;> rfl)); rfl; rfl)
    | (apply r_p; rfl)
    | (apply r_nilK)
    | (apply r_nil)
    | (apply k_V; rfl)
    | (apply k_P; rfl)
    | (apply k_PL; rfl)
    | (apply k_S; rfl)
    | (apply k_SL; rfl)
    | (apply k_A; rfl)
    | (apply k_T; rfl)
    | (apply k_F; rfl)
    | (apply k_D; rfl; rotate_left; rfl)
    | (apply k_nil)
    | (apply e_ret (vs := [.d (.val _)]); rfl)
    | (apply e_ret; rfl)
    | (apply e_ret' (vs := [.d (.val _)]); rfl)
    | (apply e_ret'; rfl)
    | (apply w_seq)
    | (apply w_ops; ((conv => lhs; simp only [Nat.reduceAdd]) <;> rfl))
    | (apply w_condT; rfl)
    | (apply w_condF; rfl)
    | ((apply w_condS; rfl) <;> (intro h; try simp only [decide_eq_true_eq, decide_eq_false_iff_not, Bool.not_eq_true, Bool.not_eq_false] at h))
    | (apply e_thenN)
    | (apply w_block)
    | (apply e_thenR)
    | (apply e_thenX)
    | (apply e_blkN)
    | (apply e_blkR)
    | (apply e_blkE)
    | (apply w_exit)
    | (apply w_ret)
    | (apply w_skip)
    | (apply e_blkE'; rfl))
    exact retB rfl
  rw [hr] at h32
  have hrt : rightT t = true := right_sub (show rightT (.node 5 0 0 0 0 lo hi [t]) = true from hr) 0 (by simp)
  have hfi : fitsT t 12 = true := by rw [← right_fits]; exact hrt
  have hfr : fitsT (repTT lo hi t) 12 = true := by rw [← right_fits]; exact hr
  have hok : okT t := ok_of_right ht hrt
  have hokr : okT (repTT lo hi t) := ok_of_right hin hr
  have hct : t.cnt ≤ 200 := by
    have : (repTT lo hi t).cnt = 1 + t.cnt := by simp [repTT, T.cnt, cntL]
    omega
  have h66 := len66_good t hct (fun _ => hok)
  have h71 := none71_good t hct (fun _ => hok)
  have h69 := null69_good t hct (fun _ => hok)
  have h66r := len66_good (repTT lo hi t) hc (fun _ => hokr)
  have h71r := none71_good (repTT lo hi t) hc (fun _ => hokr)
  have h69r := null69_good (repTT lo hi t) hc (fun _ => hokr)
  have hR := okT_R hokr rfl
  have hkn : knT (repTT lo hi t) = faTimes (knT t) lo hi := by
    unfold repTT
    rw [knT, if_neg (by omega), if_neg (by omega), if_neg (by omega), if_pos rfl, knR]
  rw [show nulF t = (!(knT t).no && decide ((knT t).lo = 0)) by simp [nulF, ofK, hfi]] at h69
  rw [show nulF (repTT lo hi t) = (!(faTimes (knT t) lo hi).no && decide ((faTimes (knT t) lo hi).lo = 0)) by simp [nulF, ofK, hfr, hkn]] at h69r
  rw [show ofK t = knT t by simp [ofK, hfi]] at h66 h71
  rw [show ofK (repTT lo hi t) = faTimes (knT t) lo hi by simp [ofK, hfr, hkn]] at h66r h71r
  have hk1 := kn_ok t hok
  have hk2 := kn_ok _ hokr
  rw [hkn] at hk2
  have hB := bT_few hc hfr
  have hB1 := bT_few hct hfi
  generalize knT t = f at *
  generalize bT t = B1 at hk1 hB1
  generalize bT (repTT lo hi t) = B2 at hk2 hB
  clear hkn ht hf hin hlo hhi hc hr hrt hfi hfr hok hokr hct
  obtain ⟨fn, fl, fh, fa, fb, fc, fd⟩ := f
  obtain ⟨_, q1, q2, q3, q4⟩ := hk1
  obtain ⟨_, p1, p2, p3, p4⟩ := hk2
  dsimp only at q1 q2 q3 q4 h66 h71 h69
  cases fn with
  | true =>
    by_cases hz : hi = 0 ∨ lo = 0
    · have e : faTimes ⟨true, fl, fh, fa, fb, fc, fd⟩ lo hi = faE := by
        unfold faTimes; rw [if_pos (by rcases hz with h | h <;> simp [h])]
      have hl0 : lo = 0 := by omega
      rw [e] at h66r h71r h69r
      clear e p1 p2 p3 p4 q1 q2
      obtain ⟨k, a, b, c, d, mn, mx, subs⟩ := t
      have e0 : nodeA (T.node k a b c d mn mx subs) = .agg [.i k, .d (.val (.int .u64 a)), .d (.val (.int .u64 b)), .d (.val (.int .u64 c)), .d (.val (.int .u64 d)), .i mn, .i mx, .d (.sl (encL subs) subs.length)] := rfl
      rw [e0] at h66 h71 h69 ⊢
      refine b23 (by simp) (by simp) (w_init ?_)
      unfold x23
      repeat' (first
    | (apply r_mvV; rfl)
    | (apply r_mvP; rfl)
    | (apply r_mvPL; rfl)
    | (apply r_mvS; rfl)
    | (apply r_mvSL; rfl)
    | (apply r_mvA; rfl)
    | (apply r_mvT; rfl)
    | (apply r_mvF; rfl)
    | (apply r_mvD; rfl)
    | (apply r_ldL (v := .agg [.i k, .d (.val (.int .u64 a)), .d (.val (.int .u64 b)), .d (.val (.int .u64 c)), .d (.val (.int .u64 d)), .i mn, .i mx, .d (.sl (encL subs) subs.length)]); rfl; rfl; rfl)
    | (apply r_ldL (v := .agg [.i 5, .d (.val (.int .u64 0)), .d (.val (.int .u64 0)), .d (.val (.int .u64 0)), .d (.val (.int .u64 0)), .i lo, .i hi, .slL 6 0 1 8]); rfl; rfl; rfl)
    | (apply r_n (v := .slL 6 0 1 8) (r := [.i k, .d (.val (.int .u64 a)), .d (.val (.int .u64 b)), .d (.val (.int .u64 c)), .d (.val (.int .u64 d)), .i mn, .i mx, .d (.sl (encL subs) subs.length)]); rfl)
    | (apply r_p (v := .agg [.i 5, .d (.val (.int .u64 0)), .d (.val (.int .u64 0)), .d (.val (.int .u64 0)), .d (.val (.int .u64 0)), .i lo, .i hi, .slL 6 0 1 8]); rfl)
    | (apply r_callA (f := 64) (ags := []); rfl; rfl; exact haw)
    | (apply r_call (f := 45) (bs := [nodeA (repTT lo hi (T.node k a b c d mn mx subs))]) (us := [6]); rfl; rfl; exact h45; rfl)
    | (apply r_call (f := 32) (bs := [nodeA (repTT lo hi (T.node k a b c d mn mx subs))]) (us := [6]); rfl; rfl; exact h32; rfl)
    | (apply r_callA (f := 66) (ags := [.agg [.i k, .d (.val (.int .u64 a)), .d (.val (.int .u64 b)), .d (.val (.int .u64 c)), .d (.val (.int .u64 d)), .i mn, .i mx, .d (.sl (encL subs) subs.length)]]); rfl; rfl; exact h66)
    | (apply r_callA (f := 69) (ags := [.agg [.i k, .d (.val (.int .u64 a)), .d (.val (.int .u64 b)), .d (.val (.int .u64 c)), .d (.val (.int .u64 d)), .i mn, .i mx, .d (.sl (encL subs) subs.length)]]); rfl; rfl; exact h69)
    | (apply r_callA (f := 71) (ags := [.agg [.i k, .d (.val (.int .u64 a)), .d (.val (.int .u64 b)), .d (.val (.int .u64 c)), .d (.val (.int .u64 d)), .i mn, .i mx, .d (.sl (encL subs) subs.length)]]); rfl; rfl; exact h71)
    | (apply r_call (f := 66) (bs := [nodeA (repTT lo hi (T.node k a b c d mn mx subs))]) (us := [6]); rfl; rfl; exact h66r; rfl)
    | (apply r_call (f := 69) (bs := [nodeA (repTT lo hi (T.node k a b c d mn mx subs))]) (us := [6]); rfl; rfl; exact h69r; rfl)
    | (apply r_call (f := 71) (bs := [nodeA (repTT lo hi (T.node k a b c d mn mx subs))]) (us := [6]); rfl; rfl; exact h71r; rfl)
    | (apply r_ldL; rfl; rfl; rfl)
    | (apply r_eql; rfl; rfl; (first | (apply decide_eq_true; omega) | (apply decide_eq_false; omega) | rfl))
    | (apply r_neq; rfl; rfl; (first | (apply decide_eq_true; omega) | (apply decide_eq_false; omega) | rfl))
    | (apply r_lss; rfl; rfl; (first | (apply decide_eq_true; omega) | (apply decide_eq_false; omega) | rfl))
    | (apply r_gtr; rfl; rfl; (first | (apply decide_eq_true; omega) | (apply decide_eq_false; omega) | rfl))
    | (apply r_not; rfl; rfl)
    | (apply r_beq; rfl; rfl; rfl)
    | (apply r_bne; rfl; rfl; rfl)
    | (apply r_pickT; rfl)
    | (apply r_pickF; rfl)
    | (apply r_ext; rfl; rfl)
    | (apply r_gT; rfl)
    | (apply r_gF'; rfl; rfl)
    | (apply r_gN'; rfl)
    | ((apply r_gS (o := default); rfl) <;> (intro h; try simp only [decide_eq_true_eq, decide_eq_false_iff_not, Bool.not_eq_true, Bool.not_eq_false] at h))
    | (apply r_alloc; ((conv => lhs; simp only [Nat.reduceAdd]) <;> rfl); rfl)
    | (apply r_box; ((conv => lhs; simp only [Nat.reduceAdd]) <;> rfl); rfl; rfl; rfl)
    | (apply r_stL; rfl; rfl; rfl; rfl; (first | rfl | (simp only [z_nil, z_add] <;> rfl)); rfl; rfl)
    | (apply r_p; rfl)
    | (apply r_nilK)
    | (apply r_nil)
    | (apply k_V; rfl)
    | (apply k_P; rfl)
    | (apply k_PL; rfl)
    | (apply k_S; rfl)
    | (apply k_SL; rfl)
    | (apply k_A; rfl)
    | (apply k_T; rfl)
    | (apply k_F; rfl)
    | (apply k_D; rfl; rotate_left; rfl)
    | (apply k_nil)
    | (apply e_ret (vs := [.d (.val _)]); rfl)
    | (apply e_ret; rfl)
    | (apply e_ret' (vs := [.d (.val _)]); rfl)
    | (apply e_ret'; rfl)
    | (apply w_seq)
    | (apply w_ops; ((conv => lhs; simp only [Nat.reduceAdd]) <;> rfl))
    | (apply w_condT; rfl)
    | (apply w_condF; rfl)
    | ((apply w_condS; rfl) <;> (intro h; try simp only [decide_eq_true_eq, decide_eq_false_iff_not, Bool.not_eq_true, Bool.not_eq_false] at h))
    | (apply e_thenN)
    | (apply w_block)
    | (apply e_thenR)
    | (apply e_thenX)
    | (apply e_blkN)
    | (apply e_blkR)
    | (apply e_blkE)
    | (apply w_exit)
    | (apply w_ret)
    | (apply w_skip)
    | (apply e_blkE'; rfl))
      exact retB rfl
    · have e : faTimes ⟨true, fl, fh, fa, fb, fc, fd⟩ lo hi = faNo := by
        unfold faTimes; rw [if_neg (by simp; omega), if_pos rfl]
      have hl0 : 0 < lo := by omega
      rw [e] at h66r h71r h69r
      clear e p1 p2 p3 p4 q1 q2
      obtain ⟨k, a, b, c, d, mn, mx, subs⟩ := t
      have e0 : nodeA (T.node k a b c d mn mx subs) = .agg [.i k, .d (.val (.int .u64 a)), .d (.val (.int .u64 b)), .d (.val (.int .u64 c)), .d (.val (.int .u64 d)), .i mn, .i mx, .d (.sl (encL subs) subs.length)] := rfl
      rw [e0] at h66 h71 h69 ⊢
      refine b23 (by simp) (by simp) (w_init ?_)
      unfold x23
      repeat' (first
    | (apply r_mvV; rfl)
    | (apply r_mvP; rfl)
    | (apply r_mvPL; rfl)
    | (apply r_mvS; rfl)
    | (apply r_mvSL; rfl)
    | (apply r_mvA; rfl)
    | (apply r_mvT; rfl)
    | (apply r_mvF; rfl)
    | (apply r_mvD; rfl)
    | (apply r_ldL (v := .agg [.i k, .d (.val (.int .u64 a)), .d (.val (.int .u64 b)), .d (.val (.int .u64 c)), .d (.val (.int .u64 d)), .i mn, .i mx, .d (.sl (encL subs) subs.length)]); rfl; rfl; rfl)
    | (apply r_ldL (v := .agg [.i 5, .d (.val (.int .u64 0)), .d (.val (.int .u64 0)), .d (.val (.int .u64 0)), .d (.val (.int .u64 0)), .i lo, .i hi, .slL 6 0 1 8]); rfl; rfl; rfl)
    | (apply r_n (v := .slL 6 0 1 8) (r := [.i k, .d (.val (.int .u64 a)), .d (.val (.int .u64 b)), .d (.val (.int .u64 c)), .d (.val (.int .u64 d)), .i mn, .i mx, .d (.sl (encL subs) subs.length)]); rfl)
    | (apply r_p (v := .agg [.i 5, .d (.val (.int .u64 0)), .d (.val (.int .u64 0)), .d (.val (.int .u64 0)), .d (.val (.int .u64 0)), .i lo, .i hi, .slL 6 0 1 8]); rfl)
    | (apply r_callA (f := 64) (ags := []); rfl; rfl; exact haw)
    | (apply r_call (f := 45) (bs := [nodeA (repTT lo hi (T.node k a b c d mn mx subs))]) (us := [6]); rfl; rfl; exact h45; rfl)
    | (apply r_call (f := 32) (bs := [nodeA (repTT lo hi (T.node k a b c d mn mx subs))]) (us := [6]); rfl; rfl; exact h32; rfl)
    | (apply r_callA (f := 66) (ags := [.agg [.i k, .d (.val (.int .u64 a)), .d (.val (.int .u64 b)), .d (.val (.int .u64 c)), .d (.val (.int .u64 d)), .i mn, .i mx, .d (.sl (encL subs) subs.length)]]); rfl; rfl; exact h66)
    | (apply r_callA (f := 69) (ags := [.agg [.i k, .d (.val (.int .u64 a)), .d (.val (.int .u64 b)), .d (.val (.int .u64 c)), .d (.val (.int .u64 d)), .i mn, .i mx, .d (.sl (encL subs) subs.length)]]); rfl; rfl; exact h69)
    | (apply r_callA (f := 71) (ags := [.agg [.i k, .d (.val (.int .u64 a)), .d (.val (.int .u64 b)), .d (.val (.int .u64 c)), .d (.val (.int .u64 d)), .i mn, .i mx, .d (.sl (encL subs) subs.length)]]); rfl; rfl; exact h71)
    | (apply r_call (f := 66) (bs := [nodeA (repTT lo hi (T.node k a b c d mn mx subs))]) (us := [6]); rfl; rfl; exact h66r; rfl)
    | (apply r_call (f := 69) (bs := [nodeA (repTT lo hi (T.node k a b c d mn mx subs))]) (us := [6]); rfl; rfl; exact h69r; rfl)
    | (apply r_call (f := 71) (bs := [nodeA (repTT lo hi (T.node k a b c d mn mx subs))]) (us := [6]); rfl; rfl; exact h71r; rfl)
    | (apply r_ldL; rfl; rfl; rfl)
    | (apply r_eql; rfl; rfl; (first | (apply decide_eq_true; omega) | (apply decide_eq_false; omega) | rfl))
    | (apply r_neq; rfl; rfl; (first | (apply decide_eq_true; omega) | (apply decide_eq_false; omega) | rfl))
    | (apply r_lss; rfl; rfl; (first | (apply decide_eq_true; omega) | (apply decide_eq_false; omega) | rfl))
    | (apply r_gtr; rfl; rfl; (first | (apply decide_eq_true; omega) | (apply decide_eq_false; omega) | rfl))
    | (apply r_not; rfl; rfl)
    | (apply r_beq; rfl; rfl; rfl)
    | (apply r_bne; rfl; rfl; rfl)
    | (apply r_pickT; rfl)
    | (apply r_pickF; rfl)
    | (apply r_ext; rfl; rfl)
    | (apply r_gT; rfl)
    | (apply r_gF'; rfl; rfl)
    | (apply r_gN'; rfl)
    | ((apply r_gS (o := default); rfl) <;> (intro h; try simp only [decide_eq_true_eq, decide_eq_false_iff_not, Bool.not_eq_true, Bool.not_eq_false] at h))
    | (apply r_alloc; ((conv => lhs; simp only [Nat.reduceAdd]) <;> rfl); rfl)
    | (apply r_box; ((conv => lhs; simp only [Nat.reduceAdd]) <;> rfl); rfl; rfl; rfl)
    | (apply r_stL; rfl; rfl; rfl; rfl; (first | rfl | (simp only [z_nil, z_add] <;> rfl)); rfl; rfl)
    | (apply r_p; rfl)
    | (apply r_nilK)
    | (apply r_nil)
    | (apply k_V; rfl)
    | (apply k_P; rfl)
    | (apply k_PL; rfl)
    | (apply k_S; rfl)
    | (apply k_SL; rfl)
    | (apply k_A; rfl)
    | (apply k_T; rfl)
    | (apply k_F; rfl)
    | (apply k_D; rfl; rotate_left; rfl)
    | (apply k_nil)
    | (apply e_ret (vs := [.d (.val _)]); rfl)
    | (apply e_ret; rfl)
    | (apply e_ret' (vs := [.d (.val _)]); rfl)
    | (apply e_ret'; rfl)
    | (apply w_seq)
    | (apply w_ops; ((conv => lhs; simp only [Nat.reduceAdd]) <;> rfl))
    | (apply w_condT; rfl)
    | (apply w_condF; rfl)
    | ((apply w_condS; rfl) <;> (intro h; try simp only [decide_eq_true_eq, decide_eq_false_iff_not, Bool.not_eq_true, Bool.not_eq_false] at h))
    | (apply e_thenN)
    | (apply w_block)
    | (apply e_thenR)
    | (apply e_thenX)
    | (apply e_blkN)
    | (apply e_blkR)
    | (apply e_blkE)
    | (apply w_exit)
    | (apply w_ret)
    | (apply w_skip)
    | (apply e_blkE'; rfl))
      exact retB rfl
  | false =>
  have q2 := q2 rfl
  by_cases hz : hi = 0
  · have e : faTimes ⟨false, fl, fh, fa, fb, fc, fd⟩ lo hi = faE := by
      unfold faTimes; rw [if_pos (.inl hz)]
    have hl0 : lo = 0 := by omega
    rw [e] at h66r h71r h69r
    clear e p1 p2 p3 p4 q1
    obtain ⟨k, a, b, c, d, mn, mx, subs⟩ := t
    have e0 : nodeA (T.node k a b c d mn mx subs) = .agg [.i k, .d (.val (.int .u64 a)), .d (.val (.int .u64 b)), .d (.val (.int .u64 c)), .d (.val (.int .u64 d)), .i mn, .i mx, .d (.sl (encL subs) subs.length)] := rfl
    rw [e0] at h66 h71 h69 ⊢
    refine b23 (by simp) (by simp) (w_init ?_)
    unfold x23
    repeat' (first
    | (apply r_mvV; rfl)
    | (apply r_mvP; rfl)
    | (apply r_mvPL; rfl)
    | (apply r_mvS; rfl)
    | (apply r_mvSL; rfl)
    | (apply r_mvA; rfl)
    | (apply r_mvT; rfl)
    | (apply r_mvF; rfl)
    | (apply r_mvD; rfl)
    | (apply r_ldL (v := .agg [.i k, .d (.val (.int .u64 a)), .d (.val (.int .u64 b)), .d (.val (.int .u64 c)), .d (.val (.int .u64 d)), .i mn, .i mx, .d (.sl (encL subs) subs.length)]); rfl; rfl; rfl)
    | (apply r_ldL (v := .agg [.i 5, .d (.val (.int .u64 0)), .d (.val (.int .u64 0)), .d (.val (.int .u64 0)), .d (.val (.int .u64 0)), .i lo, .i hi, .slL 6 0 1 8]); rfl; rfl; rfl)
    | (apply r_n (v := .slL 6 0 1 8) (r := [.i k, .d (.val (.int .u64 a)), .d (.val (.int .u64 b)), .d (.val (.int .u64 c)), .d (.val (.int .u64 d)), .i mn, .i mx, .d (.sl (encL subs) subs.length)]); rfl)
    | (apply r_p (v := .agg [.i 5, .d (.val (.int .u64 0)), .d (.val (.int .u64 0)), .d (.val (.int .u64 0)), .d (.val (.int .u64 0)), .i lo, .i hi, .slL 6 0 1 8]); rfl)
    | (apply r_callA (f := 64) (ags := []); rfl; rfl; exact haw)
    | (apply r_call (f := 45) (bs := [nodeA (repTT lo hi (T.node k a b c d mn mx subs))]) (us := [6]); rfl; rfl; exact h45; rfl)
    | (apply r_call (f := 32) (bs := [nodeA (repTT lo hi (T.node k a b c d mn mx subs))]) (us := [6]); rfl; rfl; exact h32; rfl)
    | (apply r_callA (f := 66) (ags := [.agg [.i k, .d (.val (.int .u64 a)), .d (.val (.int .u64 b)), .d (.val (.int .u64 c)), .d (.val (.int .u64 d)), .i mn, .i mx, .d (.sl (encL subs) subs.length)]]); rfl; rfl; exact h66)
    | (apply r_callA (f := 69) (ags := [.agg [.i k, .d (.val (.int .u64 a)), .d (.val (.int .u64 b)), .d (.val (.int .u64 c)), .d (.val (.int .u64 d)), .i mn, .i mx, .d (.sl (encL subs) subs.length)]]); rfl; rfl; exact h69)
    | (apply r_callA (f := 71) (ags := [.agg [.i k, .d (.val (.int .u64 a)), .d (.val (.int .u64 b)), .d (.val (.int .u64 c)), .d (.val (.int .u64 d)), .i mn, .i mx, .d (.sl (encL subs) subs.length)]]); rfl; rfl; exact h71)
    | (apply r_call (f := 66) (bs := [nodeA (repTT lo hi (T.node k a b c d mn mx subs))]) (us := [6]); rfl; rfl; exact h66r; rfl)
    | (apply r_call (f := 69) (bs := [nodeA (repTT lo hi (T.node k a b c d mn mx subs))]) (us := [6]); rfl; rfl; exact h69r; rfl)
    | (apply r_call (f := 71) (bs := [nodeA (repTT lo hi (T.node k a b c d mn mx subs))]) (us := [6]); rfl; rfl; exact h71r; rfl)
    | (apply r_ldL; rfl; rfl; rfl)
    | (apply r_eql; rfl; rfl; (first | (apply decide_eq_true; omega) | (apply decide_eq_false; omega) | rfl))
    | (apply r_neq; rfl; rfl; (first | (apply decide_eq_true; omega) | (apply decide_eq_false; omega) | rfl))
    | (apply r_lss; rfl; rfl; (first | (apply decide_eq_true; omega) | (apply decide_eq_false; omega) | rfl))
    | (apply r_gtr; rfl; rfl; (first | (apply decide_eq_true; omega) | (apply decide_eq_false; omega) | rfl))
    | (apply r_not; rfl; rfl)
    | (apply r_beq; rfl; rfl; rfl)
    | (apply r_bne; rfl; rfl; rfl)
    | (apply r_pickT; rfl)
    | (apply r_pickF; rfl)
    | (apply r_ext; rfl; rfl)
    | (apply r_gT; rfl)
    | (apply r_gF'; rfl; rfl)
    | (apply r_gN'; rfl)
    | ((apply r_gS (o := default); rfl) <;> (intro h; try simp only [decide_eq_true_eq, decide_eq_false_iff_not, Bool.not_eq_true, Bool.not_eq_false] at h))
    | (apply r_alloc; ((conv => lhs; simp only [Nat.reduceAdd]) <;> rfl); rfl)
    | (apply r_box; ((conv => lhs; simp only [Nat.reduceAdd]) <;> rfl); rfl; rfl; rfl)
    | (apply r_stL; rfl; rfl; rfl; rfl; (first | rfl | (simp only [z_nil, z_add] <;> rfl)); rfl; rfl)
    | (apply r_p; rfl)
    | (apply r_nilK)
    | (apply r_nil)
    | (apply k_V; rfl)
    | (apply k_P; rfl)
    | (apply k_PL; rfl)
    | (apply k_S; rfl)
    | (apply k_SL; rfl)
    | (apply k_A; rfl)
    | (apply k_T; rfl)
    | (apply k_F; rfl)
    | (apply k_D; rfl; rotate_left; rfl)
    | (apply k_nil)
    | (apply e_ret (vs := [.d (.val _)]); rfl)
    | (apply e_ret; rfl)
    | (apply e_ret' (vs := [.d (.val _)]); rfl)
    | (apply e_ret'; rfl)
    | (apply w_seq)
    | (apply w_ops; ((conv => lhs; simp only [Nat.reduceAdd]) <;> rfl))
    | (apply w_condT; rfl)
    | (apply w_condF; rfl)
    | ((apply w_condS; rfl) <;> (intro h; try simp only [decide_eq_true_eq, decide_eq_false_iff_not, Bool.not_eq_true, Bool.not_eq_false] at h))
    | (apply e_thenN)
    | (apply w_block)
    | (apply e_thenR)
    | (apply e_thenX)
    | (apply e_blkN)
    | (apply e_blkR)
    | (apply e_blkE)
    | (apply w_exit)
    | (apply w_ret)
    | (apply w_skip)
    | (apply e_blkE'; rfl))
    exact retB rfl
  have hgno : (faTimes ⟨false, fl, fh, fa, fb, fc, fd⟩ lo hi).no = false := by
    unfold faTimes; rw [if_neg (by simp [hz]), if_neg (by simp)]
  have hglo : (faTimes ⟨false, fl, fh, fa, fb, fc, fd⟩ lo hi).lo = fl * lo := by
    unfold faTimes; rw [if_neg (by simp [hz]), if_neg (by simp)]
  have hghi : (faTimes ⟨false, fl, fh, fa, fb, fc, fd⟩ lo hi).hi = if fh = 0 then 0 else if fh = -1 ∨ hi = -1 then -1 else fh * hi := by
    unfold faTimes; rw [if_neg (by simp [hz]), if_neg (by simp)]
  rw [hgno, hglo] at h69r
  rw [hglo, hghi] at h66r
  rw [hgno] at h71r
  rw [hglo] at p3
  rw [hghi] at p4
  have p2 := p2 hgno
  rw [hglo, hghi] at p2
  clear hgno hglo hghi p1 q1
  have hm1 : -9223372036854775808 ≤ fl * lo ∧ fl * lo < 9223372036854775808 := by omega
  have hne : ((fl * lo) != (fl * lo)) = false := by simp
  have hn : (lo = 0 ∧ (!false && decide (fl * lo = 0)) = true) ∨ (lo ≠ 0 ∧ (!false && decide (fl * lo = 0)) = (!false && decide (fl = 0))) := by
    by_cases h : lo = 0
    · exact .inl ⟨h, by simp [h]⟩
    · refine .inr ⟨h, ?_⟩
      congr 1
      rw [decide_eq_decide, Int.mul_eq_zero]
      omega
  generalize (!false && decide (fl = 0)) = qn at h69 hn
  generalize hqr : (!false && decide (fl * lo = 0)) = qr at h69r hn
  clear hqr
  obtain ⟨k, a, b, c, d, mn, mx, subs⟩ := t
  have e0 : nodeA (T.node k a b c d mn mx subs) = .agg [.i k, .d (.val (.int .u64 a)), .d (.val (.int .u64 b)), .d (.val (.int .u64 c)), .d (.val (.int .u64 d)), .i mn, .i mx, .d (.sl (encL subs) subs.length)] := rfl
  rw [e0] at h66 h71 h69 ⊢
  have hbn : (qn != qn) = false := by cases qn <;> rfl
  by_cases c1 : fh = 0
  · rw [if_pos c1] at h66r
    clear p4 p2
    rcases hn with ⟨hl0, rfl⟩ | ⟨hl0, rfl⟩
    all_goals
      refine b23 (by simp) (by simp) (w_init ?_)
      unfold x23
      repeat' (first
    | (apply r_mvV; rfl)
    | (apply r_mvP; rfl)
    | (apply r_mvPL; rfl)
    | (apply r_mvS; rfl)
    | (apply r_mvSL; rfl)
    | (apply r_mvA; rfl)
    | (apply r_mvT; rfl)
    | (apply r_mvF; rfl)
    | (apply r_mvD; rfl)
    | (apply r_mul (a := fl) (b := lo); rfl; rfl; rfl; exact hm1)
    | (apply r_ldL (v := .agg [.i k, .d (.val (.int .u64 a)), .d (.val (.int .u64 b)), .d (.val (.int .u64 c)), .d (.val (.int .u64 d)), .i mn, .i mx, .d (.sl (encL subs) subs.length)]); rfl; rfl; rfl)
    | (apply r_ldL (v := .agg [.i 5, .d (.val (.int .u64 0)), .d (.val (.int .u64 0)), .d (.val (.int .u64 0)), .d (.val (.int .u64 0)), .i lo, .i hi, .slL 6 0 1 8]); rfl; rfl; rfl)
    | (apply r_n (v := .slL 6 0 1 8) (r := [.i k, .d (.val (.int .u64 a)), .d (.val (.int .u64 b)), .d (.val (.int .u64 c)), .d (.val (.int .u64 d)), .i mn, .i mx, .d (.sl (encL subs) subs.length)]); rfl)
    | (apply r_p (v := .agg [.i 5, .d (.val (.int .u64 0)), .d (.val (.int .u64 0)), .d (.val (.int .u64 0)), .d (.val (.int .u64 0)), .i lo, .i hi, .slL 6 0 1 8]); rfl)
    | (apply r_callA (f := 64) (ags := []); rfl; rfl; exact haw)
    | (apply r_call (f := 45) (bs := [nodeA (repTT lo hi (T.node k a b c d mn mx subs))]) (us := [6]); rfl; rfl; exact h45; rfl)
    | (apply r_call (f := 32) (bs := [nodeA (repTT lo hi (T.node k a b c d mn mx subs))]) (us := [6]); rfl; rfl; exact h32; rfl)
    | (apply r_callA (f := 66) (ags := [.agg [.i k, .d (.val (.int .u64 a)), .d (.val (.int .u64 b)), .d (.val (.int .u64 c)), .d (.val (.int .u64 d)), .i mn, .i mx, .d (.sl (encL subs) subs.length)]]); rfl; rfl; exact h66)
    | (apply r_callA (f := 69) (ags := [.agg [.i k, .d (.val (.int .u64 a)), .d (.val (.int .u64 b)), .d (.val (.int .u64 c)), .d (.val (.int .u64 d)), .i mn, .i mx, .d (.sl (encL subs) subs.length)]]); rfl; rfl; exact h69)
    | (apply r_callA (f := 71) (ags := [.agg [.i k, .d (.val (.int .u64 a)), .d (.val (.int .u64 b)), .d (.val (.int .u64 c)), .d (.val (.int .u64 d)), .i mn, .i mx, .d (.sl (encL subs) subs.length)]]); rfl; rfl; exact h71)
    | (apply r_call (f := 66) (bs := [nodeA (repTT lo hi (T.node k a b c d mn mx subs))]) (us := [6]); rfl; rfl; exact h66r; rfl)
    | (apply r_call (f := 69) (bs := [nodeA (repTT lo hi (T.node k a b c d mn mx subs))]) (us := [6]); rfl; rfl; exact h69r; rfl)
    | (apply r_call (f := 71) (bs := [nodeA (repTT lo hi (T.node k a b c d mn mx subs))]) (us := [6]); rfl; rfl; exact h71r; rfl)
    | (apply r_p (v := .b false); exact congrArg (fun z => some (AV.b z)) hne)
    | (apply r_p (v := .b false); exact congrArg (fun z => some (AV.b z)) hbn)
    | (apply r_ldL; rfl; rfl; rfl)
    | (apply r_eql; rfl; rfl; (first | (apply decide_eq_true; omega) | (apply decide_eq_false; omega) | rfl))
    | (apply r_neq; rfl; rfl; (first | (apply decide_eq_true; omega) | (apply decide_eq_false; omega) | rfl))
    | (apply r_lss; rfl; rfl; (first | (apply decide_eq_true; omega) | (apply decide_eq_false; omega) | rfl))
    | (apply r_gtr; rfl; rfl; (first | (apply decide_eq_true; omega) | (apply decide_eq_false; omega) | rfl))
    | (apply r_not; rfl; rfl)
    | (apply r_beq; rfl; rfl; rfl)
    | (apply r_bne; rfl; rfl; rfl)
    | (apply r_pickT; rfl)
    | (apply r_pickF; rfl)
    | (apply r_ext; rfl; rfl)
    | (apply r_gT; rfl)
    | (apply r_gF'; rfl; rfl)
    | (apply r_gN'; rfl)
    | ((apply r_gS (o := default); rfl) <;> (intro h; try simp only [decide_eq_true_eq, decide_eq_false_iff_not, Bool.not_eq_true, Bool.not_eq_false] at h))
    | (apply r_alloc; ((conv => lhs; simp only [Nat.reduceAdd]) <;> rfl); rfl)
    | (apply r_box; ((conv => lhs; simp only [Nat.reduceAdd]) <;> rfl); rfl; rfl; rfl)
    | (apply r_stL; rfl; rfl; rfl; rfl; (first | rfl | (simp only [z_nil, z_add] <;> rfl)); rfl; rfl)
    | (apply r_p; rfl)
    | (apply r_nilK)
    | (apply r_nil)
    | (apply k_V; rfl)
    | (apply k_P; rfl)
    | (apply k_PL; rfl)
    | (apply k_S; rfl)
    | (apply k_SL; rfl)
    | (apply k_A; rfl)
    | (apply k_T; rfl)
    | (apply k_F; rfl)
    | (apply k_D; rfl; rotate_left; rfl)
    | (apply k_nil)
    | (apply e_ret (vs := [.d (.val _)]); rfl)
    | (apply e_ret; rfl)
    | (apply e_ret' (vs := [.d (.val _)]); rfl)
    | (apply e_ret'; rfl)
    | (apply w_seq)
    | (apply w_ops; ((conv => lhs; simp only [Nat.reduceAdd]) <;> rfl))
    | (apply w_condT; rfl)
    | (apply w_condF; rfl)
    | ((apply w_condS; rfl) <;> (intro h; try simp only [decide_eq_true_eq, decide_eq_false_iff_not, Bool.not_eq_true, Bool.not_eq_false] at h))
    | (apply e_thenN)
    | (apply w_block)
    | (apply e_thenR)
    | (apply e_thenX)
    | (apply e_blkN)
    | (apply e_blkR)
    | (apply e_blkE)
    | (apply w_exit)
    | (apply w_ret)
    | (apply w_skip)
    | (apply e_blkE'; rfl))
      exact retB rfl
  rw [if_neg c1] at h66r p2 p4
  by_cases c2 : fh = -1 ∨ hi = -1
  · rw [if_pos c2] at h66r
    clear p4 p2
    rcases c2 with c2 | c2
    all_goals
      rcases hn with ⟨hl0, rfl⟩ | ⟨hl0, rfl⟩
    all_goals
      refine b23 (by simp) (by simp) (w_init ?_)
      unfold x23
      repeat' (first
    | (apply r_mvV; rfl)
    | (apply r_mvP; rfl)
    | (apply r_mvPL; rfl)
    | (apply r_mvS; rfl)
    | (apply r_mvSL; rfl)
    | (apply r_mvA; rfl)
    | (apply r_mvT; rfl)
    | (apply r_mvF; rfl)
    | (apply r_mvD; rfl)
    | (apply r_mul (a := fl) (b := lo); rfl; rfl; rfl; exact hm1)
    | (apply r_ldL (v := .agg [.i k, .d (.val (.int .u64 a)), .d (.val (.int .u64 b)), .d (.val (.int .u64 c)), .d (.val (.int .u64 d)), .i mn, .i mx, .d (.sl (encL subs) subs.length)]); rfl; rfl; rfl)
    | (apply r_ldL (v := .agg [.i 5, .d (.val (.int .u64 0)), .d (.val (.int .u64 0)), .d (.val (.int .u64 0)), .d (.val (.int .u64 0)), .i lo, .i hi, .slL 6 0 1 8]); rfl; rfl; rfl)
    | (apply r_n (v := .slL 6 0 1 8) (r := [.i k, .d (.val (.int .u64 a)), .d (.val (.int .u64 b)), .d (.val (.int .u64 c)), .d (.val (.int .u64 d)), .i mn, .i mx, .d (.sl (encL subs) subs.length)]); rfl)
    | (apply r_p (v := .agg [.i 5, .d (.val (.int .u64 0)), .d (.val (.int .u64 0)), .d (.val (.int .u64 0)), .d (.val (.int .u64 0)), .i lo, .i hi, .slL 6 0 1 8]); rfl)
    | (apply r_callA (f := 64) (ags := []); rfl; rfl; exact haw)
    | (apply r_call (f := 45) (bs := [nodeA (repTT lo hi (T.node k a b c d mn mx subs))]) (us := [6]); rfl; rfl; exact h45; rfl)
    | (apply r_call (f := 32) (bs := [nodeA (repTT lo hi (T.node k a b c d mn mx subs))]) (us := [6]); rfl; rfl; exact h32; rfl)
    | (apply r_callA (f := 66) (ags := [.agg [.i k, .d (.val (.int .u64 a)), .d (.val (.int .u64 b)), .d (.val (.int .u64 c)), .d (.val (.int .u64 d)), .i mn, .i mx, .d (.sl (encL subs) subs.length)]]); rfl; rfl; exact h66)
    | (apply r_callA (f := 69) (ags := [.agg [.i k, .d (.val (.int .u64 a)), .d (.val (.int .u64 b)), .d (.val (.int .u64 c)), .d (.val (.int .u64 d)), .i mn, .i mx, .d (.sl (encL subs) subs.length)]]); rfl; rfl; exact h69)
    | (apply r_callA (f := 71) (ags := [.agg [.i k, .d (.val (.int .u64 a)), .d (.val (.int .u64 b)), .d (.val (.int .u64 c)), .d (.val (.int .u64 d)), .i mn, .i mx, .d (.sl (encL subs) subs.length)]]); rfl; rfl; exact h71)
    | (apply r_call (f := 66) (bs := [nodeA (repTT lo hi (T.node k a b c d mn mx subs))]) (us := [6]); rfl; rfl; exact h66r; rfl)
    | (apply r_call (f := 69) (bs := [nodeA (repTT lo hi (T.node k a b c d mn mx subs))]) (us := [6]); rfl; rfl; exact h69r; rfl)
    | (apply r_call (f := 71) (bs := [nodeA (repTT lo hi (T.node k a b c d mn mx subs))]) (us := [6]); rfl; rfl; exact h71r; rfl)
    | (apply r_p (v := .b false); exact congrArg (fun z => some (AV.b z)) hne)
    | (apply r_p (v := .b false); exact congrArg (fun z => some (AV.b z)) hbn)
    | (apply r_ldL; rfl; rfl; rfl)
    | (apply r_eql; rfl; rfl; (first | (apply decide_eq_true; omega) | (apply decide_eq_false; omega) | rfl))
    | (apply r_neq; rfl; rfl; (first | (apply decide_eq_true; omega) | (apply decide_eq_false; omega) | rfl))
    | (apply r_lss; rfl; rfl; (first | (apply decide_eq_true; omega) | (apply decide_eq_false; omega) | rfl))
    | (apply r_gtr; rfl; rfl; (first | (apply decide_eq_true; omega) | (apply decide_eq_false; omega) | rfl))
    | (apply r_not; rfl; rfl)
    | (apply r_beq; rfl; rfl; rfl)
    | (apply r_bne; rfl; rfl; rfl)
    | (apply r_pickT; rfl)
    | (apply r_pickF; rfl)
    | (apply r_ext; rfl; rfl)
    | (apply r_gT; rfl)
    | (apply r_gF'; rfl; rfl)
    | (apply r_gN'; rfl)
    | ((apply r_gS (o := default); rfl) <;> (intro h; try simp only [decide_eq_true_eq, decide_eq_false_iff_not, Bool.not_eq_true, Bool.not_eq_false] at h))
    | (apply r_alloc; ((conv => lhs; simp only [Nat.reduceAdd]) <;> rfl); rfl)
    | (apply r_box; ((conv => lhs; simp only [Nat.reduceAdd]) <;> rfl); rfl; rfl; rfl)
    | (apply r_stL; rfl; rfl; rfl; rfl; (first | rfl | (simp only [z_nil, z_add] <;> rfl)); rfl; rfl)
    | (apply r_p; rfl)
    | (apply r_nilK)
    | (apply r_nil)
    | (apply k_V; rfl)
    | (apply k_P; rfl)
    | (apply k_PL; rfl)
    | (apply k_S; rfl)
    | (apply k_SL; rfl)
    | (apply k_A; rfl)
    | (apply k_T; rfl)
    | (apply k_F; rfl)
    | (apply k_D; rfl; rotate_left; rfl)
    | (apply k_nil)
    | (apply e_ret (vs := [.d (.val _)]); rfl)
    | (apply e_ret; rfl)
    | (apply e_ret' (vs := [.d (.val _)]); rfl)
    | (apply e_ret'; rfl)
    | (apply w_seq)
    | (apply w_ops; ((conv => lhs; simp only [Nat.reduceAdd]) <;> rfl))
    | (apply w_condT; rfl)
    | (apply w_condF; rfl)
    | ((apply w_condS; rfl) <;> (intro h; try simp only [decide_eq_true_eq, decide_eq_false_iff_not, Bool.not_eq_true, Bool.not_eq_false] at h))
    | (apply e_thenN)
    | (apply w_block)
    | (apply e_thenR)
    | (apply e_thenX)
    | (apply e_blkN)
    | (apply e_blkR)
    | (apply e_blkE)
    | (apply w_exit)
    | (apply w_ret)
    | (apply w_skip)
    | (apply e_blkE'; rfl))
      all_goals exact retB rfl
  · rw [if_neg c2] at h66r p2 p4
    have hm2 : -9223372036854775808 ≤ fh * hi ∧ fh * hi < 9223372036854775808 := by omega
    have hh0 : ¬ fh < 0 := by omega
    have hh1 : ¬ hi < 0 := by omega
    rcases hn with ⟨hl0, rfl⟩ | ⟨hl0, rfl⟩
    all_goals
      refine b23 (by simp) (by simp) (w_init ?_)
      unfold x23
      repeat' (first
    | (apply r_mvV; rfl)
    | (apply r_mvP; rfl)
    | (apply r_mvPL; rfl)
    | (apply r_mvS; rfl)
    | (apply r_mvSL; rfl)
    | (apply r_mvA; rfl)
    | (apply r_mvT; rfl)
    | (apply r_mvF; rfl)
    | (apply r_mvD; rfl)
    | (apply r_mul (a := fl) (b := lo); rfl; rfl; rfl; exact hm1)
    | (apply r_mul (a := fh) (b := hi); rfl; rfl; rfl; exact hm2)
    | (apply r_ldL (v := .agg [.i k, .d (.val (.int .u64 a)), .d (.val (.int .u64 b)), .d (.val (.int .u64 c)), .d (.val (.int .u64 d)), .i mn, .i mx, .d (.sl (encL subs) subs.length)]); rfl; rfl; rfl)
    | (apply r_ldL (v := .agg [.i 5, .d (.val (.int .u64 0)), .d (.val (.int .u64 0)), .d (.val (.int .u64 0)), .d (.val (.int .u64 0)), .i lo, .i hi, .slL 6 0 1 8]); rfl; rfl; rfl)
    | (apply r_n (v := .slL 6 0 1 8) (r := [.i k, .d (.val (.int .u64 a)), .d (.val (.int .u64 b)), .d (.val (.int .u64 c)), .d (.val (.int .u64 d)), .i mn, .i mx, .d (.sl (encL subs) subs.length)]); rfl)
    | (apply r_p (v := .agg [.i 5, .d (.val (.int .u64 0)), .d (.val (.int .u64 0)), .d (.val (.int .u64 0)), .d (.val (.int .u64 0)), .i lo, .i hi, .slL 6 0 1 8]); rfl)
    | (apply r_callA (f := 64) (ags := []); rfl; rfl; exact haw)
    | (apply r_call (f := 45) (bs := [nodeA (repTT lo hi (T.node k a b c d mn mx subs))]) (us := [6]); rfl; rfl; exact h45; rfl)
    | (apply r_call (f := 32) (bs := [nodeA (repTT lo hi (T.node k a b c d mn mx subs))]) (us := [6]); rfl; rfl; exact h32; rfl)
    | (apply r_callA (f := 66) (ags := [.agg [.i k, .d (.val (.int .u64 a)), .d (.val (.int .u64 b)), .d (.val (.int .u64 c)), .d (.val (.int .u64 d)), .i mn, .i mx, .d (.sl (encL subs) subs.length)]]); rfl; rfl; exact h66)
    | (apply r_callA (f := 69) (ags := [.agg [.i k, .d (.val (.int .u64 a)), .d (.val (.int .u64 b)), .d (.val (.int .u64 c)), .d (.val (.int .u64 d)), .i mn, .i mx, .d (.sl (encL subs) subs.length)]]); rfl; rfl; exact h69)
    | (apply r_callA (f := 71) (ags := [.agg [.i k, .d (.val (.int .u64 a)), .d (.val (.int .u64 b)), .d (.val (.int .u64 c)), .d (.val (.int .u64 d)), .i mn, .i mx, .d (.sl (encL subs) subs.length)]]); rfl; rfl; exact h71)
    | (apply r_call (f := 66) (bs := [nodeA (repTT lo hi (T.node k a b c d mn mx subs))]) (us := [6]); rfl; rfl; exact h66r; rfl)
    | (apply r_call (f := 69) (bs := [nodeA (repTT lo hi (T.node k a b c d mn mx subs))]) (us := [6]); rfl; rfl; exact h69r; rfl)
    | (apply r_call (f := 71) (bs := [nodeA (repTT lo hi (T.node k a b c d mn mx subs))]) (us := [6]); rfl; rfl; exact h71r; rfl)
    | (apply r_p (v := .b false); exact congrArg (fun z => some (AV.b z)) hne)
    | (apply r_p (v := .b false); exact congrArg (fun z => some (AV.b z)) hbn)
    | (apply r_ldL; rfl; rfl; rfl)
    | (apply r_eql; rfl; rfl; (first | (apply decide_eq_true; omega) | (apply decide_eq_false; omega) | rfl))
    | (apply r_neq; rfl; rfl; (first | (apply decide_eq_true; omega) | (apply decide_eq_false; omega) | rfl))
    | (apply r_lss; rfl; rfl; (first | (apply decide_eq_true; omega) | (apply decide_eq_false; omega) | rfl))
    | (apply r_gtr; rfl; rfl; (first | (apply decide_eq_true; omega) | (apply decide_eq_false; omega) | rfl))
    | (apply r_not; rfl; rfl)
    | (apply r_beq; rfl; rfl; rfl)
    | (apply r_bne; rfl; rfl; rfl)
    | (apply r_pickT; rfl)
    | (apply r_pickF; rfl)
    | (apply r_ext; rfl; rfl)
    | (apply r_gT; rfl)
    | (apply r_gF'; rfl; rfl)
    | (apply r_gN'; rfl)
    | ((apply r_gS (o := default); rfl) <;> (intro h; try simp only [decide_eq_true_eq, decide_eq_false_iff_not, Bool.not_eq_true, Bool.not_eq_false] at h))
    | (apply r_alloc; ((conv => lhs; simp only [Nat.reduceAdd]) <;> rfl); rfl)
    | (apply r_box; ((conv => lhs; simp only [Nat.reduceAdd]) <;> rfl); rfl; rfl; rfl)
    | (apply r_stL; rfl; rfl; rfl; rfl; (first | rfl | (simp only [z_nil, z_add] <;> rfl)); rfl; rfl)
    | (apply r_p; rfl)
    | (apply r_nilK)
    | (apply r_nil)
    | (apply k_V; rfl)
    | (apply k_P; rfl)
    | (apply k_PL; rfl)
    | (apply k_S; rfl)
    | (apply k_SL; rfl)
    | (apply k_A; rfl)
    | (apply k_T; rfl)
    | (apply k_F; rfl)
    | (apply k_D; rfl; rotate_left; rfl)
    | (apply k_nil)
    | (apply e_ret (vs := [.d (.val _)]); rfl)
    | (apply e_ret; rfl)
    | (apply e_ret' (vs := [.d (.val _)]); rfl)
    | (apply e_ret'; rfl)
    | (apply w_seq)
    | (apply w_ops; ((conv => lhs; simp only [Nat.reduceAdd]) <;> rfl))
    | (apply w_condT; rfl)
    | (apply w_condF; rfl)
    | ((apply w_condS; rfl) <;> (intro h; try simp only [decide_eq_true_eq, decide_eq_false_iff_not, Bool.not_eq_true, Bool.not_eq_false] at h))
    | (apply e_thenN)
    | (apply w_block)
    | (apply e_thenR)
    | (apply e_thenX)
    | (apply e_blkN)
    | (apply e_blkR)
    | (apply e_blkE)
    | (apply w_exit)
    | (apply w_ret)
    | (apply w_skip)
    | (apply e_blkE'; rfl))
      exact retB (by simp)
end Go.Sv
namespace Go.Sv
open Go Go.Proofs Go.Proofs.Ytcnlgmajkclgjaa Go.ChangeShapes Go.WideShapes Go.ChangeAt Go.RowKit
set_option linter.unusedVariables false
set_option maxRecDepth 100000

theorem try_own : ownKnob Try.prog.godebug = none := by kernel_rfl
theorem try_laidOut : laidOutB Try.prog = true := by kernel_rfl
theorem rowed : ∀ t ∈ [27, 9, 3, 5, 41], Try.prog.readableRec t = true ∧ t < Try.prog.types.size := by
  intro t ht
  simp only [List.mem_cons, List.not_mem_nil, or_false] at ht
  rcases ht with rfl | rfl | rfl | rfl | rfl
  all_goals exact ⟨by kernel_rfl, of_decide_eq_true (by kernel_rfl)⟩

section
variable {H : Type} {enc : TypeId × Value → H}
theorem stays_all {W W' : World} {sp : Nat → Bool} (hsame : ∀ p : MemPlace, p.block < W.heap.size → W.sameAt W' p) : ∀ {ts : List TypeId} {vs : List Value} {ds : List (DataW H)} {ps : List MemPlace}, (∀ t ∈ ts, Try.prog.readableRec t = true ∧ t < Try.prog.types.size) →
    DataW.TrodAll enc Try.prog W 0 (fun _ => true) true ts vs ds ps → (∀ p ∈ ps, p.block < W.heap.size) → (∀ p ∈ ps, sp p.block = true) → DataW.TrodAll enc Try.prog W' 0 sp true ts vs ds ps
  | [], [], [], ps, _, h, _, _ => h
  | t :: ts, v :: vs, d :: ds, ps, hr, h, hl, hs => by
    obtain ⟨p, q, h1, h2, rfl⟩ := h
    refine ⟨p, q, WideElems.Trod_stays try_laidOut (hr t (by simp)).1 (hr t (by simp)).2 h1 (fun x hx => hsame x (hl x (by simp [hx]))) (fun x hx => hs x (by simp [hx])), ?_, rfl⟩
    exact stays_all hsame (fun t ht => hr t (by simp [ht])) h2 (fun x hx => hl x (by simp [hx])) (fun x hx => hs x (by simp [hx]))

theorem law_post {s : ChangeSpec} {f : Func} {W W' : World} {args : Array Value} {ds gs : List (DataW H)} {before : List MemPlace} (hW : DataW.Whole enc Try.prog f.params.toList s.vars false W args.toList ds gs before) (hsv : s.vars = [])
    (h1 : (s.fn H (ds ++ gs)).results = [.lit (.bool true)]) (h2 : (s.fn H (ds ++ gs)).args = ds) (h3 : (s.fn H (ds ++ gs)).vars = []) (hrt : f.resultTypes = #[4]) (hb : Below W.heap.size W W')
    (hr : ∀ t ∈ f.params.toList, Try.prog.readableRec t = true ∧ t < Try.prog.types.size) : s.post enc Try.prog f false true false false W args (.bool true) W' := by
  have hlt := hW.lt
  have hW0 := hW
  obtain ⟨p, q, hA, hV, rfl, _, _⟩ := hW
  rw [hsv] at hV
  obtain ⟨rfl, rfl⟩ := trodVars_none hV
  have hlt' : ∀ x ∈ p, x.block < W.heap.size := fun x hx => by simpa using hlt x (by simp [hx])
  refine ⟨ds, [], p ++ [], [], p, [], hW0, ?_, ?_, ?_, hb.frame _, fun h => by cases h⟩
  · rw [hrt, h1]
    exact trodAll_mk1 (shut_bool Try.underlying4 true)
  · rw [h2]
    exact stays_all (fun x hx => hb.same hx) hr hA hlt' (fun x hx => by simpa using hlt' x hx)
  · rw [hsv, h3]; rfl

theorem Kept.below {w w' : World} (h : Kept w w' (fun k => (none : Option (List DV)).isSome = true ∧ (none : Option Nat) = some k)) : Below w.heap.size w w' :=
  ⟨h.os, h.tape, h.output, h.size, fun k hk => h.keep k hk (by simp)⟩

theorem law_calls {f : FuncId} {ags : List AV} (hg : Good Try.prog f ags none (.b true) none none) {W : World} {args : Array Value} (ha : RAs W NoA (fun _ => none) NoA args ags) : Calls Try.prog f args W fun e W' => e = .returned (.bool true) ∧ Below W.heap.size W W' := by
  have hNo : (fun k => NoA k ∨ ((none : Option (List DV)).isSome = true ∧ (none : Option Nat) = some k)) = NoA := by
    funext k; simp [NoA]
  have hU : (fun b : Nat => (none : Option (List DV)).isSome = true ∧ b = 0) = NoA := by
    funext k; simp [NoA]
  have := hg.2.2 W NoA none args (fun k h => h.elim) (fun k h => by simp at h) (fun ds h => by cases h) (by rw [hNo, hU]; exact ha)
  refine this.mono fun e W' ⟨v, nm, he, hk, _, _, _, hv⟩ => ?_
  have := hv.val_eq
  subst this
  exact ⟨he, hk.below⟩
theorem RAs.nil {W : World} : RAs W NoA (fun _ => none) NoA #[] [] := ⟨rfl, fun j h => by simp at h⟩
theorem RAs.mk : ∀ {W : World} {vs : List Value} {ags : List AV}, vs.length = ags.length → (∀ (j : Nat) v a, vs[j]? = some v → ags[j]? = some a → RA W NoA (fun _ => none) NoA v a) → RAs W NoA (fun _ => none) NoA vs.toArray ags := by
  intro W vs ags hl h
  refine ⟨by simpa using hl, fun j hj => ?_⟩
  have hj2 : j < vs.length := by omega
  have : vs.toArray.getD j undef = vs[j] := by simp [Array.getD, hj2]
  rw [this]
  exact h j _ _ (List.getElem?_eq_getElem hj2) (List.getElem?_eq_getElem hj)
theorem RDs.toA {W : World} {vs : List Value} {ds : List DV} (h : RDs W vs ds) : RA W NoA (fun _ => none) NoA (.agg vs.toArray) (.agg (ds.map AV.d)) := by
  refine .agg _ _ (by simpa using h.1) fun j hj => ?_
  have hj1 : j < ds.length := by simpa using hj
  have hj2 : j < vs.length := by rw [h.1]; exact hj1
  have : vs.toArray.getD j undef = vs[j] := by simp [Array.getD, hj2]
  rw [this, List.getElem_map]
  exact .d _ _ (h.2 j _ _ (List.getElem?_eq_getElem hj2) (List.getElem?_eq_getElem hj1))
theorem arg_node {W : World} {base : Nat} {v : Value} {d : DataW H} {p : List MemPlace} (hok : Value.okWide Try.prog W .any base 27 v) (h : DataW.Trod enc Try.prog W 0 (fun _ => true) true 27 v d p) : ∃ t : T, inT t ∧ RA W NoA (fun _ => none) NoA v (nodeA t) := by
  obtain ⟨n, hn⟩ := h
  obtain ⟨t, h1, h2⟩ := node_open n _ _ hn
  have hs : ∃ cs, v = .agg cs := by
    unfold Value.okWide at hok
    rw [Try.underlying27] at hok
    obtain ⟨cs, h, _⟩ := hok
    exact ⟨cs, h⟩
  obtain ⟨cs, rfl⟩ := hs
  exact ⟨t, h1, h2.toA⟩
theorem arg_int {W : World} {n : Int} {k : IntKind} : RA W NoA (fun _ => none) NoA (.int k n) (.d (.val (.int k n))) := .d _ _ (.val _ rfl)
end
theorem joined_of {P : Program} {f : FuncId} {fn : Func} {s : ChangeSpec} {c : OpenClaim}
    (k1 : (c.wf (OpenSpec.ofChange s) && laidOutB P && mapsRowed P && fn.params.all (P.readableRec ·) && namedTie P c.named s.vars && (c.stops == []) && (P.stops == []) && (c.knobs == []) && (P.stopKnobs == [])) = true)
    (k2 : (c.inPlace == P.inPlace f) = true) (k3 : (c.unfollowed == P.unfollowed f) = true) (k4 : (c.recurses == P.recurses f) = true) (k5 : (c.named == P.varsNamed f) = true)
    (k6 : ((c.maps == (fn.params.toList ++ s.plain.varTypes P).any (P.mapsRec ·)) && (c.ifaces == (fn.params.toList ++ s.plain.varTypes P).any (P.ifacesRec ·)) && (c.mapsOut == P.mapsAmong fn.resultTypes.toList) &&
  (c.loops == (fn.params.toList ++ s.plain.varTypes P).any (P.loopsFrom ·)) && (c.wideKeys == (fn.params.toList ++ s.plain.varTypes P ++ fn.resultTypes.toList).any (P.wideKeysFrom ·)) &&
  s.vars.all (P.varReadable ·) && fn.resultTypes.all (fun t => P.readableRec t && decide (t < P.types.size)) && (c.ifacesOut == fn.resultTypes.toList.any (P.ifacesRec ·)) && (c.loopsOut == fn.resultTypes.toList.any (P.loopsFrom ·))) = true)
    (hm : P.mayEnter = true) (hl : P.liftsFinal = c.lifted) (hk : P.make = some c.make) (k7 : ((c.plainKeys == P.plainKeys) && c.shortTexts.isNone && P.stopsHeard && (c.kinds == (if c.domain.isEmpty then [] else fn.params.toList.map fun t => match P.underlying t with | some (.int k) => some k | _ => none)) && (c.pinned == c.pinnedBy) &&
  (c.veiled == (fn.params.toList ++ s.plain.varTypes P ++ fn.resultTypes.toList).any (P.veiledRec ·)) && c.veiledFits P fn.params.toList (fn.params.toList ++ s.plain.varTypes P ++ fn.resultTypes.toList)) = true) : joinedFacts P f fn s c = true := by
  unfold joinedFacts
  simp only [Bool.and_eq_true] at k1 k6 k7 ⊢
  obtain ⟨⟨⟨⟨⟨⟨⟨⟨a1, a2⟩, a3⟩, a4⟩, a5⟩, a6⟩, a7⟩, a8⟩, a9⟩ := k1
  obtain ⟨⟨⟨⟨⟨⟨⟨⟨b1, b2⟩, b3⟩, b4⟩, b5⟩, b6⟩, b7⟩, b8⟩, b9⟩ := k6
  obtain ⟨⟨⟨⟨⟨⟨c1, c2⟩, c3⟩, c4⟩, c5⟩, c6⟩, c7⟩ := k7
  have d1 : (c.lifted == P.liftsFinal) = true := by rw [hl]; exact beq_self_eq_true _
  have d2 : (P.make == some c.make) = true := by rw [hk]; exact beq_self_eq_true _
  repeat' apply And.intro
  all_goals assumption
end Go.Sv
namespace Go.Sv
open Go Go.Proofs Go.Proofs.Ytcnlgmajkclgjaa
set_option maxRecDepth 100000
def orderN : List Nat := [104, 97, 114, 110, 101, 115, 115, 32, 52, 100, 99, 102, 50, 98, 101, 99, 57, 54, 53, 101, 49, 53, 55, 56, 102, 100, 97, 52, 56, 101, 99, 52, 97, 101, 57, 98, 98, 50, 100, 98, 101, 100, 51, 97, 52, 98, 99, 100, 100, 51, 97, 57, 56, 98, 50, 102, 51, 57, 102, 50, 50, 101, 97, 100, 48, 54, 49, 51, 100, 51, 56, 56, 32, 99, 117, 116, 32, 97, 116, 32, 115, 105, 101, 118, 101, 47, 115, 105, 101, 118, 101, 108, 97, 119, 49, 49, 46, 69, 110, 100, 115, 84, 101, 108, 108, 32, 115, 105, 101, 118, 101, 47, 115, 105, 101, 118, 101, 108, 97, 119, 49, 49, 46, 69, 110, 100, 115, 77, 97, 116, 99, 104, 32, 115, 105, 101, 118, 101, 47, 115, 105, 101, 118, 101, 108, 97, 119, 49, 49, 46, 69, 110, 100, 115, 83, 105, 109, 112, 108, 101, 32, 115, 105, 101, 118, 101, 47, 115, 105, 101, 118, 101, 108, 97, 119, 49, 49, 46, 69, 110, 100, 115, 66, 101, 115, 116, 32, 115, 105, 101, 118, 101, 47, 115, 105, 101, 118, 101, 108, 97, 119, 49, 49, 46, 69, 110, 100, 115, 76, 111, 110, 103, 101, 114, 32, 115, 105, 101, 118, 101, 47, 115, 105, 101, 118, 101, 108, 97, 119, 49, 49, 46, 69, 110, 100, 115, 80, 97, 114, 116, 115, 32, 115, 105, 101, 118, 101, 47, 115, 105, 101, 118, 101, 108, 97, 119, 49, 49, 46, 69, 110, 100, 115, 83, 116, 97, 114, 32, 115, 105, 101, 118, 101, 47, 115, 105, 101, 118, 101, 108, 97, 119, 49, 48, 46, 83, 105, 109, 112, 108, 105, 102, 121, 84, 101, 108, 108, 115, 32, 115, 105, 101, 118, 101, 47, 115, 105, 101, 118, 101, 108, 97, 119, 49, 48, 46, 83, 105, 109, 112, 108, 105, 102, 121, 65, 103, 97, 105, 110, 32, 115, 105, 101, 118, 101, 47, 115, 105, 101, 118, 101, 108, 97, 119, 49, 48, 46, 83, 105, 109, 112, 108, 105, 102, 121, 75, 101, 101, 112, 115, 32, 115, 105, 101, 118, 101, 47, 115, 105, 101, 118, 101, 108, 97, 119, 49, 48, 46, 83, 105, 109, 112, 108, 105, 102, 121, 79, 110, 101, 32, 115, 105, 101, 118, 101, 47, 115, 105, 101, 118, 101, 108, 97, 119, 49, 51, 46, 69, 120, 112, 97, 110, 100, 84, 101, 108, 108, 115, 32, 115, 105, 101, 118, 101, 47, 115, 105, 101, 118, 101, 108, 97, 119, 49, 51, 46, 69, 120, 112, 97, 110, 100, 83, 97, 109, 101, 32, 115, 105, 101, 118, 101, 47, 115, 105, 101, 118, 101, 108, 97, 119, 49, 51, 46, 69, 120, 112, 97, 110, 100, 80, 108, 97, 105, 110, 32, 115, 105, 101, 118, 101, 47, 115, 105, 101, 118, 101, 108, 97, 119, 49, 51, 46, 69, 120, 112, 97, 110, 100, 66, 117, 100, 103, 101, 116, 32, 115, 105, 101, 118, 101, 47, 115, 105, 101, 118, 101, 108, 97, 119, 49, 51, 46, 69, 120, 112, 97, 110, 100, 70, 105, 114, 115, 116, 32, 115, 105, 101, 118, 101, 47, 115, 105, 101, 118, 101, 108, 97, 119, 48, 57, 46, 77, 101, 97, 115, 117, 114, 101, 84, 101, 108, 108, 115, 32, 115, 105, 101, 118, 101, 47, 115, 105, 101, 118, 101, 108, 97, 119, 48, 57, 46, 77, 101, 97, 115, 117, 114, 101, 75, 110, 111, 119, 115, 32, 115, 105, 101, 118, 101, 47, 115, 105, 101, 118, 101, 108, 97, 119, 48, 57, 46, 77, 101, 97, 115, 117, 114, 101, 76, 101, 110, 103, 116, 104, 115, 32, 115, 105, 101, 118, 101, 47, 115, 105, 101, 118, 101, 108, 97, 119, 48, 57, 46, 77, 101, 97, 115, 117, 114, 101, 80, 97, 114, 116, 115, 32, 115, 105, 101, 118, 101, 47, 115, 105, 101, 118, 101, 108, 97, 119, 48, 57, 46, 77, 101, 97, 115, 117, 114, 101, 82, 101, 112, 32, 115, 105, 101, 118, 101, 47, 115, 105, 101, 118, 101, 108, 97, 119, 49, 50, 46, 68, 101, 114, 105, 118, 101, 84, 101, 108, 108, 115, 32, 115, 105, 101, 118, 101, 47, 115, 105, 101, 118, 101, 108, 97, 119, 49, 50, 46, 68, 101, 114, 105, 118, 101, 76, 111, 110, 103, 101, 115, 116, 32, 115, 105, 101, 118, 101, 47, 115, 105, 101, 118, 101, 108, 97, 119, 49, 50, 46, 68, 101, 114, 105, 118, 101, 87, 111, 114, 100, 115, 32, 115, 105, 101, 118, 101, 47, 115, 105, 101, 118, 101, 108, 97, 119, 49, 50, 46, 68, 101, 114, 105, 118, 101, 70, 105, 114, 115, 116, 32, 115, 105, 101, 118, 101, 47, 115, 105, 101, 118, 101, 108, 97, 119, 49, 50, 46, 68, 101, 114, 105, 118, 101, 83, 105, 109, 112, 108, 101]
theorem order_eq : Try.prog.initOrder = String.ofList (orderN.map Char.ofNat) := by kernel_rfl
theorem order_list : Try.prog.initOrder.toList = orderN.map Char.ofNat := by rw [order_eq, String.toList_ofList]
theorem ow1 : (stripLifts liftWords (behindMainWord (wordsSigns (orderN.map Char.ofNat)))).1 = [] := by kernel_rfl
theorem ow2 : ((stripLifts liftWords (behindMainWord (wordsSigns (orderN.map Char.ofNat)))).2.head? == some "cut".toList) = true := by kernel_rfl
theorem ow3 : ((behindMainWord (wordsSigns (orderN.map Char.ofNat))).isEmpty = false) := by kernel_rfl
theorem ow4 : ((behindMainWord (wordsSigns (orderN.map Char.ofNat))).head? == some "cut".toList) = true := by kernel_rfl
theorem ow5 : ((behindMainWord (wordsSigns (orderN.map Char.ofNat))).head? == some "carried".toList) = false := by kernel_rfl
theorem ow6 : ((behindMainWord (wordsSigns (orderN.map Char.ofNat))).head? == some "gc".toList) = false := by kernel_rfl
theorem ow7 : ((behindMainWord (wordsSigns (orderN.map Char.ofNat))).head? == some "spec".toList) = false := by kernel_rfl
theorem try_lays : Try.prog.laysLater = false := by kernel_rfl
theorem try_refl : Try.prog.bearsReflect = false := by kernel_rfl
theorem try_door : Try.prog.doorFits [] = true := by kernel_rfl
theorem headLifts_of {P : Program} {l : List Char} (h : P.initOrder.toList = l) (h1 : (stripLifts liftWords (behindMainWord (wordsSigns l))).1 = []) (h2 : ((stripLifts liftWords (behindMainWord (wordsSigns l))).2.head? == some "cut".toList) = true) : P.headLifts = [] := by
  subst h
  unfold Program.headLifts
  simp only [h2, if_true, h1]
theorem try_headLifts : Try.prog.headLifts = [] := headLifts_of order_list ow1 ow2
theorem mayEnter_of {P : Program} {l : List Char} (h : P.initOrder.toList = l) (h1 : (stripLifts liftWords (behindMainWord (wordsSigns l))).1 = []) (h2 : ((stripLifts liftWords (behindMainWord (wordsSigns l))).2.head? == some "cut".toList) = true)
    (h3 : (behindMainWord (wordsSigns l)).isEmpty = false) (k1 : P.laysLater = false) (k2 : P.bearsReflect = false) (k3 : P.doorFits [] = true) : P.mayEnter = true := by
  subst h
  unfold Program.mayEnter
  generalize behindMainWord (wordsSigns P.initOrder.toList) = q at h1 h2 h3 ⊢
  cases q with
  | nil => cases h3
  | cons c rest =>
    have e1 : ([] : List String).contains "finals" = false := rfl
    have e2 : ([] : List String).contains "reflectrows" = false := rfl
    have e3 : ([] : List String).contains "leanrows" = false := rfl
    simp only [h1, h2, k1, k2, k3, e1, e2, e3, Bool.not_false, Bool.or_true, Bool.and_true, Bool.or_self, Bool.and_self]
theorem try_mayEnter : Try.prog.mayEnter = true := mayEnter_of order_list ow1 ow2 ow3 try_lays try_refl try_door
theorem lifts_of {P : Program} {l : List Char} (h : P.initOrder.toList = l) (h5 : ((behindMainWord (wordsSigns l)).head? == some "carried".toList) = false) (k : P.headLifts = []) : P.liftsFinal = false := by
  subst h
  unfold Program.liftsFinal
  rw [k]
  have e1 : ([] : List String).contains "finals" = false := rfl
  simp only [h5, e1, Bool.false_and, Bool.or_self]
theorem try_lifts : Try.prog.liftsFinal = false := lifts_of order_list ow5 try_headLifts
theorem make_of {P : Program} {l : List Char} (h : P.initOrder.toList = l) (h3 : (behindMainWord (wordsSigns l)).isEmpty = false) (h4 : ((behindMainWord (wordsSigns l)).head? == some "cut".toList) = true)
    (h6 : ((behindMainWord (wordsSigns l)).head? == some "gc".toList) = false) (h7 : ((behindMainWord (wordsSigns l)).head? == some "spec".toList) = false) : P.make = some .cut := by
  subst h
  unfold Program.make
  generalize behindMainWord (wordsSigns P.initOrder.toList) = q at h3 h4 h6 h7 ⊢
  cases q with
  | nil => cases h3
  | cons c rest =>
    simp only [List.head?_cons] at h4 h6 h7
    have g : ∀ x : List Char, (some c == some x) = (c == x) := fun x => rfl
    rw [g] at h4 h6 h7
    simp only [h4, h6, h7, Bool.or_self, Bool.false_eq_true, if_false, Bool.true_or, if_true]
theorem try_make : Try.prog.make = some .cut := make_of order_list ow3 ow4 ow6 ow7
end Go.Sv
