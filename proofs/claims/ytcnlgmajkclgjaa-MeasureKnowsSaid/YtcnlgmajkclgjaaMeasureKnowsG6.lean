/- A part of the proof of the law MeasureKnows: that it answers true for every input, and that the input reads behind the call as before (no condition). -/
import Derived.Test.YtcnlgmajkclgjaaMeasureKnowsG5
set_option linter.all false
set_option linter.unusedSectionVars false
set_option linter.unusedVariables false
set_option linter.unusedSimpArgs false
namespace Go.Sv
open Go Go.Proofs
def x151 : XC := (.seq (.ops 1 [
    (0, ⟨(some 2), none, .alloc [(.bool false), (.int .i64 0), (.int .i64 0), (.int .u64 0), (.int .u64 0), (.int .u64 0), (.int .u64 0)]⟩)] (some [0, 2])) (.seq (.seq (.ops 4 [
    (0, ⟨(some 7), none, .mv (.t 0)⟩),
    (1, ⟨(some 8), none, .nilck (.t 7)⟩),
    (2, ⟨(some 9), none, .fadd 0 (.t 8)⟩),
    (3, ⟨(some 10), none, .load none (.t 9)⟩)] (some [0, 2, 10])) (.block 0 (.seq (.ops 2 [
    (0, ⟨(some 12), none, .arith .eql (.t 10) (.k (.d (.val (.int .i64 2))))⟩),
    (1, ⟨(some 11), none, .mv (.t 12)⟩)] (some [0, 2, 10, 11])) (.cond (.t 11) (.seq (.seq (.ops 6 [
    (0, ⟨(some 13), none, .mv (.t 0)⟩),
    (1, ⟨(some 14), none, .nilck (.t 13)⟩),
    (2, ⟨(some 15), none, .fadd 1 (.t 14)⟩),
    (3, ⟨(some 16), none, .load (some 4) (.t 15)⟩),
    (4, ⟨(some 17), none, .build [(.int .u64 0), (.int .u64 0), (.int .u64 0), (.int .u64 0)] []⟩),
    (5, ⟨(some 18), none, .eqAgg 4 false (.t 16) (.t 17)⟩)] (some [0, 2, 18])) (.cond (.t 18) (.seq (.ops 2 [
    (0, ⟨(some 19), none, .call 165 [] none false⟩),
    (1, ⟨none, none, .store 7 (.t 2) (.t 19)⟩)] (some [2])) .ret) .skip)) (.seq (.ops 6 [
    (0, ⟨(some 20), none, .mv (.t 0)⟩),
    (1, ⟨(some 21), none, .nilck (.t 20)⟩),
    (2, ⟨(some 22), none, .fadd 1 (.t 21)⟩),
    (3, ⟨(some 23), none, .load (some 4) (.t 22)⟩),
    (4, ⟨(some 24), none, .build [(.bool false), (.int .i64 0), (.int .i64 0), (.int .u64 0), (.int .u64 0), (.int .u64 0), (.int .u64 0)] [(1, 1, (.k (.d (.val (.int .i64 1))))), (2, 1, (.k (.d (.val (.int .i64 1))))), (3, 4, (.t 23))]⟩),
    (5, ⟨none, none, .store 7 (.t 2) (.t 24)⟩)] (some [2])) .ret)) (.seq (.ops 2 [
    (0, ⟨(some 26), none, .arith .eql (.t 10) (.k (.d (.val (.int .i64 3))))⟩),
    (1, ⟨(some 25), none, .mv (.t 26)⟩)] (some [0, 2, 10, 25])) (.cond (.t 25) (.seq (.ops 3 [
    (0, ⟨(some 27), none, .build [(.bool false), (.int .i64 0), (.int .i64 0), (.int .u64 0), (.int .u64 0), (.int .u64 0), (.int .u64 0)] []⟩),
    (1, ⟨(some 3), none, .alloc [(.bool false), (.int .i64 0), (.int .i64 0), (.int .u64 0), (.int .u64 0), (.int .u64 0), (.int .u64 0)]⟩),
    (2, ⟨none, none, .store 7 (.t 3) (.t 27)⟩)] (some [0, 2, 3])) (.seq (.seq (.ops 6 [
    (0, ⟨(some 28), none, .mv (.t 0)⟩),
    (1, ⟨(some 29), none, .nilck (.t 28)⟩),
    (2, ⟨(some 30), none, .fadd 7 (.t 29)⟩),
    (3, ⟨(some 31), none, .load none (.t 30)⟩),
    (4, ⟨(some 32), none, .lenS (.t 31)⟩),
    (5, ⟨(some 33), none, .mv (.k (.d (.val (.int .i64 0))))⟩)] (some [0, 2, 3, 32, 33])) (.block 1 (.loop (.seq (.ops 1 [
    (0, ⟨(some 34), none, .arith .lss (.t 33) (.t 32)⟩)] (some [0, 2, 3, 32, 33, 34])) (.seq (.cond (.t 34) .skip (.exit 1)) (.seq (.block 2 (.seq (.ops 2 [
    (0, ⟨(some 35), none, .mv (.t 33)⟩),
    (1, ⟨(some 4), none, .mv (.t 35)⟩)] (some [0, 2, 3, 4, 32, 33])) (.ops 10 [
    (0, ⟨(some 36), none, .load (some 7) (.t 3)⟩),
    (1, ⟨(some 37), none, .mv (.t 0)⟩),
    (2, ⟨(some 38), none, .nilck (.t 37)⟩),
    (3, ⟨(some 39), none, .fadd 7 (.t 38)⟩),
    (4, ⟨(some 40), none, .load none (.t 39)⟩),
    (5, ⟨(some 41), none, .mv (.t 4)⟩),
    (6, ⟨(some 42), none, .idxS 8 (.t 40) (.t 41)⟩),
    (7, ⟨(some 43), none, .call 151 [(.t 42)] none false⟩),
    (8, ⟨(some 44), none, .call 166 [(.t 36), (.t 43)] none false⟩),
    (9, ⟨none, none, .store 7 (.t 3) (.t 44)⟩)] (some [0, 2, 3, 32, 33])))) (.ops 2 [
    (0, ⟨(some 45), none, .arith .add (.t 33) (.k (.d (.val (.int .i64 1))))⟩),
    (1, ⟨(some 33), none, .mv (.t 45)⟩)] (some [0, 2, 3, 32, 33])))))))) (.seq (.ops 2 [
    (0, ⟨(some 46), none, .load (some 7) (.t 3)⟩),
    (1, ⟨none, none, .store 7 (.t 2) (.t 46)⟩)] (some [2])) .ret))) (.seq (.ops 2 [
    (0, ⟨(some 48), none, .arith .eql (.t 10) (.k (.d (.val (.int .i64 4))))⟩),
    (1, ⟨(some 47), none, .mv (.t 48)⟩)] (some [0, 2, 10, 47])) (.cond (.t 47) (.seq (.ops 3 [
    (0, ⟨(some 49), none, .call 165 [] none false⟩),
    (1, ⟨(some 5), none, .alloc [(.bool false), (.int .i64 0), (.int .i64 0), (.int .u64 0), (.int .u64 0), (.int .u64 0), (.int .u64 0)]⟩),
    (2, ⟨none, none, .store 7 (.t 5) (.t 49)⟩)] (some [0, 2, 5])) (.seq (.seq (.ops 6 [
    (0, ⟨(some 50), none, .mv (.t 0)⟩),
    (1, ⟨(some 51), none, .nilck (.t 50)⟩),
    (2, ⟨(some 52), none, .fadd 7 (.t 51)⟩),
    (3, ⟨(some 53), none, .load none (.t 52)⟩),
    (4, ⟨(some 54), none, .lenS (.t 53)⟩),
    (5, ⟨(some 55), none, .mv (.k (.d (.val (.int .i64 0))))⟩)] (some [0, 2, 5, 54, 55])) (.block 3 (.loop (.seq (.ops 1 [
    (0, ⟨(some 56), none, .arith .lss (.t 55) (.t 54)⟩)] (some [0, 2, 5, 54, 55, 56])) (.seq (.cond (.t 56) .skip (.exit 3)) (.seq (.block 4 (.seq (.ops 2 [
    (0, ⟨(some 57), none, .mv (.t 55)⟩),
    (1, ⟨(some 6), none, .mv (.t 57)⟩)] (some [0, 2, 5, 6, 54, 55])) (.ops 10 [
    (0, ⟨(some 58), none, .load (some 7) (.t 5)⟩),
    (1, ⟨(some 59), none, .mv (.t 0)⟩),
    (2, ⟨(some 60), none, .nilck (.t 59)⟩),
    (3, ⟨(some 61), none, .fadd 7 (.t 60)⟩),
    (4, ⟨(some 62), none, .load none (.t 61)⟩),
    (5, ⟨(some 63), none, .mv (.t 6)⟩),
    (6, ⟨(some 64), none, .idxS 8 (.t 62) (.t 63)⟩),
    (7, ⟨(some 65), none, .call 151 [(.t 64)] none false⟩),
    (8, ⟨(some 66), none, .call 167 [(.t 58), (.t 65)] none false⟩),
    (9, ⟨none, none, .store 7 (.t 5) (.t 66)⟩)] (some [0, 2, 5, 54, 55])))) (.ops 2 [
    (0, ⟨(some 67), none, .arith .add (.t 55) (.k (.d (.val (.int .i64 1))))⟩),
    (1, ⟨(some 55), none, .mv (.t 67)⟩)] (some [0, 2, 5, 54, 55])))))))) (.seq (.ops 2 [
    (0, ⟨(some 68), none, .load (some 7) (.t 5)⟩),
    (1, ⟨none, none, .store 7 (.t 2) (.t 68)⟩)] (some [2])) .ret))) (.seq (.ops 2 [
    (0, ⟨(some 70), none, .arith .eql (.t 10) (.k (.d (.val (.int .i64 5))))⟩),
    (1, ⟨(some 69), none, .mv (.t 70)⟩)] (some [0, 2, 69])) (.cond (.t 69) (.seq (.ops 16 [
    (0, ⟨(some 71), none, .mv (.t 0)⟩),
    (1, ⟨(some 72), none, .nilck (.t 71)⟩),
    (2, ⟨(some 73), none, .fadd 7 (.t 72)⟩),
    (3, ⟨(some 74), none, .load none (.t 73)⟩),
    (4, ⟨(some 75), none, .idxS 8 (.t 74) (.k (.d (.val (.int .i64 0))))⟩),
    (5, ⟨(some 76), none, .call 151 [(.t 75)] none false⟩),
    (6, ⟨(some 77), none, .mv (.t 0)⟩),
    (7, ⟨(some 78), none, .nilck (.t 77)⟩),
    (8, ⟨(some 79), none, .fadd 5 (.t 78)⟩),
    (9, ⟨(some 80), none, .load none (.t 79)⟩),
    (10, ⟨(some 81), none, .mv (.t 0)⟩),
    (11, ⟨(some 82), none, .nilck (.t 81)⟩),
    (12, ⟨(some 83), none, .fadd 6 (.t 82)⟩),
    (13, ⟨(some 84), none, .load none (.t 83)⟩),
    (14, ⟨(some 85), none, .call 168 [(.t 76), (.t 80), (.t 84)] none false⟩),
    (15, ⟨none, none, .store 7 (.t 2) (.t 85)⟩)] (some [2])) .ret) .skip)))))))))) (.seq (.ops 2 [
    (0, ⟨(some 86), none, .build [(.bool false), (.int .i64 0), (.int .i64 0), (.int .u64 0), (.int .u64 0), (.int .u64 0), (.int .u64 0)] []⟩),
    (1, ⟨none, none, .store 7 (.t 2) (.t 86)⟩)] (some [2])) .ret)))
def md151 : FuncId → Option Nat × Bool
  | _ => (none, false)
def od151 : Nat → List (List Nat) × List Nat × Option (List Nat)
  | 0 => ([], [], some [0, 2])
  | 1 => ([], [], some [0, 2, 10])
  | 2 => ([], [], some [0, 2, 10, 11])
  | 3 => ([], [], some [0, 2, 18])
  | 4 => ([], [], some [2])
  | 5 => ([], [], some [2])
  | 6 => ([], [], some [0, 2, 10, 25])
  | 7 => ([], [], some [0, 2, 3])
  | 8 => ([], [], some [0, 2, 3, 32, 33])
  | 9 => ([], [], some [0, 2, 3, 32, 33, 34])
  | 10 => ([], [], some [0, 2, 3, 4, 32, 33])
  | 11 => ([[], [], [1], [1, 2], [1, 2, 3], [], [1, 2, 3, 4, 5], [1, 2, 3, 4, 5, 6], [0, 1, 2, 3, 4, 5, 6, 7], [0, 1, 2, 3, 4, 5, 6, 7, 8]], [0, 1, 2, 3, 4, 5, 6, 7, 8, 9], some [0, 2, 3, 32, 33])
  | 12 => ([], [], some [0, 2, 3, 32, 33])
  | 13 => ([], [], some [2])
  | 14 => ([], [], some [0, 2, 10, 47])
  | 15 => ([], [], some [0, 2, 5])
  | 16 => ([], [], some [0, 2, 5, 54, 55])
  | 17 => ([], [], some [0, 2, 5, 54, 55, 56])
  | 18 => ([], [], some [0, 2, 5, 6, 54, 55])
  | 19 => ([[], [], [1], [1, 2], [1, 2, 3], [], [1, 2, 3, 4, 5], [1, 2, 3, 4, 5, 6], [0, 1, 2, 3, 4, 5, 6, 7], [0, 1, 2, 3, 4, 5, 6, 7, 8]], [0, 1, 2, 3, 4, 5, 6, 7, 8, 9], some [0, 2, 5, 54, 55])
  | 20 => ([], [], some [0, 2, 5, 54, 55])
  | 21 => ([], [], some [2])
  | 22 => ([], [], some [0, 2, 69])
  | 23 => ([[], [0], [0, 1], [0, 1, 2], [0, 1, 2, 3], [0, 1, 2, 3, 4], [], [6], [6, 7], [6, 7, 8], [], [10], [10, 11], [10, 11, 12], [0, 1, 2, 3, 4, 5, 6, 7, 8, 9, 10, 11, 12, 13], [0, 1, 2, 3, 4, 5, 6, 7, 8, 9, 10, 11, 12, 13, 14]], [0, 1, 2, 3, 4, 5, 6, 7, 8, 9, 10, 11, 12, 13, 14, 15], some [2])
  | 24 => ([], [], some [2])
  | _ => ([], [], none)
theorem b151 {ags : List AV} {row : Option (List DV)} {r : AV} {row' nw : Option (List DV)} (hal : ags.length ≤ 87) (hrow : row'.isSome = true → row.isSome = true) (h : xwp Try.prog x151 (retK [.cell 2 (some 7)] row.isSome r row' nw) (St.init ags row)) : Good Try.prog 151 ags row r row' nw :=
  good_of_body' (md := md151) (od := od151) Try.f151 (by kernel_rfl) (by kernel_rfl) (by kernel_rfl) (by kernel_rfl) (by kernel_rfl) hal hrow h

def faC (f : Fa) : List AV := [.b f.no, .i f.lo, .i f.hi, .d (.val (.int .u64 f.a)), .d (.val (.int .u64 f.b)), .d (.val (.int .u64 f.c)), .d (.val (.int .u64 f.d))]
theorem knC_step (l : List T) (i : Nat) (h : i < l.length) (f : Fa) : knC (l.take (i + 1)) f = faThen (knC (l.take i) f) (knT l[i]) := by
  rw [List.take_succ_eq_append_getElem h, knC_app]; rfl
theorem knO_step (l : List T) (i : Nat) (h : i < l.length) (f : Fa) : knO (l.take (i + 1)) f = faOr (knO (l.take i) f) (knT l[i]) := by
  rw [List.take_succ_eq_append_getElem h, knO_app]; rfl
set_option maxRecDepth 100000
set_option maxHeartbeats 4000000
attribute [local irreducible] W E R KP thenK blockK retK Good xwp aRun
theorem know151_good : ∀ (n : Nat) (t : T) (cs : List DV) (off : Nat), NodeAt cs off t → t.cnt ≤ n → n ≤ 1000000 → okT t → bT t ≤ 16384000000000000000 → Good Try.prog 151 [.d (.ptr cs off)] none (faA (knT t)) none none := by
  intro n
  induction n with
  | zero => intro t cs off _ ht; have := cnt_pos t; omega
  | succ n ih =>
  intro t cs off hs ht hc hok hbt
  obtain ⟨k, a, b, c, d, mn, mx, subs⟩ := t
  have hR := okT_R hok
  have hoks := okT_subs hok
  have hno := no165_good
  have eno : faA faNo = .agg [.b true, .i (-1), .i (-1), .d (.val (.int .u64 0)), .d (.val (.int .u64 0)), .d (.val (.int .u64 0)), .d (.val (.int .u64 0))] := rfl
  rw [eno] at hno
  have ih' : ∀ i (h : i < subs.length), Good Try.prog 151 [.d (.ptr (encL subs) (i * 8))] none (faA (knT subs[i])) none none := by
    intro i h
    refine ih _ _ _ (NodeAt.sub h) ?_ (by omega) (okL_get subs i h hoks) ?_
    · have := cntL_get subs i h
      simp only [T.cnt] at ht
      omega
    · have := bT_sub (u := subs[i]) hok (List.getElem_mem h)
      omega
  have hlen : subs.length ≤ 1000000 := by
    have := cntL_len subs
    simp only [T.cnt] at ht
    omega
  have hpw := pw_pos (openT (.node k a b c d mn mx subs)).toNat
  have hsub' : ∀ u ∈ subs, okF (knT u) ((u.cnt : Nat) * pw (openT (.node k a b c d mn mx subs)).toNat) := fun u hu => by
    refine okF_mono (kn_ok u ((okL_iff _).1 hoks u hu)) ?_
    have h1 := sub_open (u := u) hok hu
    exact bT_le (Nat.le_refl _) (by have := open_nonneg _ hok; omega)
  have hsum : ∀ i (h : i < subs.length), ((cntL (subs.take i) : Nat) : Int) * pw (openT (.node k a b c d mn mx subs)).toNat + ((subs[i].cnt : Nat) : Int) * pw (openT (.node k a b c d mn mx subs)).toNat ≤ 16384000000000000000 := by
    intro i h
    have e : cntL (subs.take (i + 1)) = cntL (subs.take i) + subs[i].cnt := by
      rw [List.take_succ_eq_append_getElem h, cntL_app]; simp [cntL]
    have h1 := cntL_take_le subs (i + 1)
    have h2 : ((cntL (subs.take i) + subs[i].cnt : Nat) : Int) * pw (openT (.node k a b c d mn mx subs)).toNat ≤ bT (.node k a b c d mn mx subs) := by
      unfold bT
      exact Int.mul_le_mul_of_nonneg_right (by simp only [T.cnt]; omega) (by omega)
    rw [Int.natCast_add, Int.add_mul] at h2
    omega
  by_cases h2 : k = 2
  · cases hz : isZero a b c d with
    | true =>
      have e : knT (.node k a b c d mn mx subs) = faNo := by rw [knT, if_pos h2, if_pos hz]
      rw [e, eno]
      clear ih ih' hsub' hsum
      refine b151 (by simp) (by simp) (w_init ?_)
      unfold x151
      repeat' (first
    | (apply r_mvV; rfl)
    | (apply r_mvP; rfl)
    | (apply r_mvPL; rfl)
    | (apply r_mvS; rfl)
    | (apply r_mvSL; rfl)
    | (apply r_mvA; rfl)
    | (apply r_mvT; rfl)
    | (apply r_mvF; rfl)
    | (apply r_mvD; rfl)
    | (apply r_nckD; rfl)
    | (apply r_faddD; rfl)
    | (apply r_nckL; rfl)
    | (apply r_faddL; rfl)
    | (apply r_l; apply ld_kind; assumption; rfl)
    | (apply r_l; apply ld_mn; assumption; rfl)
    | (apply r_l; apply ld_mx; assumption; rfl)
    | (apply r_l; apply ld_subs; assumption; rfl)
    | (apply r_l; apply ld_set; assumption; rfl)
    | (apply r_l; apply ld_node; assumption; rfl)
    | (apply r_l; apply ld_kind'; assumption; rfl)
    | (apply r_l; apply ld_mn'; assumption; rfl)
    | (apply r_l; apply ld_mx'; assumption; rfl)
    | (apply r_l; apply ld_subs'; assumption; rfl)
    | (apply r_l; apply ld_node'; assumption; rfl)
    | (apply r_p (v := .agg [.d (.val (.int .u64 0)), .d (.val (.int .u64 0)), .d (.val (.int .u64 0)), .d (.val (.int .u64 0))]); rfl)
    | (apply r_eqX (r := true); rfl; rfl; exact hz)
    | (apply r_callA (f := 165) (ags := []); rfl; rfl; exact hno)
    | (apply r_ldL (v := .agg [.b true, .i (-1), .i (-1), .d (.val (.int .u64 0)), .d (.val (.int .u64 0)), .d (.val (.int .u64 0)), .d (.val (.int .u64 0))]); rfl; rfl; rfl)
    | (apply r_ldL; rfl; rfl; rfl)
    | (apply r_eql; rfl; rfl; (first | (apply decide_eq_true; omega) | (apply decide_eq_false; omega) | rfl))
    | (apply r_lss; rfl; rfl; (first | (apply decide_eq_true; omega) | (apply decide_eq_false; omega) | rfl))
    | (apply r_add; rfl; rfl; rfl; omega)
    | (apply r_lenD; rfl)
    | (apply r_lenL; rfl)
    | (apply r_len0; rfl)
    | (apply r_alloc; ((conv => lhs; simp only [Nat.reduceAdd]) <;> rfl); rfl)
    | (apply r_stL; rfl; rfl; rfl; rfl; (first | rfl | (simp only [z_nil, z_add] <;> rfl)); rfl; rfl)
    | (apply r_p; rfl)
    | (apply r_nilK)
    | (apply r_nil)
    | (apply k_V; rfl)
    | (apply k_P; rfl)
    | (apply k_PL; rfl)
    | (apply k_S; rfl)
    | (apply k_SL; rfl)
    | (apply k_A; rfl)
    | (apply k_T; rfl)
    | (apply k_F; rfl)
    | (apply k_D; rfl; rotate_left; rfl)
    | (apply k_nil)
    | (apply e_ret (vs := [.d (.val _)]); rfl)
    | (apply e_ret; rfl)
    | (apply e_ret' (vs := [.d (.val _)]); rfl)
    | (apply e_ret'; rfl)
    | (apply w_seq)
    | (apply w_ops; ((conv => lhs; simp only [Nat.reduceAdd]) <;> rfl))
    | (apply w_condT; rfl)
    | (apply w_condF; rfl)
    | ((apply w_condS; rfl) <;> (intro h; try simp only [decide_eq_true_eq, decide_eq_false_iff_not, Bool.not_eq_true, Bool.not_eq_false] at h))
    | (apply e_thenN)
    | (apply w_block)
    | (apply e_thenR)
    | (apply e_thenX)
    | (apply e_blkN)
    | (apply e_blkR)
    | (apply e_blkE)
    | (apply w_exit)
    | (apply w_ret)
    | (apply w_skip)
    | (apply e_blkE'; rfl))
      exact .data _ rfl
    | false =>
      have e : knT (.node k a b c d mn mx subs) = ⟨false, 1, 1, a, b, c, d⟩ := by rw [knT, if_pos h2, if_neg (by simp [hz])]
      have e2 : faA ⟨false, 1, 1, a, b, c, d⟩ = .agg [.b false, .i 1, .i 1, .d (.val (.int .u64 a)), .d (.val (.int .u64 b)), .d (.val (.int .u64 c)), .d (.val (.int .u64 d))] := rfl
      rw [e, e2]
      clear ih ih' hsub' hsum
      refine b151 (by simp) (by simp) (w_init ?_)
      unfold x151
      repeat' (first
    | (apply r_mvV; rfl)
    | (apply r_mvP; rfl)
    | (apply r_mvPL; rfl)
    | (apply r_mvS; rfl)
    | (apply r_mvSL; rfl)
    | (apply r_mvA; rfl)
    | (apply r_mvT; rfl)
    | (apply r_mvF; rfl)
    | (apply r_mvD; rfl)
    | (apply r_nckD; rfl)
    | (apply r_faddD; rfl)
    | (apply r_nckL; rfl)
    | (apply r_faddL; rfl)
    | (apply r_l; apply ld_kind; assumption; rfl)
    | (apply r_l; apply ld_mn; assumption; rfl)
    | (apply r_l; apply ld_mx; assumption; rfl)
    | (apply r_l; apply ld_subs; assumption; rfl)
    | (apply r_l; apply ld_set; assumption; rfl)
    | (apply r_l; apply ld_node; assumption; rfl)
    | (apply r_l; apply ld_kind'; assumption; rfl)
    | (apply r_l; apply ld_mn'; assumption; rfl)
    | (apply r_l; apply ld_mx'; assumption; rfl)
    | (apply r_l; apply ld_subs'; assumption; rfl)
    | (apply r_l; apply ld_node'; assumption; rfl)
    | (apply r_p (v := .agg [.d (.val (.int .u64 0)), .d (.val (.int .u64 0)), .d (.val (.int .u64 0)), .d (.val (.int .u64 0))]); rfl)
    | (apply r_eqX (r := false); rfl; rfl; exact hz)
    | (apply r_p (v := .agg [.b false, .i 1, .i 1, .d (.val (.int .u64 a)), .d (.val (.int .u64 b)), .d (.val (.int .u64 c)), .d (.val (.int .u64 d))]); rfl)
    | (apply r_ldL; rfl; rfl; rfl)
    | (apply r_eql; rfl; rfl; (first | (apply decide_eq_true; omega) | (apply decide_eq_false; omega) | rfl))
    | (apply r_lss; rfl; rfl; (first | (apply decide_eq_true; omega) | (apply decide_eq_false; omega) | rfl))
    | (apply r_add; rfl; rfl; rfl; omega)
    | (apply r_lenD; rfl)
    | (apply r_lenL; rfl)
    | (apply r_len0; rfl)
    | (apply r_alloc; ((conv => lhs; simp only [Nat.reduceAdd]) <;> rfl); rfl)
    | (apply r_stL; rfl; rfl; rfl; rfl; (first | rfl | (simp only [z_nil, z_add] <;> rfl)); rfl; rfl)
    | (apply r_p; rfl)
    | (apply r_nilK)
    | (apply r_nil)
    | (apply k_V; rfl)
    | (apply k_P; rfl)
    | (apply k_PL; rfl)
    | (apply k_S; rfl)
    | (apply k_SL; rfl)
    | (apply k_A; rfl)
    | (apply k_T; rfl)
    | (apply k_F; rfl)
    | (apply k_D; rfl; rotate_left; rfl)
    | (apply k_nil)
    | (apply e_ret (vs := [.d (.val _)]); rfl)
    | (apply e_ret; rfl)
    | (apply e_ret' (vs := [.d (.val _)]); rfl)
    | (apply e_ret'; rfl)
    | (apply w_seq)
    | (apply w_ops; ((conv => lhs; simp only [Nat.reduceAdd]) <;> rfl))
    | (apply w_condT; rfl)
    | (apply w_condF; rfl)
    | ((apply w_condS; rfl) <;> (intro h; try simp only [decide_eq_true_eq, decide_eq_false_iff_not, Bool.not_eq_true, Bool.not_eq_false] at h))
    | (apply e_thenN)
    | (apply w_block)
    | (apply e_thenR)
    | (apply e_thenX)
    | (apply e_blkN)
    | (apply e_blkR)
    | (apply e_blkE)
    | (apply w_exit)
    | (apply w_ret)
    | (apply w_skip)
    | (apply e_blkE'; rfl))
      exact .data _ rfl
  by_cases h3 : k = 3
  · have e : knT (.node k a b c d mn mx subs) = knC subs faE := by rw [knT, if_neg h2, if_pos h3]
    rw [e]
    have hpre : ∀ i (h : i < subs.length), Good Try.prog 166 [faA (knC (subs.take i) faE), faA (knT subs[i])] none (faA (faThen (knC (subs.take i) faE) (knT subs[i]))) none none := fun i h => by
      have h1 := knC_ok (openT (.node k a b c d mn mx subs)).toNat (subs.take i) faE 0 (Int.le_refl _) (okF_E (Int.le_refl _)) (fun u hu => hsub' u (List.mem_of_mem_take hu))
      rw [Int.zero_add] at h1
      exact then166_good h1 (hsub' _ (List.getElem_mem h)) (Int.mul_nonneg (by omega) (by omega)) (Int.mul_nonneg (by omega) (by omega)) (hsum i h)
    clear ih hsub' hsum hno eno e hbt hoks hok hR ht
    refine b151 (by simp) (by simp) (w_init ?_)
    unfold x151
    repeat' (first
    | (apply r_mvV; rfl)
    | (apply r_mvP; rfl)
    | (apply r_mvPL; rfl)
    | (apply r_mvS; rfl)
    | (apply r_mvSL; rfl)
    | (apply r_mvA; rfl)
    | (apply r_mvT; rfl)
    | (apply r_mvF; rfl)
    | (apply r_mvD; rfl)
    | (apply r_nckD; rfl)
    | (apply r_faddD; rfl)
    | (apply r_nckL; rfl)
    | (apply r_faddL; rfl)
    | (apply r_l; apply ld_kind; assumption; rfl)
    | (apply r_l; apply ld_mn; assumption; rfl)
    | (apply r_l; apply ld_mx; assumption; rfl)
    | (apply r_l; apply ld_subs; assumption; rfl)
    | (apply r_l; apply ld_set; assumption; rfl)
    | (apply r_l; apply ld_node; assumption; rfl)
    | (apply r_l; apply ld_kind'; assumption; rfl)
    | (apply r_l; apply ld_mn'; assumption; rfl)
    | (apply r_l; apply ld_mx'; assumption; rfl)
    | (apply r_l; apply ld_subs'; assumption; rfl)
    | (apply r_l; apply ld_node'; assumption; rfl)
    | (apply r_p (v := .agg [.b false, .i 0, .i 0, .d (.val (.int .u64 0)), .d (.val (.int .u64 0)), .d (.val (.int .u64 0)), .d (.val (.int .u64 0))]); rfl)
    | (apply r_ldL; rfl; rfl; rfl)
    | (apply r_eql; rfl; rfl; (first | (apply decide_eq_true; omega) | (apply decide_eq_false; omega) | rfl))
    | (apply r_lss; rfl; rfl; (first | (apply decide_eq_true; omega) | (apply decide_eq_false; omega) | rfl))
    | (apply r_add; rfl; rfl; rfl; omega)
    | (apply r_lenD; rfl)
    | (apply r_lenL; rfl)
    | (apply r_len0; rfl)
    | (apply r_alloc; ((conv => lhs; simp only [Nat.reduceAdd]) <;> rfl); rfl)
    | (apply r_stL; rfl; rfl; rfl; rfl; (first | rfl | (simp only [z_nil, z_add] <;> rfl)); rfl; rfl)
    | (apply r_p; rfl)
    | (apply r_nilK)
    | (apply r_nil)
    | (apply k_V; rfl)
    | (apply k_P; rfl)
    | (apply k_PL; rfl)
    | (apply k_S; rfl)
    | (apply k_SL; rfl)
    | (apply k_A; rfl)
    | (apply k_T; rfl)
    | (apply k_F; rfl)
    | (apply k_D; rfl; rotate_left; rfl)
    | (apply k_nil)
    | (apply e_ret (vs := [.d (.val _)]); rfl)
    | (apply e_ret; rfl)
    | (apply e_ret' (vs := [.d (.val _)]); rfl)
    | (apply e_ret'; rfl)
    | (apply w_seq)
    | (apply w_ops; ((conv => lhs; simp only [Nat.reduceAdd]) <;> rfl))
    | (apply w_condT; rfl)
    | (apply w_condF; rfl)
    | ((apply w_condS; rfl) <;> (intro h; try simp only [decide_eq_true_eq, decide_eq_false_iff_not, Bool.not_eq_true, Bool.not_eq_false] at h))
    | (apply e_thenN)
    | (apply w_block)
    | (apply e_thenR)
    | (apply e_thenX)
    | (apply e_blkN)
    | (apply e_blkR)
    | (apply e_blkE)
    | (apply w_exit)
    | (apply w_ret)
    | (apply w_skip)
    | (apply e_blkE'; rfl))
    apply w_loopI (S := fun i : Nat => ⟨((((Fr.nil.put 0 (.d (.ptr cs off))).put 2 (.ptrL 1 0)).put 3 (.ptrL 11 0)).put 32 (.i subs.length)).put 33 (.i i), rowsOf [(1, [.b false, .i 0, .i 0, .d (.val (.int .u64 0)), .d (.val (.int .u64 0)), .d (.val (.int .u64 0)), .d (.val (.int .u64 0))]), (11, faC (knC (subs.take i) faE))], Frz.buts 100 [1, 11], 100⟩) (m := fun i => subs.length - i) (I := fun i => i ≤ subs.length) (i0 := 0)
    · exact Nat.zero_le _
    · refine wkM [] [] rfl ?_ ?_ rfl ?_
      · intro p hp
        simp only [List.mem_cons, List.not_mem_nil, or_false] at hp
        rcases hp with rfl | rfl
        · exact ⟨by omega, .inr ⟨rfl, _, rfl, .data rfl⟩⟩
        · exact ⟨by omega, .inr ⟨rfl, _, rfl, .data rfl⟩⟩
      · intro q hq; simp only [List.mem_cons, List.not_mem_nil, or_false] at hq; rcases hq with rfl | rfl <;> rfl
      · repeat' (first
    | exact FWk.nil
    | (apply FWk.i; rfl; (first | rfl | omega | (simp; done)))
    | (apply FWk.sl; rfl; rfl; rfl; rfl; omega; rfl)
    | (apply FWk.ptr; rfl; rfl; rfl; omega; rfl)
    | (apply FWk.d; rfl; rfl)
    | (apply FWk.a; rfl; rfl; rfl)
    | (apply FWk.slN; rfl; omega; rfl))
    intro i K hi hK
    dsimp only
    rcases Nat.lt_or_ge i subs.length with hlt | hge
    · have hg := hpre i hlt
      have hgs := ih' i hlt
      rw [← knC_step subs i hlt] at hg
      have fin : ∀ fr C Z nx, Wk ⟨fr, C, Z, nx⟩ ⟨((((Fr.nil.put 0 (.d (.ptr cs off))).put 2 (.ptrL 1 0)).put 3 (.ptrL 11 0)).put 32 (.i subs.length)).put 33 (.i ((i + 1 : Nat) : Int)), rowsOf [(1, [.b false, .i 0, .i 0, .d (.val (.int .u64 0)), .d (.val (.int .u64 0)), .d (.val (.int .u64 0)), .d (.val (.int .u64 0))]), (11, faC (knC (subs.take (i + 1)) faE))], Frz.buts 100 [1, 11], 100⟩ → K ⟨fr, C, Z, nx⟩ := fun fr C Z nx hw => hK (i + 1) fr C Z nx (by omega) (by omega) hw
      generalize knC (subs.take (i + 1)) faE = f2 at hg fin
      generalize knC (subs.take i) faE = f1 at hg ⊢
      generalize knT subs[i] = g at hg hgs
      repeat' (first
    | (apply r_mvV; rfl)
    | (apply r_mvP; rfl)
    | (apply r_mvPL; rfl)
    | (apply r_mvS; rfl)
    | (apply r_mvSL; rfl)
    | (apply r_mvA; rfl)
    | (apply r_mvT; rfl)
    | (apply r_mvF; rfl)
    | (apply r_mvD; rfl)
    | (apply r_nckD; rfl)
    | (apply r_faddD; rfl)
    | (apply r_nckL; rfl)
    | (apply r_faddL; rfl)
    | (apply r_l; apply ld_kind; assumption; rfl)
    | (apply r_l; apply ld_mn; assumption; rfl)
    | (apply r_l; apply ld_mx; assumption; rfl)
    | (apply r_l; apply ld_subs; assumption; rfl)
    | (apply r_l; apply ld_set; assumption; rfl)
    | (apply r_l; apply ld_node; assumption; rfl)
    | (apply r_l; apply ld_kind'; assumption; rfl)
    | (apply r_l; apply ld_mn'; assumption; rfl)
    | (apply r_l; apply ld_mx'; assumption; rfl)
    | (apply r_l; apply ld_subs'; assumption; rfl)
    | (apply r_l; apply ld_node'; assumption; rfl)
    | (apply r_p; apply ix_sub; rfl; rfl; omega)
    | (apply r_callA (f := 151); rfl; rfl; exact hgs)
    | (apply r_ldL (v := faA f1); rfl; rfl; rfl)
    | (apply r_callA (f := 166) (ags := [faA f1, faA g]); rfl; rfl; exact hg)
    | (apply r_ldL; rfl; rfl; rfl)
    | (apply r_eql; rfl; rfl; (first | (apply decide_eq_true; omega) | (apply decide_eq_false; omega) | rfl))
    | (apply r_lss; rfl; rfl; (first | (apply decide_eq_true; omega) | (apply decide_eq_false; omega) | rfl))
    | (apply r_add; rfl; rfl; rfl; omega)
    | (apply r_lenD; rfl)
    | (apply r_lenL; rfl)
    | (apply r_len0; rfl)
    | (apply r_alloc; ((conv => lhs; simp only [Nat.reduceAdd]) <;> rfl); rfl)
    | (apply r_stL; rfl; rfl; rfl; rfl; (first | rfl | (simp only [z_nil, z_add] <;> rfl)); rfl; rfl)
    | (apply r_p; rfl)
    | (apply r_nilK)
    | (apply r_nil)
    | (apply k_V; rfl)
    | (apply k_P; rfl)
    | (apply k_PL; rfl)
    | (apply k_S; rfl)
    | (apply k_SL; rfl)
    | (apply k_A; rfl)
    | (apply k_T; rfl)
    | (apply k_F; rfl)
    | (apply k_D; rfl; rotate_left; rfl)
    | (apply k_nil)
    | (apply e_ret (vs := [.d (.val _)]); rfl)
    | (apply e_ret; rfl)
    | (apply e_ret' (vs := [.d (.val _)]); rfl)
    | (apply e_ret'; rfl)
    | (apply w_seq)
    | (apply w_ops; ((conv => lhs; simp only [Nat.reduceAdd]) <;> rfl))
    | (apply w_condT; rfl)
    | (apply w_condF; rfl)
    | ((apply w_condS; rfl) <;> (intro h; try simp only [decide_eq_true_eq, decide_eq_false_iff_not, Bool.not_eq_true, Bool.not_eq_false] at h))
    | (apply e_thenN)
    | (apply w_block)
    | (apply e_thenR)
    | (apply e_thenX)
    | (apply e_blkN)
    | (apply e_blkR)
    | (apply e_blkE)
    | (apply w_exit)
    | (apply w_ret)
    | (apply w_skip)
    | (apply e_blkE'; rfl))
      apply e_thenK
      apply fin
      refine wkM [] [] rfl ?_ ?_ rfl ?_
      · intro p hp
        simp only [List.mem_cons, List.not_mem_nil, or_false] at hp
        rcases hp with rfl | rfl
        · exact ⟨by omega, .inr ⟨rfl, _, rfl, .data rfl⟩⟩
        · exact ⟨by omega, .inr ⟨rfl, _, rfl, .data rfl⟩⟩
      · intro q hq; simp only [List.mem_cons, List.not_mem_nil, or_false] at hq; rcases hq with rfl | rfl <;> rfl
      · repeat' (first
    | exact FWk.nil
    | (apply FWk.i; rfl; (first | rfl | omega | (simp; done)))
    | (apply FWk.sl; rfl; rfl; rfl; rfl; omega; rfl)
    | (apply FWk.ptr; rfl; rfl; rfl; omega; rfl)
    | (apply FWk.d; rfl; rfl)
    | (apply FWk.a; rfl; rfl; rfl)
    | (apply FWk.slN; rfl; omega; rfl))
    · rw [List.take_of_length_le hge]
      generalize knC subs faE = f1
      repeat' (first
    | (apply r_mvV; rfl)
    | (apply r_mvP; rfl)
    | (apply r_mvPL; rfl)
    | (apply r_mvS; rfl)
    | (apply r_mvSL; rfl)
    | (apply r_mvA; rfl)
    | (apply r_mvT; rfl)
    | (apply r_mvF; rfl)
    | (apply r_mvD; rfl)
    | (apply r_nckD; rfl)
    | (apply r_faddD; rfl)
    | (apply r_nckL; rfl)
    | (apply r_faddL; rfl)
    | (apply r_l; apply ld_kind; assumption; rfl)
    | (apply r_l; apply ld_mn; assumption; rfl)
    | (apply r_l; apply ld_mx; assumption; rfl)
    | (apply r_l; apply ld_subs; assumption; rfl)
    | (apply r_l; apply ld_set; assumption; rfl)
    | (apply r_l; apply ld_node; assumption; rfl)
    | (apply r_l; apply ld_kind'; assumption; rfl)
    | (apply r_l; apply ld_mn'; assumption; rfl)
    | (apply r_l; apply ld_mx'; assumption; rfl)
    | (apply r_l; apply ld_subs'; assumption; rfl)
    | (apply r_l; apply ld_node'; assumption; rfl)
    | (apply r_ldL (v := faA f1); rfl; rfl; rfl)
    | (apply r_ldL; rfl; rfl; rfl)
    | (apply r_eql; rfl; rfl; (first | (apply decide_eq_true; omega) | (apply decide_eq_false; omega) | rfl))
    | (apply r_lss; rfl; rfl; (first | (apply decide_eq_true; omega) | (apply decide_eq_false; omega) | rfl))
    | (apply r_add; rfl; rfl; rfl; omega)
    | (apply r_lenD; rfl)
    | (apply r_lenL; rfl)
    | (apply r_len0; rfl)
    | (apply r_alloc; ((conv => lhs; simp only [Nat.reduceAdd]) <;> rfl); rfl)
    | (apply r_stL; rfl; rfl; rfl; rfl; (first | rfl | (simp only [z_nil, z_add] <;> rfl)); rfl; rfl)
    | (apply r_p; rfl)
    | (apply r_nilK)
    | (apply r_nil)
    | (apply k_V; rfl)
    | (apply k_P; rfl)
    | (apply k_PL; rfl)
    | (apply k_S; rfl)
    | (apply k_SL; rfl)
    | (apply k_A; rfl)
    | (apply k_T; rfl)
    | (apply k_F; rfl)
    | (apply k_D; rfl; rotate_left; rfl)
    | (apply k_nil)
    | (apply e_ret (vs := [.d (.val _)]); rfl)
    | (apply e_ret; rfl)
    | (apply e_ret' (vs := [.d (.val _)]); rfl)
    | (apply e_ret'; rfl)
    | (apply w_seq)
    | (apply w_ops; ((conv => lhs; simp only [Nat.reduceAdd]) <;> rfl))
    | (apply w_condT; rfl)
    | (apply w_condF; rfl)
    | ((apply w_condS; rfl) <;> (intro h; try simp only [decide_eq_true_eq, decide_eq_false_iff_not, Bool.not_eq_true, Bool.not_eq_false] at h))
    | (apply e_thenN)
    | (apply w_block)
    | (apply e_thenR)
    | (apply e_thenX)
    | (apply e_blkN)
    | (apply e_blkR)
    | (apply e_blkE)
    | (apply w_exit)
    | (apply w_ret)
    | (apply w_skip)
    | (apply e_blkE'; rfl))
      exact .data _ rfl
  by_cases h4 : k = 4
  · have e : knT (.node k a b c d mn mx subs) = knO subs faNo := by rw [knT, if_neg h2, if_neg h3, if_pos h4]
    rw [e]
    have hpre : ∀ i (h : i < subs.length), Good Try.prog 167 [faA (knO (subs.take i) faNo), faA (knT subs[i])] none (faA (faOr (knO (subs.take i) faNo) (knT subs[i]))) none none := fun i h => by
      have h1 := knO_ok (openT (.node k a b c d mn mx subs)).toNat (subs.take i) faNo 0 (Int.le_refl _) (okF_no (Int.le_refl _)) (fun u hu => hsub' u (List.mem_of_mem_take hu))
      rw [Int.zero_add] at h1
      exact or167_good h1 (hsub' _ (List.getElem_mem h)) (Int.mul_nonneg (by omega) (by omega)) (Int.mul_nonneg (by omega) (by omega)) (hsum i h)
    clear ih hsub' hsum e hbt hoks hok hR ht
    refine b151 (by simp) (by simp) (w_init ?_)
    unfold x151
    repeat' (first
    | (apply r_mvV; rfl)
    | (apply r_mvP; rfl)
    | (apply r_mvPL; rfl)
    | (apply r_mvS; rfl)
    | (apply r_mvSL; rfl)
    | (apply r_mvA; rfl)
    | (apply r_mvT; rfl)
    | (apply r_mvF; rfl)
    | (apply r_mvD; rfl)
    | (apply r_nckD; rfl)
    | (apply r_faddD; rfl)
    | (apply r_nckL; rfl)
    | (apply r_faddL; rfl)
    | (apply r_l; apply ld_kind; assumption; rfl)
    | (apply r_l; apply ld_mn; assumption; rfl)
    | (apply r_l; apply ld_mx; assumption; rfl)
    | (apply r_l; apply ld_subs; assumption; rfl)
    | (apply r_l; apply ld_set; assumption; rfl)
    | (apply r_l; apply ld_node; assumption; rfl)
    | (apply r_l; apply ld_kind'; assumption; rfl)
    | (apply r_l; apply ld_mn'; assumption; rfl)
    | (apply r_l; apply ld_mx'; assumption; rfl)
    | (apply r_l; apply ld_subs'; assumption; rfl)
    | (apply r_l; apply ld_node'; assumption; rfl)
    | (apply r_callA (f := 165) (ags := []); rfl; rfl; exact hno)
    | (apply r_ldL; rfl; rfl; rfl)
    | (apply r_eql; rfl; rfl; (first | (apply decide_eq_true; omega) | (apply decide_eq_false; omega) | rfl))
    | (apply r_lss; rfl; rfl; (first | (apply decide_eq_true; omega) | (apply decide_eq_false; omega) | rfl))
    | (apply r_add; rfl; rfl; rfl; omega)
    | (apply r_lenD; rfl)
    | (apply r_lenL; rfl)
    | (apply r_len0; rfl)
    | (apply r_alloc; ((conv => lhs; simp only [Nat.reduceAdd]) <;> rfl); rfl)
    | (apply r_stL; rfl; rfl; rfl; rfl; (first | rfl | (simp only [z_nil, z_add] <;> rfl)); rfl; rfl)
    | (apply r_p; rfl)
    | (apply r_nilK)
    | (apply r_nil)
    | (apply k_V; rfl)
    | (apply k_P; rfl)
    | (apply k_PL; rfl)
    | (apply k_S; rfl)
    | (apply k_SL; rfl)
    | (apply k_A; rfl)
    | (apply k_T; rfl)
    | (apply k_F; rfl)
    | (apply k_D; rfl; rotate_left; rfl)
    | (apply k_nil)
    | (apply e_ret (vs := [.d (.val _)]); rfl)
    | (apply e_ret; rfl)
    | (apply e_ret' (vs := [.d (.val _)]); rfl)
    | (apply e_ret'; rfl)
    | (apply w_seq)
    | (apply w_ops; ((conv => lhs; simp only [Nat.reduceAdd]) <;> rfl))
    | (apply w_condT; rfl)
    | (apply w_condF; rfl)
    | ((apply w_condS; rfl) <;> (intro h; try simp only [decide_eq_true_eq, decide_eq_false_iff_not, Bool.not_eq_true, Bool.not_eq_false] at h))
    | (apply e_thenN)
    | (apply w_block)
    | (apply e_thenR)
    | (apply e_thenX)
    | (apply e_blkN)
    | (apply e_blkR)
    | (apply e_blkE)
    | (apply w_exit)
    | (apply w_ret)
    | (apply w_skip)
    | (apply e_blkE'; rfl))
    apply w_loopI (S := fun i : Nat => ⟨((((Fr.nil.put 0 (.d (.ptr cs off))).put 2 (.ptrL 1 0)).put 5 (.ptrL 13 0)).put 54 (.i subs.length)).put 55 (.i i), rowsOf [(1, [.b false, .i 0, .i 0, .d (.val (.int .u64 0)), .d (.val (.int .u64 0)), .d (.val (.int .u64 0)), .d (.val (.int .u64 0))]), (13, faC (knO (subs.take i) faNo))], Frz.buts 100 [1, 13], 100⟩) (m := fun i => subs.length - i) (I := fun i => i ≤ subs.length) (i0 := 0)
    · exact Nat.zero_le _
    · refine wkM [] [] rfl ?_ ?_ rfl ?_
      · intro p hp
        simp only [List.mem_cons, List.not_mem_nil, or_false] at hp
        rcases hp with rfl | rfl
        · exact ⟨by omega, .inr ⟨rfl, _, rfl, .data rfl⟩⟩
        · exact ⟨by omega, .inr ⟨rfl, _, rfl, .data rfl⟩⟩
      · intro q hq; simp only [List.mem_cons, List.not_mem_nil, or_false] at hq; rcases hq with rfl | rfl <;> rfl
      · repeat' (first
    | exact FWk.nil
    | (apply FWk.i; rfl; (first | rfl | omega | (simp; done)))
    | (apply FWk.sl; rfl; rfl; rfl; rfl; omega; rfl)
    | (apply FWk.ptr; rfl; rfl; rfl; omega; rfl)
    | (apply FWk.d; rfl; rfl)
    | (apply FWk.a; rfl; rfl; rfl)
    | (apply FWk.slN; rfl; omega; rfl))
    intro i K hi hK
    dsimp only
    rcases Nat.lt_or_ge i subs.length with hlt | hge
    · have hg := hpre i hlt
      have hgs := ih' i hlt
      rw [← knO_step subs i hlt] at hg
      have fin : ∀ fr C Z nx, Wk ⟨fr, C, Z, nx⟩ ⟨((((Fr.nil.put 0 (.d (.ptr cs off))).put 2 (.ptrL 1 0)).put 5 (.ptrL 13 0)).put 54 (.i subs.length)).put 55 (.i ((i + 1 : Nat) : Int)), rowsOf [(1, [.b false, .i 0, .i 0, .d (.val (.int .u64 0)), .d (.val (.int .u64 0)), .d (.val (.int .u64 0)), .d (.val (.int .u64 0))]), (13, faC (knO (subs.take (i + 1)) faNo))], Frz.buts 100 [1, 13], 100⟩ → K ⟨fr, C, Z, nx⟩ := fun fr C Z nx hw => hK (i + 1) fr C Z nx (by omega) (by omega) hw
      generalize knO (subs.take (i + 1)) faNo = f2 at hg fin
      generalize knO (subs.take i) faNo = f1 at hg ⊢
      generalize knT subs[i] = g at hg hgs
      repeat' (first
    | (apply r_mvV; rfl)
    | (apply r_mvP; rfl)
    | (apply r_mvPL; rfl)
    | (apply r_mvS; rfl)
    | (apply r_mvSL; rfl)
    | (apply r_mvA; rfl)
    | (apply r_mvT; rfl)
    | (apply r_mvF; rfl)
    | (apply r_mvD; rfl)
    | (apply r_nckD; rfl)
    | (apply r_faddD; rfl)
    | (apply r_nckL; rfl)
    | (apply r_faddL; rfl)
    | (apply r_l; apply ld_kind; assumption; rfl)
    | (apply r_l; apply ld_mn; assumption; rfl)
    | (apply r_l; apply ld_mx; assumption; rfl)
    | (apply r_l; apply ld_subs; assumption; rfl)
    | (apply r_l; apply ld_set; assumption; rfl)
    | (apply r_l; apply ld_node; assumption; rfl)
    | (apply r_l; apply ld_kind'; assumption; rfl)
    | (apply r_l; apply ld_mn'; assumption; rfl)
    | (apply r_l; apply ld_mx'; assumption; rfl)
    | (apply r_l; apply ld_subs'; assumption; rfl)
    | (apply r_l; apply ld_node'; assumption; rfl)
    | (apply r_p; apply ix_sub; rfl; rfl; omega)
    | (apply r_callA (f := 151); rfl; rfl; exact hgs)
    | (apply r_ldL (v := faA f1); rfl; rfl; rfl)
    | (apply r_callA (f := 167) (ags := [faA f1, faA g]); rfl; rfl; exact hg)
    | (apply r_ldL; rfl; rfl; rfl)
    | (apply r_eql; rfl; rfl; (first | (apply decide_eq_true; omega) | (apply decide_eq_false; omega) | rfl))
    | (apply r_lss; rfl; rfl; (first | (apply decide_eq_true; omega) | (apply decide_eq_false; omega) | rfl))
    | (apply r_add; rfl; rfl; rfl; omega)
    | (apply r_lenD; rfl)
    | (apply r_lenL; rfl)
    | (apply r_len0; rfl)
    | (apply r_alloc; ((conv => lhs; simp only [Nat.reduceAdd]) <;> rfl); rfl)
    | (apply r_stL; rfl; rfl; rfl; rfl; (first | rfl | (simp only [z_nil, z_add] <;> rfl)); rfl; rfl)
    | (apply r_p; rfl)
    | (apply r_nilK)
    | (apply r_nil)
    | (apply k_V; rfl)
    | (apply k_P; rfl)
    | (apply k_PL; rfl)
    | (apply k_S; rfl)
    | (apply k_SL; rfl)
    | (apply k_A; rfl)
    | (apply k_T; rfl)
    | (apply k_F; rfl)
    | (apply k_D; rfl; rotate_left; rfl)
    | (apply k_nil)
    | (apply e_ret (vs := [.d (.val _)]); rfl)
    | (apply e_ret; rfl)
    | (apply e_ret' (vs := [.d (.val _)]); rfl)
    | (apply e_ret'; rfl)
    | (apply w_seq)
    | (apply w_ops; ((conv => lhs; simp only [Nat.reduceAdd]) <;> rfl))
    | (apply w_condT; rfl)
    | (apply w_condF; rfl)
    | ((apply w_condS; rfl) <;> (intro h; try simp only [decide_eq_true_eq, decide_eq_false_iff_not, Bool.not_eq_true, Bool.not_eq_false] at h))
    | (apply e_thenN)
    | (apply w_block)
    | (apply e_thenR)
    | (apply e_thenX)
    | (apply e_blkN)
    | (apply e_blkR)
    | (apply e_blkE)
    | (apply w_exit)
    | (apply w_ret)
    | (apply w_skip)
    | (apply e_blkE'; rfl))
      apply e_thenK
      apply fin
      refine wkM [] [] rfl ?_ ?_ rfl ?_
      · intro p hp
        simp only [List.mem_cons, List.not_mem_nil, or_false] at hp
        rcases hp with rfl | rfl
        · exact ⟨by omega, .inr ⟨rfl, _, rfl, .data rfl⟩⟩
        · exact ⟨by omega, .inr ⟨rfl, _, rfl, .data rfl⟩⟩
      · intro q hq; simp only [List.mem_cons, List.not_mem_nil, or_false] at hq; rcases hq with rfl | rfl <;> rfl
      · repeat' (first
    | exact FWk.nil
    | (apply FWk.i; rfl; (first | rfl | omega | (simp; done)))
    | (apply FWk.sl; rfl; rfl; rfl; rfl; omega; rfl)
    | (apply FWk.ptr; rfl; rfl; rfl; omega; rfl)
    | (apply FWk.d; rfl; rfl)
    | (apply FWk.a; rfl; rfl; rfl)
    | (apply FWk.slN; rfl; omega; rfl))
    · rw [List.take_of_length_le hge]
      generalize knO subs faNo = f1
      repeat' (first
    | (apply r_mvV; rfl)
    | (apply r_mvP; rfl)
    | (apply r_mvPL; rfl)
    | (apply r_mvS; rfl)
    | (apply r_mvSL; rfl)
    | (apply r_mvA; rfl)
    | (apply r_mvT; rfl)
    | (apply r_mvF; rfl)
    | (apply r_mvD; rfl)
    | (apply r_nckD; rfl)
    | (apply r_faddD; rfl)
    | (apply r_nckL; rfl)
    | (apply r_faddL; rfl)
    | (apply r_l; apply ld_kind; assumption; rfl)
    | (apply r_l; apply ld_mn; assumption; rfl)
    | (apply r_l; apply ld_mx; assumption; rfl)
    | (apply r_l; apply ld_subs; assumption; rfl)
    | (apply r_l; apply ld_set; assumption; rfl)
    | (apply r_l; apply ld_node; assumption; rfl)
    | (apply r_l; apply ld_kind'; assumption; rfl)
    | (apply r_l; apply ld_mn'; assumption; rfl)
    | (apply r_l; apply ld_mx'; assumption; rfl)
    | (apply r_l; apply ld_subs'; assumption; rfl)
    | (apply r_l; apply ld_node'; assumption; rfl)
    | (apply r_ldL (v := faA f1); rfl; rfl; rfl)
    | (apply r_ldL; rfl; rfl; rfl)
    | (apply r_eql; rfl; rfl; (first | (apply decide_eq_true; omega) | (apply decide_eq_false; omega) | rfl))
    | (apply r_lss; rfl; rfl; (first | (apply decide_eq_true; omega) | (apply decide_eq_false; omega) | rfl))
    | (apply r_add; rfl; rfl; rfl; omega)
    | (apply r_lenD; rfl)
    | (apply r_lenL; rfl)
    | (apply r_len0; rfl)
    | (apply r_alloc; ((conv => lhs; simp only [Nat.reduceAdd]) <;> rfl); rfl)
    | (apply r_stL; rfl; rfl; rfl; rfl; (first | rfl | (simp only [z_nil, z_add] <;> rfl)); rfl; rfl)
    | (apply r_p; rfl)
    | (apply r_nilK)
    | (apply r_nil)
    | (apply k_V; rfl)
    | (apply k_P; rfl)
    | (apply k_PL; rfl)
    | (apply k_S; rfl)
    | (apply k_SL; rfl)
    | (apply k_A; rfl)
    | (apply k_T; rfl)
    | (apply k_F; rfl)
    | (apply k_D; rfl; rotate_left; rfl)
    | (apply k_nil)
    | (apply e_ret (vs := [.d (.val _)]); rfl)
    | (apply e_ret; rfl)
    | (apply e_ret' (vs := [.d (.val _)]); rfl)
    | (apply e_ret'; rfl)
    | (apply w_seq)
    | (apply w_ops; ((conv => lhs; simp only [Nat.reduceAdd]) <;> rfl))
    | (apply w_condT; rfl)
    | (apply w_condF; rfl)
    | ((apply w_condS; rfl) <;> (intro h; try simp only [decide_eq_true_eq, decide_eq_false_iff_not, Bool.not_eq_true, Bool.not_eq_false] at h))
    | (apply e_thenN)
    | (apply w_block)
    | (apply e_thenR)
    | (apply e_thenX)
    | (apply e_blkN)
    | (apply e_blkR)
    | (apply e_blkE)
    | (apply w_exit)
    | (apply w_ret)
    | (apply w_skip)
    | (apply e_blkE'; rfl))
      exact .data _ rfl
  by_cases h5 : k = 5
  · obtain ⟨u, rfl⟩ : ∃ u, subs = [u] := by
      subst h5; exact plainT_5 (okT_plain hok)
    have e : knT (.node k a b c d mn mx [u]) = faTimes (knT u) mn mx := by rw [knT, if_neg h2, if_neg h3, if_neg h4, if_pos h5, knR]
    rw [e]
    have hr := hR h5
    have hg := ih' 0 (by simp)
    simp only [List.getElem_cons_zero, Nat.zero_mul] at hg
    have hX : ∃ X : Int, 0 ≤ X ∧ okF (knT u) X ∧ 20 * X ≤ 16384000000000000000 := by
      subst h5
      have hou : okT u := (okL_iff _).1 hoks u (by simp)
      have h20 := times_bound hok
      obtain ⟨X, x1, x2, x3⟩ := h20
      exact ⟨X, x1, x2, by omega⟩
    obtain ⟨X, x1, x2, x3⟩ := hX
    have h168 := times168_good x2 x1 hr.1 hr.2 x3
    generalize knT u = g at hg h168
    clear ih ih' hsub' hsum hno eno e hbt hoks hok hR ht x2 x1 x3
    refine b151 (by simp) (by simp) (w_init ?_)
    unfold x151
    repeat' (first
    | (apply r_mvV; rfl)
    | (apply r_mvP; rfl)
    | (apply r_mvPL; rfl)
    | (apply r_mvS; rfl)
    | (apply r_mvSL; rfl)
    | (apply r_mvA; rfl)
    | (apply r_mvT; rfl)
    | (apply r_mvF; rfl)
    | (apply r_mvD; rfl)
    | (apply r_nckD; rfl)
    | (apply r_faddD; rfl)
    | (apply r_nckL; rfl)
    | (apply r_faddL; rfl)
    | (apply r_l; apply ld_kind; assumption; rfl)
    | (apply r_l; apply ld_mn; assumption; rfl)
    | (apply r_l; apply ld_mx; assumption; rfl)
    | (apply r_l; apply ld_subs; assumption; rfl)
    | (apply r_l; apply ld_set; assumption; rfl)
    | (apply r_l; apply ld_node; assumption; rfl)
    | (apply r_l; apply ld_kind'; assumption; rfl)
    | (apply r_l; apply ld_mn'; assumption; rfl)
    | (apply r_l; apply ld_mx'; assumption; rfl)
    | (apply r_l; apply ld_subs'; assumption; rfl)
    | (apply r_l; apply ld_node'; assumption; rfl)
    | (apply r_p; apply ix_sub0; rfl; rfl; simp)
    | (apply r_callA (f := 151); rfl; rfl; exact hg)
    | (apply r_callA (f := 168) (ags := [faA g, .i mn, .i mx]); rfl; rfl; exact h168)
    | (apply r_ldL; rfl; rfl; rfl)
    | (apply r_eql; rfl; rfl; (first | (apply decide_eq_true; omega) | (apply decide_eq_false; omega) | rfl))
    | (apply r_lss; rfl; rfl; (first | (apply decide_eq_true; omega) | (apply decide_eq_false; omega) | rfl))
    | (apply r_add; rfl; rfl; rfl; omega)
    | (apply r_lenD; rfl)
    | (apply r_lenL; rfl)
    | (apply r_len0; rfl)
    | (apply r_alloc; ((conv => lhs; simp only [Nat.reduceAdd]) <;> rfl); rfl)
    | (apply r_stL; rfl; rfl; rfl; rfl; (first | rfl | (simp only [z_nil, z_add] <;> rfl)); rfl; rfl)
    | (apply r_p; rfl)
    | (apply r_nilK)
    | (apply r_nil)
    | (apply k_V; rfl)
    | (apply k_P; rfl)
    | (apply k_PL; rfl)
    | (apply k_S; rfl)
    | (apply k_SL; rfl)
    | (apply k_A; rfl)
    | (apply k_T; rfl)
    | (apply k_F; rfl)
    | (apply k_D; rfl; rotate_left; rfl)
    | (apply k_nil)
    | (apply e_ret (vs := [.d (.val _)]); rfl)
    | (apply e_ret; rfl)
    | (apply e_ret' (vs := [.d (.val _)]); rfl)
    | (apply e_ret'; rfl)
    | (apply w_seq)
    | (apply w_ops; ((conv => lhs; simp only [Nat.reduceAdd]) <;> rfl))
    | (apply w_condT; rfl)
    | (apply w_condF; rfl)
    | ((apply w_condS; rfl) <;> (intro h; try simp only [decide_eq_true_eq, decide_eq_false_iff_not, Bool.not_eq_true, Bool.not_eq_false] at h))
    | (apply e_thenN)
    | (apply w_block)
    | (apply e_thenR)
    | (apply e_thenX)
    | (apply e_blkN)
    | (apply e_blkR)
    | (apply e_blkE)
    | (apply w_exit)
    | (apply w_ret)
    | (apply w_skip)
    | (apply e_blkE'; rfl))
    exact .data _ rfl
  · have e : knT (.node k a b c d mn mx subs) = faE := by rw [knT, if_neg h2, if_neg h3, if_neg h4, if_neg h5]
    have e2 : faA faE = .agg [.b false, .i 0, .i 0, .d (.val (.int .u64 0)), .d (.val (.int .u64 0)), .d (.val (.int .u64 0)), .d (.val (.int .u64 0))] := rfl
    rw [e, e2]
    clear ih ih' hsub' hsum hno eno e hbt hoks hok hR ht
    refine b151 (by simp) (by simp) (w_init ?_)
    unfold x151
    repeat' (first
    | (apply r_mvV; rfl)
    | (apply r_mvP; rfl)
    | (apply r_mvPL; rfl)
    | (apply r_mvS; rfl)
    | (apply r_mvSL; rfl)
    | (apply r_mvA; rfl)
    | (apply r_mvT; rfl)
    | (apply r_mvF; rfl)
    | (apply r_mvD; rfl)
    | (apply r_nckD; rfl)
    | (apply r_faddD; rfl)
    | (apply r_nckL; rfl)
    | (apply r_faddL; rfl)
    | (apply r_l; apply ld_kind; assumption; rfl)
    | (apply r_l; apply ld_mn; assumption; rfl)
    | (apply r_l; apply ld_mx; assumption; rfl)
    | (apply r_l; apply ld_subs; assumption; rfl)
    | (apply r_l; apply ld_set; assumption; rfl)
    | (apply r_l; apply ld_node; assumption; rfl)
    | (apply r_l; apply ld_kind'; assumption; rfl)
    | (apply r_l; apply ld_mn'; assumption; rfl)
    | (apply r_l; apply ld_mx'; assumption; rfl)
    | (apply r_l; apply ld_subs'; assumption; rfl)
    | (apply r_l; apply ld_node'; assumption; rfl)
    | (apply r_p (v := .agg [.b false, .i 0, .i 0, .d (.val (.int .u64 0)), .d (.val (.int .u64 0)), .d (.val (.int .u64 0)), .d (.val (.int .u64 0))]); rfl)
    | (apply r_ldL; rfl; rfl; rfl)
    | (apply r_eql; rfl; rfl; (first | (apply decide_eq_true; omega) | (apply decide_eq_false; omega) | rfl))
    | (apply r_lss; rfl; rfl; (first | (apply decide_eq_true; omega) | (apply decide_eq_false; omega) | rfl))
    | (apply r_add; rfl; rfl; rfl; omega)
    | (apply r_lenD; rfl)
    | (apply r_lenL; rfl)
    | (apply r_len0; rfl)
    | (apply r_alloc; ((conv => lhs; simp only [Nat.reduceAdd]) <;> rfl); rfl)
    | (apply r_stL; rfl; rfl; rfl; rfl; (first | rfl | (simp only [z_nil, z_add] <;> rfl)); rfl; rfl)
    | (apply r_p; rfl)
    | (apply r_nilK)
    | (apply r_nil)
    | (apply k_V; rfl)
    | (apply k_P; rfl)
    | (apply k_PL; rfl)
    | (apply k_S; rfl)
    | (apply k_SL; rfl)
    | (apply k_A; rfl)
    | (apply k_T; rfl)
    | (apply k_F; rfl)
    | (apply k_D; rfl; rotate_left; rfl)
    | (apply k_nil)
    | (apply e_ret (vs := [.d (.val _)]); rfl)
    | (apply e_ret; rfl)
    | (apply e_ret' (vs := [.d (.val _)]); rfl)
    | (apply e_ret'; rfl)
    | (apply w_seq)
    | (apply w_ops; ((conv => lhs; simp only [Nat.reduceAdd]) <;> rfl))
    | (apply w_condT; rfl)
    | (apply w_condF; rfl)
    | ((apply w_condS; rfl) <;> (intro h; try simp only [decide_eq_true_eq, decide_eq_false_iff_not, Bool.not_eq_true, Bool.not_eq_false] at h))
    | (apply e_thenN)
    | (apply w_block)
    | (apply e_thenR)
    | (apply e_thenX)
    | (apply e_blkN)
    | (apply e_blkR)
    | (apply e_blkE)
    | (apply w_exit)
    | (apply w_ret)
    | (apply w_skip)
    | (apply e_blkE'; rfl))
    exact .data _ rfl
end Go.Sv
namespace Go.Sv
open Go Go.Proofs
def x121 : XC := (.seq (.ops 3 [
    (0, ⟨(some 1), none, .box (.t 0)⟩),
    (1, ⟨(some 2), none, .alloc [(.bool false), (.int .i64 0), (.int .i64 0), (.int .u64 0), (.int .u64 0), (.int .u64 0), (.int .u64 0)]⟩),
    (2, ⟨(some 3), none, .mv (.k (.d (.val (.bool false))))⟩)] (some [1, 2])) (.seq (.seq (.ops 3 [
    (0, ⟨(some 4), none, .load (some 8) (.t 1)⟩),
    (1, ⟨(some 5), none, .call 84 [(.t 4)] none false⟩),
    (2, ⟨(some 6), none, .un .not (.t 5)⟩)] (some [1, 2, 6])) (.cond (.t 6) (.seq (.ops 3 [
    (0, ⟨(some 7), none, .build [(.bool false), (.int .i64 0), (.int .i64 0), (.int .u64 0), (.int .u64 0), (.int .u64 0), (.int .u64 0)] []⟩),
    (1, ⟨none, none, .store 7 (.t 2) (.t 7)⟩),
    (2, ⟨(some 3), none, .mv (.k (.d (.val (.bool false))))⟩)] (some [2, 3])) .ret) .skip)) (.seq (.ops 3 [
    (0, ⟨(some 8), none, .call 151 [(.t 1)] none false⟩),
    (1, ⟨none, none, .store 7 (.t 2) (.t 8)⟩),
    (2, ⟨(some 3), none, .mv (.k (.d (.val (.bool true))))⟩)] (some [2, 3])) .ret)))
def md121 : FuncId → Option Nat × Bool
  | _ => (none, false)
def od121 : Nat → List (List Nat) × List Nat × Option (List Nat)
  | 0 => ([], [], some [1, 2])
  | 1 => ([], [], some [1, 2, 6])
  | 2 => ([], [], some [2, 3])
  | 3 => ([], [], some [2, 3])
  | _ => ([], [], none)
theorem b121 {ags : List AV} {row : Option (List DV)} {r : AV} {row' nw : Option (List DV)} (hal : ags.length ≤ 9) (hrow : row'.isSome = true → row.isSome = true) (h : xwp Try.prog x121 (retK [.cell 2 (some 7), .tmp 3] row.isSome r row' nw) (St.init ags row)) : Good Try.prog 121 ags row r row' nw :=
  good_of_body' (md := md121) (od := od121) Try.f121 (by kernel_rfl) (by kernel_rfl) (by kernel_rfl) (by kernel_rfl) (by kernel_rfl) hal hrow h

def x69 : XC := (.seq (.ops 2 [
    (0, ⟨(some 1), none, .box (.t 0)⟩),
    (1, ⟨(some 2), none, .mv (.k (.d (.val (.bool false))))⟩)] (some [1])) (.seq (.ops 8 [
    (0, ⟨(some 6), none, .load (some 8) (.t 1)⟩),
    (1, ⟨(some 7), none, .call 121 [(.t 6)] none false⟩),
    (2, ⟨(some 5), none, .mv (.t 7)⟩),
    (3, ⟨(some 8), none, .ext (.t 5) 0⟩),
    (4, ⟨(some 9), none, .ext (.t 5) 1⟩),
    (5, ⟨(some 3), none, .alloc [(.bool false), (.int .i64 0), (.int .i64 0), (.int .u64 0), (.int .u64 0), (.int .u64 0), (.int .u64 0)]⟩),
    (6, ⟨none, none, .store 7 (.t 3) (.t 8)⟩),
    (7, ⟨(some 4), none, .mv (.t 9)⟩)] (some [3, 4])) (.seq (.ops 12 [
    (0, ⟨(some 10), none, .mv (.t 4)⟩),
    (1, ⟨(some 11), none, .mv (.t 10)⟩),
    (2, ⟨(some 12), (some (11, true)), .fadd 0 (.t 3)⟩),
    (3, ⟨(some 13), (some (11, true)), .load none (.t 12)⟩),
    (4, ⟨(some 14), (some (11, true)), .un .not (.t 13)⟩),
    (5, ⟨(some 15), none, .pick (.t 11) (.t 14) (.k (.d (.val (.bool false))))⟩),
    (6, ⟨(some 16), none, .mv (.t 15)⟩),
    (7, ⟨(some 17), (some (16, true)), .fadd 1 (.t 3)⟩),
    (8, ⟨(some 18), (some (16, true)), .load none (.t 17)⟩),
    (9, ⟨(some 19), (some (16, true)), .arith .eql (.t 18) (.k (.d (.val (.int .i64 0))))⟩),
    (10, ⟨(some 20), none, .pick (.t 16) (.t 19) (.k (.d (.val (.bool false))))⟩),
    (11, ⟨(some 2), none, .mv (.t 20)⟩)] (some [2])) .ret)))
def md69 : FuncId → Option Nat × Bool
  | _ => (none, false)
def od69 : Nat → List (List Nat) × List Nat × Option (List Nat)
  | 0 => ([], [], some [1])
  | 1 => ([], [], some [3, 4])
  | 2 => ([], [], some [2])
  | _ => ([], [], none)
theorem b69 {ags : List AV} {row : Option (List DV)} {r : AV} {row' nw : Option (List DV)} (hal : ags.length ≤ 21) (hrow : row'.isSome = true → row.isSome = true) (h : xwp Try.prog x69 (retK [.tmp 2] row.isSome r row' nw) (St.init ags row)) : Good Try.prog 69 ags row r row' nw :=
  good_of_body' (md := md69) (od := od69) Try.f69 (by kernel_rfl) (by kernel_rfl) (by kernel_rfl) (by kernel_rfl) (by kernel_rfl) hal hrow h

def x70 : XC := (.seq (.ops 2 [
    (0, ⟨(some 1), none, .box (.t 0)⟩),
    (1, ⟨(some 2), none, .alloc [(.int .u64 0), (.int .u64 0), (.int .u64 0), (.int .u64 0)]⟩)] (some [1, 2])) (.seq (.ops 8 [
    (0, ⟨(some 6), none, .load (some 8) (.t 1)⟩),
    (1, ⟨(some 7), none, .call 121 [(.t 6)] none false⟩),
    (2, ⟨(some 5), none, .mv (.t 7)⟩),
    (3, ⟨(some 8), none, .ext (.t 5) 0⟩),
    (4, ⟨(some 9), none, .ext (.t 5) 1⟩),
    (5, ⟨(some 3), none, .alloc [(.bool false), (.int .i64 0), (.int .i64 0), (.int .u64 0), (.int .u64 0), (.int .u64 0), (.int .u64 0)]⟩),
    (6, ⟨none, none, .store 7 (.t 3) (.t 8)⟩),
    (7, ⟨(some 4), none, .mv (.t 9)⟩)] (some [2, 3])) (.seq (.ops 3 [
    (0, ⟨(some 10), none, .fadd 3 (.t 3)⟩),
    (1, ⟨(some 11), none, .load (some 4) (.t 10)⟩),
    (2, ⟨none, none, .store 4 (.t 2) (.t 11)⟩)] (some [2])) .ret)))
def md70 : FuncId → Option Nat × Bool
  | _ => (none, false)
def od70 : Nat → List (List Nat) × List Nat × Option (List Nat)
  | 0 => ([], [], some [1, 2])
  | 1 => ([], [], some [2, 3])
  | 2 => ([], [], some [2])
  | _ => ([], [], none)
theorem b70 {ags : List AV} {row : Option (List DV)} {r : AV} {row' nw : Option (List DV)} (hal : ags.length ≤ 12) (hrow : row'.isSome = true → row.isSome = true) (h : xwp Try.prog x70 (retK [.cell 2 (some 4)] row.isSome r row' nw) (St.init ags row)) : Good Try.prog 70 ags row r row' nw :=
  good_of_body' (md := md70) (od := od70) Try.f70 (by kernel_rfl) (by kernel_rfl) (by kernel_rfl) (by kernel_rfl) (by kernel_rfl) hal hrow h

def x66 : XC := (.seq (.ops 3 [
    (0, ⟨(some 1), none, .box (.t 0)⟩),
    (1, ⟨(some 2), none, .mv (.k (.d (.val (.int .i64 0))))⟩),
    (2, ⟨(some 3), none, .mv (.k (.d (.val (.int .i64 0))))⟩)] (some [1])) (.seq (.ops 8 [
    (0, ⟨(some 7), none, .load (some 8) (.t 1)⟩),
    (1, ⟨(some 8), none, .call 121 [(.t 7)] none false⟩),
    (2, ⟨(some 6), none, .mv (.t 8)⟩),
    (3, ⟨(some 9), none, .ext (.t 6) 0⟩),
    (4, ⟨(some 10), none, .ext (.t 6) 1⟩),
    (5, ⟨(some 4), none, .alloc [(.bool false), (.int .i64 0), (.int .i64 0), (.int .u64 0), (.int .u64 0), (.int .u64 0), (.int .u64 0)]⟩),
    (6, ⟨none, none, .store 7 (.t 4) (.t 9)⟩),
    (7, ⟨(some 5), none, .mv (.t 10)⟩)] (some [4])) (.seq (.ops 6 [
    (0, ⟨(some 11), none, .fadd 1 (.t 4)⟩),
    (1, ⟨(some 12), none, .load none (.t 11)⟩),
    (2, ⟨(some 13), none, .fadd 2 (.t 4)⟩),
    (3, ⟨(some 14), none, .load none (.t 13)⟩),
    (4, ⟨(some 2), none, .mv (.t 12)⟩),
    (5, ⟨(some 3), none, .mv (.t 14)⟩)] (some [2, 3])) .ret)))
def md66 : FuncId → Option Nat × Bool
  | _ => (none, false)
def od66 : Nat → List (List Nat) × List Nat × Option (List Nat)
  | 0 => ([], [], some [1])
  | 1 => ([], [], some [4])
  | 2 => ([[], [0], [], [2], [0, 1], [0, 1, 2, 3, 4]], [0, 1, 2, 3, 4, 5], some [2, 3])
  | _ => ([], [], none)
theorem b66 {ags : List AV} {row : Option (List DV)} {r : AV} {row' nw : Option (List DV)} (hal : ags.length ≤ 15) (hrow : row'.isSome = true → row.isSome = true) (h : xwp Try.prog x66 (retK [.tmp 2, .tmp 3] row.isSome r row' nw) (St.init ags row)) : Good Try.prog 66 ags row r row' nw :=
  good_of_body' (md := md66) (od := od66) Try.f66 (by kernel_rfl) (by kernel_rfl) (by kernel_rfl) (by kernel_rfl) (by kernel_rfl) hal hrow h

def x71 : XC := (.seq (.ops 2 [
    (0, ⟨(some 1), none, .box (.t 0)⟩),
    (1, ⟨(some 2), none, .mv (.k (.d (.val (.bool false))))⟩)] (some [1])) (.seq (.ops 8 [
    (0, ⟨(some 6), none, .load (some 8) (.t 1)⟩),
    (1, ⟨(some 7), none, .call 121 [(.t 6)] none false⟩),
    (2, ⟨(some 5), none, .mv (.t 7)⟩),
    (3, ⟨(some 8), none, .ext (.t 5) 0⟩),
    (4, ⟨(some 9), none, .ext (.t 5) 1⟩),
    (5, ⟨(some 3), none, .alloc [(.bool false), (.int .i64 0), (.int .i64 0), (.int .u64 0), (.int .u64 0), (.int .u64 0), (.int .u64 0)]⟩),
    (6, ⟨none, none, .store 7 (.t 3) (.t 8)⟩),
    (7, ⟨(some 4), none, .mv (.t 9)⟩)] (some [3])) (.seq (.ops 3 [
    (0, ⟨(some 10), none, .fadd 0 (.t 3)⟩),
    (1, ⟨(some 11), none, .load none (.t 10)⟩),
    (2, ⟨(some 2), none, .mv (.t 11)⟩)] (some [2])) .ret)))
def md71 : FuncId → Option Nat × Bool
  | _ => (none, false)
def od71 : Nat → List (List Nat) × List Nat × Option (List Nat)
  | 0 => ([], [], some [1])
  | 1 => ([], [], some [3])
  | 2 => ([], [], some [2])
  | _ => ([], [], none)
theorem b71 {ags : List AV} {row : Option (List DV)} {r : AV} {row' nw : Option (List DV)} (hal : ags.length ≤ 12) (hrow : row'.isSome = true → row.isSome = true) (h : xwp Try.prog x71 (retK [.tmp 2] row.isSome r row' nw) (St.init ags row)) : Good Try.prog 71 ags row r row' nw :=
  good_of_body' (md := md71) (od := od71) Try.f71 (by kernel_rfl) (by kernel_rfl) (by kernel_rfl) (by kernel_rfl) (by kernel_rfl) hal hrow h

set_option maxRecDepth 100000
set_option maxHeartbeats 4000000
attribute [local irreducible] W E R KP thenK blockK retK Good xwp aRun
def ofK (t : T) : Fa := if fitsT t 12 = true then knT t else faE
theorem of121_good (t : T) (hc : t.cnt ≤ 200) (hok : fitsT t 12 = true → okT t) : Good Try.prog 121 [nodeA t] none (.tup [faA (ofK t), .b (fitsT t 12)]) none none := by
  have hright := right_good t (by omega)
  have hk := fun (h : fitsT t 12 = true) => know151_good 1000000 t (encN t) 0 (NodeAt.self _) (by omega) (Nat.le_refl _) (hok h) (bT_few hc h)
  have eE : faA faE = .agg [.b false, .i 0, .i 0, .d (.val (.int .u64 0)), .d (.val (.int .u64 0)), .d (.val (.int .u64 0)), .d (.val (.int .u64 0))] := rfl
  unfold ofK
  rcases Bool.eq_false_or_eq_true (fitsT t 12) with hR | hR
  case inr =>
    rw [hR] at hright ⊢
    rw [if_neg (by simp), eE]
    obtain ⟨k, a, b, c, d, mn, mx, subs⟩ := t
    have e0 : nodeA (T.node k a b c d mn mx subs) = .agg [.i k, .d (.val (.int .u64 a)), .d (.val (.int .u64 b)), .d (.val (.int .u64 c)), .d (.val (.int .u64 d)), .i mn, .i mx, .d (.sl (encL subs) subs.length)] := rfl
    rw [e0] at hright ⊢
    refine b121 (by simp) (by simp) (w_init ?_)
    unfold x121
    repeat' (first
    | (apply r_mvV; rfl)
    | (apply r_mvP; rfl)
    | (apply r_mvPL; rfl)
    | (apply r_mvS; rfl)
    | (apply r_mvSL; rfl)
    | (apply r_mvA; rfl)
    | (apply r_mvT; rfl)
    | (apply r_mvF; rfl)
    | (apply r_mvD; rfl)
    | (apply r_l; apply ld_kind; assumption; rfl)
    | (apply r_l; apply ld_mn; assumption; rfl)
    | (apply r_l; apply ld_mx; assumption; rfl)
    | (apply r_l; apply ld_subs; assumption; rfl)
    | (apply r_l; apply ld_set; assumption; rfl)
    | (apply r_l; apply ld_node; assumption; rfl)
    | (apply r_l; apply ld_kind'; assumption; rfl)
    | (apply r_l; apply ld_mn'; assumption; rfl)
    | (apply r_l; apply ld_mx'; assumption; rfl)
    | (apply r_l; apply ld_subs'; assumption; rfl)
    | (apply r_l; apply ld_node'; assumption; rfl)
    | (apply r_callA; rfl; rfl; exact hright)
    | (apply r_p (v := .agg [.b false, .i 0, .i 0, .d (.val (.int .u64 0)), .d (.val (.int .u64 0)), .d (.val (.int .u64 0)), .d (.val (.int .u64 0))]); rfl)
    | (apply r_ldL; rfl; rfl; rfl)
    | (apply r_not; rfl; rfl)
    | (apply r_alloc; ((conv => lhs; simp only [Nat.reduceAdd]) <;> rfl); rfl)
    | (apply r_box; ((conv => lhs; simp only [Nat.reduceAdd]) <;> rfl); rfl; rfl; rfl)
    | (apply r_stL; rfl; rfl; rfl; rfl; (first | rfl | (simp only [z_nil, z_add] <;> rfl)); rfl; rfl)
    | (apply r_p; rfl)
    | (apply r_nilK)
    | (apply r_nil)
    | (apply k_V; rfl)
    | (apply k_P; rfl)
    | (apply k_PL; rfl)
    | (apply k_S; rfl)
    | (apply k_SL; rfl)
    | (apply k_A; rfl)
    | (apply k_T; rfl)
    | (apply k_F; rfl)
    | (apply k_D; rfl; rotate_left; rfl)
    | (apply k_nil)
    | (apply e_ret (vs := [.d (.val _)]); rfl)
    | (apply e_ret; rfl)
    | (apply e_ret' (vs := [.d (.val _)]); rfl)
    | (apply e_ret'; rfl)
    | (apply w_seq)
    | (apply w_ops; ((conv => lhs; simp only [Nat.reduceAdd]) <;> rfl))
    | (apply w_condT; rfl)
    | (apply w_condF; rfl)
    | ((apply w_condS; rfl) <;> (intro h; try simp only [decide_eq_true_eq, decide_eq_false_iff_not, Bool.not_eq_true, Bool.not_eq_false] at h))
    | (apply e_thenN)
    | (apply w_block)
    | (apply e_thenR)
    | (apply e_thenX)
    | (apply e_blkN)
    | (apply e_blkR)
    | (apply e_blkE)
    | (apply w_exit)
    | (apply w_ret)
    | (apply w_skip)
    | (apply e_blkE'; rfl))
    exact .data _ rfl
  have hk := hk hR
  rw [hR] at hright ⊢
  rw [if_pos rfl]
  generalize knT t = f at hk
  obtain ⟨k, a, b, c, d, mn, mx, subs⟩ := t
  have e0 : nodeA (T.node k a b c d mn mx subs) = .agg [.i k, .d (.val (.int .u64 a)), .d (.val (.int .u64 b)), .d (.val (.int .u64 c)), .d (.val (.int .u64 d)), .i mn, .i mx, .d (.sl (encL subs) subs.length)] := rfl
  rw [e0] at hright ⊢
  refine b121 (by simp) (by simp) (w_init ?_)
  unfold x121
  repeat' (first
    | (apply r_mvV; rfl)
    | (apply r_mvP; rfl)
    | (apply r_mvPL; rfl)
    | (apply r_mvS; rfl)
    | (apply r_mvSL; rfl)
    | (apply r_mvA; rfl)
    | (apply r_mvT; rfl)
    | (apply r_mvF; rfl)
    | (apply r_mvD; rfl)
    | (apply r_l; apply ld_kind; assumption; rfl)
    | (apply r_l; apply ld_mn; assumption; rfl)
    | (apply r_l; apply ld_mx; assumption; rfl)
    | (apply r_l; apply ld_subs; assumption; rfl)
    | (apply r_l; apply ld_set; assumption; rfl)
    | (apply r_l; apply ld_node; assumption; rfl)
    | (apply r_l; apply ld_kind'; assumption; rfl)
    | (apply r_l; apply ld_mn'; assumption; rfl)
    | (apply r_l; apply ld_mx'; assumption; rfl)
    | (apply r_l; apply ld_subs'; assumption; rfl)
    | (apply r_l; apply ld_node'; assumption; rfl)
    | (apply r_callA; rfl; rfl; exact hright)
    | (apply r_call (bs := [.d (.ptr (encN (.node k a b c d mn mx subs)) 0)]) (us := [1]); rfl; rfl; exact hk; rfl)
    | (apply r_ldL; rfl; rfl; rfl)
    | (apply r_not; rfl; rfl)
    | (apply r_alloc; ((conv => lhs; simp only [Nat.reduceAdd]) <;> rfl); rfl)
    | (apply r_box; ((conv => lhs; simp only [Nat.reduceAdd]) <;> rfl); rfl; rfl; rfl)
    | (apply r_stL; rfl; rfl; rfl; rfl; (first | rfl | (simp only [z_nil, z_add] <;> rfl)); rfl; rfl)
    | (apply r_p; rfl)
    | (apply r_nilK)
    | (apply r_nil)
    | (apply k_V; rfl)
    | (apply k_P; rfl)
    | (apply k_PL; rfl)
    | (apply k_S; rfl)
    | (apply k_SL; rfl)
    | (apply k_A; rfl)
    | (apply k_T; rfl)
    | (apply k_F; rfl)
    | (apply k_D; rfl; rotate_left; rfl)
    | (apply k_nil)
    | (apply e_ret (vs := [.d (.val _)]); rfl)
    | (apply e_ret; rfl)
    | (apply e_ret' (vs := [.d (.val _)]); rfl)
    | (apply e_ret'; rfl)
    | (apply w_seq)
    | (apply w_ops; ((conv => lhs; simp only [Nat.reduceAdd]) <;> rfl))
    | (apply w_condT; rfl)
    | (apply w_condF; rfl)
    | ((apply w_condS; rfl) <;> (intro h; try simp only [decide_eq_true_eq, decide_eq_false_iff_not, Bool.not_eq_true, Bool.not_eq_false] at h))
    | (apply e_thenN)
    | (apply w_block)
    | (apply e_thenR)
    | (apply e_thenX)
    | (apply e_blkN)
    | (apply e_blkR)
    | (apply e_blkE)
    | (apply w_exit)
    | (apply w_ret)
    | (apply w_skip)
    | (apply e_blkE'; rfl))
  exact .data _ rfl
def nulF (t : T) : Bool := fitsT t 12 && (!(ofK t).no && decide ((ofK t).lo = 0))
theorem null69_good (t : T) (hc : t.cnt ≤ 200) (hok : fitsT t 12 = true → okT t) : Good Try.prog 69 [nodeA t] none (.b (nulF t)) none none := by
  have h := of121_good t hc hok
  unfold nulF
  generalize fitsT t 12 = q at h
  generalize ofK t = f at h
  obtain ⟨fn, fl, fh, fa, fb, fc, fd⟩ := f
  have e : faA ⟨fn, fl, fh, fa, fb, fc, fd⟩ = .agg [.b fn, .i fl, .i fh, .d (.val (.int .u64 fa)), .d (.val (.int .u64 fb)), .d (.val (.int .u64 fc)), .d (.val (.int .u64 fd))] := rfl
  rw [e] at h
  dsimp only
  obtain ⟨k, a, b, c, d, mn, mx, subs⟩ := t
  have e0 : nodeA (T.node k a b c d mn mx subs) = .agg [.i k, .d (.val (.int .u64 a)), .d (.val (.int .u64 b)), .d (.val (.int .u64 c)), .d (.val (.int .u64 d)), .i mn, .i mx, .d (.sl (encL subs) subs.length)] := rfl
  rw [e0] at h ⊢
  cases q with
  | false =>
    refine b69 (by simp) (by simp) (w_init ?_)
    unfold x69
    repeat' (first
    | (apply r_mvV; rfl)
    | (apply r_mvP; rfl)
    | (apply r_mvPL; rfl)
    | (apply r_mvS; rfl)
    | (apply r_mvSL; rfl)
    | (apply r_mvA; rfl)
    | (apply r_mvT; rfl)
    | (apply r_mvF; rfl)
    | (apply r_mvD; rfl)
    | (apply r_faddD; rfl)
    | (apply r_faddL; rfl)
    | (apply r_l; apply ld_kind; assumption; rfl)
    | (apply r_l; apply ld_mn; assumption; rfl)
    | (apply r_l; apply ld_mx; assumption; rfl)
    | (apply r_l; apply ld_subs; assumption; rfl)
    | (apply r_l; apply ld_set; assumption; rfl)
    | (apply r_l; apply ld_node; assumption; rfl)
    | (apply r_l; apply ld_kind'; assumption; rfl)
    | (apply r_l; apply ld_mn'; assumption; rfl)
    | (apply r_l; apply ld_mx'; assumption; rfl)
    | (apply r_l; apply ld_subs'; assumption; rfl)
    | (apply r_l; apply ld_node'; assumption; rfl)
    | (apply r_callA; rfl; rfl; exact h)
    | (apply r_ldL; rfl; rfl; rfl)
    | (apply r_eql; rfl; rfl; (first | (apply decide_eq_true; omega) | (apply decide_eq_false; omega) | rfl))
    | (apply r_not; rfl; rfl)
    | (apply r_pickT; rfl)
    | (apply r_pickF; rfl)
    | (apply r_ext; rfl; rfl)
    | (apply r_gT; rfl)
    | (apply r_gF'; rfl; rfl)
    | (apply r_gN'; rfl)
    | ((apply r_gS (o := default); rfl) <;> (intro h; try simp only [decide_eq_true_eq, decide_eq_false_iff_not, Bool.not_eq_true, Bool.not_eq_false] at h))
    | (apply r_alloc; ((conv => lhs; simp only [Nat.reduceAdd]) <;> rfl); rfl)
    | (apply r_box; ((conv => lhs; simp only [Nat.reduceAdd]) <;> rfl); rfl; rfl; rfl)
    | (apply r_stL; rfl; rfl; rfl; rfl; (first | rfl | (simp only [z_nil, z_add] <;> rfl)); rfl; rfl)
    | (apply r_nilK)
    | (apply r_nil)
    | (apply k_V; rfl)
    | (apply k_P; rfl)
    | (apply k_PL; rfl)
    | (apply k_S; rfl)
    | (apply k_SL; rfl)
    | (apply k_A; rfl)
    | (apply k_T; rfl)
    | (apply k_F; rfl)
    | (apply k_D; rfl; rotate_left; rfl)
    | (apply k_nil)
    | (apply e_ret (vs := [.d (.val _)]); rfl)
    | (apply e_ret; rfl)
    | (apply e_ret' (vs := [.d (.val _)]); rfl)
    | (apply e_ret'; rfl)
    | (apply w_seq)
    | (apply w_ops; ((conv => lhs; simp only [Nat.reduceAdd]) <;> rfl))
    | (apply e_thenN)
    | (apply w_block)
    | (apply e_thenR)
    | (apply e_thenX)
    | (apply e_blkN)
    | (apply e_blkR)
    | (apply e_blkE)
    | (apply w_exit)
    | (apply w_ret)
    | (apply w_skip)
    | (apply e_blkE'; rfl))
    exact retB rfl
  | true =>
  cases fn with
  | true =>
    refine b69 (by simp) (by simp) (w_init ?_)
    unfold x69
    repeat' (first
    | (apply r_mvV; rfl)
    | (apply r_mvP; rfl)
    | (apply r_mvPL; rfl)
    | (apply r_mvS; rfl)
    | (apply r_mvSL; rfl)
    | (apply r_mvA; rfl)
    | (apply r_mvT; rfl)
    | (apply r_mvF; rfl)
    | (apply r_mvD; rfl)
    | (apply r_faddD; rfl)
    | (apply r_faddL; rfl)
    | (apply r_l; apply ld_kind; assumption; rfl)
    | (apply r_l; apply ld_mn; assumption; rfl)
    | (apply r_l; apply ld_mx; assumption; rfl)
    | (apply r_l; apply ld_subs; assumption; rfl)
    | (apply r_l; apply ld_set; assumption; rfl)
    | (apply r_l; apply ld_node; assumption; rfl)
    | (apply r_l; apply ld_kind'; assumption; rfl)
    | (apply r_l; apply ld_mn'; assumption; rfl)
    | (apply r_l; apply ld_mx'; assumption; rfl)
    | (apply r_l; apply ld_subs'; assumption; rfl)
    | (apply r_l; apply ld_node'; assumption; rfl)
    | (apply r_callA; rfl; rfl; exact h)
    | (apply r_ldL (v := .b true); rfl; rfl; rfl)
    | (apply r_ldL; rfl; rfl; rfl)
    | (apply r_eql; rfl; rfl; (first | (apply decide_eq_true; omega) | (apply decide_eq_false; omega) | rfl))
    | (apply r_not; rfl; rfl)
    | (apply r_pickT; rfl)
    | (apply r_pickF; rfl)
    | (apply r_ext; rfl; rfl)
    | (apply r_gT; rfl)
    | (apply r_gF'; rfl; rfl)
    | (apply r_gN'; rfl)
    | ((apply r_gS (o := default); rfl) <;> (intro h; try simp only [decide_eq_true_eq, decide_eq_false_iff_not, Bool.not_eq_true, Bool.not_eq_false] at h))
    | (apply r_alloc; ((conv => lhs; simp only [Nat.reduceAdd]) <;> rfl); rfl)
    | (apply r_box; ((conv => lhs; simp only [Nat.reduceAdd]) <;> rfl); rfl; rfl; rfl)
    | (apply r_stL; rfl; rfl; rfl; rfl; (first | rfl | (simp only [z_nil, z_add] <;> rfl)); rfl; rfl)
    | (apply r_nilK)
    | (apply r_nil)
    | (apply k_V; rfl)
    | (apply k_P; rfl)
    | (apply k_PL; rfl)
    | (apply k_S; rfl)
    | (apply k_SL; rfl)
    | (apply k_A; rfl)
    | (apply k_T; rfl)
    | (apply k_F; rfl)
    | (apply k_D; rfl; rotate_left; rfl)
    | (apply k_nil)
    | (apply e_ret (vs := [.d (.val _)]); rfl)
    | (apply e_ret; rfl)
    | (apply e_ret' (vs := [.d (.val _)]); rfl)
    | (apply e_ret'; rfl)
    | (apply w_seq)
    | (apply w_ops; ((conv => lhs; simp only [Nat.reduceAdd]) <;> rfl))
    | (apply e_thenN)
    | (apply w_block)
    | (apply e_thenR)
    | (apply e_thenX)
    | (apply e_blkN)
    | (apply e_blkR)
    | (apply e_blkE)
    | (apply w_exit)
    | (apply w_ret)
    | (apply w_skip)
    | (apply e_blkE'; rfl))
    exact retB rfl
  | false =>
    refine b69 (by simp) (by simp) (w_init ?_)
    unfold x69
    by_cases hz : fl = 0
    · repeat' (first
    | (apply r_mvV; rfl)
    | (apply r_mvP; rfl)
    | (apply r_mvPL; rfl)
    | (apply r_mvS; rfl)
    | (apply r_mvSL; rfl)
    | (apply r_mvA; rfl)
    | (apply r_mvT; rfl)
    | (apply r_mvF; rfl)
    | (apply r_mvD; rfl)
    | (apply r_faddD; rfl)
    | (apply r_faddL; rfl)
    | (apply r_l; apply ld_kind; assumption; rfl)
    | (apply r_l; apply ld_mn; assumption; rfl)
    | (apply r_l; apply ld_mx; assumption; rfl)
    | (apply r_l; apply ld_subs; assumption; rfl)
    | (apply r_l; apply ld_set; assumption; rfl)
    | (apply r_l; apply ld_node; assumption; rfl)
    | (apply r_l; apply ld_kind'; assumption; rfl)
    | (apply r_l; apply ld_mn'; assumption; rfl)
    | (apply r_l; apply ld_mx'; assumption; rfl)
    | (apply r_l; apply ld_subs'; assumption; rfl)
    | (apply r_l; apply ld_node'; assumption; rfl)
    | (apply r_callA; rfl; rfl; exact h)
    | (apply r_ldL (v := .b false); rfl; rfl; rfl)
    | (apply r_ldL (v := .i fl); rfl; rfl; rfl)
    | (apply r_ldL; rfl; rfl; rfl)
    | (apply r_eql; rfl; rfl; (first | (apply decide_eq_true; omega) | (apply decide_eq_false; omega) | rfl))
    | (apply r_not; rfl; rfl)
    | (apply r_pickT; rfl)
    | (apply r_pickF; rfl)
    | (apply r_ext; rfl; rfl)
    | (apply r_gT; rfl)
    | (apply r_gF'; rfl; rfl)
    | (apply r_gN'; rfl)
    | ((apply r_gS (o := default); rfl) <;> (intro h; try simp only [decide_eq_true_eq, decide_eq_false_iff_not, Bool.not_eq_true, Bool.not_eq_false] at h))
    | (apply r_alloc; ((conv => lhs; simp only [Nat.reduceAdd]) <;> rfl); rfl)
    | (apply r_box; ((conv => lhs; simp only [Nat.reduceAdd]) <;> rfl); rfl; rfl; rfl)
    | (apply r_stL; rfl; rfl; rfl; rfl; (first | rfl | (simp only [z_nil, z_add] <;> rfl)); rfl; rfl)
    | (apply r_nilK)
    | (apply r_nil)
    | (apply k_V; rfl)
    | (apply k_P; rfl)
    | (apply k_PL; rfl)
    | (apply k_S; rfl)
    | (apply k_SL; rfl)
    | (apply k_A; rfl)
    | (apply k_T; rfl)
    | (apply k_F; rfl)
    | (apply k_D; rfl; rotate_left; rfl)
    | (apply k_nil)
    | (apply e_ret (vs := [.d (.val _)]); rfl)
    | (apply e_ret; rfl)
    | (apply e_ret' (vs := [.d (.val _)]); rfl)
    | (apply e_ret'; rfl)
    | (apply w_seq)
    | (apply w_ops; ((conv => lhs; simp only [Nat.reduceAdd]) <;> rfl))
    | (apply e_thenN)
    | (apply w_block)
    | (apply e_thenR)
    | (apply e_thenX)
    | (apply e_blkN)
    | (apply e_blkR)
    | (apply e_blkE)
    | (apply w_exit)
    | (apply w_ret)
    | (apply w_skip)
    | (apply e_blkE'; rfl))
      exact retB (by simp [hz])
    · repeat' (first
    | (apply r_mvV; rfl)
    | (apply r_mvP; rfl)
    | (apply r_mvPL; rfl)
    | (apply r_mvS; rfl)
    | (apply r_mvSL; rfl)
    | (apply r_mvA; rfl)
    | (apply r_mvT; rfl)
    | (apply r_mvF; rfl)
    | (apply r_mvD; rfl)
    | (apply r_faddD; rfl)
    | (apply r_faddL; rfl)
    | (apply r_l; apply ld_kind; assumption; rfl)
    | (apply r_l; apply ld_mn; assumption; rfl)
    | (apply r_l; apply ld_mx; assumption; rfl)
    | (apply r_l; apply ld_subs; assumption; rfl)
    | (apply r_l; apply ld_set; assumption; rfl)
    | (apply r_l; apply ld_node; assumption; rfl)
    | (apply r_l; apply ld_kind'; assumption; rfl)
    | (apply r_l; apply ld_mn'; assumption; rfl)
    | (apply r_l; apply ld_mx'; assumption; rfl)
    | (apply r_l; apply ld_subs'; assumption; rfl)
    | (apply r_l; apply ld_node'; assumption; rfl)
    | (apply r_callA; rfl; rfl; exact h)
    | (apply r_ldL (v := .b false); rfl; rfl; rfl)
    | (apply r_ldL (v := .i fl); rfl; rfl; rfl)
    | (apply r_ldL; rfl; rfl; rfl)
    | (apply r_eql; rfl; rfl; (first | (apply decide_eq_true; omega) | (apply decide_eq_false; omega) | rfl))
    | (apply r_not; rfl; rfl)
    | (apply r_pickT; rfl)
    | (apply r_pickF; rfl)
    | (apply r_ext; rfl; rfl)
    | (apply r_gT; rfl)
    | (apply r_gF'; rfl; rfl)
    | (apply r_gN'; rfl)
    | ((apply r_gS (o := default); rfl) <;> (intro h; try simp only [decide_eq_true_eq, decide_eq_false_iff_not, Bool.not_eq_true, Bool.not_eq_false] at h))
    | (apply r_alloc; ((conv => lhs; simp only [Nat.reduceAdd]) <;> rfl); rfl)
    | (apply r_box; ((conv => lhs; simp only [Nat.reduceAdd]) <;> rfl); rfl; rfl; rfl)
    | (apply r_stL; rfl; rfl; rfl; rfl; (first | rfl | (simp only [z_nil, z_add] <;> rfl)); rfl; rfl)
    | (apply r_nilK)
    | (apply r_nil)
    | (apply k_V; rfl)
    | (apply k_P; rfl)
    | (apply k_PL; rfl)
    | (apply k_S; rfl)
    | (apply k_SL; rfl)
    | (apply k_A; rfl)
    | (apply k_T; rfl)
    | (apply k_F; rfl)
    | (apply k_D; rfl; rotate_left; rfl)
    | (apply k_nil)
    | (apply e_ret (vs := [.d (.val _)]); rfl)
    | (apply e_ret; rfl)
    | (apply e_ret' (vs := [.d (.val _)]); rfl)
    | (apply e_ret'; rfl)
    | (apply w_seq)
    | (apply w_ops; ((conv => lhs; simp only [Nat.reduceAdd]) <;> rfl))
    | (apply e_thenN)
    | (apply w_block)
    | (apply e_thenR)
    | (apply e_thenX)
    | (apply e_blkN)
    | (apply e_blkR)
    | (apply e_blkE)
    | (apply w_exit)
    | (apply w_ret)
    | (apply w_skip)
    | (apply e_blkE'; rfl))
      exact retB (by simp [hz])
theorem first70_good (t : T) (hc : t.cnt ≤ 200) (hok : fitsT t 12 = true → okT t) : Good Try.prog 70 [nodeA t] none (setA (ofK t).a (ofK t).b (ofK t).c (ofK t).d) none none := by
  have h := of121_good t hc hok
  generalize fitsT t 12 = q at h
  generalize ofK t = f at h
  obtain ⟨fn, fl, fh, fa, fb, fc, fd⟩ := f
  have e : faA ⟨fn, fl, fh, fa, fb, fc, fd⟩ = .agg [.b fn, .i fl, .i fh, .d (.val (.int .u64 fa)), .d (.val (.int .u64 fb)), .d (.val (.int .u64 fc)), .d (.val (.int .u64 fd))] := rfl
  rw [e] at h
  dsimp only
  unfold setA
  obtain ⟨k, a, b, c, d, mn, mx, subs⟩ := t
  have e0 : nodeA (T.node k a b c d mn mx subs) = .agg [.i k, .d (.val (.int .u64 a)), .d (.val (.int .u64 b)), .d (.val (.int .u64 c)), .d (.val (.int .u64 d)), .i mn, .i mx, .d (.sl (encL subs) subs.length)] := rfl
  rw [e0] at h ⊢
  refine b70 (by simp) (by simp) (w_init ?_)
  unfold x70
  repeat' (first
    | (apply r_mvV; rfl)
    | (apply r_mvP; rfl)
    | (apply r_mvPL; rfl)
    | (apply r_mvS; rfl)
    | (apply r_mvSL; rfl)
    | (apply r_mvA; rfl)
    | (apply r_mvT; rfl)
    | (apply r_mvF; rfl)
    | (apply r_mvD; rfl)
    | (apply r_faddD; rfl)
    | (apply r_faddL; rfl)
    | (apply r_l; apply ld_kind; assumption; rfl)
    | (apply r_l; apply ld_mn; assumption; rfl)
    | (apply r_l; apply ld_mx; assumption; rfl)
    | (apply r_l; apply ld_subs; assumption; rfl)
    | (apply r_l; apply ld_set; assumption; rfl)
    | (apply r_l; apply ld_node; assumption; rfl)
    | (apply r_l; apply ld_kind'; assumption; rfl)
    | (apply r_l; apply ld_mn'; assumption; rfl)
    | (apply r_l; apply ld_mx'; assumption; rfl)
    | (apply r_l; apply ld_subs'; assumption; rfl)
    | (apply r_l; apply ld_node'; assumption; rfl)
    | (apply r_callA; rfl; rfl; exact h)
    | (apply r_ldL (v := .agg [.d (.val (.int .u64 fa)), .d (.val (.int .u64 fb)), .d (.val (.int .u64 fc)), .d (.val (.int .u64 fd))]); rfl; rfl; rfl)
    | (apply r_ldL; rfl; rfl; rfl)
    | (apply r_ext; rfl; rfl)
    | (apply r_alloc; ((conv => lhs; simp only [Nat.reduceAdd]) <;> rfl); rfl)
    | (apply r_box; ((conv => lhs; simp only [Nat.reduceAdd]) <;> rfl); rfl; rfl; rfl)
    | (apply r_stL; rfl; rfl; rfl; rfl; (first | rfl | (simp only [z_nil, z_add] <;> rfl)); rfl; rfl)
    | (apply r_nilK)
    | (apply r_nil)
    | (apply k_V; rfl)
    | (apply k_P; rfl)
    | (apply k_PL; rfl)
    | (apply k_S; rfl)
    | (apply k_SL; rfl)
    | (apply k_A; rfl)
    | (apply k_T; rfl)
    | (apply k_F; rfl)
    | (apply k_D; rfl; rotate_left; rfl)
    | (apply k_nil)
    | (apply e_ret (vs := [.d (.val _)]); rfl)
    | (apply e_ret; rfl)
    | (apply e_ret' (vs := [.d (.val _)]); rfl)
    | (apply e_ret'; rfl)
    | (apply w_seq)
    | (apply w_ops; ((conv => lhs; simp only [Nat.reduceAdd]) <;> rfl))
    | (apply e_thenN)
    | (apply w_block)
    | (apply e_thenR)
    | (apply e_thenX)
    | (apply e_blkN)
    | (apply e_blkR)
    | (apply e_blkE)
    | (apply w_exit)
    | (apply w_ret)
    | (apply w_skip)
    | (apply e_blkE'; rfl))
  exact .data _ rfl
theorem len66_good (t : T) (hc : t.cnt ≤ 200) (hok : fitsT t 12 = true → okT t) : Good Try.prog 66 [nodeA t] none (.tup [.i (ofK t).lo, .i (ofK t).hi]) none none := by
  have h := of121_good t hc hok
  generalize fitsT t 12 = q at h
  generalize ofK t = f at h
  obtain ⟨fn, fl, fh, fa, fb, fc, fd⟩ := f
  have e : faA ⟨fn, fl, fh, fa, fb, fc, fd⟩ = .agg [.b fn, .i fl, .i fh, .d (.val (.int .u64 fa)), .d (.val (.int .u64 fb)), .d (.val (.int .u64 fc)), .d (.val (.int .u64 fd))] := rfl
  rw [e] at h
  dsimp only
  obtain ⟨k, a, b, c, d, mn, mx, subs⟩ := t
  have e0 : nodeA (T.node k a b c d mn mx subs) = .agg [.i k, .d (.val (.int .u64 a)), .d (.val (.int .u64 b)), .d (.val (.int .u64 c)), .d (.val (.int .u64 d)), .i mn, .i mx, .d (.sl (encL subs) subs.length)] := rfl
  rw [e0] at h ⊢
  refine b66 (by simp) (by simp) (w_init ?_)
  unfold x66
  repeat' (first
    | (apply r_mvV; rfl)
    | (apply r_mvP; rfl)
    | (apply r_mvPL; rfl)
    | (apply r_mvS; rfl)
    | (apply r_mvSL; rfl)
    | (apply r_mvA; rfl)
    | (apply r_mvT; rfl)
    | (apply r_mvF; rfl)
    | (apply r_mvD; rfl)
    | (apply r_faddD; rfl)
    | (apply r_faddL; rfl)
    | (apply r_l; apply ld_kind; assumption; rfl)
    | (apply r_l; apply ld_mn; assumption; rfl)
    | (apply r_l; apply ld_mx; assumption; rfl)
    | (apply r_l; apply ld_subs; assumption; rfl)
    | (apply r_l; apply ld_set; assumption; rfl)
    | (apply r_l; apply ld_node; assumption; rfl)
    | (apply r_l; apply ld_kind'; assumption; rfl)
    | (apply r_l; apply ld_mn'; assumption; rfl)
    | (apply r_l; apply ld_mx'; assumption; rfl)
    | (apply r_l; apply ld_subs'; assumption; rfl)
    | (apply r_l; apply ld_node'; assumption; rfl)
    | (apply r_callA; rfl; rfl; exact h)
    | (apply r_ldL (v := .i fl); rfl; rfl; rfl)
    | (apply r_ldL (v := .i fh); rfl; rfl; rfl)
    | (apply r_ldL; rfl; rfl; rfl)
    | (apply r_ext; rfl; rfl)
    | (apply r_alloc; ((conv => lhs; simp only [Nat.reduceAdd]) <;> rfl); rfl)
    | (apply r_box; ((conv => lhs; simp only [Nat.reduceAdd]) <;> rfl); rfl; rfl; rfl)
    | (apply r_stL; rfl; rfl; rfl; rfl; (first | rfl | (simp only [z_nil, z_add] <;> rfl)); rfl; rfl)
    | (apply r_nilK)
    | (apply r_nil)
    | (apply k_V; rfl)
    | (apply k_P; rfl)
    | (apply k_PL; rfl)
    | (apply k_S; rfl)
    | (apply k_SL; rfl)
    | (apply k_A; rfl)
    | (apply k_T; rfl)
    | (apply k_F; rfl)
    | (apply k_D; rfl; rotate_left; rfl)
    | (apply k_nil)
    | (apply e_ret (vs := [.d (.val _)]); rfl)
    | (apply e_ret; rfl)
    | (apply e_ret' (vs := [.d (.val _)]); rfl)
    | (apply e_ret'; rfl)
    | (apply w_seq)
    | (apply w_ops; ((conv => lhs; simp only [Nat.reduceAdd]) <;> rfl))
    | (apply e_thenN)
    | (apply w_block)
    | (apply e_thenR)
    | (apply e_thenX)
    | (apply e_blkN)
    | (apply e_blkR)
    | (apply e_blkE)
    | (apply w_exit)
    | (apply w_ret)
    | (apply w_skip)
    | (apply e_blkE'; rfl))
  exact .data _ rfl
theorem none71_good (t : T) (hc : t.cnt ≤ 200) (hok : fitsT t 12 = true → okT t) : Good Try.prog 71 [nodeA t] none (.b (ofK t).no) none none := by
  have h := of121_good t hc hok
  generalize fitsT t 12 = q at h
  generalize ofK t = f at h
  obtain ⟨fn, fl, fh, fa, fb, fc, fd⟩ := f
  have e : faA ⟨fn, fl, fh, fa, fb, fc, fd⟩ = .agg [.b fn, .i fl, .i fh, .d (.val (.int .u64 fa)), .d (.val (.int .u64 fb)), .d (.val (.int .u64 fc)), .d (.val (.int .u64 fd))] := rfl
  rw [e] at h
  dsimp only
  obtain ⟨k, a, b, c, d, mn, mx, subs⟩ := t
  have e0 : nodeA (T.node k a b c d mn mx subs) = .agg [.i k, .d (.val (.int .u64 a)), .d (.val (.int .u64 b)), .d (.val (.int .u64 c)), .d (.val (.int .u64 d)), .i mn, .i mx, .d (.sl (encL subs) subs.length)] := rfl
  rw [e0] at h ⊢
  refine b71 (by simp) (by simp) (w_init ?_)
  unfold x71
  repeat' (first
    | (apply r_mvV; rfl)
    | (apply r_mvP; rfl)
    | (apply r_mvPL; rfl)
    | (apply r_mvS; rfl)
    | (apply r_mvSL; rfl)
    | (apply r_mvA; rfl)
    | (apply r_mvT; rfl)
    | (apply r_mvF; rfl)
    | (apply r_mvD; rfl)
    | (apply r_faddD; rfl)
    | (apply r_faddL; rfl)
    | (apply r_l; apply ld_kind; assumption; rfl)
    | (apply r_l; apply ld_mn; assumption; rfl)
    | (apply r_l; apply ld_mx; assumption; rfl)
    | (apply r_l; apply ld_subs; assumption; rfl)
    | (apply r_l; apply ld_set; assumption; rfl)
    | (apply r_l; apply ld_node; assumption; rfl)
    | (apply r_l; apply ld_kind'; assumption; rfl)
    | (apply r_l; apply ld_mn'; assumption; rfl)
    | (apply r_l; apply ld_mx'; assumption; rfl)
    | (apply r_l; apply ld_subs'; assumption; rfl)
    | (apply r_l; apply ld_node'; assumption; rfl)
    | (apply r_callA; rfl; rfl; exact h)
    | (apply r_ldL (v := .b fn); rfl; rfl; rfl)
    | (apply r_ldL; rfl; rfl; rfl)
    | (apply r_ext; rfl; rfl)
    | (apply r_alloc; ((conv => lhs; simp only [Nat.reduceAdd]) <;> rfl); rfl)
    | (apply r_box; ((conv => lhs; simp only [Nat.reduceAdd]) <;> rfl); rfl; rfl; rfl)
    | (apply r_stL; rfl; rfl; rfl; rfl; (first | rfl | (simp only [z_nil, z_add] <;> rfl)); rfl; rfl)
    | (apply r_nilK)
    | (apply r_nil)
    | (apply k_V; rfl)
    | (apply k_P; rfl)
    | (apply k_PL; rfl)
    | (apply k_S; rfl)
    | (apply k_SL; rfl)
    | (apply k_A; rfl)
    | (apply k_T; rfl)
    | (apply k_F; rfl)
    | (apply k_D; rfl; rotate_left; rfl)
    | (apply k_nil)
    | (apply e_ret (vs := [.d (.val _)]); rfl)
    | (apply e_ret; rfl)
    | (apply e_ret' (vs := [.d (.val _)]); rfl)
    | (apply e_ret'; rfl)
    | (apply w_seq)
    | (apply w_ops; ((conv => lhs; simp only [Nat.reduceAdd]) <;> rfl))
    | (apply e_thenN)
    | (apply w_block)
    | (apply e_thenR)
    | (apply e_thenX)
    | (apply e_blkN)
    | (apply e_blkR)
    | (apply e_blkE)
    | (apply w_exit)
    | (apply w_ret)
    | (apply w_skip)
    | (apply e_blkE'; rfl))
  exact retB rfl
end Go.Sv
namespace Go.Sv
open Go Go.Proofs
def x51 : XC := (.seq (.ops 2 [
    (0, ⟨(some 1), none, .box (.t 0)⟩),
    (1, ⟨(some 2), none, .mv (.k (.d (.val (.bool false))))⟩)] (some [1])) (.seq (.seq (.ops 2 [
    (0, ⟨(some 5), none, .fadd 0 (.t 1)⟩),
    (1, ⟨(some 6), none, .load none (.t 5)⟩)] (some [1, 6])) (.block 0 (.seq (.ops 2 [
    (0, ⟨(some 8), none, .arith .eql (.t 6) (.k (.d (.val (.int .i64 2))))⟩),
    (1, ⟨(some 7), none, .mv (.t 8)⟩)] (some [1, 6, 7])) (.cond (.t 7) (.seq (.ops 5 [
    (0, ⟨(some 9), none, .fadd 1 (.t 1)⟩),
    (1, ⟨(some 10), none, .load (some 4) (.t 9)⟩),
    (2, ⟨(some 11), none, .build [(.int .u64 0), (.int .u64 0), (.int .u64 0), (.int .u64 0)] []⟩),
    (3, ⟨(some 12), none, .eqAgg 4 false (.t 10) (.t 11)⟩),
    (4, ⟨(some 2), none, .mv (.t 12)⟩)] (some [2])) .ret) (.seq (.ops 2 [
    (0, ⟨(some 14), none, .arith .eql (.t 6) (.k (.d (.val (.int .i64 3))))⟩),
    (1, ⟨(some 13), none, .mv (.t 14)⟩)] (some [1, 6, 13])) (.cond (.t 13) (.seq (.ops 1 [
    (0, ⟨(some 3), none, .mv (.k (.d (.val (.int .i64 0))))⟩)] (some [1, 3])) (.block 1 (.loop (.seq (.seq (.ops 5 [
    (0, ⟨(some 15), none, .mv (.t 3)⟩),
    (1, ⟨(some 16), none, .fadd 7 (.t 1)⟩),
    (2, ⟨(some 17), none, .load none (.t 16)⟩),
    (3, ⟨(some 18), none, .lenS (.t 17)⟩),
    (4, ⟨(some 19), none, .arith .lss (.t 15) (.t 18)⟩)] (some [1, 3, 19])) (.cond (.t 19) .skip (.exit 1))) (.seq (.block 2 (.seq (.ops 6 [
    (0, ⟨(some 22), none, .fadd 7 (.t 1)⟩),
    (1, ⟨(some 23), none, .load none (.t 22)⟩),
    (2, ⟨(some 24), none, .mv (.t 3)⟩),
    (3, ⟨(some 25), none, .idxS 8 (.t 23) (.t 24)⟩),
    (4, ⟨(some 26), none, .load (some 8) (.t 25)⟩),
    (5, ⟨(some 27), none, .call 51 [(.t 26)] none false⟩)] (some [1, 3, 27])) (.cond (.t 27) (.seq (.ops 1 [
    (0, ⟨(some 2), none, .mv (.k (.d (.val (.bool true))))⟩)] (some [2])) .ret) .skip))) (.ops 3 [
    (0, ⟨(some 20), none, .mv (.t 3)⟩),
    (1, ⟨(some 21), none, .arith .add (.t 20) (.k (.d (.val (.int .i64 1))))⟩),
    (2, ⟨(some 3), none, .mv (.t 21)⟩)] (some [1, 3]))))))) (.seq (.ops 2 [
    (0, ⟨(some 29), none, .arith .eql (.t 6) (.k (.d (.val (.int .i64 4))))⟩),
    (1, ⟨(some 28), none, .mv (.t 29)⟩)] (some [1, 6, 28])) (.cond (.t 28) (.seq (.seq (.ops 1 [
    (0, ⟨(some 4), none, .mv (.k (.d (.val (.int .i64 0))))⟩)] (some [1, 4])) (.block 3 (.loop (.seq (.seq (.ops 5 [
    (0, ⟨(some 30), none, .mv (.t 4)⟩),
    (1, ⟨(some 31), none, .fadd 7 (.t 1)⟩),
    (2, ⟨(some 32), none, .load none (.t 31)⟩),
    (3, ⟨(some 33), none, .lenS (.t 32)⟩),
    (4, ⟨(some 34), none, .arith .lss (.t 30) (.t 33)⟩)] (some [1, 4, 34])) (.cond (.t 34) .skip (.exit 3))) (.seq (.block 4 (.seq (.ops 7 [
    (0, ⟨(some 37), none, .fadd 7 (.t 1)⟩),
    (1, ⟨(some 38), none, .load none (.t 37)⟩),
    (2, ⟨(some 39), none, .mv (.t 4)⟩),
    (3, ⟨(some 40), none, .idxS 8 (.t 38) (.t 39)⟩),
    (4, ⟨(some 41), none, .load (some 8) (.t 40)⟩),
    (5, ⟨(some 42), none, .call 51 [(.t 41)] none false⟩),
    (6, ⟨(some 43), none, .un .not (.t 42)⟩)] (some [1, 4, 43])) (.cond (.t 43) (.seq (.ops 1 [
    (0, ⟨(some 2), none, .mv (.k (.d (.val (.bool false))))⟩)] (some [2])) .ret) .skip))) (.ops 3 [
    (0, ⟨(some 35), none, .mv (.t 4)⟩),
    (1, ⟨(some 36), none, .arith .add (.t 35) (.k (.d (.val (.int .i64 1))))⟩),
    (2, ⟨(some 4), none, .mv (.t 36)⟩)] (some [1, 4]))))))) (.seq (.ops 1 [
    (0, ⟨(some 2), none, .mv (.k (.d (.val (.bool true))))⟩)] (some [2])) .ret)) (.seq (.ops 2 [
    (0, ⟨(some 45), none, .arith .eql (.t 6) (.k (.d (.val (.int .i64 5))))⟩),
    (1, ⟨(some 44), none, .mv (.t 45)⟩)] (some [1, 44])) (.cond (.t 44) (.seq (.ops 11 [
    (0, ⟨(some 46), none, .fadd 5 (.t 1)⟩),
    (1, ⟨(some 47), none, .load none (.t 46)⟩),
    (2, ⟨(some 48), none, .arith .gtr (.t 47) (.k (.d (.val (.int .i64 0))))⟩),
    (3, ⟨(some 49), none, .mv (.t 48)⟩),
    (4, ⟨(some 50), (some (49, true)), .fadd 7 (.t 1)⟩),
    (5, ⟨(some 51), (some (49, true)), .load none (.t 50)⟩),
    (6, ⟨(some 52), (some (49, true)), .idxS 8 (.t 51) (.k (.d (.val (.int .i64 0))))⟩),
    (7, ⟨(some 53), (some (49, true)), .load (some 8) (.t 52)⟩),
    (8, ⟨(some 54), (some (49, true)), .call 51 [(.t 53)] none false⟩),
    (9, ⟨(some 55), none, .pick (.t 49) (.t 54) (.k (.d (.val (.bool false))))⟩),
    (10, ⟨(some 2), none, .mv (.t 55)⟩)] (some [2])) .ret) .skip)))))))))) (.seq (.ops 1 [
    (0, ⟨(some 2), none, .mv (.k (.d (.val (.bool false))))⟩)] (some [2])) .ret)))
def md51 : FuncId → Option Nat × Bool
  | _ => (none, false)
def od51 : Nat → List (List Nat) × List Nat × Option (List Nat)
  | 0 => ([], [], some [1])
  | 1 => ([], [], some [1, 6])
  | 2 => ([], [], some [1, 6, 7])
  | 3 => ([], [], some [2])
  | 4 => ([], [], some [1, 6, 13])
  | 5 => ([], [], some [1, 3])
  | 6 => ([], [], some [1, 3, 19])
  | 7 => ([], [], some [1, 3])
  | 8 => ([], [], some [1, 3, 27])
  | 9 => ([], [], some [2])
  | 10 => ([], [], some [1, 6, 28])
  | 11 => ([], [], some [1, 4])
  | 12 => ([], [], some [1, 4, 34])
  | 13 => ([], [], some [1, 4])
  | 14 => ([], [], some [1, 4, 43])
  | 15 => ([], [], some [2])
  | 16 => ([], [], some [2])
  | 17 => ([], [], some [1, 44])
  | 18 => ([], [], some [2])
  | 19 => ([], [], some [2])
  | _ => ([], [], none)
theorem b51 {ags : List AV} {row : Option (List DV)} {r : AV} {row' nw : Option (List DV)} (hal : ags.length ≤ 56) (hrow : row'.isSome = true → row.isSome = true) (h : xwp Try.prog x51 (retK [.tmp 2] row.isSome r row' nw) (St.init ags row)) : Good Try.prog 51 ags row r row' nw :=
  good_of_body' (md := md51) (od := od51) Try.f51 (by kernel_rfl) (by kernel_rfl) (by kernel_rfl) (by kernel_rfl) (by kernel_rfl) hal hrow h

def x98 : XC := (.seq (.ops 1 [
    (0, ⟨(some 4), none, .mv (.k (.d (.val (.slice none 0 0))))⟩)] (some [0, 1])) (.seq (.ops 4 [
    (0, ⟨(some 8), none, .mv (.t 0)⟩),
    (1, ⟨(some 9), none, .lenS (.t 8)⟩),
    (2, ⟨(some 10), none, .mks [(.bool false)] 1 (.t 9) (.t 9)⟩),
    (3, ⟨(some 5), none, .mv (.t 10)⟩)] (some [0, 1, 5])) (.seq (.seq (.ops 1 [
    (0, ⟨(some 6), none, .mv (.k (.d (.val (.int .i64 0))))⟩)] (some [0, 1, 5, 6])) (.block 0 (.loop (.seq (.seq (.ops 4 [
    (0, ⟨(some 11), none, .mv (.t 6)⟩),
    (1, ⟨(some 12), none, .mv (.t 0)⟩),
    (2, ⟨(some 13), none, .lenS (.t 12)⟩),
    (3, ⟨(some 14), none, .arith .lss (.t 11) (.t 13)⟩)] (some [0, 1, 5, 6, 14])) (.cond (.t 14) .skip (.exit 0))) (.seq (.block 1 (.seq (.ops 1 [
    (0, ⟨(some 7), none, .mv (.k (.d (.val (.int .i64 0))))⟩)] (some [0, 1, 5, 6, 7])) (.block 2 (.loop (.seq (.seq (.ops 6 [
    (0, ⟨(some 17), none, .mv (.t 6)⟩),
    (1, ⟨(some 18), none, .mv (.t 7)⟩),
    (2, ⟨(some 19), none, .arith .add (.t 17) (.t 18)⟩),
    (3, ⟨(some 20), none, .mv (.t 0)⟩),
    (4, ⟨(some 21), none, .lenS (.t 20)⟩),
    (5, ⟨(some 22), none, .arith .lss (.t 19) (.t 21)⟩)] (some [0, 1, 5, 6, 7, 22])) (.cond (.t 22) .skip (.exit 2))) (.seq (.block 3 (.ops 24 [
    (0, ⟨(some 25), none, .mv (.t 5)⟩),
    (1, ⟨(some 26), none, .mv (.t 6)⟩),
    (2, ⟨(some 27), none, .mv (.t 7)⟩),
    (3, ⟨(some 28), none, .arith .add (.t 26) (.t 27)⟩),
    (4, ⟨(some 29), none, .mv (.t 5)⟩),
    (5, ⟨(some 30), none, .mv (.t 6)⟩),
    (6, ⟨(some 31), none, .mv (.t 7)⟩),
    (7, ⟨(some 32), none, .arith .add (.t 30) (.t 31)⟩),
    (8, ⟨(some 33), none, .idxS 1 (.t 29) (.t 32)⟩),
    (9, ⟨(some 34), none, .load none (.t 33)⟩),
    (10, ⟨(some 35), none, .mv (.t 34)⟩),
    (11, ⟨(some 36), (some (35, false)), .mv (.t 0)⟩),
    (12, ⟨(some 37), (some (35, false)), .mv (.t 6)⟩),
    (13, ⟨(some 38), (some (35, false)), .idxS 1 (.t 36) (.t 37)⟩),
    (14, ⟨(some 39), (some (35, false)), .load none (.t 38)⟩),
    (15, ⟨(some 40), (some (35, false)), .mv (.t 39)⟩),
    (16, ⟨(some 41), (some (40, true)), .mv (.t 1)⟩),
    (17, ⟨(some 42), (some (40, true)), .mv (.t 7)⟩),
    (18, ⟨(some 43), (some (40, true)), .idxS 1 (.t 41) (.t 42)⟩),
    (19, ⟨(some 44), (some (40, true)), .load none (.t 43)⟩),
    (20, ⟨(some 45), (some (35, false)), .pick (.t 40) (.t 44) (.k (.d (.val (.bool false))))⟩),
    (21, ⟨(some 46), none, .pick (.t 35) (.k (.d (.val (.bool true)))) (.t 45)⟩),
    (22, ⟨(some 47), none, .idxS 1 (.t 25) (.t 28)⟩),
    (23, ⟨none, none, .store 1 (.t 47) (.t 46)⟩)] (some [0, 1, 5, 6, 7]))) (.ops 3 [
    (0, ⟨(some 23), none, .mv (.t 7)⟩),
    (1, ⟨(some 24), none, .arith .add (.t 23) (.k (.d (.val (.int .i64 1))))⟩),
    (2, ⟨(some 7), none, .mv (.t 24)⟩)] (some [0, 1, 5, 6, 7])))))))) (.ops 3 [
    (0, ⟨(some 15), none, .mv (.t 6)⟩),
    (1, ⟨(some 16), none, .arith .add (.t 15) (.k (.d (.val (.int .i64 1))))⟩),
    (2, ⟨(some 6), none, .mv (.t 16)⟩)] (some [0, 1, 5, 6]))))))) (.seq (.ops 2 [
    (0, ⟨(some 48), none, .mv (.t 5)⟩),
    (1, ⟨(some 4), none, .mv (.t 48)⟩)] (some [4])) .ret))))
def md98 : FuncId → Option Nat × Bool
  | _ => (none, false)
def od98 : Nat → List (List Nat) × List Nat × Option (List Nat)
  | 0 => ([], [], some [0, 1])
  | 1 => ([], [], some [0, 1, 5])
  | 2 => ([], [], some [0, 1, 5, 6])
  | 3 => ([], [], some [0, 1, 5, 6, 14])
  | 4 => ([], [], some [0, 1, 5, 6])
  | 5 => ([], [], some [0, 1, 5, 6, 7])
  | 6 => ([], [], some [0, 1, 5, 6, 7, 22])
  | 7 => ([], [], some [0, 1, 5, 6, 7])
  | 8 => ([], [], some [0, 1, 5, 6, 7])
  | 9 => ([], [], some [4])
  | _ => ([], [], none)
theorem b98 {ags : List AV} {row : Option (List DV)} {r : AV} {row' nw : Option (List DV)} (hal : ags.length ≤ 49) (hrow : row'.isSome = true → row.isSome = true) (h : xwp Try.prog x98 (retK [.tmp 4] row.isSome r row' nw) (St.init ags row)) : Good Try.prog 98 ags row r row' nw :=
  good_of_body' (md := md98) (od := od98) Try.f98 (by kernel_rfl) (by kernel_rfl) (by kernel_rfl) (by kernel_rfl) (by kernel_rfl) hal hrow h

set_option maxRecDepth 100000
set_option maxHeartbeats 4000000
attribute [local irreducible] W E R KP thenK blockK retK Good xwp aRun
theorem none51_good : ∀ (n : Nat) (t : T), t.cnt ≤ n → n ≤ 1000000 → okT t → Good Try.prog 51 [nodeA t] none (.b (nnT t)) none none := by
  intro n
  induction n with
  | zero => intro t ht; have := cnt_pos t; omega
  | succ n ih =>
  intro t ht hc hok
  obtain ⟨k, a, b, c, d, mn, mx, subs⟩ := t
  have hR := okT_R hok
  have hoks := okT_subs hok
  have hpl := okT_plain hok
  have ih' : ∀ i (h : i < subs.length), Good Try.prog 51 [nodeA subs[i]] none (.b (nnT subs[i])) none none := by
    intro i h
    refine ih _ ?_ (by omega) (okL_get subs i h hoks)
    have := cntL_get subs i h
    simp only [T.cnt] at ht
    omega
  have hlen : subs.length ≤ 1000000 := by
    have := cntL_len subs
    simp only [T.cnt] at ht
    omega
  have e0 : nodeA (.node k a b c d mn mx subs) = .agg [.i k, .d (.val (.int .u64 a)), .d (.val (.int .u64 b)), .d (.val (.int .u64 c)), .d (.val (.int .u64 d)), .i mn, .i mx, .d (.sl (encL subs) subs.length)] := rfl
  have hk5 : k = 5 → ∃ u, subs = [u] := fun h5 => by subst h5; exact plainT_5 hpl
  clear ih ht hok hoks hpl hR
  rw [e0, nnT]
  by_cases h2 : k = 2
  · rw [if_pos h2]
    refine b51 (by simp) (by simp) (w_init ?_)
    unfold x51
    repeat' (first
    | (apply r_mvV; rfl)
    | (apply r_mvP; rfl)
    | (apply r_mvPL; rfl)
    | (apply r_mvS; rfl)
    | (apply r_mvSL; rfl)
    | (apply r_mvA; rfl)
    | (apply r_mvT; rfl)
    | (apply r_mvF; rfl)
    | (apply r_mvD; rfl)
    | (apply r_faddD; rfl)
    | (apply r_faddL; rfl)
    | (apply r_l; apply ld_kind; assumption; rfl)
    | (apply r_l; apply ld_mn; assumption; rfl)
    | (apply r_l; apply ld_mx; assumption; rfl)
    | (apply r_l; apply ld_subs; assumption; rfl)
    | (apply r_l; apply ld_set; assumption; rfl)
    | (apply r_l; apply ld_node; assumption; rfl)
    | (apply r_l; apply ld_kind'; assumption; rfl)
    | (apply r_l; apply ld_mn'; assumption; rfl)
    | (apply r_l; apply ld_mx'; assumption; rfl)
    | (apply r_l; apply ld_subs'; assumption; rfl)
    | (apply r_l; apply ld_node'; assumption; rfl)
    | (apply r_ldL (v := .agg [.d (.val (.int .u64 a)), .d (.val (.int .u64 b)), .d (.val (.int .u64 c)), .d (.val (.int .u64 d))]); rfl; rfl; rfl)
    | (apply r_p (v := .agg [.d (.val (.int .u64 0)), .d (.val (.int .u64 0)), .d (.val (.int .u64 0)), .d (.val (.int .u64 0))]); rfl)
    | (apply r_eqX (r := isZero a b c d); rfl; rfl; rfl)
    | (apply r_ldL; rfl; rfl; rfl)
    | (apply r_eql; rfl; rfl; (first | (apply decide_eq_true; omega) | (apply decide_eq_false; omega) | rfl))
    | (apply r_lss; rfl; rfl; (first | (apply decide_eq_true; omega) | (apply decide_eq_false; omega) | rfl))
    | (apply r_gtr; rfl; rfl; (first | (apply decide_eq_true; omega) | (apply decide_eq_false; omega) | rfl))
    | (apply r_add; rfl; rfl; rfl; omega)
    | (apply r_not; rfl; rfl)
    | (apply r_pickT; rfl)
    | (apply r_pickF; rfl)
    | (apply r_lenD; rfl)
    | (apply r_lenL; rfl)
    | (apply r_len0; rfl)
    | (apply r_gT; rfl)
    | (apply r_gF'; rfl; rfl)
    | (apply r_gN'; rfl)
    | ((apply r_gS (o := default); rfl) <;> (intro h; try simp only [decide_eq_true_eq, decide_eq_false_iff_not, Bool.not_eq_true, Bool.not_eq_false] at h))
    | (apply r_box; ((conv => lhs; simp only [Nat.reduceAdd]) <;> rfl); rfl; rfl; rfl)
    | (apply r_p; rfl)
    | (apply r_nilK)
    | (apply r_nil)
    | (apply k_V; rfl)
    | (apply k_P; rfl)
    | (apply k_PL; rfl)
    | (apply k_S; rfl)
    | (apply k_SL; rfl)
    | (apply k_A; rfl)
    | (apply k_T; rfl)
    | (apply k_F; rfl)
    | (apply k_D; rfl; rotate_left; rfl)
    | (apply k_nil)
    | (apply e_ret (vs := [.d (.val _)]); rfl)
    | (apply e_ret; rfl)
    | (apply e_ret' (vs := [.d (.val _)]); rfl)
    | (apply e_ret'; rfl)
    | (apply w_seq)
    | (apply w_ops; ((conv => lhs; simp only [Nat.reduceAdd]) <;> rfl))
    | (apply w_condT; rfl)
    | (apply w_condF; rfl)
    | ((apply w_condS; rfl) <;> (intro h; try simp only [decide_eq_true_eq, decide_eq_false_iff_not, Bool.not_eq_true, Bool.not_eq_false] at h))
    | (apply e_thenN)
    | (apply w_block)
    | (apply e_thenR)
    | (apply e_thenX)
    | (apply e_blkN)
    | (apply e_blkR)
    | (apply e_blkE)
    | (apply w_exit)
    | (apply w_ret)
    | (apply w_skip)
    | (apply e_blkE'; rfl))
    exact retB rfl
  rw [if_neg h2]
  by_cases h3 : k = 3
  · rw [if_pos h3]
    refine b51 (by simp) (by simp) (w_init ?_)
    unfold x51
    repeat' (first
    | (apply r_mvV; rfl)
    | (apply r_mvP; rfl)
    | (apply r_mvPL; rfl)
    | (apply r_mvS; rfl)
    | (apply r_mvSL; rfl)
    | (apply r_mvA; rfl)
    | (apply r_mvT; rfl)
    | (apply r_mvF; rfl)
    | (apply r_mvD; rfl)
    | (apply r_faddD; rfl)
    | (apply r_faddL; rfl)
    | (apply r_l; apply ld_kind; assumption; rfl)
    | (apply r_l; apply ld_mn; assumption; rfl)
    | (apply r_l; apply ld_mx; assumption; rfl)
    | (apply r_l; apply ld_subs; assumption; rfl)
    | (apply r_l; apply ld_set; assumption; rfl)
    | (apply r_l; apply ld_node; assumption; rfl)
    | (apply r_l; apply ld_kind'; assumption; rfl)
    | (apply r_l; apply ld_mn'; assumption; rfl)
    | (apply r_l; apply ld_mx'; assumption; rfl)
    | (apply r_l; apply ld_subs'; assumption; rfl)
    | (apply r_l; apply ld_node'; assumption; rfl)
    | (apply r_ldL; rfl; rfl; rfl)
    | (apply r_eql; rfl; rfl; (first | (apply decide_eq_true; omega) | (apply decide_eq_false; omega) | rfl))
    | (apply r_lss; rfl; rfl; (first | (apply decide_eq_true; omega) | (apply decide_eq_false; omega) | rfl))
    | (apply r_gtr; rfl; rfl; (first | (apply decide_eq_true; omega) | (apply decide_eq_false; omega) | rfl))
    | (apply r_add; rfl; rfl; rfl; omega)
    | (apply r_not; rfl; rfl)
    | (apply r_pickT; rfl)
    | (apply r_pickF; rfl)
    | (apply r_lenD; rfl)
    | (apply r_lenL; rfl)
    | (apply r_len0; rfl)
    | (apply r_gT; rfl)
    | (apply r_gF'; rfl; rfl)
    | (apply r_gN'; rfl)
    | ((apply r_gS (o := default); rfl) <;> (intro h; try simp only [decide_eq_true_eq, decide_eq_false_iff_not, Bool.not_eq_true, Bool.not_eq_false] at h))
    | (apply r_box; ((conv => lhs; simp only [Nat.reduceAdd]) <;> rfl); rfl; rfl; rfl)
    | (apply r_p; rfl)
    | (apply r_nilK)
    | (apply r_nil)
    | (apply k_V; rfl)
    | (apply k_P; rfl)
    | (apply k_PL; rfl)
    | (apply k_S; rfl)
    | (apply k_SL; rfl)
    | (apply k_A; rfl)
    | (apply k_T; rfl)
    | (apply k_F; rfl)
    | (apply k_D; rfl; rotate_left; rfl)
    | (apply k_nil)
    | (apply e_ret (vs := [.d (.val _)]); rfl)
    | (apply e_ret; rfl)
    | (apply e_ret' (vs := [.d (.val _)]); rfl)
    | (apply e_ret'; rfl)
    | (apply w_seq)
    | (apply w_ops; ((conv => lhs; simp only [Nat.reduceAdd]) <;> rfl))
    | (apply w_condT; rfl)
    | (apply w_condF; rfl)
    | ((apply w_condS; rfl) <;> (intro h; try simp only [decide_eq_true_eq, decide_eq_false_iff_not, Bool.not_eq_true, Bool.not_eq_false] at h))
    | (apply e_thenN)
    | (apply w_block)
    | (apply e_thenR)
    | (apply e_thenX)
    | (apply e_blkN)
    | (apply e_blkR)
    | (apply e_blkE)
    | (apply w_exit)
    | (apply w_ret)
    | (apply w_skip)
    | (apply e_blkE'; rfl))
    apply w_loopI (S := fun i : Nat => ⟨(Fr.nil.put 1 (.ptrL 1 0)).put 3 (.i i), Heap.nil.put 1 [.i k, .d (.val (.int .u64 a)), .d (.val (.int .u64 b)), .d (.val (.int .u64 c)), .d (.val (.int .u64 d)), .i mn, .i mx, .d (.sl (encL subs) subs.length)], Frz.lo 100, 100⟩) (m := fun i => subs.length - i) (I := fun i => i ≤ subs.length ∧ nnAny subs = nnAny (subs.drop i)) (i0 := 0)
    · exact ⟨Nat.zero_le _, rfl⟩
    · refine wkR (by omega) rfl rfl ?_
      repeat' (first
    | exact FWk.nil
    | (apply FWk.i; rfl; (first | rfl | omega | (simp; done)))
    | (apply FWk.sl; rfl; rfl; rfl; rfl; omega; rfl)
    | (apply FWk.ptr; rfl; rfl; rfl; omega; rfl)
    | (apply FWk.d; rfl; rfl)
    | (apply FWk.a; rfl; rfl; rfl)
    | (apply FWk.slN; rfl; omega; rfl))
    rintro i K ⟨hi, hp⟩ hK
    dsimp only
    rcases Nat.lt_or_ge i subs.length with hlt | hge
    · have hs := NodeAt.sub hlt
      have hg := ih' i hlt
      have hd := nnAny_drop subs i hlt
      have hna : [nodeA subs[i]].all AV.nrm = true := by rw [List.all_cons, nodeA_nrm]; rfl
      rcases Bool.eq_false_or_eq_true (nnT subs[i]) with hq | hq
      · rw [hq] at hg hd
        repeat' (first
    | (apply r_mvV; rfl)
    | (apply r_mvP; rfl)
    | (apply r_mvPL; rfl)
    | (apply r_mvS; rfl)
    | (apply r_mvSL; rfl)
    | (apply r_mvA; rfl)
    | (apply r_mvT; rfl)
    | (apply r_mvF; rfl)
    | (apply r_mvD; rfl)
    | (apply r_faddD; rfl)
    | (apply r_faddL; rfl)
    | (apply r_l; apply ld_kind; assumption; rfl)
    | (apply r_l; apply ld_mn; assumption; rfl)
    | (apply r_l; apply ld_mx; assumption; rfl)
    | (apply r_l; apply ld_subs; assumption; rfl)
    | (apply r_l; apply ld_set; assumption; rfl)
    | (apply r_l; apply ld_node; assumption; rfl)
    | (apply r_l; apply ld_kind'; assumption; rfl)
    | (apply r_l; apply ld_mn'; assumption; rfl)
    | (apply r_l; apply ld_mx'; assumption; rfl)
    | (apply r_l; apply ld_subs'; assumption; rfl)
    | (apply r_l; apply ld_node'; assumption; rfl)
    | (apply r_p; apply ix_sub; rfl; rfl; omega)
    | (apply r_callA (ags := [nodeA subs[i]]); rfl; exact hna; exact hg)
    | (apply r_ldL; rfl; rfl; rfl)
    | (apply r_eql; rfl; rfl; (first | (apply decide_eq_true; omega) | (apply decide_eq_false; omega) | rfl))
    | (apply r_lss; rfl; rfl; (first | (apply decide_eq_true; omega) | (apply decide_eq_false; omega) | rfl))
    | (apply r_gtr; rfl; rfl; (first | (apply decide_eq_true; omega) | (apply decide_eq_false; omega) | rfl))
    | (apply r_add; rfl; rfl; rfl; omega)
    | (apply r_not; rfl; rfl)
    | (apply r_pickT; rfl)
    | (apply r_pickF; rfl)
    | (apply r_lenD; rfl)
    | (apply r_lenL; rfl)
    | (apply r_len0; rfl)
    | (apply r_gT; rfl)
    | (apply r_gF'; rfl; rfl)
    | (apply r_gN'; rfl)
    | ((apply r_gS (o := default); rfl) <;> (intro h; try simp only [decide_eq_true_eq, decide_eq_false_iff_not, Bool.not_eq_true, Bool.not_eq_false] at h))
    | (apply r_box; ((conv => lhs; simp only [Nat.reduceAdd]) <;> rfl); rfl; rfl; rfl)
    | (apply r_p; rfl)
    | (apply r_nilK)
    | (apply r_nil)
    | (apply k_V; rfl)
    | (apply k_P; rfl)
    | (apply k_PL; rfl)
    | (apply k_S; rfl)
    | (apply k_SL; rfl)
    | (apply k_A; rfl)
    | (apply k_T; rfl)
    | (apply k_F; rfl)
    | (apply k_D; rfl; rotate_left; rfl)
    | (apply k_nil)
    | (apply e_ret (vs := [.d (.val _)]); rfl)
    | (apply e_ret; rfl)
    | (apply e_ret' (vs := [.d (.val _)]); rfl)
    | (apply e_ret'; rfl)
    | (apply w_seq)
    | (apply w_ops; ((conv => lhs; simp only [Nat.reduceAdd]) <;> rfl))
    | (apply w_condT; rfl)
    | (apply w_condF; rfl)
    | ((apply w_condS; rfl) <;> (intro h; try simp only [decide_eq_true_eq, decide_eq_false_iff_not, Bool.not_eq_true, Bool.not_eq_false] at h))
    | (apply e_thenN)
    | (apply w_block)
    | (apply e_thenR)
    | (apply e_thenX)
    | (apply e_blkN)
    | (apply e_blkR)
    | (apply e_blkE)
    | (apply w_exit)
    | (apply w_ret)
    | (apply w_skip)
    | (apply e_blkE'; rfl))
        exact retB (by rw [hp, hd]; rfl)
      · rw [hq] at hg hd
        repeat' (first
    | (apply r_mvV; rfl)
    | (apply r_mvP; rfl)
    | (apply r_mvPL; rfl)
    | (apply r_mvS; rfl)
    | (apply r_mvSL; rfl)
    | (apply r_mvA; rfl)
    | (apply r_mvT; rfl)
    | (apply r_mvF; rfl)
    | (apply r_mvD; rfl)
    | (apply r_faddD; rfl)
    | (apply r_faddL; rfl)
    | (apply r_l; apply ld_kind; assumption; rfl)
    | (apply r_l; apply ld_mn; assumption; rfl)
    | (apply r_l; apply ld_mx; assumption; rfl)
    | (apply r_l; apply ld_subs; assumption; rfl)
    | (apply r_l; apply ld_set; assumption; rfl)
    | (apply r_l; apply ld_node; assumption; rfl)
    | (apply r_l; apply ld_kind'; assumption; rfl)
    | (apply r_l; apply ld_mn'; assumption; rfl)
    | (apply r_l; apply ld_mx'; assumption; rfl)
    | (apply r_l; apply ld_subs'; assumption; rfl)
    | (apply r_l; apply ld_node'; assumption; rfl)
    | (apply r_p; apply ix_sub; rfl; rfl; omega)
    | (apply r_callA (ags := [nodeA subs[i]]); rfl; exact hna; exact hg)
    | (apply r_ldL; rfl; rfl; rfl)
    | (apply r_eql; rfl; rfl; (first | (apply decide_eq_true; omega) | (apply decide_eq_false; omega) | rfl))
    | (apply r_lss; rfl; rfl; (first | (apply decide_eq_true; omega) | (apply decide_eq_false; omega) | rfl))
    | (apply r_gtr; rfl; rfl; (first | (apply decide_eq_true; omega) | (apply decide_eq_false; omega) | rfl))
    | (apply r_add; rfl; rfl; rfl; omega)
    | (apply r_not; rfl; rfl)
    | (apply r_pickT; rfl)
    | (apply r_pickF; rfl)
    | (apply r_lenD; rfl)
    | (apply r_lenL; rfl)
    | (apply r_len0; rfl)
    | (apply r_gT; rfl)
    | (apply r_gF'; rfl; rfl)
    | (apply r_gN'; rfl)
    | ((apply r_gS (o := default); rfl) <;> (intro h; try simp only [decide_eq_true_eq, decide_eq_false_iff_not, Bool.not_eq_true, Bool.not_eq_false] at h))
    | (apply r_box; ((conv => lhs; simp only [Nat.reduceAdd]) <;> rfl); rfl; rfl; rfl)
    | (apply r_p; rfl)
    | (apply r_nilK)
    | (apply r_nil)
    | (apply k_V; rfl)
    | (apply k_P; rfl)
    | (apply k_PL; rfl)
    | (apply k_S; rfl)
    | (apply k_SL; rfl)
    | (apply k_A; rfl)
    | (apply k_T; rfl)
    | (apply k_F; rfl)
    | (apply k_D; rfl; rotate_left; rfl)
    | (apply k_nil)
    | (apply e_ret (vs := [.d (.val _)]); rfl)
    | (apply e_ret; rfl)
    | (apply e_ret' (vs := [.d (.val _)]); rfl)
    | (apply e_ret'; rfl)
    | (apply w_seq)
    | (apply w_ops; ((conv => lhs; simp only [Nat.reduceAdd]) <;> rfl))
    | (apply w_condT; rfl)
    | (apply w_condF; rfl)
    | ((apply w_condS; rfl) <;> (intro h; try simp only [decide_eq_true_eq, decide_eq_false_iff_not, Bool.not_eq_true, Bool.not_eq_false] at h))
    | (apply e_thenN)
    | (apply w_block)
    | (apply e_thenR)
    | (apply e_thenX)
    | (apply e_blkN)
    | (apply e_blkR)
    | (apply e_blkE)
    | (apply w_exit)
    | (apply w_ret)
    | (apply w_skip)
    | (apply e_blkE'; rfl))
        apply e_thenK
        apply hK (i + 1)
        · exact ⟨by omega, by rw [hp, hd, Bool.false_or]⟩
        · omega
        · refine wkR (by omega) rfl rfl ?_
          repeat' (first
    | exact FWk.nil
    | (apply FWk.i; rfl; (first | rfl | omega | (simp; done)))
    | (apply FWk.sl; rfl; rfl; rfl; rfl; omega; rfl)
    | (apply FWk.ptr; rfl; rfl; rfl; omega; rfl)
    | (apply FWk.d; rfl; rfl)
    | (apply FWk.a; rfl; rfl; rfl)
    | (apply FWk.slN; rfl; omega; rfl))
    · have e : nnAny subs = false := by rw [hp, List.drop_of_length_le hge, nnAny]
      repeat' (first
    | (apply r_mvV; rfl)
    | (apply r_mvP; rfl)
    | (apply r_mvPL; rfl)
    | (apply r_mvS; rfl)
    | (apply r_mvSL; rfl)
    | (apply r_mvA; rfl)
    | (apply r_mvT; rfl)
    | (apply r_mvF; rfl)
    | (apply r_mvD; rfl)
    | (apply r_faddD; rfl)
    | (apply r_faddL; rfl)
    | (apply r_l; apply ld_kind; assumption; rfl)
    | (apply r_l; apply ld_mn; assumption; rfl)
    | (apply r_l; apply ld_mx; assumption; rfl)
    | (apply r_l; apply ld_subs; assumption; rfl)
    | (apply r_l; apply ld_set; assumption; rfl)
    | (apply r_l; apply ld_node; assumption; rfl)
    | (apply r_l; apply ld_kind'; assumption; rfl)
    | (apply r_l; apply ld_mn'; assumption; rfl)
    | (apply r_l; apply ld_mx'; assumption; rfl)
    | (apply r_l; apply ld_subs'; assumption; rfl)
    | (apply r_l; apply ld_node'; assumption; rfl)
    | (apply r_ldL; rfl; rfl; rfl)
    | (apply r_eql; rfl; rfl; (first | (apply decide_eq_true; omega) | (apply decide_eq_false; omega) | rfl))
    | (apply r_lss; rfl; rfl; (first | (apply decide_eq_true; omega) | (apply decide_eq_false; omega) | rfl))
    | (apply r_gtr; rfl; rfl; (first | (apply decide_eq_true; omega) | (apply decide_eq_false; omega) | rfl))
    | (apply r_add; rfl; rfl; rfl; omega)
    | (apply r_not; rfl; rfl)
    | (apply r_pickT; rfl)
    | (apply r_pickF; rfl)
    | (apply r_lenD; rfl)
    | (apply r_lenL; rfl)
    | (apply r_len0; rfl)
    | (apply r_gT; rfl)
    | (apply r_gF'; rfl; rfl)
    | (apply r_gN'; rfl)
    | ((apply r_gS (o := default); rfl) <;> (intro h; try simp only [decide_eq_true_eq, decide_eq_false_iff_not, Bool.not_eq_true, Bool.not_eq_false] at h))
    | (apply r_box; ((conv => lhs; simp only [Nat.reduceAdd]) <;> rfl); rfl; rfl; rfl)
    | (apply r_p; rfl)
    | (apply r_nilK)
    | (apply r_nil)
    | (apply k_V; rfl)
    | (apply k_P; rfl)
    | (apply k_PL; rfl)
    | (apply k_S; rfl)
    | (apply k_SL; rfl)
    | (apply k_A; rfl)
    | (apply k_T; rfl)
    | (apply k_F; rfl)
    | (apply k_D; rfl; rotate_left; rfl)
    | (apply k_nil)
    | (apply e_ret (vs := [.d (.val _)]); rfl)
    | (apply e_ret; rfl)
    | (apply e_ret' (vs := [.d (.val _)]); rfl)
    | (apply e_ret'; rfl)
    | (apply w_seq)
    | (apply w_ops; ((conv => lhs; simp only [Nat.reduceAdd]) <;> rfl))
    | (apply w_condT; rfl)
    | (apply w_condF; rfl)
    | ((apply w_condS; rfl) <;> (intro h; try simp only [decide_eq_true_eq, decide_eq_false_iff_not, Bool.not_eq_true, Bool.not_eq_false] at h))
    | (apply e_thenN)
    | (apply w_block)
    | (apply e_thenR)
    | (apply e_thenX)
    | (apply e_blkN)
    | (apply e_blkR)
    | (apply e_blkE)
    | (apply w_exit)
    | (apply w_ret)
    | (apply w_skip)
    | (apply e_blkE'; rfl))
      exact retB e.symm
  rw [if_neg h3]
  by_cases h4 : k = 4
  · rw [if_pos h4]
    refine b51 (by simp) (by simp) (w_init ?_)
    unfold x51
    repeat' (first
    | (apply r_mvV; rfl)
    | (apply r_mvP; rfl)
    | (apply r_mvPL; rfl)
    | (apply r_mvS; rfl)
    | (apply r_mvSL; rfl)
    | (apply r_mvA; rfl)
    | (apply r_mvT; rfl)
    | (apply r_mvF; rfl)
    | (apply r_mvD; rfl)
    | (apply r_faddD; rfl)
    | (apply r_faddL; rfl)
    | (apply r_l; apply ld_kind; assumption; rfl)
    | (apply r_l; apply ld_mn; assumption; rfl)
    | (apply r_l; apply ld_mx; assumption; rfl)
    | (apply r_l; apply ld_subs; assumption; rfl)
    | (apply r_l; apply ld_set; assumption; rfl)
    | (apply r_l; apply ld_node; assumption; rfl)
    | (apply r_l; apply ld_kind'; assumption; rfl)
    | (apply r_l; apply ld_mn'; assumption; rfl)
    | (apply r_l; apply ld_mx'; assumption; rfl)
    | (apply r_l; apply ld_subs'; assumption; rfl)
    | (apply r_l; apply ld_node'; assumption; rfl)
    | (apply r_ldL; rfl; rfl; rfl)
    | (apply r_eql; rfl; rfl; (first | (apply decide_eq_true; omega) | (apply decide_eq_false; omega) | rfl))
    | (apply r_lss; rfl; rfl; (first | (apply decide_eq_true; omega) | (apply decide_eq_false; omega) | rfl))
    | (apply r_gtr; rfl; rfl; (first | (apply decide_eq_true; omega) | (apply decide_eq_false; omega) | rfl))
    | (apply r_add; rfl; rfl; rfl; omega)
    | (apply r_not; rfl; rfl)
    | (apply r_pickT; rfl)
    | (apply r_pickF; rfl)
    | (apply r_lenD; rfl)
    | (apply r_lenL; rfl)
    | (apply r_len0; rfl)
    | (apply r_gT; rfl)
    | (apply r_gF'; rfl; rfl)
    | (apply r_gN'; rfl)
    | ((apply r_gS (o := default); rfl) <;> (intro h; try simp only [decide_eq_true_eq, decide_eq_false_iff_not, Bool.not_eq_true, Bool.not_eq_false] at h))
    | (apply r_box; ((conv => lhs; simp only [Nat.reduceAdd]) <;> rfl); rfl; rfl; rfl)
    | (apply r_p; rfl)
    | (apply r_nilK)
    | (apply r_nil)
    | (apply k_V; rfl)
    | (apply k_P; rfl)
    | (apply k_PL; rfl)
    | (apply k_S; rfl)
    | (apply k_SL; rfl)
    | (apply k_A; rfl)
    | (apply k_T; rfl)
    | (apply k_F; rfl)
    | (apply k_D; rfl; rotate_left; rfl)
    | (apply k_nil)
    | (apply e_ret (vs := [.d (.val _)]); rfl)
    | (apply e_ret; rfl)
    | (apply e_ret' (vs := [.d (.val _)]); rfl)
    | (apply e_ret'; rfl)
    | (apply w_seq)
    | (apply w_ops; ((conv => lhs; simp only [Nat.reduceAdd]) <;> rfl))
    | (apply w_condT; rfl)
    | (apply w_condF; rfl)
    | ((apply w_condS; rfl) <;> (intro h; try simp only [decide_eq_true_eq, decide_eq_false_iff_not, Bool.not_eq_true, Bool.not_eq_false] at h))
    | (apply e_thenN)
    | (apply w_block)
    | (apply e_thenR)
    | (apply e_thenX)
    | (apply e_blkN)
    | (apply e_blkR)
    | (apply e_blkE)
    | (apply w_exit)
    | (apply w_ret)
    | (apply w_skip)
    | (apply e_blkE'; rfl))
    apply w_loopI (S := fun i : Nat => ⟨(Fr.nil.put 1 (.ptrL 1 0)).put 4 (.i i), Heap.nil.put 1 [.i k, .d (.val (.int .u64 a)), .d (.val (.int .u64 b)), .d (.val (.int .u64 c)), .d (.val (.int .u64 d)), .i mn, .i mx, .d (.sl (encL subs) subs.length)], Frz.lo 100, 100⟩) (m := fun i => subs.length - i) (I := fun i => i ≤ subs.length ∧ nnAll subs = nnAll (subs.drop i)) (i0 := 0)
    · exact ⟨Nat.zero_le _, rfl⟩
    · refine wkR (by omega) rfl rfl ?_
      repeat' (first
    | exact FWk.nil
    | (apply FWk.i; rfl; (first | rfl | omega | (simp; done)))
    | (apply FWk.sl; rfl; rfl; rfl; rfl; omega; rfl)
    | (apply FWk.ptr; rfl; rfl; rfl; omega; rfl)
    | (apply FWk.d; rfl; rfl)
    | (apply FWk.a; rfl; rfl; rfl)
    | (apply FWk.slN; rfl; omega; rfl))
    rintro i K ⟨hi, hp⟩ hK
    dsimp only
    rcases Nat.lt_or_ge i subs.length with hlt | hge
    · have hs := NodeAt.sub hlt
      have hg := ih' i hlt
      have hd := nnAll_drop subs i hlt
      have hna : [nodeA subs[i]].all AV.nrm = true := by rw [List.all_cons, nodeA_nrm]; rfl
      rcases Bool.eq_false_or_eq_true (nnT subs[i]) with hq | hq
      · rw [hq] at hg hd
        repeat' (first
    | (apply r_mvV; rfl)
    | (apply r_mvP; rfl)
    | (apply r_mvPL; rfl)
    | (apply r_mvS; rfl)
    | (apply r_mvSL; rfl)
    | (apply r_mvA; rfl)
    | (apply r_mvT; rfl)
    | (apply r_mvF; rfl)
    | (apply r_mvD; rfl)
    | (apply r_faddD; rfl)
    | (apply r_faddL; rfl)
    | (apply r_l; apply ld_kind; assumption; rfl)
    | (apply r_l; apply ld_mn; assumption; rfl)
    | (apply r_l; apply ld_mx; assumption; rfl)
    | (apply r_l; apply ld_subs; assumption; rfl)
    | (apply r_l; apply ld_set; assumption; rfl)
    | (apply r_l; apply ld_node; assumption; rfl)
    | (apply r_l; apply ld_kind'; assumption; rfl)
    | (apply r_l; apply ld_mn'; assumption; rfl)
    | (apply r_l; apply ld_mx'; assumption; rfl)
    | (apply r_l; apply ld_subs'; assumption; rfl)
    | (apply r_l; apply ld_node'; assumption; rfl)
    | (apply r_p; apply ix_sub; rfl; rfl; omega)
    | (apply r_callA (ags := [nodeA subs[i]]); rfl; exact hna; exact hg)
    | (apply r_ldL; rfl; rfl; rfl)
    | (apply r_eql; rfl; rfl; (first | (apply decide_eq_true; omega) | (apply decide_eq_false; omega) | rfl))
    | (apply r_lss; rfl; rfl; (first | (apply decide_eq_true; omega) | (apply decide_eq_false; omega) | rfl))
    | (apply r_gtr; rfl; rfl; (first | (apply decide_eq_true; omega) | (apply decide_eq_false; omega) | rfl))
    | (apply r_add; rfl; rfl; rfl; omega)
    | (apply r_not; rfl; rfl)
    | (apply r_pickT; rfl)
    | (apply r_pickF; rfl)
    | (apply r_lenD; rfl)
    | (apply r_lenL; rfl)
    | (apply r_len0; rfl)
    | (apply r_gT; rfl)
    | (apply r_gF'; rfl; rfl)
    | (apply r_gN'; rfl)
    | ((apply r_gS (o := default); rfl) <;> (intro h; try simp only [decide_eq_true_eq, decide_eq_false_iff_not, Bool.not_eq_true, Bool.not_eq_false] at h))
    | (apply r_box; ((conv => lhs; simp only [Nat.reduceAdd]) <;> rfl); rfl; rfl; rfl)
    | (apply r_p; rfl)
    | (apply r_nilK)
    | (apply r_nil)
    | (apply k_V; rfl)
    | (apply k_P; rfl)
    | (apply k_PL; rfl)
    | (apply k_S; rfl)
    | (apply k_SL; rfl)
    | (apply k_A; rfl)
    | (apply k_T; rfl)
    | (apply k_F; rfl)
    | (apply k_D; rfl; rotate_left; rfl)
    | (apply k_nil)
    | (apply e_ret (vs := [.d (.val _)]); rfl)
    | (apply e_ret; rfl)
    | (apply e_ret' (vs := [.d (.val _)]); rfl)
    | (apply e_ret'; rfl)
    | (apply w_seq)
    | (apply w_ops; ((conv => lhs; simp only [Nat.reduceAdd]) <;> rfl))
    | (apply w_condT; rfl)
    | (apply w_condF; rfl)
    | ((apply w_condS; rfl) <;> (intro h; try simp only [decide_eq_true_eq, decide_eq_false_iff_not, Bool.not_eq_true, Bool.not_eq_false] at h))
    | (apply e_thenN)
    | (apply w_block)
    | (apply e_thenR)
    | (apply e_thenX)
    | (apply e_blkN)
    | (apply e_blkR)
    | (apply e_blkE)
    | (apply w_exit)
    | (apply w_ret)
    | (apply w_skip)
    | (apply e_blkE'; rfl))
        apply e_thenK
        apply hK (i + 1)
        · exact ⟨by omega, by rw [hp, hd, Bool.true_and]⟩
        · omega
        · refine wkR (by omega) rfl rfl ?_
          repeat' (first
    | exact FWk.nil
    | (apply FWk.i; rfl; (first | rfl | omega | (simp; done)))
    | (apply FWk.sl; rfl; rfl; rfl; rfl; omega; rfl)
    | (apply FWk.ptr; rfl; rfl; rfl; omega; rfl)
    | (apply FWk.d; rfl; rfl)
    | (apply FWk.a; rfl; rfl; rfl)
    | (apply FWk.slN; rfl; omega; rfl))
      · rw [hq] at hg hd
        repeat' (first
    | (apply r_mvV; rfl)
    | (apply r_mvP; rfl)
    | (apply r_mvPL; rfl)
    | (apply r_mvS; rfl)
    | (apply r_mvSL; rfl)
    | (apply r_mvA; rfl)
    | (apply r_mvT; rfl)
    | (apply r_mvF; rfl)
    | (apply r_mvD; rfl)
    | (apply r_faddD; rfl)
    | (apply r_faddL; rfl)
    | (apply r_l; apply ld_kind; assumption; rfl)
    | (apply r_l; apply ld_mn; assumption; rfl)
    | (apply r_l; apply ld_mx; assumption; rfl)
    | (apply r_l; apply ld_subs; assumption; rfl)
    | (apply r_l; apply ld_set; assumption; rfl)
    | (apply r_l; apply ld_node; assumption; rfl)
    | (apply r_l; apply ld_kind'; assumption; rfl)
    | (apply r_l; apply ld_mn'; assumption; rfl)
    | (apply r_l; apply ld_mx'; assumption; rfl)
    | (apply r_l; apply ld_subs'; assumption; rfl)
    | (apply r_l; apply ld_node'; assumption; rfl)
    | (apply r_p; apply ix_sub; rfl; rfl; omega)
    | (apply r_callA (ags := [nodeA subs[i]]); rfl; exact hna; exact hg)
    | (apply r_ldL; rfl; rfl; rfl)
    | (apply r_eql; rfl; rfl; (first | (apply decide_eq_true; omega) | (apply decide_eq_false; omega) | rfl))
    | (apply r_lss; rfl; rfl; (first | (apply decide_eq_true; omega) | (apply decide_eq_false; omega) | rfl))
    | (apply r_gtr; rfl; rfl; (first | (apply decide_eq_true; omega) | (apply decide_eq_false; omega) | rfl))
    | (apply r_add; rfl; rfl; rfl; omega)
    | (apply r_not; rfl; rfl)
    | (apply r_pickT; rfl)
    | (apply r_pickF; rfl)
    | (apply r_lenD; rfl)
    | (apply r_lenL; rfl)
    | (apply r_len0; rfl)
    | (apply r_gT; rfl)
    | (apply r_gF'; rfl; rfl)
    | (apply r_gN'; rfl)
    | ((apply r_gS (o := default); rfl) <;> (intro h; try simp only [decide_eq_true_eq, decide_eq_false_iff_not, Bool.not_eq_true, Bool.not_eq_false] at h))
    | (apply r_box; ((conv => lhs; simp only [Nat.reduceAdd]) <;> rfl); rfl; rfl; rfl)
    | (apply r_p; rfl)
    | (apply r_nilK)
    | (apply r_nil)
    | (apply k_V; rfl)
    | (apply k_P; rfl)
    | (apply k_PL; rfl)
    | (apply k_S; rfl)
    | (apply k_SL; rfl)
    | (apply k_A; rfl)
    | (apply k_T; rfl)
    | (apply k_F; rfl)
    | (apply k_D; rfl; rotate_left; rfl)
    | (apply k_nil)
    | (apply e_ret (vs := [.d (.val _)]); rfl)
    | (apply e_ret; rfl)
    | (apply e_ret' (vs := [.d (.val _)]); rfl)
    | (apply e_ret'; rfl)
    | (apply w_seq)
    | (apply w_ops; ((conv => lhs; simp only [Nat.reduceAdd]) <;> rfl))
    | (apply w_condT; rfl)
    | (apply w_condF; rfl)
    | ((apply w_condS; rfl) <;> (intro h; try simp only [decide_eq_true_eq, decide_eq_false_iff_not, Bool.not_eq_true, Bool.not_eq_false] at h))
    | (apply e_thenN)
    | (apply w_block)
    | (apply e_thenR)
    | (apply e_thenX)
    | (apply e_blkN)
    | (apply e_blkR)
    | (apply e_blkE)
    | (apply w_exit)
    | (apply w_ret)
    | (apply w_skip)
    | (apply e_blkE'; rfl))
        exact retB (by rw [hp, hd]; rfl)
    · have e : nnAll subs = true := by rw [hp, List.drop_of_length_le hge, nnAll]
      repeat' (first
    | (apply r_mvV; rfl)
    | (apply r_mvP; rfl)
    | (apply r_mvPL; rfl)
    | (apply r_mvS; rfl)
    | (apply r_mvSL; rfl)
    | (apply r_mvA; rfl)
    | (apply r_mvT; rfl)
    | (apply r_mvF; rfl)
    | (apply r_mvD; rfl)
    | (apply r_faddD; rfl)
    | (apply r_faddL; rfl)
    | (apply r_l; apply ld_kind; assumption; rfl)
    | (apply r_l; apply ld_mn; assumption; rfl)
    | (apply r_l; apply ld_mx; assumption; rfl)
    | (apply r_l; apply ld_subs; assumption; rfl)
    | (apply r_l; apply ld_set; assumption; rfl)
    | (apply r_l; apply ld_node; assumption; rfl)
    | (apply r_l; apply ld_kind'; assumption; rfl)
    | (apply r_l; apply ld_mn'; assumption; rfl)
    | (apply r_l; apply ld_mx'; assumption; rfl)
    | (apply r_l; apply ld_subs'; assumption; rfl)
    | (apply r_l; apply ld_node'; assumption; rfl)
    | (apply r_ldL; rfl; rfl; rfl)
    | (apply r_eql; rfl; rfl; (first | (apply decide_eq_true; omega) | (apply decide_eq_false; omega) | rfl))
    | (apply r_lss; rfl; rfl; (first | (apply decide_eq_true; omega) | (apply decide_eq_false; omega) | rfl))
    | (apply r_gtr; rfl; rfl; (first | (apply decide_eq_true; omega) | (apply decide_eq_false; omega) | rfl))
    | (apply r_add; rfl; rfl; rfl; omega)
    | (apply r_not; rfl; rfl)
    | (apply r_pickT; rfl)
    | (apply r_pickF; rfl)
    | (apply r_lenD; rfl)
    | (apply r_lenL; rfl)
    | (apply r_len0; rfl)
    | (apply r_gT; rfl)
    | (apply r_gF'; rfl; rfl)
    | (apply r_gN'; rfl)
    | ((apply r_gS (o := default); rfl) <;> (intro h; try simp only [decide_eq_true_eq, decide_eq_false_iff_not, Bool.not_eq_true, Bool.not_eq_false] at h))
    | (apply r_box; ((conv => lhs; simp only [Nat.reduceAdd]) <;> rfl); rfl; rfl; rfl)
    | (apply r_p; rfl)
    | (apply r_nilK)
    | (apply r_nil)
    | (apply k_V; rfl)
    | (apply k_P; rfl)
    | (apply k_PL; rfl)
    | (apply k_S; rfl)
    | (apply k_SL; rfl)
    | (apply k_A; rfl)
    | (apply k_T; rfl)
    | (apply k_F; rfl)
    | (apply k_D; rfl; rotate_left; rfl)
    | (apply k_nil)
    | (apply e_ret (vs := [.d (.val _)]); rfl)
    | (apply e_ret; rfl)
    | (apply e_ret' (vs := [.d (.val _)]); rfl)
    | (apply e_ret'; rfl)
    | (apply w_seq)
    | (apply w_ops; ((conv => lhs; simp only [Nat.reduceAdd]) <;> rfl))
    | (apply w_condT; rfl)
    | (apply w_condF; rfl)
    | ((apply w_condS; rfl) <;> (intro h; try simp only [decide_eq_true_eq, decide_eq_false_iff_not, Bool.not_eq_true, Bool.not_eq_false] at h))
    | (apply e_thenN)
    | (apply w_block)
    | (apply e_thenR)
    | (apply e_thenX)
    | (apply e_blkN)
    | (apply e_blkR)
    | (apply e_blkE)
    | (apply w_exit)
    | (apply w_ret)
    | (apply w_skip)
    | (apply e_blkE'; rfl))
      exact retB e.symm
  rw [if_neg h4]
  by_cases h5 : k = 5
  · rw [if_pos h5]
    obtain ⟨u, hu⟩ := hk5 h5
    have hl1 : 0 < subs.length := by rw [hu]; simp
    have hg := ih' 0 hl1
    have hs := NodeAt.sub hl1
    have hu0 : subs[0] = u := by simp [hu]
    rw [hu0] at hg hs
    have en : nnFst subs = nnT u := by rw [hu, nnFst]
    rw [en]
    have hna : [nodeA u].all AV.nrm = true := by rw [List.all_cons, nodeA_nrm]; rfl
    clear hu0 en hu hk5 ih'
    generalize nnT u = q at hg
    by_cases hm : 0 < mn
    · rw [decide_eq_true hm, Bool.true_and]
      refine b51 (by simp) (by simp) (w_init ?_)
      unfold x51
      repeat' (first
    | (apply r_mvV; rfl)
    | (apply r_mvP; rfl)
    | (apply r_mvPL; rfl)
    | (apply r_mvS; rfl)
    | (apply r_mvSL; rfl)
    | (apply r_mvA; rfl)
    | (apply r_mvT; rfl)
    | (apply r_mvF; rfl)
    | (apply r_mvD; rfl)
    | (apply r_faddD; rfl)
    | (apply r_faddL; rfl)
    | (apply r_l; apply ld_kind; assumption; rfl)
    | (apply r_l; apply ld_mn; assumption; rfl)
    | (apply r_l; apply ld_mx; assumption; rfl)
    | (apply r_l; apply ld_subs; assumption; rfl)
    | (apply r_l; apply ld_set; assumption; rfl)
    | (apply r_l; apply ld_node; assumption; rfl)
    | (apply r_l; apply ld_kind'; assumption; rfl)
    | (apply r_l; apply ld_mn'; assumption; rfl)
    | (apply r_l; apply ld_mx'; assumption; rfl)
    | (apply r_l; apply ld_subs'; assumption; rfl)
    | (apply r_l; apply ld_node'; assumption; rfl)
    | (apply r_p (v := .d (.ptr (encL subs) 0)); exact ix_sub0 rfl rfl hl1)
    | (apply r_l; apply ld_node'; exact hs; rfl)
    | (apply r_callA (ags := [nodeA u]); rfl; exact hna; exact hg)
    | (apply r_ldL; rfl; rfl; rfl)
    | (apply r_eql; rfl; rfl; (first | (apply decide_eq_true; omega) | (apply decide_eq_false; omega) | rfl))
    | (apply r_lss; rfl; rfl; (first | (apply decide_eq_true; omega) | (apply decide_eq_false; omega) | rfl))
    | (apply r_gtr; rfl; rfl; (first | (apply decide_eq_true; omega) | (apply decide_eq_false; omega) | rfl))
    | (apply r_add; rfl; rfl; rfl; omega)
    | (apply r_not; rfl; rfl)
    | (apply r_pickT; rfl)
    | (apply r_pickF; rfl)
    | (apply r_lenD; rfl)
    | (apply r_lenL; rfl)
    | (apply r_len0; rfl)
    | (apply r_gT; rfl)
    | (apply r_gF'; rfl; rfl)
    | (apply r_gN'; rfl)
    | ((apply r_gS (o := default); rfl) <;> (intro h; try simp only [decide_eq_true_eq, decide_eq_false_iff_not, Bool.not_eq_true, Bool.not_eq_false] at h))
    | (apply r_box; ((conv => lhs; simp only [Nat.reduceAdd]) <;> rfl); rfl; rfl; rfl)
    | (apply r_p; rfl)
    | (apply r_nilK)
    | (apply r_nil)
    | (apply k_V; rfl)
    | (apply k_P; rfl)
    | (apply k_PL; rfl)
    | (apply k_S; rfl)
    | (apply k_SL; rfl)
    | (apply k_A; rfl)
    | (apply k_T; rfl)
    | (apply k_F; rfl)
    | (apply k_D; rfl; rotate_left; rfl)
    | (apply k_nil)
    | (apply e_ret (vs := [.d (.val _)]); rfl)
    | (apply e_ret; rfl)
    | (apply e_ret' (vs := [.d (.val _)]); rfl)
    | (apply e_ret'; rfl)
    | (apply w_seq)
    | (apply w_ops; ((conv => lhs; simp only [Nat.reduceAdd]) <;> rfl))
    | (apply w_condT; rfl)
    | (apply w_condF; rfl)
    | ((apply w_condS; rfl) <;> (intro h; try simp only [decide_eq_true_eq, decide_eq_false_iff_not, Bool.not_eq_true, Bool.not_eq_false] at h))
    | (apply e_thenN)
    | (apply w_block)
    | (apply e_thenR)
    | (apply e_thenX)
    | (apply e_blkN)
    | (apply e_blkR)
    | (apply e_blkE)
    | (apply w_exit)
    | (apply w_ret)
    | (apply w_skip)
    | (apply e_blkE'; rfl))
      exact retB rfl
    · rw [decide_eq_false hm, Bool.false_and]
      refine b51 (by simp) (by simp) (w_init ?_)
      unfold x51
      repeat' (first
    | (apply r_mvV; rfl)
    | (apply r_mvP; rfl)
    | (apply r_mvPL; rfl)
    | (apply r_mvS; rfl)
    | (apply r_mvSL; rfl)
    | (apply r_mvA; rfl)
    | (apply r_mvT; rfl)
    | (apply r_mvF; rfl)
    | (apply r_mvD; rfl)
    | (apply r_faddD; rfl)
    | (apply r_faddL; rfl)
    | (apply r_l; apply ld_kind; assumption; rfl)
    | (apply r_l; apply ld_mn; assumption; rfl)
    | (apply r_l; apply ld_mx; assumption; rfl)
    | (apply r_l; apply ld_subs; assumption; rfl)
    | (apply r_l; apply ld_set; assumption; rfl)
    | (apply r_l; apply ld_node; assumption; rfl)
    | (apply r_l; apply ld_kind'; assumption; rfl)
    | (apply r_l; apply ld_mn'; assumption; rfl)
    | (apply r_l; apply ld_mx'; assumption; rfl)
    | (apply r_l; apply ld_subs'; assumption; rfl)
    | (apply r_l; apply ld_node'; assumption; rfl)
    | (apply r_ldL; rfl; rfl; rfl)
    | (apply r_eql; rfl; rfl; (first | (apply decide_eq_true; omega) | (apply decide_eq_false; omega) | rfl))
    | (apply r_lss; rfl; rfl; (first | (apply decide_eq_true; omega) | (apply decide_eq_false; omega) | rfl))
    | (apply r_gtr; rfl; rfl; (first | (apply decide_eq_true; omega) | (apply decide_eq_false; omega) | rfl))
    | (apply r_add; rfl; rfl; rfl; omega)
    | (apply r_not; rfl; rfl)
    | (apply r_pickT; rfl)
    | (apply r_pickF; rfl)
    | (apply r_lenD; rfl)
    | (apply r_lenL; rfl)
    | (apply r_len0; rfl)
    | (apply r_gT; rfl)
    | (apply r_gF'; rfl; rfl)
    | (apply r_gN'; rfl)
    | ((apply r_gS (o := default); rfl) <;> (intro h; try simp only [decide_eq_true_eq, decide_eq_false_iff_not, Bool.not_eq_true, Bool.not_eq_false] at h))
    | (apply r_box; ((conv => lhs; simp only [Nat.reduceAdd]) <;> rfl); rfl; rfl; rfl)
    | (apply r_p; rfl)
    | (apply r_nilK)
    | (apply r_nil)
    | (apply k_V; rfl)
    | (apply k_P; rfl)
    | (apply k_PL; rfl)
    | (apply k_S; rfl)
    | (apply k_SL; rfl)
    | (apply k_A; rfl)
    | (apply k_T; rfl)
    | (apply k_F; rfl)
    | (apply k_D; rfl; rotate_left; rfl)
    | (apply k_nil)
    | (apply e_ret (vs := [.d (.val _)]); rfl)
    | (apply e_ret; rfl)
    | (apply e_ret' (vs := [.d (.val _)]); rfl)
    | (apply e_ret'; rfl)
    | (apply w_seq)
    | (apply w_ops; ((conv => lhs; simp only [Nat.reduceAdd]) <;> rfl))
    | (apply w_condT; rfl)
    | (apply w_condF; rfl)
    | ((apply w_condS; rfl) <;> (intro h; try simp only [decide_eq_true_eq, decide_eq_false_iff_not, Bool.not_eq_true, Bool.not_eq_false] at h))
    | (apply e_thenN)
    | (apply w_block)
    | (apply e_thenR)
    | (apply e_thenX)
    | (apply e_blkN)
    | (apply e_blkR)
    | (apply e_blkE)
    | (apply w_exit)
    | (apply w_ret)
    | (apply w_skip)
    | (apply e_blkE'; rfl))
      exact retB rfl
  · rw [if_neg h5]
    refine b51 (by simp) (by simp) (w_init ?_)
    unfold x51
    repeat' (first
    | (apply r_mvV; rfl)
    | (apply r_mvP; rfl)
    | (apply r_mvPL; rfl)
    | (apply r_mvS; rfl)
    | (apply r_mvSL; rfl)
    | (apply r_mvA; rfl)
    | (apply r_mvT; rfl)
    | (apply r_mvF; rfl)
    | (apply r_mvD; rfl)
    | (apply r_faddD; rfl)
    | (apply r_faddL; rfl)
    | (apply r_l; apply ld_kind; assumption; rfl)
    | (apply r_l; apply ld_mn; assumption; rfl)
    | (apply r_l; apply ld_mx; assumption; rfl)
    | (apply r_l; apply ld_subs; assumption; rfl)
    | (apply r_l; apply ld_set; assumption; rfl)
    | (apply r_l; apply ld_node; assumption; rfl)
    | (apply r_l; apply ld_kind'; assumption; rfl)
    | (apply r_l; apply ld_mn'; assumption; rfl)
    | (apply r_l; apply ld_mx'; assumption; rfl)
    | (apply r_l; apply ld_subs'; assumption; rfl)
    | (apply r_l; apply ld_node'; assumption; rfl)
    | (apply r_ldL; rfl; rfl; rfl)
    | (apply r_eql; rfl; rfl; (first | (apply decide_eq_true; omega) | (apply decide_eq_false; omega) | rfl))
    | (apply r_lss; rfl; rfl; (first | (apply decide_eq_true; omega) | (apply decide_eq_false; omega) | rfl))
    | (apply r_gtr; rfl; rfl; (first | (apply decide_eq_true; omega) | (apply decide_eq_false; omega) | rfl))
    | (apply r_add; rfl; rfl; rfl; omega)
    | (apply r_not; rfl; rfl)
    | (apply r_pickT; rfl)
    | (apply r_pickF; rfl)
    | (apply r_lenD; rfl)
    | (apply r_lenL; rfl)
    | (apply r_len0; rfl)
    | (apply r_gT; rfl)
    | (apply r_gF'; rfl; rfl)
    | (apply r_gN'; rfl)
    | ((apply r_gS (o := default); rfl) <;> (intro h; try simp only [decide_eq_true_eq, decide_eq_false_iff_not, Bool.not_eq_true, Bool.not_eq_false] at h))
    | (apply r_box; ((conv => lhs; simp only [Nat.reduceAdd]) <;> rfl); rfl; rfl; rfl)
    | (apply r_p; rfl)
    | (apply r_nilK)
    | (apply r_nil)
    | (apply k_V; rfl)
    | (apply k_P; rfl)
    | (apply k_PL; rfl)
    | (apply k_S; rfl)
    | (apply k_SL; rfl)
    | (apply k_A; rfl)
    | (apply k_T; rfl)
    | (apply k_F; rfl)
    | (apply k_D; rfl; rotate_left; rfl)
    | (apply k_nil)
    | (apply e_ret (vs := [.d (.val _)]); rfl)
    | (apply e_ret; rfl)
    | (apply e_ret' (vs := [.d (.val _)]); rfl)
    | (apply e_ret'; rfl)
    | (apply w_seq)
    | (apply w_ops; ((conv => lhs; simp only [Nat.reduceAdd]) <;> rfl))
    | (apply w_condT; rfl)
    | (apply w_condF; rfl)
    | ((apply w_condS; rfl) <;> (intro h; try simp only [decide_eq_true_eq, decide_eq_false_iff_not, Bool.not_eq_true, Bool.not_eq_false] at h))
    | (apply e_thenN)
    | (apply w_block)
    | (apply e_thenR)
    | (apply e_thenX)
    | (apply e_blkN)
    | (apply e_blkR)
    | (apply e_blkE)
    | (apply w_exit)
    | (apply w_ret)
    | (apply w_skip)
    | (apply e_blkE'; rfl))
    exact retB rfl
def Joined (a b p : List Bool) (D : Nat → Nat → Prop) : Prop := p.length = a.length ∧ ∀ n, n < a.length → (At p n ↔ ∃ i k, D i k ∧ i + k = n ∧ At a i ∧ At b k)
theorem join98_good (a b : List Bool) {m : Nat} (ha : a.length = m) (hb : b.length = m) (hm : m ≤ 1000000) : Good Try.prog 98 [.d (.sl (encB a) m), .d (.sl (encB b) m)] none (.d (.sl (encB (joinB a b)) m)) none none := by
  refine b98 (by simp) (by simp) (w_init ?_)
  unfold x98
  repeat' (first
    | (apply r_mvV; rfl)
    | (apply r_mvP; rfl)
    | (apply r_mvPL; rfl)
    | (apply r_mvS; rfl)
    | (apply r_mvSL; rfl)
    | (apply r_mvA; rfl)
    | (apply r_mvT; rfl)
    | (apply r_mvF; rfl)
    | (apply r_mvD; rfl)
    | (apply r_mksB (m := m); rfl; rfl; rfl; rfl; omega)
    | (apply r_ldL; rfl; rfl; rfl)
    | (apply r_lss; rfl; rfl; (first | (apply decide_eq_true; omega) | (apply decide_eq_false; omega) | rfl))
    | (apply r_add; rfl; rfl; rfl; omega)
    | (apply r_pickT; rfl)
    | (apply r_pickF; rfl)
    | (apply r_lenD; rfl)
    | (apply r_lenL; rfl)
    | (apply r_len0; rfl)
    | (apply r_gT; rfl)
    | (apply r_gF'; rfl; rfl)
    | (apply r_gN'; rfl)
    | ((apply r_gS (o := default); rfl) <;> (intro h; try simp only [decide_eq_true_eq, decide_eq_false_iff_not, Bool.not_eq_true, Bool.not_eq_false] at h))
    | (apply r_stL; rfl; rfl; rfl; rfl; (first | rfl | (simp only [z_nil, z_add] <;> rfl)); rfl; rfl)
    | (apply r_p; rfl)
    | (apply r_nilK)
    | (apply r_nil)
    | (apply k_V; rfl)
    | (apply k_P; rfl)
    | (apply k_PL; rfl)
    | (apply k_S; rfl)
    | (apply k_SL; rfl)
    | (apply k_A; rfl)
    | (apply k_T; rfl)
    | (apply k_F; rfl)
    | (apply k_D; rfl; rotate_left; rfl)
    | (apply k_nil)
    | (apply e_ret (vs := [.d (.val _)]); rfl)
    | (apply e_ret; rfl)
    | (apply e_ret' (vs := [.d (.val _)]); rfl)
    | (apply e_ret'; rfl)
    | (apply w_seq)
    | (apply w_ops; ((conv => lhs; simp only [Nat.reduceAdd]) <;> rfl))
    | (apply w_condT; rfl)
    | (apply w_condF; rfl)
    | ((apply w_condS; rfl) <;> (intro h; try simp only [decide_eq_true_eq, decide_eq_false_iff_not, Bool.not_eq_true, Bool.not_eq_false] at h))
    | (apply e_thenN)
    | (apply w_block)
    | (apply e_thenR)
    | (apply e_thenX)
    | (apply e_blkN)
    | (apply e_blkR)
    | (apply e_blkE)
    | (apply w_exit)
    | (apply w_ret)
    | (apply w_skip)
    | (apply e_blkE'; rfl))
  apply w_loopI (ι := Nat × List Bool) (S := fun q => ⟨(((Fr.nil.put 0 (.d (.sl (encB a) m))).put 1 (.d (.sl (encB b) m))).put 5 (.slL 50 0 m 1)).put 6 (.i q.1), rowsOf [(50, (encB q.2).map AV.d)], Frz.buts 100 [50], 100⟩) (m := fun q => m - q.1) (I := fun q => q.1 ≤ m ∧ Joined a b q.2 (fun i k => i < q.1)) (i0 := (0, List.replicate m false))
  · refine ⟨Nat.zero_le _, by simp [ha], fun n hn => ⟨fun h => absurd h (at_rep _ _), ?_⟩⟩
    rintro ⟨i, k, h, _⟩
    dsimp only at h
    omega
  · dsimp only
    refine wkM [(50, 4)] [] rfl ?_ ?_ rfl ?_
    · intro p hp
      simp only [List.mem_cons, List.not_mem_nil, or_false] at hp
      rcases hp with rfl
      exact ⟨by omega, .inr ⟨rfl, _, rfl, .data encB_isD⟩⟩
    · intro q hq; simp only [List.mem_cons, List.not_mem_nil, or_false] at hq; rcases hq with rfl <;> rfl
    · repeat' (first
    | exact FWk.nil
    | (apply FWk.i; rfl; (first | rfl | omega | (simp; done)))
    | (apply FWk.sl; rfl; rfl; rfl; rfl; omega; rfl)
    | (apply FWk.ptr; rfl; rfl; rfl; omega; rfl)
    | (apply FWk.d; rfl; rfl)
    | (apply FWk.a; rfl; rfl; rfl)
    | (apply FWk.slN; rfl; omega; rfl))
  rintro ⟨i, p⟩ K ⟨hi, hj⟩ hK
  dsimp only at hi hj hK ⊢
  rcases Nat.lt_or_ge i m with hlt | hge
  · repeat' (first
    | (apply r_mvV; rfl)
    | (apply r_mvP; rfl)
    | (apply r_mvPL; rfl)
    | (apply r_mvS; rfl)
    | (apply r_mvSL; rfl)
    | (apply r_mvA; rfl)
    | (apply r_mvT; rfl)
    | (apply r_mvF; rfl)
    | (apply r_mvD; rfl)
    | (apply r_ldL; rfl; rfl; rfl)
    | (apply r_lss; rfl; rfl; (first | (apply decide_eq_true; omega) | (apply decide_eq_false; omega) | rfl))
    | (apply r_add; rfl; rfl; rfl; omega)
    | (apply r_pickT; rfl)
    | (apply r_pickF; rfl)
    | (apply r_lenD; rfl)
    | (apply r_lenL; rfl)
    | (apply r_len0; rfl)
    | (apply r_gT; rfl)
    | (apply r_gF'; rfl; rfl)
    | (apply r_gN'; rfl)
    | ((apply r_gS (o := default); rfl) <;> (intro h; try simp only [decide_eq_true_eq, decide_eq_false_iff_not, Bool.not_eq_true, Bool.not_eq_false] at h))
    | (apply r_stL; rfl; rfl; rfl; rfl; (first | rfl | (simp only [z_nil, z_add] <;> rfl)); rfl; rfl)
    | (apply r_p; rfl)
    | (apply r_nilK)
    | (apply r_nil)
    | (apply k_V; rfl)
    | (apply k_P; rfl)
    | (apply k_PL; rfl)
    | (apply k_S; rfl)
    | (apply k_SL; rfl)
    | (apply k_A; rfl)
    | (apply k_T; rfl)
    | (apply k_F; rfl)
    | (apply k_D; rfl; rotate_left; rfl)
    | (apply k_nil)
    | (apply e_ret (vs := [.d (.val _)]); rfl)
    | (apply e_ret; rfl)
    | (apply e_ret' (vs := [.d (.val _)]); rfl)
    | (apply e_ret'; rfl)
    | (apply w_seq)
    | (apply w_ops; ((conv => lhs; simp only [Nat.reduceAdd]) <;> rfl))
    | (apply w_condT; rfl)
    | (apply w_condF; rfl)
    | ((apply w_condS; rfl) <;> (intro h; try simp only [decide_eq_true_eq, decide_eq_false_iff_not, Bool.not_eq_true, Bool.not_eq_false] at h))
    | (apply e_thenN)
    | (apply w_block)
    | (apply e_thenR)
    | (apply e_thenX)
    | (apply e_blkN)
    | (apply e_blkR)
    | (apply e_blkE)
    | (apply w_exit)
    | (apply w_ret)
    | (apply w_skip)
    | (apply e_blkE'; rfl))
    apply w_loopI (ι := Nat × List Bool) (S := fun q => ⟨((((Fr.nil.put 0 (.d (.sl (encB a) m))).put 1 (.d (.sl (encB b) m))).put 5 (.slL 50 0 m 1)).put 6 (.i i)).put 7 (.i q.1), rowsOf [(50, (encB q.2).map AV.d)], Frz.buts 200 [50], 200⟩) (m := fun q => m - q.1) (I := fun q => i + q.1 ≤ m ∧ Joined a b q.2 (fun i' k' => i' < i ∨ (i' = i ∧ k' < q.1))) (i0 := (0, p))
    · refine ⟨by dsimp only; omega, hj.1, fun n hn => ?_⟩
      rw [hj.2 n hn]
      dsimp only
      constructor
      · rintro ⟨i', k', h1, h2⟩; exact ⟨i', k', .inl h1, h2⟩
      · rintro ⟨i', k', h1 | h1, h2⟩
        · exact ⟨i', k', h1, h2⟩
        · omega
    · refine wkM [] [] rfl ?_ ?_ rfl ?_
      · intro p hp
        simp only [List.mem_cons, List.not_mem_nil, or_false] at hp
        rcases hp with rfl
        exact ⟨by omega, .inr ⟨rfl, _, rfl, .data encB_isD⟩⟩
      · intro q hq; simp only [List.mem_cons, List.not_mem_nil, or_false] at hq; rcases hq with rfl <;> rfl
      · dsimp only
        repeat' (first
    | exact FWk.nil
    | (apply FWk.i; rfl; (first | rfl | omega | (simp; done)))
    | (apply FWk.sl; rfl; rfl; rfl; rfl; omega; rfl)
    | (apply FWk.ptr; rfl; rfl; rfl; omega; rfl)
    | (apply FWk.d; rfl; rfl)
    | (apply FWk.a; rfl; rfl; rfl)
    | (apply FWk.slN; rfl; omega; rfl))
    rintro ⟨k, p2⟩ K2 ⟨hik, hj2⟩ hK2
    dsimp only at hik hj2 hK2 ⊢
    rcases Nat.lt_or_ge (i + k) m with hlk | hgk
    · have hpl : p2.length = m := hj2.1.trans ha
      have hgp : p2[i + k]? = some (p2.getD (i + k) false) := by rw [List.getD_eq_getElem?_getD, List.getElem?_eq_getElem (by omega)]; rfl
      have hga : a[i]? = some (a.getD i false) := by rw [List.getD_eq_getElem?_getD, List.getElem?_eq_getElem (by omega)]; rfl
      have hgb : b[k]? = some (b.getD k false) := by rw [List.getD_eq_getElem?_getD, List.getElem?_eq_getElem (by omega)]; rfl
      have fin : ∀ v fr C Z nx, v = (p2.getD (i + k) false || a.getD i false && b.getD k false) → Wk ⟨fr, C, Z, nx⟩ ⟨((((Fr.nil.put 0 (.d (.sl (encB a) m))).put 1 (.d (.sl (encB b) m))).put 5 (.slL 50 0 m 1)).put 6 (.i i)).put 7 (.i ((k + 1 : Nat) : Int)), rowsOf [(50, (encB (p2.set (i + k) v)).map AV.d)], Frz.buts 200 [50], 200⟩ → K2 ⟨fr, C, Z, nx⟩ := by
        intro v fr C Z nx hv hw
        refine hK2 (k + 1, p2.set (i + k) v) fr C Z nx ⟨by dsimp only; omega, by dsimp only; rw [List.length_set]; exact hj2.1, fun n hn => ?_⟩ (by dsimp only; omega) hw
        dsimp only
        rw [at_set n (by omega), hj2.2 n hn]
        have hv2 : v = true ↔ (At p2 (i + k) ∨ (At a i ∧ At b k)) := by
          rw [hv]; simp [At]
        rw [hv2]
        constructor
        · rintro (⟨rfl, h | ⟨h1, h2⟩⟩ | ⟨hne, i', k', h1, h2, h3⟩)
          · rw [hj2.2 _ hn] at h
            obtain ⟨i', k', h1, h2⟩ := h
            exact ⟨i', k', by omega, h2⟩
          · exact ⟨i, k, .inr ⟨rfl, by omega⟩, rfl, h1, h2⟩
          · exact ⟨i', k', by omega, h2, h3⟩
        · rintro ⟨i', k', h1, h2, h3, h4⟩
          by_cases hn2 : n = i + k
          · left
            refine ⟨hn2, ?_⟩
            by_cases he : i' = i
            · subst he
              have : k' = k := by omega
              subst this
              exact .inr ⟨h3, h4⟩
            · left
              rw [hj2.2 _ (by omega)]
              exact ⟨i', k', by omega, by omega, h3, h4⟩
          · exact .inr ⟨hn2, i', k', by omega, h2, h3, h4⟩
      generalize hv1 : p2.getD (i + k) false = v1 at hgp fin
      generalize a.getD i false = v2 at hga fin
      generalize b.getD k false = v3 at hgb fin
      cases v1 <;> cases v2
      all_goals
        repeat' (first
    | (apply r_mvV; rfl)
    | (apply r_mvP; rfl)
    | (apply r_mvPL; rfl)
    | (apply r_mvS; rfl)
    | (apply r_mvSL; rfl)
    | (apply r_mvA; rfl)
    | (apply r_mvT; rfl)
    | (apply r_mvF; rfl)
    | (apply r_mvD; rfl)
    | (apply r_ixL (j := i + k); rfl; ((conv => lhs; simp only [Nat.reduceAdd]) <;> rfl); omega)
    | (apply r_ldBL (j := i + k); rfl; rfl; exact hgp)
    | (apply r_ixB' (j := i); rfl; rfl; exact hlt; exact ha)
    | (apply r_ldB (j := i); rfl; exact hga)
    | (apply r_ixB' (j := k); rfl; rfl; omega; exact hb)
    | (apply r_ldB (j := k); rfl; exact hgb)
    | (apply r_stB (j := i + k); rfl; rfl; rfl; rfl; omega)
    | (apply r_ldL; rfl; rfl; rfl)
    | (apply r_lss; rfl; rfl; (first | (apply decide_eq_true; omega) | (apply decide_eq_false; omega) | rfl))
    | (apply r_add; rfl; rfl; rfl; omega)
    | (apply r_pickT; rfl)
    | (apply r_pickF; rfl)
    | (apply r_lenD; rfl)
    | (apply r_lenL; rfl)
    | (apply r_len0; rfl)
    | (apply r_gT; rfl)
    | (apply r_gF'; rfl; rfl)
    | (apply r_gN'; rfl)
    | ((apply r_gS (o := default); rfl) <;> (intro h; try simp only [decide_eq_true_eq, decide_eq_false_iff_not, Bool.not_eq_true, Bool.not_eq_false] at h))
    | (apply r_stL; rfl; rfl; rfl; rfl; (first | rfl | (simp only [z_nil, z_add] <;> rfl)); rfl; rfl)
    | (apply r_p; rfl)
    | (apply r_nilK)
    | (apply r_nil)
    | (apply k_V; rfl)
    | (apply k_P; rfl)
    | (apply k_PL; rfl)
    | (apply k_S; rfl)
    | (apply k_SL; rfl)
    | (apply k_A; rfl)
    | (apply k_T; rfl)
    | (apply k_F; rfl)
    | (apply k_D; rfl; rotate_left; rfl)
    | (apply k_nil)
    | (apply e_ret (vs := [.d (.val _)]); rfl)
    | (apply e_ret; rfl)
    | (apply e_ret' (vs := [.d (.val _)]); rfl)
    | (apply e_ret'; rfl)
    | (apply w_seq)
    | (apply w_ops; ((conv => lhs; simp only [Nat.reduceAdd]) <;> rfl))
    | (apply w_condT; rfl)
    | (apply w_condF; rfl)
    | ((apply w_condS; rfl) <;> (intro h; try simp only [decide_eq_true_eq, decide_eq_false_iff_not, Bool.not_eq_true, Bool.not_eq_false] at h))
    | (apply e_thenN)
    | (apply w_block)
    | (apply e_thenR)
    | (apply e_thenX)
    | (apply e_blkN)
    | (apply e_blkR)
    | (apply e_blkE)
    | (apply w_exit)
    | (apply w_ret)
    | (apply w_skip)
    | (apply e_blkE'; rfl))
        apply e_thenK
        refine fin _ _ _ _ _ (by first | rfl | simp) ?_
        refine wkM [] [] rfl ?_ ?_ rfl ?_
        · intro p hp
          simp only [List.mem_cons, List.not_mem_nil, or_false] at hp
          rcases hp with rfl
          exact ⟨by omega, .inr ⟨rfl, _, rfl, .data encB_isD⟩⟩
        · intro q hq; simp only [List.mem_cons, List.not_mem_nil, or_false] at hq; rcases hq with rfl <;> rfl
        · repeat' (first
    | exact FWk.nil
    | (apply FWk.i; rfl; (first | rfl | omega | (simp; done)))
    | (apply FWk.sl; rfl; rfl; rfl; rfl; omega; rfl)
    | (apply FWk.ptr; rfl; rfl; rfl; omega; rfl)
    | (apply FWk.d; rfl; rfl)
    | (apply FWk.a; rfl; rfl; rfl)
    | (apply FWk.slN; rfl; omega; rfl))
    · repeat' (first
    | (apply r_mvV; rfl)
    | (apply r_mvP; rfl)
    | (apply r_mvPL; rfl)
    | (apply r_mvS; rfl)
    | (apply r_mvSL; rfl)
    | (apply r_mvA; rfl)
    | (apply r_mvT; rfl)
    | (apply r_mvF; rfl)
    | (apply r_mvD; rfl)
    | (apply r_ldL; rfl; rfl; rfl)
    | (apply r_lss; rfl; rfl; (first | (apply decide_eq_true; omega) | (apply decide_eq_false; omega) | rfl))
    | (apply r_add; rfl; rfl; rfl; omega)
    | (apply r_pickT; rfl)
    | (apply r_pickF; rfl)
    | (apply r_lenD; rfl)
    | (apply r_lenL; rfl)
    | (apply r_len0; rfl)
    | (apply r_gT; rfl)
    | (apply r_gF'; rfl; rfl)
    | (apply r_gN'; rfl)
    | ((apply r_gS (o := default); rfl) <;> (intro h; try simp only [decide_eq_true_eq, decide_eq_false_iff_not, Bool.not_eq_true, Bool.not_eq_false] at h))
    | (apply r_stL; rfl; rfl; rfl; rfl; (first | rfl | (simp only [z_nil, z_add] <;> rfl)); rfl; rfl)
    | (apply r_p; rfl)
    | (apply r_nilK)
    | (apply r_nil)
    | (apply k_V; rfl)
    | (apply k_P; rfl)
    | (apply k_PL; rfl)
    | (apply k_S; rfl)
    | (apply k_SL; rfl)
    | (apply k_A; rfl)
    | (apply k_T; rfl)
    | (apply k_F; rfl)
    | (apply k_D; rfl; rotate_left; rfl)
    | (apply k_nil)
    | (apply e_ret (vs := [.d (.val _)]); rfl)
    | (apply e_ret; rfl)
    | (apply e_ret' (vs := [.d (.val _)]); rfl)
    | (apply e_ret'; rfl)
    | (apply w_seq)
    | (apply w_ops; ((conv => lhs; simp only [Nat.reduceAdd]) <;> rfl))
    | (apply w_condT; rfl)
    | (apply w_condF; rfl)
    | ((apply w_condS; rfl) <;> (intro h; try simp only [decide_eq_true_eq, decide_eq_false_iff_not, Bool.not_eq_true, Bool.not_eq_false] at h))
    | (apply e_thenN)
    | (apply w_block)
    | (apply e_thenR)
    | (apply e_thenX)
    | (apply e_blkN)
    | (apply e_blkR)
    | (apply e_blkE)
    | (apply w_exit)
    | (apply w_ret)
    | (apply w_skip)
    | (apply e_blkE'; rfl))
      apply e_thenK
      apply hK (i + 1, p2)
      · refine ⟨by dsimp only; omega, hj2.1, fun n hn => ?_⟩
        rw [hj2.2 n hn]
        dsimp only
        constructor
        · rintro ⟨i', k', h1, h2, h3, h4⟩; exact ⟨i', k', by omega, h2, h3, h4⟩
        · rintro ⟨i', k', h1, h2, h3, h4⟩
          have := h4.lt
          exact ⟨i', k', by omega, h2, h3, h4⟩
      · dsimp only; omega
      · refine wkM [] [] rfl ?_ ?_ rfl ?_
        · intro p hp
          simp only [List.mem_cons, List.not_mem_nil, or_false] at hp
          rcases hp with rfl
          exact ⟨by omega, .inr ⟨rfl, _, rfl, .data encB_isD⟩⟩
        · intro q hq; simp only [List.mem_cons, List.not_mem_nil, or_false] at hq; rcases hq with rfl <;> rfl
        · repeat' (first
    | exact FWk.nil
    | (apply FWk.i; rfl; (first | rfl | omega | (simp; done)))
    | (apply FWk.sl; rfl; rfl; rfl; rfl; omega; rfl)
    | (apply FWk.ptr; rfl; rfl; rfl; omega; rfl)
    | (apply FWk.d; rfl; rfl)
    | (apply FWk.a; rfl; rfl; rfl)
    | (apply FWk.slN; rfl; omega; rfl))
  · have e : p = joinB a b := by
      refine joinB_eq hj.1 fun n hn => ?_
      rw [hj.2 n hn]
      constructor
      · rintro ⟨i', k', h1, rfl, h3, h4⟩; exact ⟨i', by omega, h3, by rw [Nat.add_sub_cancel_left]; exact h4⟩
      · rintro ⟨i', h1, h3, h4⟩
        have := h3.lt
        exact ⟨i', n - i', by omega, by omega, h3, h4⟩
    repeat' (first
    | (apply r_mvV; rfl)
    | (apply r_mvP; rfl)
    | (apply r_mvPL; rfl)
    | (apply r_mvS; rfl)
    | (apply r_mvSL; rfl)
    | (apply r_mvA; rfl)
    | (apply r_mvT; rfl)
    | (apply r_mvF; rfl)
    | (apply r_mvD; rfl)
    | (apply r_ldL; rfl; rfl; rfl)
    | (apply r_lss; rfl; rfl; (first | (apply decide_eq_true; omega) | (apply decide_eq_false; omega) | rfl))
    | (apply r_add; rfl; rfl; rfl; omega)
    | (apply r_pickT; rfl)
    | (apply r_pickF; rfl)
    | (apply r_lenD; rfl)
    | (apply r_lenL; rfl)
    | (apply r_len0; rfl)
    | (apply r_gT; rfl)
    | (apply r_gF'; rfl; rfl)
    | (apply r_gN'; rfl)
    | ((apply r_gS (o := default); rfl) <;> (intro h; try simp only [decide_eq_true_eq, decide_eq_false_iff_not, Bool.not_eq_true, Bool.not_eq_false] at h))
    | (apply r_stL; rfl; rfl; rfl; rfl; (first | rfl | (simp only [z_nil, z_add] <;> rfl)); rfl; rfl)
    | (apply r_p; rfl)
    | (apply r_nilK)
    | (apply r_nil)
    | (apply k_V; rfl)
    | (apply k_P; rfl)
    | (apply k_PL; rfl)
    | (apply k_S; rfl)
    | (apply k_SL; rfl)
    | (apply k_A; rfl)
    | (apply k_T; rfl)
    | (apply k_F; rfl)
    | (apply k_D; rfl; rotate_left; rfl)
    | (apply k_nil)
    | (apply e_ret (vs := [.d (.val _)]); rfl)
    | (apply e_ret; rfl)
    | (apply e_ret' (vs := [.d (.val _)]); rfl)
    | (apply e_ret'; rfl)
    | (apply w_seq)
    | (apply w_ops; ((conv => lhs; simp only [Nat.reduceAdd]) <;> rfl))
    | (apply w_condT; rfl)
    | (apply w_condF; rfl)
    | ((apply w_condS; rfl) <;> (intro h; try simp only [decide_eq_true_eq, decide_eq_false_iff_not, Bool.not_eq_true, Bool.not_eq_false] at h))
    | (apply e_thenN)
    | (apply w_block)
    | (apply e_thenR)
    | (apply e_thenX)
    | (apply e_blkN)
    | (apply e_blkR)
    | (apply e_blkE)
    | (apply w_exit)
    | (apply w_ret)
    | (apply w_skip)
    | (apply e_blkE'; rfl))
    rcases Nat.eq_zero_or_pos m with h0 | h0
    · subst h0
      have hpe : p = [] := List.length_eq_zero_iff.1 (hj.1.trans ha)
      rw [← e, hpe]
      exact .data _ rfl
    · rw [← e]
      exact retSB rfl (hj.1.trans ha)
end Go.Sv
