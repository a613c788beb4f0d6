/- A part of the proof of the law MeasureParts: that it answers true for every input, and that the input reads behind the call as before (no condition). -/
import Derived.Test.YtcnlgmajkclgjaaMeasurePartsG5
set_option linter.all false
set_option linter.unusedSectionVars false
set_option linter.unusedVariables false
set_option linter.unusedSimpArgs false
namespace Go.Sv
open Go Go.Proofs
def x151 : XC := (.seq (.ops 1 [
    (0, ⟨(some 2), none, .alloc [(.bool false), (.int .i64 0), (.int .i64 0), (.int .u64 0), (.int .u64 0), (.int .u64 0), (.int .u64 0)]⟩)] (some [0, 2])) (.seq (.seq (.ops 4 [
    (0, ⟨(some 7), none, .mv (.t 0)⟩),
    (1, ⟨(some 8), none, .nilck (.t 7)⟩),
    (2, ⟨(some 9), none, .fadd 0 (.t 8)⟩),
    (3, ⟨(some 10), none, .load none (.t 9)⟩)] (some [0, 2, 10])) (.block 0 (.seq (.ops 2 [
    (0, ⟨(some 12), none, .arith .eql (.t 10) (.k (.d (.val (.int .i64 2))))⟩),
    (1, ⟨(some 11), none, .mv (.t 12)⟩)] (some [0, 2, 10, 11])) (.cond (.t 11) (.seq (.seq (.ops 6 [
    (0, ⟨(some 13), none, .mv (.t 0)⟩),
    (1, ⟨(some 14), none, .nilck (.t 13)⟩),
    (2, ⟨(some 15), none, .fadd 1 (.t 14)⟩),
    (3, ⟨(some 16), none, .load (some 4) (.t 15)⟩),
    (4, ⟨(some 17), none, .build [(.int .u64 0), (.int .u64 0), (.int .u64 0), (.int .u64 0)] []⟩),
    (5, ⟨(some 18), none, .eqAgg 4 false (.t 16) (.t 17)⟩)] (some [0, 2, 18])) (.cond (.t 18) (.seq (.ops 2 [
    (0, ⟨(some 19), none, .call 165 [] none false⟩),
    (1, ⟨none, none, .store 7 (.t 2) (.t 19)⟩)] (some [2])) .ret) .skip)) (.seq (.ops 6 [
    (0, ⟨(some 20), none, .mv (.t 0)⟩),
    (1, ⟨(some 21), none, .nilck (.t 20)⟩),
    (2, ⟨(some 22), none, .fadd 1 (.t 21)⟩),
    (3, ⟨(some 23), none, .load (some 4) (.t 22)⟩),
    (4, ⟨(some 24), none, .build [(.bool false), (.int .i64 0), (.int .i64 0), (.int .u64 0), (.int .u64 0), (.int .u64 0), (.int .u64 0)] [(1, 1, (.k (.d (.val (.int .i64 1))))), (2, 1, (.k (.d (.val (.int .i64 1))))), (3, 4, (.t 23))]⟩),
    (5, ⟨none, none, .store 7 (.t 2) (.t 24)⟩)] (some [2])) .ret)) (.seq (.ops 2 [
    (0, ⟨(some 26), none, .arith .eql (.t 10) (.k (.d (.val (.int .i64 3))))⟩),
    (1, ⟨(some 25), none, .mv (.t 26)⟩)] (some [0, 2, 10, 25])) (.cond (.t 25) (.seq (.ops 3 [
    (0, ⟨(some 27), none, .build [(.bool false), (.int .i64 0), (.int .i64 0), (.int .u64 0), (.int .u64 0), (.int .u64 0), (.int .u64 0)] []⟩),
    (1, ⟨(some 3), none, .alloc [(.bool false), (.int .i64 0), (.int .i64 0), (.int .u64 0), (.int .u64 0), (.int .u64 0), (.int .u64 0)]⟩),
    (2, ⟨none, none, .store 7 (.t 3) (.t 27)⟩)] (some [0, 2, 3])) (.seq (.seq (.ops 6 [
    (0, ⟨(some 28), none, .mv (.t 0)⟩),
    (1, ⟨(some 29), none, .nilck (.t 28)⟩),
    (2, ⟨(some 30), none, .fadd 7 (.t 29)⟩),
    (3, ⟨(some 31), none, .load none (.t 30)⟩),
    (4, ⟨(some 32), none, .lenS (.t 31)⟩),
    (5, ⟨(some 33), none, .mv (.k (.d (.val (.int .i64 0))))⟩)] (some [0, 2, 3, 32, 33])) (.block 1 (.loop (.seq (.ops 1 [
    (0, ⟨(some 34), none, .arith .lss (.t 33) (.t 32)⟩)] (some [0, 2, 3, 32, 33, 34])) (.seq (.cond (.t 34) .skip (.exit 1)) (.seq (.block 2 (.seq (.ops 2 [
    (0, ⟨(some 35), none, .mv (.t 33)⟩),
    (1, ⟨(some 4), none, .mv (.t 35)⟩)] (some [0, 2, 3, 4, 32, 33])) (.ops 10 [
    (0, ⟨(some 36), none, .load (some 7) (.t 3)⟩),
    (1, ⟨(some 37), none, .mv (.t 0)⟩),
    (2, ⟨(some 38), none, .nilck (.t 37)⟩),
    (3, ⟨(some 39), none, .fadd 7 (.t 38)⟩),
    (4, ⟨(some 40), none, .load none (.t 39)⟩),
    (5, ⟨(some 41), none, .mv (.t 4)⟩),
    (6, ⟨(some 42), none, .idxS 8 (.t 40) (.t 41)⟩),
    (7, ⟨(some 43), none, .call 151 [(.t 42)] none false⟩),
    (8, ⟨(some 44), none, .call 166 [(.t 36), (.t 43)] none false⟩),
    (9, ⟨none, none, .store 7 (.t 3) (.t 44)⟩)] (some [0, 2, 3, 32, 33])))) (.ops 2 [
    (0, ⟨(some 45), none, .arith .add (.t 33) (.k (.d (.val (.int .i64 1))))⟩),
    (1, ⟨(some 33), none, .mv (.t 45)⟩)] (some [0, 2, 3, 32, 33])))))))) (.seq (.ops 2 [
    (0, ⟨(some 46), none, .load (some 7) (.t 3)⟩),
    (1, ⟨none, none, .store 7 (.t 2) (.t 46)⟩)] (some [2])) .ret))) (.seq (.ops 2 [
    (0, ⟨(some 48), none, .arith .eql (.t 10) (.k (.d (.val (.int .i64 4))))⟩),
    (1, ⟨(some 47), none, .mv (.t 48)⟩)] (some [0, 2, 10, 47])) (.cond (.t 47) (.seq (.ops 3 [
    (0, ⟨(some 49), none, .call 165 [] none false⟩),
    (1, ⟨(some 5), none, .alloc [(.bool false), (.int .i64 0), (.int .i64 0), (.int .u64 0), (.int .u64 0), (.int .u64 0), (.int .u64 0)]⟩),
    (2, ⟨none, none, .store 7 (.t 5) (.t 49)⟩)] (some [0, 2, 5])) (.seq (.seq (.ops 6 [
    (0, ⟨(some 50), none, .mv (.t 0)⟩),
    (1, ⟨(some 51), none, .nilck (.t 50)⟩),
    (2, ⟨(some 52), none, .fadd 7 (.t 51)⟩),
    (3, ⟨(some 53), none, .load none (.t 52)⟩),
    (4, ⟨(some 54), none, .lenS (.t 53)⟩),
    (5, ⟨(some 55), none, .mv (.k (.d (.val (.int .i64 0))))⟩)] (some [0, 2, 5, 54, 55])) (.block 3 (.loop (.seq (.ops 1 [
    (0, ⟨(some 56), none, .arith .lss (.t 55) (.t 54)⟩)] (some [0, 2, 5, 54, 55, 56])) (.seq (.cond (.t 56) .skip (.exit 3)) (.seq (.block 4 (.seq (.ops 2 [
    (0, ⟨(some 57), none, .mv (.t 55)⟩),
    (1, ⟨(some 6), none, .mv (.t 57)⟩)] (some [0, 2, 5, 6, 54, 55])) (.ops 10 [
    (0, ⟨(some 58), none, .load (some 7) (.t 5)⟩),
    (1, ⟨(some 59), none, .mv (.t 0)⟩),
    (2, ⟨(some 60), none, .nilck (.t 59)⟩),
    (3, ⟨(some 61), none, .fadd 7 (.t 60)⟩),
    (4, ⟨(some 62), none, .load none (.t 61)⟩),
    (5, ⟨(some 63), none, .mv (.t 6)⟩),
    (6, ⟨(some 64), none, .idxS 8 (.t 62) (.t 63)⟩),
    (7, ⟨(some 65), none, .call 151 [(.t 64)] none false⟩),
    (8, ⟨(some 66), none, .call 167 [(.t 58), (.t 65)] none false⟩),
    (9, ⟨none, none, .store 7 (.t 5) (.t 66)⟩)] (some [0, 2, 5, 54, 55])))) (.ops 2 [
    (0, ⟨(some 67), none, .arith .add (.t 55) (.k (.d (.val (.int .i64 1))))⟩),
    (1, ⟨(some 55), none, .mv (.t 67)⟩)] (some [0, 2, 5, 54, 55])))))))) (.seq (.ops 2 [
    (0, ⟨(some 68), none, .load (some 7) (.t 5)⟩),
    (1, ⟨none, none, .store 7 (.t 2) (.t 68)⟩)] (some [2])) .ret))) (.seq (.ops 2 [
    (0, ⟨(some 70), none, .arith .eql (.t 10) (.k (.d (.val (.int .i64 5))))⟩),
    (1, ⟨(some 69), none, .mv (.t 70)⟩)] (some [0, 2, 69])) (.cond (.t 69) (.seq (.ops 16 [
    (0, ⟨(some 71), none, .mv (.t 0)⟩),
    (1, ⟨(some 72), none, .nilck (.t 71)⟩),
    (2, ⟨(some 73), none, .fadd 7 (.t 72)⟩),
    (3, ⟨(some 74), none, .load none (.t 73)⟩),
    (4, ⟨(some 75), none, .idxS 8 (.t 74) (.k (.d (.val (.int .i64 0))))⟩),
    (5, ⟨(some 76), none, .call 151 [(.t 75)] none false⟩),
    (6, ⟨(some 77), none, .mv (.t 0)⟩),
    (7, ⟨(some 78), none, .nilck (.t 77)⟩),
    (8, ⟨(some 79), none, .fadd 5 (.t 78)⟩),
    (9, ⟨(some 80), none, .load none (.t 79)⟩),
    (10, ⟨(some 81), none, .mv (.t 0)⟩),
    (11, ⟨(some 82), none, .nilck (.t 81)⟩),
    (12, ⟨(some 83), none, .fadd 6 (.t 82)⟩),
    (13, ⟨(some 84), none, .load none (.t 83)⟩),
    (14, ⟨(some 85), none, .call 168 [(.t 76), (.t 80), (.t 84)] none false⟩),
    (15, ⟨none, none, .store 7 (.t 2) (.t 85)⟩)] (some [2])) .ret) .skip)))))))))) (.seq (.ops 2 [
    (0, ⟨(some 86), none, .build [(.bool false), (.int .i64 0), (.int .i64 0), (.int .u64 0), (.int .u64 0), (.int .u64 0), (.int .u64 0)] []⟩),
    (1, ⟨none, none, .store 7 (.t 2) (.t 86)⟩)] (some [2])) .ret)))
def md151 : FuncId → Option Nat × Bool
  | _ => (none, false)
def od151 : Nat → List (List Nat) × List Nat × Option (List Nat)
  | 0 => ([], [], some [0, 2])
  | 1 => ([], [], some [0, 2, 10])
  | 2 => ([], [], some [0, 2, 10, 11])
  | 3 => ([], [], some [0, 2, 18])
  | 4 => ([], [], some [2])
  | 5 => ([], [], some [2])
  | 6 => ([], [], some [0, 2, 10, 25])
  | 7 => ([], [], some [0, 2, 3])
  | 8 => ([], [], some [0, 2, 3, 32, 33])
  | 9 => ([], [], some [0, 2, 3, 32, 33, 34])
  | 10 => ([], [], some [0, 2, 3, 4, 32, 33])
  | 11 => ([[], [], [1], [1, 2], [1, 2, 3], [], [1, 2, 3, 4, 5], [1, 2, 3, 4, 5, 6], [0, 1, 2, 3, 4, 5, 6, 7], [0, 1, 2, 3, 4, 5, 6, 7, 8]], [0, 1, 2, 3, 4, 5, 6, 7, 8, 9], some [0, 2, 3, 32, 33])
  | 12 => ([], [], some [0, 2, 3, 32, 33])
  | 13 => ([], [], some [2])
  | 14 => ([], [], some [0, 2, 10, 47])
  | 15 => ([], [], some [0, 2, 5])
  | 16 => ([], [], some [0, 2, 5, 54, 55])
  | 17 => ([], [], some [0, 2, 5, 54, 55, 56])
  | 18 => ([], [], some [0, 2, 5, 6, 54, 55])
  | 19 => ([[], [], [1], [1, 2], [1, 2, 3], [], [1, 2, 3, 4, 5], [1, 2, 3, 4, 5, 6], [0, 1, 2, 3, 4, 5, 6, 7], [0, 1, 2, 3, 4, 5, 6, 7, 8]], [0, 1, 2, 3, 4, 5, 6, 7, 8, 9], some [0, 2, 5, 54, 55])
  | 20 => ([], [], some [0, 2, 5, 54, 55])
  | 21 => ([], [], some [2])
  | 22 => ([], [], some [0, 2, 69])
  | 23 => ([[], [0], [0, 1], [0, 1, 2], [0, 1, 2, 3], [0, 1, 2, 3, 4], [], [6], [6, 7], [6, 7, 8], [], [10], [10, 11], [10, 11, 12], [0, 1, 2, 3, 4, 5, 6, 7, 8, 9, 10, 11, 12, 13], [0, 1, 2, 3, 4, 5, 6, 7, 8, 9, 10, 11, 12, 13, 14]], [0, 1, 2, 3, 4, 5, 6, 7, 8, 9, 10, 11, 12, 13, 14, 15], some [2])
  | 24 => ([], [], some [2])
  | _ => ([], [], none)
theorem b151 {ags : List AV} {row : Option (List DV)} {r : AV} {row' nw : Option (List DV)} (hal : ags.length ≤ 87) (hrow : row'.isSome = true → row.isSome = true) (h : xwp Try.prog x151 (retK [.cell 2 (some 7)] row.isSome r row' nw) (St.init ags row)) : Good Try.prog 151 ags row r row' nw :=
  good_of_body' (md := md151) (od := od151) Try.f151 (by kernel_rfl) (by kernel_rfl) (by kernel_rfl) (by kernel_rfl) (by kernel_rfl) hal hrow h

def faC (f : Fa) : List AV := [.b f.no, .i f.lo, .i f.hi, .d (.val (.int .u64 f.a)), .d (.val (.int .u64 f.b)), .d (.val (.int .u64 f.c)), .d (.val (.int .u64 f.d))]
theorem knC_step (l : List T) (i : Nat) (h : i < l.length) (f : Fa) : knC (l.take (i + 1)) f = faThen (knC (l.take i) f) (knT l[i]) := by
  rw [List.take_succ_eq_append_getElem h, knC_app]; rfl
theorem knO_step (l : List T) (i : Nat) (h : i < l.length) (f : Fa) : knO (l.take (i + 1)) f = faOr (knO (l.take i) f) (knT l[i]) := by
  rw [List.take_succ_eq_append_getElem h, knO_app]; rfl
set_option maxRecDepth 100000
set_option maxHeartbeats 4000000
attribute [local irreducible] W E R KP thenK blockK retK Good xwp aRun
theorem know151_good : ∀ (n : Nat) (t : T) (cs : List DV) (off : Nat), NodeAt cs off t → t.cnt ≤ n → n ≤ 1000000 → okT t → bT t ≤ 16384000000000000000 → Good Try.prog 151 [.d (.ptr cs off)] none (faA (knT t)) none none := by
  intro n
  induction n with
  | zero => intro t cs off _ ht; have := cnt_pos t; omega
  | succ n ih =>
  intro t cs off hs ht hc hok hbt
  obtain ⟨k, a, b, c, d, mn, mx, subs⟩ := t
  have hR := okT_R hok
  have hoks := okT_subs hok
  have hno := no165_good
  have eno : faA faNo = .agg [.b true, .i (-1), .i (-1), .d (.val (.int .u64 0)), .d (.val (.int .u64 0)), .d (.val (.int .u64 0)), .d (.val (.int .u64 0))] := rfl
  rw [eno] at hno
  have ih' : ∀ i (h : i < subs.length), Good Try.prog 151 [.d (.ptr (encL subs) (i * 8))] none (faA (knT subs[i])) none none := by
    intro i h
    refine ih _ _ _ (NodeAt.sub h) ?_ (by omega) (okL_get subs i h hoks) ?_
    · have := cntL_get subs i h
      simp only [T.cnt] at ht
      omega
    · have := bT_sub (u := subs[i]) hok (List.getElem_mem h)
      omega
  have hlen : subs.length ≤ 1000000 := by
    have := cntL_len subs
    simp only [T.cnt] at ht
    omega
  have hpw := pw_pos (openT (.node k a b c d mn mx subs)).toNat
  have hsub' : ∀ u ∈ subs, okF (knT u) ((u.cnt : Nat) * pw (openT (.node k a b c d mn mx subs)).toNat) := fun u hu => by
    refine okF_mono (kn_ok u ((okL_iff _).1 hoks u hu)) ?_
    have h1 := sub_open (u := u) hok hu
    exact bT_le (Nat.le_refl _) (by have := open_nonneg _ hok; omega)
  have hsum : ∀ i (h : i < subs.length), ((cntL (subs.take i) : Nat) : Int) * pw (openT (.node k a b c d mn mx subs)).toNat + ((subs[i].cnt : Nat) : Int) * pw (openT (.node k a b c d mn mx subs)).toNat ≤ 16384000000000000000 := by
    intro i h
    have e : cntL (subs.take (i + 1)) = cntL (subs.take i) + subs[i].cnt := by
      rw [List.take_succ_eq_append_getElem h, cntL_app]; simp [cntL]
    have h1 := cntL_take_le subs (i + 1)
    have h2 : ((cntL (subs.take i) + subs[i].cnt : Nat) : Int) * pw (openT (.node k a b c d mn mx subs)).toNat ≤ bT (.node k a b c d mn mx subs) := by
      unfold bT
      exact Int.mul_le_mul_of_nonneg_right (by simp only [T.cnt]; omega) (by omega)
    rw [Int.natCast_add, Int.add_mul] at h2
    omega
  by_cases h2 : k = 2
  · cases hz : isZero a b c d with
    | true =>
      have e : knT (.node k a b c d mn mx subs) = faNo := by rw [knT, if_pos h2, if_pos hz]
      rw [e, eno]
      clear ih ih' hsub' hsum
      refine b151 (by simp) (by simp) (w_init ?_)
      unfold x151
      repeat' (first
    | (apply r_mvV; rfl)
    | (apply r_mvP; rfl)
    | (apply r_mvPL; rfl)
    | (apply r_mvS; rfl)
    | (apply r_mvSL; rfl)
    | (apply r_mvA; rfl)
    | (apply r_mvT; rfl)
    | (apply r_mvF; rfl)
    | (apply r_mvD; rfl)
    | (apply r_nckD; rfl)
    | (apply r_faddD; rfl)
    | (apply r_nckL; rfl)
    | (apply r_faddL; rfl)
    | (apply r_l; apply ld_kind; assumption; rfl)
    | (apply r_l; apply ld_mn; assumption; rfl)
    | (apply r_l; apply ld_mx; assumption; rfl)
    | (apply r_l; apply ld_subs; assumption; rfl)
    | (apply r_l; apply ld_set; assumption; rfl)
    | (apply r_l; apply ld_node; assumption; rfl)
    | (apply r_l; apply ld_kind'; assumption; rfl)
    | (apply r_l; apply ld_mn'; assumption; rfl)
    | (apply r_l; apply ld_mx'; assumption; rfl)
    | (apply r_l; apply ld_subs'; assumption; rfl)
    | (apply r_l; apply ld_node'; assumption; rfl)
    | (apply r_p (v := .agg [.d (.val (.int .u64 0)), .d (.val (.int .u64 0)), .d (.val (.int .u64 0)), .d (.val (.int .u64 0))]); rfl)
    | (apply r_eqX (r := true); rfl; rfl; exact hz)
    | (apply r_callA (f := 165) (ags := []); rfl; rfl; exact hno)
    | (apply r_ldL (v := .agg [.b true, .i (-1), .i (-1), .d (.val (.int .u64 0)), .d (.val (.int .u64 0)), .d (.val (.int .u64 0)), .d (.val (.int .u64 0))]); rfl; rfl; rfl)
    | (apply r_ldL; rfl; rfl; rfl)
    | (apply r_eql; rfl; rfl; (first | (apply decide_eq_true; omega) | (apply decide_eq_false; omega) | rfl))
    | (apply r_lss; rfl; rfl; (first | (apply decide_eq_true; omega) | (apply decide_eq_false; omega) | rfl))
    | (apply r_add; rfl; rfl; rfl; omega)
    | (apply r_lenD; rfl)
    | (apply r_lenL; rfl)
    | (apply r_len0; rfl)
    | (apply r_alloc; ((conv => lhs; simp only [Nat.reduceAdd]) <;> rfl); rfl)
    | (apply r_stL; rfl; rfl; rfl; rfl; (first | rfl | (simp only [z_nil, z_add] <;> rfl)); rfl; rfl)
    | (apply r_p; rfl)
    | (apply r_nilK)
    | (apply r_nil)
    | (apply k_V; rfl)
    | (apply k_P; rfl)
    | (apply k_PL; rfl)
    | (apply k_S; rfl)
    | (apply k_SL; rfl)
    | (apply k_A; rfl)
    | (apply k_T; rfl)
    | (apply k_F; rfl)
    | (apply k_D; rfl; rotate_left; rfl)
    | (apply k_nil)
    | (apply e_ret (vs := [.d (.val _)]); rfl)
    | (apply e_ret; rfl)
    | (apply e_ret' (vs := [.d (.val _)]); rfl)
    | (apply e_ret'; rfl)
    | (apply w_seq)
    | (apply w_ops; ((conv => lhs; simp only [Nat.reduceAdd]) <;> rfl))
    | (apply w_condT; rfl)
    | (apply w_condF; rfl)
    | ((apply w_condS; rfl) <;> (intro h; try simp only [decide_eq_true_eq, decide_eq_false_iff_not, Bool.not_eq_true, Bool.not_eq_false] at h))
    | (apply e_thenN)
    | (apply w_block)
    | (apply e_thenR)
    | (apply e_thenX)
    | (apply e_blkN)
    | (apply e_blkR)
    | (apply e_blkE)
    | (apply w_exit)
    | (apply w_ret)
    | (apply w_skip)
    | (apply e_blkE'; rfl))
      exact .data _ rfl
    | false =>
      have e : knT (.node k a b c d mn mx subs) = ⟨false, 1, 1, a, b, c, d⟩ := by rw [knT, if_pos h2, if_neg (by simp [hz])]
      have e2 : faA ⟨false, 1, 1, a, b, c, d⟩ = .agg [.b false, .i 1, .i 1, .d (.val (.int .u64 a)), .d (.val (.int .u64 b)), .d (.val (.int .u64 c)), .d (.val (.int .u64 d))] := rfl
      rw [e, e2]
      clear ih ih' hsub' hsum
      refine b151 (by simp) (by simp) (w_init ?_)
      unfold x151
      repeat' (first
    | (apply r_mvV; rfl)
    | (apply r_mvP; rfl)
    | (apply r_mvPL; rfl)
    | (apply r_mvS; rfl)
    | (apply r_mvSL; rfl)
    | (apply r_mvA; rfl)
    | (apply r_mvT; rfl)
    | (apply r_mvF; rfl)
    | (apply r_mvD; rfl)
    | (apply r_nckD; rfl)
    | (apply r_faddD; rfl)
    | (apply r_nckL; rfl)
    | (apply r_faddL; rfl)
    | (apply r_l; apply ld_kind; assumption; rfl)
    | (apply r_l; apply ld_mn; assumption; rfl)
    | (apply r_l; apply ld_mx; assumption; rfl)
    | (apply r_l; apply ld_subs; assumption; rfl)
    | (apply r_l; apply ld_set; assumption; rfl)
    | (apply r_l; apply ld_node; assumption; rfl)
    | (apply r_l; apply ld_kind'; assumption; rfl)
    | (apply r_l; apply ld_mn'; assumption; rfl)
    | (apply r_l; apply ld_mx'; assumption; rfl)
    | (apply r_l; apply ld_subs'; assumption; rfl)
    | (apply r_l; apply ld_node'; assumption; rfl)
    | (apply r_p (v := .agg [.d (.val (.int .u64 0)), .d (.val (.int .u64 0)), .d (.val (.int .u64 0)), .d (.val (.int .u64 0))]); rfl)
    | (apply r_eqX (r := false); rfl; rfl; exact hz)
    | (apply r_p (v := .agg [.b false, .i 1, .i 1, .d (.val (.int .u64 a)), .d (.val (.int .u64 b)), .d (.val (.int .u64 c)), .d (.val (.int .u64 d))]); rfl)
    | (apply r_ldL; rfl; rfl; rfl)
    | (apply r_eql; rfl; rfl; (first | (apply decide_eq_true; omega) | (apply decide_eq_false; omega) | rfl))
    | (apply r_lss; rfl; rfl; (first | (apply decide_eq_true; omega) | (apply decide_eq_false; omega) | rfl))
    | (apply r_add; rfl; rfl; rfl; omega)
    | (apply r_lenD; rfl)
    | (apply r_lenL; rfl)
    | (apply r_len0; rfl)
    | (apply r_alloc; ((conv => lhs; simp only [Nat.reduceAdd]) <;> rfl); rfl)
    | (apply r_stL; rfl; rfl; rfl; rfl; (first | rfl | (simp only [z_nil, z_add] <;> rfl)); rfl; rfl)
    | (apply r_p; rfl)
    | (apply r_nilK)
    | (apply r_nil)
    | (apply k_V; rfl)
    | (apply k_P; rfl)
    | (apply k_PL; rfl)
    | (apply k_S; rfl)
    | (apply k_SL; rfl)
    | (apply k_A; rfl)
    | (apply k_T; rfl)
    | (apply k_F; rfl)
    | (apply k_D; rfl; rotate_left; rfl)
    | (apply k_nil)
    | (apply e_ret (vs := [.d (.val _)]); rfl)
    | (apply e_ret; rfl)
    | (apply e_ret' (vs := [.d (.val _)]); rfl)
    | (apply e_ret'; rfl)
    | (apply w_seq)
    | (apply w_ops; ((conv => lhs; simp only [Nat.reduceAdd]) <;> rfl))
    | (apply w_condT; rfl)
    | (apply w_condF; rfl)
    | ((apply w_condS; rfl) <;> (intro h; try simp only [decide_eq_true_eq, decide_eq_false_iff_not, Bool.not_eq_true, Bool.not_eq_false] at h))
    | (apply e_thenN)
    | (apply w_block)
    | (apply e_thenR)
    | (apply e_thenX)
    | (apply e_blkN)
    | (apply e_blkR)
    | (apply e_blkE)
    | (apply w_exit)
    | (apply w_ret)
    | (apply w_skip)
    | (apply e_blkE'; rfl))
      exact .data _ rfl
  by_cases h3 : k = 3
  · have e : knT (.node k a b c d mn mx subs) = knC subs faE := by rw [knT, if_neg h2, if_pos h3]
    rw [e]
    have hpre : ∀ i (h : i < subs.length), Good Try.prog 166 [faA (knC (subs.take i) faE), faA (knT subs[i])] none (faA (faThen (knC (subs.take i) faE) (knT subs[i]))) none none := fun i h => by
      have h1 := knC_ok (openT (.node k a b c d mn mx subs)).toNat (subs.take i) faE 0 (Int.le_refl _) (okF_E (Int.le_refl _)) (fun u hu => hsub' u (List.mem_of_mem_take hu))
      rw [Int.zero_add] at h1
      exact then166_good h1 (hsub' _ (List.getElem_mem h)) (Int.mul_nonneg (by omega) (by omega)) (Int.mul_nonneg (by omega) (by omega)) (hsum i h)
    clear ih hsub' hsum hno eno e hbt hoks hok hR ht
    refine b151 (by simp) (by simp) (w_init ?_)
    unfold x151
    repeat' (first
    | (apply r_mvV; rfl)
    | (apply r_mvP; rfl)
    | (apply r_mvPL; rfl)
    | (apply r_mvS; rfl)
    | (apply r_mvSL; rfl)
    | (apply r_mvA; rfl)
    | (apply r_mvT; rfl)
    | (apply r_mvF; rfl)
    | (apply r_mvD; rfl)
    | (apply r_nckD; rfl)
    | (apply r_faddD; rfl)
    | (apply r_nckL; rfl)
    | (apply r_faddL; rfl)
    | (apply r_l; apply ld_kind; assumption; rfl)
    | (apply r_l; apply ld_mn; assumption; rfl)
    | (apply r_l; apply ld_mx; assumption; rfl)
    | (apply r_l; apply ld_subs; assumption; rfl)
    | (apply r_l; apply ld_set; assumption; rfl)
    | (apply r_l; apply ld_node; assumption; rfl)
    | (apply r_l; apply ld_kind'; assumption; rfl)
    | (apply r_l; apply ld_mn'; assumption; rfl)
    | (apply r_l; apply ld_mx'; assumption; rfl)
    | (apply r_l; apply ld_subs'; assumption; rfl)
    | (apply r_l; apply ld_node'; assumption; rfl)
    | (apply r_p (v := .agg [.b false, .i 0, .i 0, .d (.val (.int .u64 0)), .d (.val (.int .u64 0)), .d (.val (.int .u64 0)), .d (.val (.int .u64 0))]); rfl)
    | (apply r_ldL; rfl; rfl; rfl)
    | (apply r_eql; rfl; rfl; (first | (apply decide_eq_true; omega) | (apply decide_eq_false; omega) | rfl))
    | (apply r_lss; rfl; rfl; (first | (apply decide_eq_true; omega) | (apply decide_eq_false; omega) | rfl))
    | (apply r_add; rfl; rfl; rfl; omega)
    | (apply r_lenD; rfl)
    | (apply r_lenL; rfl)
    | (apply r_len0; rfl)
    | (apply r_alloc; ((conv => lhs; simp only [Nat.reduceAdd]) <;> rfl); rfl)
    | (apply r_stL; rfl; rfl; rfl; rfl; (first | rfl | (simp only [z_nil, z_add] <;> rfl)); rfl; rfl)
    | (apply r_p; rfl)
    | (apply r_nilK)
    | (apply r_nil)
    | (apply k_V; rfl)
    | (apply k_P; rfl)
    | (apply k_PL; rfl)
    | (apply k_S; rfl)
    | (apply k_SL; rfl)
    | (apply k_A; rfl)
    | (apply k_T; rfl)
    | (apply k_F; rfl)
    | (apply k_D; rfl; rotate_left; rfl)
    | (apply k_nil)
    | (apply e_ret (vs := [.d (.val _)]); rfl)
    | (apply e_ret; rfl)
    | (apply e_ret' (vs := [.d (.val _)]); rfl)
    | (apply e_ret'; rfl)
    | (apply w_seq)
    | (apply w_ops; ((conv => lhs; simp only [Nat.reduceAdd]) <;> rfl))
    | (apply w_condT; rfl)
    | (apply w_condF; rfl)
    | ((apply w_condS; rfl) <;> (intro h; try simp only [decide_eq_true_eq, decide_eq_false_iff_not, Bool.not_eq_true, Bool.not_eq_false] at h))
    | (apply e_thenN)
    | (apply w_block)
    | (apply e_thenR)
    | (apply e_thenX)
    | (apply e_blkN)
    | (apply e_blkR)
    | (apply e_blkE)
    | (apply w_exit)
    | (apply w_ret)
    | (apply w_skip)
    | (apply e_blkE'; rfl))
    apply w_loopI (S := fun i : Nat => ⟨((((Fr.nil.put 0 (.d (.ptr cs off))).put 2 (.ptrL 1 0)).put 3 (.ptrL 11 0)).put 32 (.i subs.length)).put 33 (.i i), rowsOf [(1, [.b false, .i 0, .i 0, .d (.val (.int .u64 0)), .d (.val (.int .u64 0)), .d (.val (.int .u64 0)), .d (.val (.int .u64 0))]), (11, faC (knC (subs.take i) faE))], Frz.buts 100 [1, 11], 100⟩) (m := fun i => subs.length - i) (I := fun i => i ≤ subs.length) (i0 := 0)
    · exact Nat.zero_le _
    · refine wkM [] [] rfl ?_ ?_ rfl ?_
      · intro p hp
        simp only [List.mem_cons, List.not_mem_nil, or_false] at hp
        rcases hp with rfl | rfl
        · exact ⟨by omega, .inr ⟨rfl, _, rfl, .data rfl⟩⟩
        · exact ⟨by omega, .inr ⟨rfl, _, rfl, .data rfl⟩⟩
      · intro q hq; simp only [List.mem_cons, List.not_mem_nil, or_false] at hq; rcases hq with rfl | rfl <;> rfl
      · repeat' (first
    | exact FWk.nil
    | (apply FWk.i; rfl; (first | rfl | omega | (simp; done)))
    | (apply FWk.sl; rfl; rfl; rfl; rfl; omega; rfl)
    | (apply FWk.ptr; rfl; rfl; rfl; omega; rfl)
    | (apply FWk.d; rfl; rfl)
    | (apply FWk.a; rfl; rfl; rfl)
    | (apply FWk.slN; rfl; omega; rfl))
    intro i K hi hK
    dsimp only
    rcases Nat.lt_or_ge i subs.length with hlt | hge
    · have hg := hpre i hlt
      have hgs := ih' i hlt
      rw [← knC_step subs i hlt] at hg
      have fin : ∀ fr C Z nx, Wk ⟨fr, C, Z, nx⟩ ⟨((((Fr.nil.put 0 (.d (.ptr cs off))).put 2 (.ptrL 1 0)).put 3 (.ptrL 11 0)).put 32 (.i subs.length)).put 33 (.i ((i + 1 : Nat) : Int)), rowsOf [(1, [.b false, .i 0, .i 0, .d (.val (.int .u64 0)), .d (.val (.int .u64 0)), .d (.val (.int .u64 0)), .d (.val (.int .u64 0))]), (11, faC (knC (subs.take (i + 1)) faE))], Frz.buts 100 [1, 11], 100⟩ → K ⟨fr, C, Z, nx⟩ := fun fr C Z nx hw => hK (i + 1) fr C Z nx (by omega) (by omega) hw
      generalize knC (subs.take (i + 1)) faE = f2 at hg fin
      generalize knC (subs.take i) faE = f1 at hg ⊢
      generalize knT subs[i] = g at hg hgs
      repeat' (first
    | (apply r_mvV; rfl)
    | (apply r_mvP; rfl)
    | (apply r_mvPL; rfl)
    | (apply r_mvS; rfl)
    | (apply r_mvSL; rfl)
    | (apply r_mvA; rfl)
    | (apply r_mvT; rfl)
    | (apply r_mvF; rfl)
    | (apply r_mvD; rfl)
    | (apply r_nckD; rfl)
    | (apply r_faddD; rfl)
    | (apply r_nckL; rfl)
    | (apply r_faddL; rfl)
    | (apply r_l; apply ld_kind; assumption; rfl)
    | (apply r_l; apply ld_mn; assumption; rfl)
    | (apply r_l; apply ld_mx; assumption; rfl)
    | (apply r_l; apply ld_subs; assumption; rfl)
    | (apply r_l; apply ld_set; assumption; rfl)
    | (apply r_l; apply ld_node; assumption; rfl)
    | (apply r_l; apply ld_kind'; assumption; rfl)
    | (apply r_l; apply ld_mn'; assumption; rfl)
    | (apply r_l; apply ld_mx'; assumption; rfl)
    | (apply r_l; apply ld_subs'; assumption; rfl)
    | (apply r_l; apply ld_node'; assumption; rfl)
    | (apply r_p; apply ix_sub; rfl; rfl; omega)
    | (apply r_callA (f := 151); rfl; rfl; exact hgs)
    | (apply r_ldL (v := faA f1); rfl; rfl; rfl)
    | (apply r_callA (f := 166) (ags := [faA f1, faA g]); rfl; rfl; exact hg)
    | (apply r_ldL; rfl; rfl; rfl)
    | (apply r_eql; rfl; rfl; (first | (apply decide_eq_true; omega) | (apply decide_eq_false; omega) | rfl))
    | (apply r_lss; rfl; rfl; (first | (apply decide_eq_true; omega) | (apply decide_eq_false; omega) | rfl))
    | (apply r_add; rfl; rfl; rfl; omega)
    | (apply r_lenD; rfl)
    | (apply r_lenL; rfl)
    | (apply r_len0; rfl)
    | (apply r_alloc; ((conv => lhs; simp only [Nat.reduceAdd]) <;> rfl); rfl)
    | (apply r_stL; rfl; rfl; rfl; rfl; (first | rfl | (simp only [z_nil, z_add] <;> rfl)); rfl; rfl)
    | (apply r_p; rfl)
    | (apply r_nilK)
    | (apply r_nil)
    | (apply k_V; rfl)
    | (apply k_P; rfl)
    | (apply k_PL; rfl)
    | (apply k_S; rfl)
    | (apply k_SL; rfl)
    | (apply k_A; rfl)
    | (apply k_T; rfl)
    | (apply k_F; rfl)
    | (apply k_D; rfl; rotate_left; rfl)
    | (apply k_nil)
    | (apply e_ret (vs := [.d (.val _)]); rfl)
    | (apply e_ret; rfl)
    | (apply e_ret' (vs := [.d (.val _)]); rfl)
    | (apply e_ret'; rfl)
    | (apply w_seq)
    | (apply w_ops; ((conv => lhs; simp only [Nat.reduceAdd]) <;> rfl))
    | (apply w_condT; rfl)
    | (apply w_condF; rfl)
    | ((apply w_condS; rfl) <;> (intro h; try simp only [decide_eq_true_eq, decide_eq_false_iff_not, Bool.not_eq_true, Bool.not_eq_false] at h))
    | (apply e_thenN)
    | (apply w_block)
    | (apply e_thenR)
    | (apply e_thenX)
    | (apply e_blkN)
    | (apply e_blkR)
    | (apply e_blkE)
    | (apply w_exit)
    | (apply w_ret)
    | (apply w_skip)
    | (apply e_blkE'; rfl))
      apply e_thenK
      apply fin
      refine wkM [] [] rfl ?_ ?_ rfl ?_
      · intro p hp
        simp only [List.mem_cons, List.not_mem_nil, or_false] at hp
        rcases hp with rfl | rfl
        · exact ⟨by omega, .inr ⟨rfl, _, rfl, .data rfl⟩⟩
        · exact ⟨by omega, .inr ⟨rfl, _, rfl, .data rfl⟩⟩
      · intro q hq; simp only [List.mem_cons, List.not_mem_nil, or_false] at hq; rcases hq with rfl | rfl <;> rfl
      · repeat' (first
    | exact FWk.nil
    | (apply FWk.i; rfl; (first | rfl | omega | (simp; done)))
    | (apply FWk.sl; rfl; rfl; rfl; rfl; omega; rfl)
    | (apply FWk.ptr; rfl; rfl; rfl; omega; rfl)
    | (apply FWk.d; rfl; rfl)
    | (apply FWk.a; rfl; rfl; rfl)
    | (apply FWk.slN; rfl; omega; rfl))
    · rw [List.take_of_length_le hge]
      generalize knC subs faE = f1
      repeat' (first
    | (apply r_mvV; rfl)
    | (apply r_mvP; rfl)
    | (apply r_mvPL; rfl)
    | (apply r_mvS; rfl)
    | (apply r_mvSL; rfl)
    | (apply r_mvA; rfl)
    | (apply r_mvT; rfl)
    | (apply r_mvF; rfl)
    | (apply r_mvD; rfl)
    | (apply r_nckD; rfl)
    | (apply r_faddD; rfl)
    | (apply r_nckL; rfl)
    | (apply r_faddL; rfl)
    | (apply r_l; apply ld_kind; assumption; rfl)
    | (apply r_l; apply ld_mn; assumption; rfl)
    | (apply r_l; apply ld_mx; assumption; rfl)
    | (apply r_l; apply ld_subs; assumption; rfl)
    | (apply r_l; apply ld_set; assumption; rfl)
    | (apply r_l; apply ld_node; assumption; rfl)
    | (apply r_l; apply ld_kind'; assumption; rfl)
    | (apply r_l; apply ld_mn'; assumption; rfl)
    | (apply r_l; apply ld_mx'; assumption; rfl)
    | (apply r_l; apply ld_subs'; assumption; rfl)
    | (apply r_l; apply ld_node'; assumption; rfl)
    | (apply r_ldL (v := faA f1); rfl; rfl; rfl)
    | (apply r_ldL; rfl; rfl; rfl)
    | (apply r_eql; rfl; rfl; (first | (apply decide_eq_true; omega) | (apply decide_eq_false; omega) | rfl))
    | (apply r_lss; rfl; rfl; (first | (apply decide_eq_true; omega) | (apply decide_eq_false; omega) | rfl))
    | (apply r_add; rfl; rfl; rfl; omega)
    | (apply r_lenD; rfl)
    | (apply r_lenL; rfl)
    | (apply r_len0; rfl)
    | (apply r_alloc; ((conv => lhs; simp only [Nat.reduceAdd]) <;> rfl); rfl)
    | (apply r_stL; rfl; rfl; rfl; rfl; (first | rfl | (simp only [z_nil, z_add] <;> rfl)); rfl; rfl)
    | (apply r_p; rfl)
    | (apply r_nilK)
    | (apply r_nil)
    | (apply k_V; rfl)
    | (apply k_P; rfl)
    | (apply k_PL; rfl)
    | (apply k_S; rfl)
    | (apply k_SL; rfl)
    | (apply k_A; rfl)
    | (apply k_T; rfl)
    | (apply k_F; rfl)
    | (apply k_D; rfl; rotate_left; rfl)
    | (apply k_nil)
    | (apply e_ret (vs := [.d (.val _)]); rfl)
    | (apply e_ret; rfl)
    | (apply e_ret' (vs := [.d (.val _)]); rfl)
    | (apply e_ret'; rfl)
    | (apply w_seq)
    | (apply w_ops; ((conv => lhs; simp only [Nat.reduceAdd]) <;> rfl))
    | (apply w_condT; rfl)
    | (apply w_condF; rfl)
    | ((apply w_condS; rfl) <;> (intro h; try simp only [decide_eq_true_eq, decide_eq_false_iff_not, Bool.not_eq_true, Bool.not_eq_false] at h))
    | (apply e_thenN)
    | (apply w_block)
    | (apply e_thenR)
    | (apply e_thenX)
    | (apply e_blkN)
    | (apply e_blkR)
    | (apply e_blkE)
    | (apply w_exit)
    | (apply w_ret)
    | (apply w_skip)
    | (apply e_blkE'; rfl))
      exact .data _ rfl
  by_cases h4 : k = 4
  · have e : knT (.node k a b c d mn mx subs) = knO subs faNo := by rw [knT, if_neg h2, if_neg h3, if_pos h4]
    rw [e]
    have hpre : ∀ i (h : i < subs.length), Good Try.prog 167 [faA (knO (subs.take i) faNo), faA (knT subs[i])] none (faA (faOr (knO (subs.take i) faNo) (knT subs[i]))) none none := fun i h => by
      have h1 := knO_ok (openT (.node k a b c d mn mx subs)).toNat (subs.take i) faNo 0 (Int.le_refl _) (okF_no (Int.le_refl _)) (fun u hu => hsub' u (List.mem_of_mem_take hu))
      rw [Int.zero_add] at h1
      exact or167_good h1 (hsub' _ (List.getElem_mem h)) (Int.mul_nonneg (by omega) (by omega)) (Int.mul_nonneg (by omega) (by omega)) (hsum i h)
    clear ih hsub' hsum e hbt hoks hok hR ht
    refine b151 (by simp) (by simp) (w_init ?_)
    unfold x151
    repeat' (first
    | (apply r_mvV; rfl)
    | (apply r_mvP; rfl)
    | (apply r_mvPL; rfl)
    | (apply r_mvS; rfl)
    | (apply r_mvSL; rfl)
    | (apply r_mvA; rfl)
    | (apply r_mvT; rfl)
    | (apply r_mvF; rfl)
    | (apply r_mvD; rfl)
    | (apply r_nckD; rfl)
    | (apply r_faddD; rfl)
    | (apply r_nckL; rfl)
    | (apply r_faddL; rfl)
    | (apply r_l; apply ld_kind; assumption; rfl)
    | (apply r_l; apply ld_mn; assumption; rfl)
    | (apply r_l; apply ld_mx; assumption; rfl)
    | (apply r_l; apply ld_subs; assumption; rfl)
    | (apply r_l; apply ld_set; assumption; rfl)
    | (apply r_l; apply ld_node; assumption; rfl)
    | (apply r_l; apply ld_kind'; assumption; rfl)
    | (apply r_l; apply ld_mn'; assumption; rfl)
    | (apply r_l; apply ld_mx'; assumption; rfl)
    | (apply r_l; apply ld_subs'; assumption; rfl)
    | (apply r_l; apply ld_node'; assumption; rfl)
    | (apply r_callA (f := 165) (ags := []); rfl; rfl; exact hno)
    | (apply r_ldL; rfl; rfl; rfl)
    | (apply r_eql; rfl; rfl; (first | (apply decide_eq_true; omega) | (apply decide_eq_false; omega) | rfl))
    | (apply r_lss; rfl; rfl; (first | (apply decide_eq_true; omega) | (apply decide_eq_false; omega) | rfl))
    | (apply r_add; rfl; rfl; rfl; omega)
    | (apply r_lenD; rfl)
    | (apply r_lenL; rfl)
    | (apply r_len0; rfl)
    | (apply r_alloc; ((conv => lhs; simp only [Nat.reduceAdd]) <;> rfl); rfl)
    | (apply r_stL; rfl; rfl; rfl; rfl; (first | rfl | (simp only [z_nil, z_add] <;> rfl)); rfl; rfl)
    | (apply r_p; rfl)
    | (apply r_nilK)
    | (apply r_nil)
    | (apply k_V; rfl)
    | (apply k_P; rfl)
    | (apply k_PL; rfl)
    | (apply k_S; rfl)
    | (apply k_SL; rfl)
    | (apply k_A; rfl)
    | (apply k_T; rfl)
    | (apply k_F; rfl)
    | (apply k_D; rfl; rotate_left; rfl)
    | (apply k_nil)
    | (apply e_ret (vs := [.d (.val _)]); rfl)
    | (apply e_ret; rfl)
    | (apply e_ret' (vs := [.d (.val _)]); rfl)
    | (apply e_ret'; rfl)
    | (apply w_seq)
    | (apply w_ops; ((conv => lhs; simp only [Nat.reduceAdd]) <;> rfl))
    | (apply w_condT; rfl)
    | (apply w_condF; rfl)
    | ((apply w_condS; rfl) <;> (intro h; try simp only [decide_eq_true_eq, decide_eq_false_iff_not, Bool.not_eq_true, Bool.not_eq_false] at h))
    | (apply e_thenN)
    | (apply w_block)
    | (apply e_thenR)
    | (apply e_thenX)
    | (apply e_blkN)
    | (apply e_blkR)
    | (apply e_blkE)
    | (apply w_exit)
    | (apply w_ret)
    | (apply w_skip)
    | (apply e_blkE'; rfl))
    apply w_loopI (S := fun i : Nat => ⟨((((Fr.nil.put 0 (.d (.ptr cs off))).put 2 (.ptrL 1 0)).put 5 (.ptrL 13 0)).put 54 (.i subs.length)).put 55 (.i i), rowsOf [(1, [.b false, .i 0, .i 0, .d (.val (.int .u64 0)), .d (.val (.int .u64 0)), .d (.val (.int .u64 0)), .d (.val (.int .u64 0))]), (13, faC (knO (subs.take i) faNo))], Frz.buts 100 [1, 13], 100⟩) (m := fun i => subs.length - i) (I := fun i => i ≤ subs.length) (i0 := 0)
    · exact Nat.zero_le _
    · refine wkM [] [] rfl ?_ ?_ rfl ?_
      · intro p hp
        simp only [List.mem_cons, List.not_mem_nil, or_false] at hp
        rcases hp with rfl | rfl
        · exact ⟨by omega, .inr ⟨rfl, _, rfl, .data rfl⟩⟩
        · exact ⟨by omega, .inr ⟨rfl, _, rfl, .data rfl⟩⟩
      · intro q hq; simp only [List.mem_cons, List.not_mem_nil, or_false] at hq; rcases hq with rfl | rfl <;> rfl
      · repeat' (first
    | exact FWk.nil
    | (apply FWk.i; rfl; (first | rfl | omega | (simp; done)))
    | (apply FWk.sl; rfl; rfl; rfl; rfl; omega; rfl)
    | (apply FWk.ptr; rfl; rfl; rfl; omega; rfl)
    | (apply FWk.d; rfl; rfl)
    | (apply FWk.a; rfl; rfl; rfl)
    | (apply FWk.slN; rfl; omega; rfl))
    intro i K hi hK
    dsimp only
    rcases Nat.lt_or_ge i subs.length with hlt | hge
    · have hg := hpre i hlt
      have hgs := ih' i hlt
      rw [← knO_step subs i hlt] at hg
      have fin : ∀ fr C Z nx, Wk ⟨fr, C, Z, nx⟩ ⟨((((Fr.nil.put 0 (.d (.ptr cs off))).put 2 (.ptrL 1 0)).put 5 (.ptrL 13 0)).put 54 (.i subs.length)).put 55 (.i ((i + 1 : Nat) : Int)), rowsOf [(1, [.b false, .i 0, .i 0, .d (.val (.int .u64 0)), .d (.val (.int .u64 0)), .d (.val (.int .u64 0)), .d (.val (.int .u64 0))]), (13, faC (knO (subs.take (i + 1)) faNo))], Frz.buts 100 [1, 13], 100⟩ → K ⟨fr, C, Z, nx⟩ := fun fr C Z nx hw => hK (i + 1) fr C Z nx (by omega) (by omega) hw
      generalize knO (subs.take (i + 1)) faNo = f2 at hg fin
      generalize knO (subs.take i) faNo = f1 at hg ⊢
      generalize knT subs[i] = g at hg hgs
      repeat' (first
    | (apply r_mvV; rfl)
    | (apply r_mvP; rfl)
    | (apply r_mvPL; rfl)
    | (apply r_mvS; rfl)
    | (apply r_mvSL; rfl)
    | (apply r_mvA; rfl)
    | (apply r_mvT; rfl)
    | (apply r_mvF; rfl)
    | (apply r_mvD; rfl)
    | (apply r_nckD; rfl)
    | (apply r_faddD; rfl)
    | (apply r_nckL; rfl)
    | (apply r_faddL; rfl)
    | (apply r_l; apply ld_kind; assumption; rfl)
    | (apply r_l; apply ld_mn; assumption; rfl)
    | (apply r_l; apply ld_mx; assumption; rfl)
    | (apply r_l; apply ld_subs; assumption; rfl)
    | (apply r_l; apply ld_set; assumption; rfl)
    | (apply r_l; apply ld_node; assumption; rfl)
    | (apply r_l; apply ld_kind'; assumption; rfl)
    | (apply r_l; apply ld_mn'; assumption; rfl)
    | (apply r_l; apply ld_mx'; assumption; rfl)
    | (apply r_l; apply ld_subs'; assumption; rfl)
    | (apply r_l; apply ld_node'; assumption; rfl)
    | (apply r_p; apply ix_sub; rfl; rfl; omega)
    | (apply r_callA (f := 151); rfl; rfl; exact hgs)
    | (apply r_ldL (v := faA f1); rfl; rfl; rfl)
    | (apply r_callA (f := 167) (ags := [faA f1, faA g]); rfl; rfl; exact hg)
    | (apply r_ldL; rfl; rfl; rfl)
    | (apply r_eql; rfl; rfl; (first | (apply decide_eq_true; omega) | (apply decide_eq_false; omega) | rfl))
    | (apply r_lss; rfl; rfl; (first | (apply decide_eq_true; omega) | (apply decide_eq_false; omega) | rfl))
    | (apply r_add; rfl; rfl; rfl; omega)
    | (apply r_lenD; rfl)
    | (apply r_lenL; rfl)
    | (apply r_len0; rfl)
    | (apply r_alloc; ((conv => lhs; simp only [Nat.reduceAdd]) <;> rfl); rfl)
    | (apply r_stL; rfl; rfl; rfl; rfl; (first | rfl | (simp only [z_nil, z_add] <;> rfl)); rfl; rfl)
    | (apply r_p; rfl)
    | (apply r_nilK)
    | (apply r_nil)
    | (apply k_V; rfl)
    | (apply k_P; rfl)
    | (apply k_PL; rfl)
    | (apply k_S; rfl)
    | (apply k_SL; rfl)
    | (apply k_A; rfl)
    | (apply k_T; rfl)
    | (apply k_F; rfl)
    | (apply k_D; rfl; rotate_left; rfl)
    | (apply k_nil)
    | (apply e_ret (vs := [.d (.val _)]); rfl)
    | (apply e_ret; rfl)
    | (apply e_ret' (vs := [.d (.val _)]); rfl)
    | (apply e_ret'; rfl)
    | (apply w_seq)
    | (apply w_ops; ((conv => lhs; simp only [Nat.reduceAdd]) <;> rfl))
    | (apply w_condT; rfl)
    | (apply w_condF; rfl)
    | ((apply w_condS; rfl) <;> (intro h; try simp only [decide_eq_true_eq, decide_eq_false_iff_not, Bool.not_eq_true, Bool.not_eq_false] at h))
    | (apply e_thenN)
    | (apply w_block)
    | (apply e_thenR)
    | (apply e_thenX)
    | (apply e_blkN)
    | (apply e_blkR)
    | (apply e_blkE)
    | (apply w_exit)
    | (apply w_ret)
    | (apply w_skip)
    | (apply e_blkE'; rfl))
      apply e_thenK
      apply fin
      refine wkM [] [] rfl ?_ ?_ rfl ?_
      · intro p hp
        simp only [List.mem_cons, List.not_mem_nil, or_false] at hp
        rcases hp with rfl | rfl
        · exact ⟨by omega, .inr ⟨rfl, _, rfl, .data rfl⟩⟩
        · exact ⟨by omega, .inr ⟨rfl, _, rfl, .data rfl⟩⟩
      · intro q hq; simp only [List.mem_cons, List.not_mem_nil, or_false] at hq; rcases hq with rfl | rfl <;> rfl
      · repeat' (first
    | exact FWk.nil
    | (apply FWk.i; rfl; (first | rfl | omega | (simp; done)))
    | (apply FWk.sl; rfl; rfl; rfl; rfl; omega; rfl)
    | (apply FWk.ptr; rfl; rfl; rfl; omega; rfl)
    | (apply FWk.d; rfl; rfl)
    | (apply FWk.a; rfl; rfl; rfl)
    | (apply FWk.slN; rfl; omega; rfl))
    · rw [List.take_of_length_le hge]
      generalize knO subs faNo = f1
      repeat' (first
    | (apply r_mvV; rfl)
    | (apply r_mvP; rfl)
    | (apply r_mvPL; rfl)
    | (apply r_mvS; rfl)
    | (apply r_mvSL; rfl)
    | (apply r_mvA; rfl)
    | (apply r_mvT; rfl)
    | (apply r_mvF; rfl)
    | (apply r_mvD; rfl)
    | (apply r_nckD; rfl)
    | (apply r_faddD; rfl)
    | (apply r_nckL; rfl)
    | (apply r_faddL; rfl)
    | (apply r_l; apply ld_kind; assumption; rfl)
    | (apply r_l; apply ld_mn; assumption; rfl)
    | (apply r_l; apply ld_mx; assumption; rfl)
    | (apply r_l; apply ld_subs; assumption; rfl)
    | (apply r_l; apply ld_set; assumption; rfl)
    | (apply r_l; apply ld_node; assumption; rfl)
    | (apply r_l; apply ld_kind'; assumption; rfl)
    | (apply r_l; apply ld_mn'; assumption; rfl)
    | (apply r_l; apply ld_mx'; assumption; rfl)
    | (apply r_l; apply ld_subs'; assumption; rfl)
    | (apply r_l; apply ld_node'; assumption; rfl)
    | (apply r_ldL (v := faA f1); rfl; rfl; rfl)
    | (apply r_ldL; rfl; rfl; rfl)
    | (apply r_eql; rfl; rfl; (first | (apply decide_eq_true; omega) | (apply decide_eq_false; omega) | rfl))
    | (apply r_lss; rfl; rfl; (first | (apply decide_eq_true; omega) | (apply decide_eq_false; omega) | rfl))
    | (apply r_add; rfl; rfl; rfl; omega)
    | (apply r_lenD; rfl)
    | (apply r_lenL; rfl)
    | (apply r_len0; rfl)
    | (apply r_alloc; ((conv => lhs; simp only [Nat.reduceAdd]) <;> rfl); rfl)
    | (apply r_stL; rfl; rfl; rfl; rfl; (first | rfl | (simp only [z_nil, z_add] <;> rfl)); rfl; rfl)
    | (apply r_p; rfl)
    | (apply r_nilK)
    | (apply r_nil)
    | (apply k_V; rfl)
    | (apply k_P; rfl)
    | (apply k_PL; rfl)
    | (apply k_S; rfl)
    | (apply k_SL; rfl)
    | (apply k_A; rfl)
    | (apply k_T; rfl)
    | (apply k_F; rfl)
    | (apply k_D; rfl; rotate_left; rfl)
    | (apply k_nil)
    | (apply e_ret (vs := [.d (.val _)]); rfl)
    | (apply e_ret; rfl)
    | (apply e_ret' (vs := [.d (.val _)]); rfl)
    | (apply e_ret'; rfl)
    | (apply w_seq)
    | (apply w_ops; ((conv => lhs; simp only [Nat.reduceAdd]) <;> rfl))
    | (apply w_condT; rfl)
    | (apply w_condF; rfl)
    | ((apply w_condS; rfl) <;> (intro h; try simp only [decide_eq_true_eq, decide_eq_false_iff_not, Bool.not_eq_true, Bool.not_eq_false] at h))
    | (apply e_thenN)
    | (apply w_block)
    | (apply e_thenR)
    | (apply e_thenX)
    | (apply e_blkN)
    | (apply e_blkR)
    | (apply e_blkE)
    | (apply w_exit)
    | (apply w_ret)
    | (apply w_skip)
    | (apply e_blkE'; rfl))
      exact .data _ rfl
  by_cases h5 : k = 5
  · obtain ⟨u, rfl⟩ : ∃ u, subs = [u] := by
      subst h5; exact plainT_5 (okT_plain hok)
    have e : knT (.node k a b c d mn mx [u]) = faTimes (knT u) mn mx := by rw [knT, if_neg h2, if_neg h3, if_neg h4, if_pos h5, knR]
    rw [e]
    have hr := hR h5
    have hg := ih' 0 (by simp)
    simp only [List.getElem_cons_zero, Nat.zero_mul] at hg
    have hX : ∃ X : Int, 0 ≤ X ∧ okF (knT u) X ∧ 20 * X ≤ 16384000000000000000 := by
      subst h5
      have hou : okT u := (okL_iff _).1 hoks u (by simp)
      have h20 := times_bound hok
      obtain ⟨X, x1, x2, x3⟩ := h20
      exact ⟨X, x1, x2, by omega⟩
    obtain ⟨X, x1, x2, x3⟩ := hX
    have h168 := times168_good x2 x1 hr.1 hr.2 x3
    generalize knT u = g at hg h168
    clear ih ih' hsub' hsum hno eno e hbt hoks hok hR ht x2 x1 x3
    refine b151 (by simp) (by simp) (w_init ?_)
    unfold x151
    repeat' (first
    | (apply r_mvV; rfl)
    | (apply r_mvP; rfl)
    | (apply r_mvPL; rfl)
    | (apply r_mvS; rfl)
    | (apply r_mvSL; rfl)
    | (apply r_mvA; rfl)
    | (apply r_mvT; rfl)
    | (apply r_mvF; rfl)
    | (apply r_mvD; rfl)
    | (apply r_nckD; rfl)
    | (apply r_faddD; rfl)
    | (apply r_nckL; rfl)
    | (apply r_faddL; rfl)
    | (apply r_l; apply ld_kind; assumption; rfl)
    | (apply r_l; apply ld_mn; assumption; rfl)
    | (apply r_l; apply ld_mx; assumption; rfl)
    | (apply r_l; apply ld_subs; assumption; rfl)
    | (apply r_l; apply ld_set; assumption; rfl)
    | (apply r_l; apply ld_node; assumption; rfl)
    | (apply r_l; apply ld_kind'; assumption; rfl)
    | (apply r_l; apply ld_mn'; assumption; rfl)
    | (apply r_l; apply ld_mx'; assumption; rfl)
    | (apply r_l; apply ld_subs'; assumption; rfl)
    | (apply r_l; apply ld_node'; assumption; rfl)
    | (apply r_p; apply ix_sub0; rfl; rfl; simp)
    | (apply r_callA (f := 151); rfl; rfl; exact hg)
    | (apply r_callA (f := 168) (ags := [faA g, .i mn, .i mx]); rfl; rfl; exact h168)
    | (apply r_ldL; rfl; rfl; rfl)
    | (apply r_eql; rfl; rfl; (first | (apply decide_eq_true; omega) | (apply decide_eq_false; omega) | rfl))
    | (apply r_lss; rfl; rfl; (first | (apply decide_eq_true; omega) | (apply decide_eq_false; omega) | rfl))
    | (apply r_add; rfl; rfl; rfl; omega)
    | (apply r_lenD; rfl)
    | (apply r_lenL; rfl)
    | (apply r_len0; rfl)
    | (apply r_alloc; ((conv => lhs; simp only [Nat.reduceAdd]) <;> rfl); rfl)
    | (apply r_stL; rfl; rfl; rfl; rfl; (first | rfl | (simp only [z_nil, z_add] <;> rfl)); rfl; rfl)
    | (apply r_p; rfl)
    | (apply r_nilK)
    | (apply r_nil)
    | (apply k_V; rfl)
    | (apply k_P; rfl)
    | (apply k_PL; rfl)
    | (apply k_S; rfl)
    | (apply k_SL; rfl)
    | (apply k_A; rfl)
    | (apply k_T; rfl)
    | (apply k_F; rfl)
    | (apply k_D; rfl; rotate_left; rfl)
    | (apply k_nil)
    | (apply e_ret (vs := [.d (.val _)]); rfl)
    | (apply e_ret; rfl)
    | (apply e_ret' (vs := [.d (.val _)]); rfl)
    | (apply e_ret'; rfl)
    | (apply w_seq)
    | (apply w_ops; ((conv => lhs; simp only [Nat.reduceAdd]) <;> rfl))
    | (apply w_condT; rfl)
    | (apply w_condF; rfl)
    | ((apply w_condS; rfl) <;> (intro h; try simp only [decide_eq_true_eq, decide_eq_false_iff_not, Bool.not_eq_true, Bool.not_eq_false] at h))
    | (apply e_thenN)
    | (apply w_block)
    | (apply e_thenR)
    | (apply e_thenX)
    | (apply e_blkN)
    | (apply e_blkR)
    | (apply e_blkE)
    | (apply w_exit)
    | (apply w_ret)
    | (apply w_skip)
    | (apply e_blkE'; rfl))
    exact .data _ rfl
  · have e : knT (.node k a b c d mn mx subs) = faE := by rw [knT, if_neg h2, if_neg h3, if_neg h4, if_neg h5]
    have e2 : faA faE = .agg [.b false, .i 0, .i 0, .d (.val (.int .u64 0)), .d (.val (.int .u64 0)), .d (.val (.int .u64 0)), .d (.val (.int .u64 0))] := rfl
    rw [e, e2]
    clear ih ih' hsub' hsum hno eno e hbt hoks hok hR ht
    refine b151 (by simp) (by simp) (w_init ?_)
    unfold x151
    repeat' (first
    | (apply r_mvV; rfl)
    | (apply r_mvP; rfl)
    | (apply r_mvPL; rfl)
    | (apply r_mvS; rfl)
    | (apply r_mvSL; rfl)
    | (apply r_mvA; rfl)
    | (apply r_mvT; rfl)
    | (apply r_mvF; rfl)
    | (apply r_mvD; rfl)
    | (apply r_nckD; rfl)
    | (apply r_faddD; rfl)
    | (apply r_nckL; rfl)
    | (apply r_faddL; rfl)
    | (apply r_l; apply ld_kind; assumption; rfl)
    | (apply r_l; apply ld_mn; assumption; rfl)
    | (apply r_l; apply ld_mx; assumption; rfl)
    | (apply r_l; apply ld_subs; assumption; rfl)
    | (apply r_l; apply ld_set; assumption; rfl)
    | (apply r_l; apply ld_node; assumption; rfl)
    | (apply r_l; apply ld_kind'; assumption; rfl)
    | (apply r_l; apply ld_mn'; assumption; rfl)
    | (apply r_l; apply ld_mx'; assumption; rfl)
    | (apply r_l; apply ld_subs'; assumption; rfl)
    | (apply r_l; apply ld_node'; assumption; rfl)
    | (apply r_p (v := .agg [.b false, .i 0, .i 0, .d (.val (.int .u64 0)), .d (.val (.int .u64 0)), .d (.val (.int .u64 0)), .d (.val (.int .u64 0))]); rfl)
    | (apply r_ldL; rfl; rfl; rfl)
    | (apply r_eql; rfl; rfl; (first | (apply decide_eq_true; omega) | (apply decide_eq_false; omega) | rfl))
    | (apply r_lss; rfl; rfl; (first | (apply decide_eq_true; omega) | (apply decide_eq_false; omega) | rfl))
    | (apply r_add; rfl; rfl; rfl; omega)
    | (apply r_lenD; rfl)
    | (apply r_lenL; rfl)
    | (apply r_len0; rfl)
    | (apply r_alloc; ((conv => lhs; simp only [Nat.reduceAdd]) <;> rfl); rfl)
    | (apply r_stL; rfl; rfl; rfl; rfl; (first | rfl | (simp only [z_nil, z_add] <;> rfl)); rfl; rfl)
    | (apply r_p; rfl)
    | (apply r_nilK)
    | (apply r_nil)
    | (apply k_V; rfl)
    | (apply k_P; rfl)
    | (apply k_PL; rfl)
    | (apply k_S; rfl)
    | (apply k_SL; rfl)
    | (apply k_A; rfl)
    | (apply k_T; rfl)
    | (apply k_F; rfl)
    | (apply k_D; rfl; rotate_left; rfl)
    | (apply k_nil)
    | (apply e_ret (vs := [.d (.val _)]); rfl)
    | (apply e_ret; rfl)
    | (apply e_ret' (vs := [.d (.val _)]); rfl)
    | (apply e_ret'; rfl)
    | (apply w_seq)
    | (apply w_ops; ((conv => lhs; simp only [Nat.reduceAdd]) <;> rfl))
    | (apply w_condT; rfl)
    | (apply w_condF; rfl)
    | ((apply w_condS; rfl) <;> (intro h; try simp only [decide_eq_true_eq, decide_eq_false_iff_not, Bool.not_eq_true, Bool.not_eq_false] at h))
    | (apply e_thenN)
    | (apply w_block)
    | (apply e_thenR)
    | (apply e_thenX)
    | (apply e_blkN)
    | (apply e_blkR)
    | (apply e_blkE)
    | (apply w_exit)
    | (apply w_ret)
    | (apply w_skip)
    | (apply e_blkE'; rfl))
    exact .data _ rfl
end Go.Sv
namespace Go.Sv
open Go Go.Proofs
def x121 : XC := (.seq (.ops 3 [
    (0, ⟨(some 1), none, .box (.t 0)⟩),
    (1, ⟨(some 2), none, .alloc [(.bool false), (.int .i64 0), (.int .i64 0), (.int .u64 0), (.int .u64 0), (.int .u64 0), (.int .u64 0)]⟩),
    (2, ⟨(some 3), none, .mv (.k (.d (.val (.bool false))))⟩)] (some [1, 2])) (.seq (.seq (.ops 3 [
    (0, ⟨(some 4), none, .load (some 8) (.t 1)⟩),
    (1, ⟨(some 5), none, .call 84 [(.t 4)] none false⟩),
    (2, ⟨(some 6), none, .un .not (.t 5)⟩)] (some [1, 2, 6])) (.cond (.t 6) (.seq (.ops 3 [
    (0, ⟨(some 7), none, .build [(.bool false), (.int .i64 0), (.int .i64 0), (.int .u64 0), (.int .u64 0), (.int .u64 0), (.int .u64 0)] []⟩),
    (1, ⟨none, none, .store 7 (.t 2) (.t 7)⟩),
    (2, ⟨(some 3), none, .mv (.k (.d (.val (.bool false))))⟩)] (some [2, 3])) .ret) .skip)) (.seq (.ops 3 [
    (0, ⟨(some 8), none, .call 151 [(.t 1)] none false⟩),
    (1, ⟨none, none, .store 7 (.t 2) (.t 8)⟩),
    (2, ⟨(some 3), none, .mv (.k (.d (.val (.bool true))))⟩)] (some [2, 3])) .ret)))
def md121 : FuncId → Option Nat × Bool
  | _ => (none, false)
def od121 : Nat → List (List Nat) × List Nat × Option (List Nat)
  | 0 => ([], [], some [1, 2])
  | 1 => ([], [], some [1, 2, 6])
  | 2 => ([], [], some [2, 3])
  | 3 => ([], [], some [2, 3])
  | _ => ([], [], none)
theorem b121 {ags : List AV} {row : Option (List DV)} {r : AV} {row' nw : Option (List DV)} (hal : ags.length ≤ 9) (hrow : row'.isSome = true → row.isSome = true) (h : xwp Try.prog x121 (retK [.cell 2 (some 7), .tmp 3] row.isSome r row' nw) (St.init ags row)) : Good Try.prog 121 ags row r row' nw :=
  good_of_body' (md := md121) (od := od121) Try.f121 (by kernel_rfl) (by kernel_rfl) (by kernel_rfl) (by kernel_rfl) (by kernel_rfl) hal hrow h

def x69 : XC := (.seq (.ops 2 [
    (0, ⟨(some 1), none, .box (.t 0)⟩),
    (1, ⟨(some 2), none, .mv (.k (.d (.val (.bool false))))⟩)] (some [1])) (.seq (.ops 8 [
    (0, ⟨(some 6), none, .load (some 8) (.t 1)⟩),
    (1, ⟨(some 7), none, .call 121 [(.t 6)] none false⟩),
    (2, ⟨(some 5), none, .mv (.t 7)⟩),
    (3, ⟨(some 8), none, .ext (.t 5) 0⟩),
    (4, ⟨(some 9), none, .ext (.t 5) 1⟩),
    (5, ⟨(some 3), none, .alloc [(.bool false), (.int .i64 0), (.int .i64 0), (.int .u64 0), (.int .u64 0), (.int .u64 0), (.int .u64 0)]⟩),
    (6, ⟨none, none, .store 7 (.t 3) (.t 8)⟩),
    (7, ⟨(some 4), none, .mv (.t 9)⟩)] (some [3, 4])) (.seq (.ops 12 [
    (0, ⟨(some 10), none, .mv (.t 4)⟩),
    (1, ⟨(some 11), none, .mv (.t 10)⟩),
    (2, ⟨(some 12), (some (11, true)), .fadd 0 (.t 3)⟩),
    (3, ⟨(some 13), (some (11, true)), .load none (.t 12)⟩),
    (4, ⟨(some 14), (some (11, true)), .un .not (.t 13)⟩),
    (5, ⟨(some 15), none, .pick (.t 11) (.t 14) (.k (.d (.val (.bool false))))⟩),
    (6, ⟨(some 16), none, .mv (.t 15)⟩),
    (7, ⟨(some 17), (some (16, true)), .fadd 1 (.t 3)⟩),
    (8, ⟨(some 18), (some (16, true)), .load none (.t 17)⟩),
    (9, ⟨(some 19), (some (16, true)), .arith .eql (.t 18) (.k (.d (.val (.int .i64 0))))⟩),
    (10, ⟨(some 20), none, .pick (.t 16) (.t 19) (.k (.d (.val (.bool false))))⟩),
    (11, ⟨(some 2), none, .mv (.t 20)⟩)] (some [2])) .ret)))
def md69 : FuncId → Option Nat × Bool
  | _ => (none, false)
def od69 : Nat → List (List Nat) × List Nat × Option (List Nat)
  | 0 => ([], [], some [1])
  | 1 => ([], [], some [3, 4])
  | 2 => ([], [], some [2])
  | _ => ([], [], none)
theorem b69 {ags : List AV} {row : Option (List DV)} {r : AV} {row' nw : Option (List DV)} (hal : ags.length ≤ 21) (hrow : row'.isSome = true → row.isSome = true) (h : xwp Try.prog x69 (retK [.tmp 2] row.isSome r row' nw) (St.init ags row)) : Good Try.prog 69 ags row r row' nw :=
  good_of_body' (md := md69) (od := od69) Try.f69 (by kernel_rfl) (by kernel_rfl) (by kernel_rfl) (by kernel_rfl) (by kernel_rfl) hal hrow h

def x70 : XC := (.seq (.ops 2 [
    (0, ⟨(some 1), none, .box (.t 0)⟩),
    (1, ⟨(some 2), none, .alloc [(.int .u64 0), (.int .u64 0), (.int .u64 0), (.int .u64 0)]⟩)] (some [1, 2])) (.seq (.ops 8 [
    (0, ⟨(some 6), none, .load (some 8) (.t 1)⟩),
    (1, ⟨(some 7), none, .call 121 [(.t 6)] none false⟩),
    (2, ⟨(some 5), none, .mv (.t 7)⟩),
    (3, ⟨(some 8), none, .ext (.t 5) 0⟩),
    (4, ⟨(some 9), none, .ext (.t 5) 1⟩),
    (5, ⟨(some 3), none, .alloc [(.bool false), (.int .i64 0), (.int .i64 0), (.int .u64 0), (.int .u64 0), (.int .u64 0), (.int .u64 0)]⟩),
    (6, ⟨none, none, .store 7 (.t 3) (.t 8)⟩),
    (7, ⟨(some 4), none, .mv (.t 9)⟩)] (some [2, 3])) (.seq (.ops 3 [
    (0, ⟨(some 10), none, .fadd 3 (.t 3)⟩),
    (1, ⟨(some 11), none, .load (some 4) (.t 10)⟩),
    (2, ⟨none, none, .store 4 (.t 2) (.t 11)⟩)] (some [2])) .ret)))
def md70 : FuncId → Option Nat × Bool
  | _ => (none, false)
def od70 : Nat → List (List Nat) × List Nat × Option (List Nat)
  | 0 => ([], [], some [1, 2])
  | 1 => ([], [], some [2, 3])
  | 2 => ([], [], some [2])
  | _ => ([], [], none)
theorem b70 {ags : List AV} {row : Option (List DV)} {r : AV} {row' nw : Option (List DV)} (hal : ags.length ≤ 12) (hrow : row'.isSome = true → row.isSome = true) (h : xwp Try.prog x70 (retK [.cell 2 (some 4)] row.isSome r row' nw) (St.init ags row)) : Good Try.prog 70 ags row r row' nw :=
  good_of_body' (md := md70) (od := od70) Try.f70 (by kernel_rfl) (by kernel_rfl) (by kernel_rfl) (by kernel_rfl) (by kernel_rfl) hal hrow h

def x66 : XC := (.seq (.ops 3 [
    (0, ⟨(some 1), none, .box (.t 0)⟩),
    (1, ⟨(some 2), none, .mv (.k (.d (.val (.int .i64 0))))⟩),
    (2, ⟨(some 3), none, .mv (.k (.d (.val (.int .i64 0))))⟩)] (some [1])) (.seq (.ops 8 [
    (0, ⟨(some 7), none, .load (some 8) (.t 1)⟩),
    (1, ⟨(some 8), none, .call 121 [(.t 7)] none false⟩),
    (2, ⟨(some 6), none, .mv (.t 8)⟩),
    (3, ⟨(some 9), none, .ext (.t 6) 0⟩),
    (4, ⟨(some 10), none, .ext (.t 6) 1⟩),
    (5, ⟨(some 4), none, .alloc [(.bool false), (.int .i64 0), (.int .i64 0), (.int .u64 0), (.int .u64 0), (.int .u64 0), (.int .u64 0)]⟩),
    (6, ⟨none, none, .store 7 (.t 4) (.t 9)⟩),
    (7, ⟨(some 5), none, .mv (.t 10)⟩)] (some [4])) (.seq (.ops 6 [
    (0, ⟨(some 11), none, .fadd 1 (.t 4)⟩),
    (1, ⟨(some 12), none, .load none (.t 11)⟩),
    (2, ⟨(some 13), none, .fadd 2 (.t 4)⟩),
    (3, ⟨(some 14), none, .load none (.t 13)⟩),
    (4, ⟨(some 2), none, .mv (.t 12)⟩),
    (5, ⟨(some 3), none, .mv (.t 14)⟩)] (some [2, 3])) .ret)))
def md66 : FuncId → Option Nat × Bool
  | _ => (none, false)
def od66 : Nat → List (List Nat) × List Nat × Option (List Nat)
  | 0 => ([], [], some [1])
  | 1 => ([], [], some [4])
  | 2 => ([[], [0], [], [2], [0, 1], [0, 1, 2, 3, 4]], [0, 1, 2, 3, 4, 5], some [2, 3])
  | _ => ([], [], none)
theorem b66 {ags : List AV} {row : Option (List DV)} {r : AV} {row' nw : Option (List DV)} (hal : ags.length ≤ 15) (hrow : row'.isSome = true → row.isSome = true) (h : xwp Try.prog x66 (retK [.tmp 2, .tmp 3] row.isSome r row' nw) (St.init ags row)) : Good Try.prog 66 ags row r row' nw :=
  good_of_body' (md := md66) (od := od66) Try.f66 (by kernel_rfl) (by kernel_rfl) (by kernel_rfl) (by kernel_rfl) (by kernel_rfl) hal hrow h

def x71 : XC := (.seq (.ops 2 [
    (0, ⟨(some 1), none, .box (.t 0)⟩),
    (1, ⟨(some 2), none, .mv (.k (.d (.val (.bool false))))⟩)] (some [1])) (.seq (.ops 8 [
    (0, ⟨(some 6), none, .load (some 8) (.t 1)⟩),
    (1, ⟨(some 7), none, .call 121 [(.t 6)] none false⟩),
    (2, ⟨(some 5), none, .mv (.t 7)⟩),
    (3, ⟨(some 8), none, .ext (.t 5) 0⟩),
    (4, ⟨(some 9), none, .ext (.t 5) 1⟩),
    (5, ⟨(some 3), none, .alloc [(.bool false), (.int .i64 0), (.int .i64 0), (.int .u64 0), (.int .u64 0), (.int .u64 0), (.int .u64 0)]⟩),
    (6, ⟨none, none, .store 7 (.t 3) (.t 8)⟩),
    (7, ⟨(some 4), none, .mv (.t 9)⟩)] (some [3])) (.seq (.ops 3 [
    (0, ⟨(some 10), none, .fadd 0 (.t 3)⟩),
    (1, ⟨(some 11), none, .load none (.t 10)⟩),
    (2, ⟨(some 2), none, .mv (.t 11)⟩)] (some [2])) .ret)))
def md71 : FuncId → Option Nat × Bool
  | _ => (none, false)
def od71 : Nat → List (List Nat) × List Nat × Option (List Nat)
  | 0 => ([], [], some [1])
  | 1 => ([], [], some [3])
  | 2 => ([], [], some [2])
  | _ => ([], [], none)
theorem b71 {ags : List AV} {row : Option (List DV)} {r : AV} {row' nw : Option (List DV)} (hal : ags.length ≤ 12) (hrow : row'.isSome = true → row.isSome = true) (h : xwp Try.prog x71 (retK [.tmp 2] row.isSome r row' nw) (St.init ags row)) : Good Try.prog 71 ags row r row' nw :=
  good_of_body' (md := md71) (od := od71) Try.f71 (by kernel_rfl) (by kernel_rfl) (by kernel_rfl) (by kernel_rfl) (by kernel_rfl) hal hrow h

set_option maxRecDepth 100000
set_option maxHeartbeats 4000000
attribute [local irreducible] W E R KP thenK blockK retK Good xwp aRun
def ofK (t : T) : Fa := if fitsT t 12 = true then knT t else faE
theorem of121_good (t : T) (hc : t.cnt ≤ 200) (hok : fitsT t 12 = true → okT t) : Good Try.prog 121 [nodeA t] none (.tup [faA (ofK t), .b (fitsT t 12)]) none none := by
  have hright := right_good t (by omega)
  have hk := fun (h : fitsT t 12 = true) => know151_good 1000000 t (encN t) 0 (NodeAt.self _) (by omega) (Nat.le_refl _) (hok h) (bT_few hc h)
  have eE : faA faE = .agg [.b false, .i 0, .i 0, .d (.val (.int .u64 0)), .d (.val (.int .u64 0)), .d (.val (.int .u64 0)), .d (.val (.int .u64 0))] := rfl
  unfold ofK
  rcases Bool.eq_false_or_eq_true (fitsT t 12) with hR | hR
  case inr =>
    rw [hR] at hright ⊢
    rw [if_neg (by simp), eE]
    obtain ⟨k, a, b, c, d, mn, mx, subs⟩ := t
    have e0 : nodeA (T.node k a b c d mn mx subs) = .agg [.i k, .d (.val (.int .u64 a)), .d (.val (.int .u64 b)), .d (.val (.int .u64 c)), .d (.val (.int .u64 d)), .i mn, .i mx, .d (.sl (encL subs) subs.length)] := rfl
    rw [e0] at hright ⊢
    refine b121 (by simp) (by simp) (w_init ?_)
    unfold x121
    repeat' (first
    | (apply r_mvV; rfl)
    | (apply r_mvP; rfl)
    | (apply r_mvPL; rfl)
    | (apply r_mvS; rfl)
    | (apply r_mvSL; rfl)
    | (apply r_mvA; rfl)
    | (apply r_mvT; rfl)
    | (apply r_mvF; rfl)
    | (apply r_mvD; rfl)
    | (apply r_l; apply ld_kind; assumption; rfl)
    | (apply r_l; apply ld_mn; assumption; rfl)
    | (apply r_l; apply ld_mx; assumption; rfl)
    | (apply r_l; apply ld_subs; assumption; rfl)
    | (apply r_l; apply ld_set; assumption; rfl)
    | (apply r_l; apply ld_node; assumption; rfl)
    | (apply r_l; apply ld_kind'; assumption; rfl)
    | (apply r_l; apply ld_mn'; assumption; rfl)
    | (apply r_l; apply ld_mx'; assumption; rfl)
    | (apply r_l; apply ld_subs'; assumption; rfl)
    | (apply r_l; apply ld_node'; assumption; rfl)
    | (apply r_callA; rfl; rfl; exact hright)
    | (apply r_p (v := .agg [.b false, .i 0, .i 0, .d (.val (.int .u64 0)), .d (.val (.int .u64 0)), .d (.val (.int .u64 0)), .d (.val (.int .u64 0))]); rfl)
    | (apply r_ldL; rfl; rfl; rfl)
    | (apply r_not; rfl; rfl)
    | (apply r_alloc; ((conv => lhs; simp only [Nat.reduceAdd]) <;> rfl); rfl)
    | (apply r_box; ((conv => lhs; simp only [Nat.reduceAdd]) <;> rfl); rfl; rfl; rfl)
    | (apply r_stL; rfl; rfl; rfl; rfl; (first | rfl | (simp only [z_nil, z_add] <;> rfl)); rfl; rfl)
    | (apply r_p; rfl)
    | (apply r_nilK)
    | (apply r_nil)
    | (apply k_V; rfl)
    | (apply k_P; rfl)
    | (apply k_PL; rfl)
    | (apply k_S; rfl)
    | (apply k_SL; rfl)
    | (apply k_A; rfl)
    | (apply k_T; rfl)
    | (apply k_F; rfl)
    | (apply k_D; rfl; rotate_left; rfl)
    | (apply k_nil)
    | (apply e_ret (vs := [.d (.val _)]); rfl)
    | (apply e_ret; rfl)
    | (apply e_ret' (vs := [.d (.val _)]); rfl)
    | (apply e_ret'; rfl)
    | (apply w_seq)
    | (apply w_ops; ((conv => lhs; simp only [Nat.reduceAdd]) <;> rfl))
    | (apply w_condT; rfl)
    | (apply w_condF; rfl)
    | ((apply w_condS; rfl) <;> (intro h; try simp only [decide_eq_true_eq, decide_eq_false_iff_not, Bool.not_eq_true, Bool.not_eq_false] at h))
    | (apply e_thenN)
    | (apply w_block)
    | (apply e_thenR)
    | (apply e_thenX)
    | (apply e_blkN)
    | (apply e_blkR)
    | (apply e_blkE)
    | (apply w_exit)
    | (apply w_ret)
    | (apply w_skip)
    | (apply e_blkE'; rfl))
    exact .data _ rfl
  have hk := hk hR
  rw [hR] at hright ⊢
  rw [if_pos rfl]
  generalize knT t = f at hk
  obtain ⟨k, a, b, c, d, mn, mx, subs⟩ := t
  have e0 : nodeA (T.node k a b c d mn mx subs) = .agg [.i k, .d (.val (.int .u64 a)), .d (.val (.int .u64 b)), .d (.val (.int .u64 c)), .d (.val (.int .u64 d)), .i mn, .i mx, .d (.sl (encL subs) subs.length)] := rfl
  rw [e0] at hright ⊢
  refine b121 (by simp) (by simp) (w_init ?_)
  unfold x121
  repeat' (first
    | (apply r_mvV; rfl)
    | (apply r_mvP; rfl)
    | (apply r_mvPL; rfl)
    | (apply r_mvS; rfl)
    | (apply r_mvSL; rfl)
    | (apply r_mvA; rfl)
    | (apply r_mvT; rfl)
    | (apply r_mvF; rfl)
    | (apply r_mvD; rfl)
    | (apply r_l; apply ld_kind; assumption; rfl)
    | (apply r_l; apply ld_mn; assumption; rfl)
    | (apply r_l; apply ld_mx; assumption; rfl)
    | (apply r_l; apply ld_subs; assumption; rfl)
    | (apply r_l; apply ld_set; assumption; rfl)
    | (apply r_l; apply ld_node; assumption; rfl)
    | (apply r_l; apply ld_kind'; assumption; rfl)
    | (apply r_l; apply ld_mn'; assumption; rfl)
    | (apply r_l; apply ld_mx'; assumption; rfl)
    | (apply r_l; apply ld_subs'; assumption; rfl)
    | (apply r_l; apply ld_node'; assumption; rfl)
    | (apply r_callA; rfl; rfl; exact hright)
    | (apply r_call (bs := [.d (.ptr (encN (.node k a b c d mn mx subs)) 0)]) (us := [1]); rfl; rfl; exact hk; rfl)
    | (apply r_ldL; rfl; rfl; rfl)
    | (apply r_not; rfl; rfl)
    | (apply r_alloc; ((conv => lhs; simp only [Nat.reduceAdd]) <;> rfl); rfl)
    | (apply r_box; ((conv => lhs; simp only [Nat.reduceAdd]) <;> rfl); rfl; rfl; rfl)
    | (apply r_stL; rfl; rfl; rfl; rfl; (first | rfl | (simp only [z_nil, z_add] <;> rfl)); rfl; rfl)
    | (apply r_p; rfl)
    | (apply r_nilK)
    | (apply r_nil)
    | (apply k_V; rfl)
    | (apply k_P; rfl)
    | (apply k_PL; rfl)
    | (apply k_S; rfl)
    | (apply k_SL; rfl)
    | (apply k_A; rfl)
    | (apply k_T; rfl)
    | (apply k_F; rfl)
    | (apply k_D; rfl; rotate_left; rfl)
    | (apply k_nil)
    | (apply e_ret (vs := [.d (.val _)]); rfl)
    | (apply e_ret; rfl)
    | (apply e_ret' (vs := [.d (.val _)]); rfl)
    | (apply e_ret'; rfl)
    | (apply w_seq)
    | (apply w_ops; ((conv => lhs; simp only [Nat.reduceAdd]) <;> rfl))
    | (apply w_condT; rfl)
    | (apply w_condF; rfl)
    | ((apply w_condS; rfl) <;> (intro h; try simp only [decide_eq_true_eq, decide_eq_false_iff_not, Bool.not_eq_true, Bool.not_eq_false] at h))
    | (apply e_thenN)
    | (apply w_block)
    | (apply e_thenR)
    | (apply e_thenX)
    | (apply e_blkN)
    | (apply e_blkR)
    | (apply e_blkE)
    | (apply w_exit)
    | (apply w_ret)
    | (apply w_skip)
    | (apply e_blkE'; rfl))
  exact .data _ rfl
def nulF (t : T) : Bool := fitsT t 12 && (!(ofK t).no && decide ((ofK t).lo = 0))
theorem null69_good (t : T) (hc : t.cnt ≤ 200) (hok : fitsT t 12 = true → okT t) : Good Try.prog 69 [nodeA t] none (.b (nulF t)) none none := by
  have h := of121_good t hc hok
  unfold nulF
  generalize fitsT t 12 = q at h
  generalize ofK t = f at h
  obtain ⟨fn, fl, fh, fa, fb, fc, fd⟩ := f
  have e : faA ⟨fn, fl, fh, fa, fb, fc, fd⟩ = .agg [.b fn, .i fl, .i fh, .d (.val (.int .u64 fa)), .d (.val (.int .u64 fb)), .d (.val (.int .u64 fc)), .d (.val (.int .u64 fd))] := rfl
  rw [e] at h
  dsimp only
  obtain ⟨k, a, b, c, d, mn, mx, subs⟩ := t
  have e0 : nodeA (T.node k a b c d mn mx subs) = .agg [.i k, .d (.val (.int .u64 a)), .d (.val (.int .u64 b)), .d (.val (.int .u64 c)), .d (.val (.int .u64 d)), .i mn, .i mx, .d (.sl (encL subs) subs.length)] := rfl
  rw [e0] at h ⊢
  cases q with
  | false =>
    refine b69 (by simp) (by simp) (w_init ?_)
    unfold x69
    repeat' (first
    | (apply r_mvV; rfl)
    | (apply r_mvP; rfl)
    | (apply r_mvPL; rfl)
    | (apply r_mvS; rfl)
    | (apply r_mvSL; rfl)
    | (apply r_mvA; rfl)
    | (apply r_mvT; rfl)
    | (apply r_mvF; rfl)
    | (apply r_mvD; rfl)
    | (apply r_faddD; rfl)
    | (apply r_faddL; rfl)
    | (apply r_l; apply ld_kind; assumption; rfl)
    | (apply r_l; apply ld_mn; assumption; rfl)
    | (apply r_l; apply ld_mx; assumption; rfl)
    | (apply r_l; apply ld_subs; assumption; rfl)
    | (apply r_l; apply ld_set; assumption; rfl)
    | (apply r_l; apply ld_node; assumption; rfl)
    | (apply r_l; apply ld_kind'; assumption; rfl)
    | (apply r_l; apply ld_mn'; assumption; rfl)
    | (apply r_l; apply ld_mx'; assumption; rfl)
    | (apply r_l; apply ld_subs'; assumption; rfl)
    | (apply r_l; apply ld_node'; assumption; rfl)
    | (apply r_callA; rfl; rfl; exact h)
    | (apply r_ldL; rfl; rfl; rfl)
    | (apply r_eql; rfl; rfl; (first | (apply decide_eq_true; omega) | (apply decide_eq_false; omega) | rfl))
    | (apply r_not; rfl; rfl)
    | (apply r_pickT; rfl)
    | (apply r_pickF; rfl)
    | (apply r_ext; rfl; rfl)
    | (apply r_gT; rfl)
    | (apply r_gF'; rfl; rfl)
    | (apply r_gN'; rfl)
    | ((apply r_gS (o := default); rfl) <;> (intro h; try simp only [decide_eq_true_eq, decide_eq_false_iff_not, Bool.not_eq_true, Bool.not_eq_false] at h))
    | (apply r_alloc; ((conv => lhs; simp only [Nat.reduceAdd]) <;> rfl); rfl)
    | (apply r_box; ((conv => lhs; simp only [Nat.reduceAdd]) <;> rfl); rfl; rfl; rfl)
    | (apply r_stL; rfl; rfl; rfl; rfl; (first | rfl | (simp only [z_nil, z_add] <;> rfl)); rfl; rfl)
    | (apply r_nilK)
    | (apply r_nil)
    | (apply k_V; rfl)
    | (apply k_P; rfl)
    | (apply k_PL; rfl)
    | (apply k_S; rfl)
    | (apply k_SL; rfl)
    | (apply k_A; rfl)
    | (apply k_T; rfl)
    | (apply k_F; rfl)
    | (apply k_D; rfl; rotate_left; rfl)
    | (apply k_nil)
    | (apply e_ret (vs := [.d (.val _)]); rfl)
    | (apply e_ret; rfl)
    | (apply e_ret' (vs := [.d (.val _)]); rfl)
    | (apply e_ret'; rfl)
    | (apply w_seq)
    | (apply w_ops; ((conv => lhs; simp only [Nat.reduceAdd]) <;> rfl))
    | (apply e_thenN)
    | (apply w_block)
    | (apply e_thenR)
    | (apply e_thenX)
    | (apply e_blkN)
    | (apply e_blkR)
    | (apply e_blkE)
    | (apply w_exit)
    | (apply w_ret)
    | (apply w_skip)
    | (apply e_blkE'; rfl))
    exact retB rfl
  | true =>
  cases fn with
  | true =>
    refine b69 (by simp) (by simp) (w_init ?_)
    unfold x69
    repeat' (first
    | (apply r_mvV; rfl)
    | (apply r_mvP; rfl)
    | (apply r_mvPL; rfl)
    | (apply r_mvS; rfl)
    | (apply r_mvSL; rfl)
    | (apply r_mvA; rfl)
    | (apply r_mvT; rfl)
    | (apply r_mvF; rfl)
    | (apply r_mvD; rfl)
    | (apply r_faddD; rfl)
    | (apply r_faddL; rfl)
    | (apply r_l; apply ld_kind; assumption; rfl)
    | (apply r_l; apply ld_mn; assumption; rfl)
    | (apply r_l; apply ld_mx; assumption; rfl)
    | (apply r_l; apply ld_subs; assumption; rfl)
    | (apply r_l; apply ld_set; assumption; rfl)
    | (apply r_l; apply ld_node; assumption; rfl)
    | (apply r_l; apply ld_kind'; assumption; rfl)
    | (apply r_l; apply ld_mn'; assumption; rfl)
    | (apply r_l; apply ld_mx'; assumption; rfl)
    | (apply r_l; apply ld_subs'; assumption; rfl)
    | (apply r_l; apply ld_node'; assumption; rfl)
    | (apply r_callA; rfl; rfl; exact h)
    | (apply r_ldL (v := .b true); rfl; rfl; rfl)
    | (apply r_ldL; rfl; rfl; rfl)
    | (apply r_eql; rfl; rfl; (first | (apply decide_eq_true; omega) | (apply decide_eq_false; omega) | rfl))
    | (apply r_not; rfl; rfl)
    | (apply r_pickT; rfl)
    | (apply r_pickF; rfl)
    | (apply r_ext; rfl; rfl)
    | (apply r_gT; rfl)
    | (apply r_gF'; rfl; rfl)
    | (apply r_gN'; rfl)
    | ((apply r_gS (o := default); rfl) <;> (intro h; try simp only [decide_eq_true_eq, decide_eq_false_iff_not, Bool.not_eq_true, Bool.not_eq_false] at h))
    | (apply r_alloc; ((conv => lhs; simp only [Nat.reduceAdd]) <;> rfl); rfl)
    | (apply r_box; ((conv => lhs; simp only [Nat.reduceAdd]) <;> rfl); rfl; rfl; rfl)
    | (apply r_stL; rfl; rfl; rfl; rfl; (first | rfl | (simp only [z_nil, z_add] <;> rfl)); rfl; rfl)
    | (apply r_nilK)
    | (apply r_nil)
    | (apply k_V; rfl)
    | (apply k_P; rfl)
    | (apply k_PL; rfl)
    | (apply k_S; rfl)
    | (apply k_SL; rfl)
    | (apply k_A; rfl)
    | (apply k_T; rfl)
    | (apply k_F; rfl)
    | (apply k_D; rfl; rotate_left; rfl)
    | (apply k_nil)
    | (apply e_ret (vs := [.d (.val _)]); rfl)
    | (apply e_ret; rfl)
    | (apply e_ret' (vs := [.d (.val _)]); rfl)
    | (apply e_ret'; rfl)
    | (apply w_seq)
    | (apply w_ops; ((conv => lhs; simp only [Nat.reduceAdd]) <;> rfl))
    | (apply e_thenN)
    | (apply w_block)
    | (apply e_thenR)
    | (apply e_thenX)
    | (apply e_blkN)
    | (apply e_blkR)
    | (apply e_blkE)
    | (apply w_exit)
    | (apply w_ret)
    | (apply w_skip)
    | (apply e_blkE'; rfl))
    exact retB rfl
  | false =>
    refine b69 (by simp) (by simp) (w_init ?_)
    unfold x69
    by_cases hz : fl = 0
    · repeat' (first
    | (apply r_mvV; rfl)
    | (apply r_mvP; rfl)
    | (apply r_mvPL; rfl)
    | (apply r_mvS; rfl)
    | (apply r_mvSL; rfl)
    | (apply r_mvA; rfl)
    | (apply r_mvT; rfl)
    | (apply r_mvF; rfl)
    | (apply r_mvD; rfl)
    | (apply r_faddD; rfl)
    | (apply r_faddL; rfl)
    | (apply r_l; apply ld_kind; assumption; rfl)
    | (apply r_l; apply ld_mn; assumption; rfl)
    | (apply r_l; apply ld_mx; assumption; rfl)
    | (apply r_l; apply ld_subs; assumption; rfl)
    | (apply r_l; apply ld_set; assumption; rfl)
    | (apply r_l; apply ld_node; assumption; rfl)
    | (apply r_l; apply ld_kind'; assumption; rfl)
    | (apply r_l; apply ld_mn'; assumption; rfl)
    | (apply r_l; apply ld_mx'; assumption; rfl)
    | (apply r_l; apply ld_subs'; assumption; rfl)
    | (apply r_l; apply ld_node'; assumption; rfl)
    | (apply r_callA; rfl; rfl; exact h)
    | (apply r_ldL (v := .b false); rfl; rfl; rfl)
    | (apply r_ldL (v := .i fl); rfl; rfl; rfl)
    | (apply r_ldL; rfl; rfl; rfl)
    | (apply r_eql; rfl; rfl; (first | (apply decide_eq_true; omega) | (apply decide_eq_false; omega) | rfl))
    | (apply r_not; rfl; rfl)
    | (apply r_pickT; rfl)
    | (apply r_pickF; rfl)
    | (apply r_ext; rfl; rfl)
    | (apply r_gT; rfl)
    | (apply r_gF'; rfl; rfl)
    | (apply r_gN'; rfl)
    | ((apply r_gS (o := default); rfl) <;> (intro h; try simp only [decide_eq_true_eq, decide_eq_false_iff_not, Bool.not_eq_true, Bool.not_eq_false] at h))
    | (apply r_alloc; ((conv => lhs; simp only [Nat.reduceAdd]) <;> rfl); rfl)
    | (apply r_box; ((conv => lhs; simp only [Nat.reduceAdd]) <;> rfl); rfl; rfl; rfl)
    | (apply r_stL; rfl; rfl; rfl; rfl; (first | rfl | (simp only [z_nil, z_add] <;> rfl)); rfl; rfl)
    | (apply r_nilK)
    | (apply r_nil)
    | (apply k_V; rfl)
    | (apply k_P; rfl)
    | (apply k_PL; rfl)
    | (apply k_S; rfl)
    | (apply k_SL; rfl)
    | (apply k_A; rfl)
    | (apply k_T; rfl)
    | (apply k_F; rfl)
    | (apply k_D; rfl; rotate_left; rfl)
    | (apply k_nil)
    | (apply e_ret (vs := [.d (.val _)]); rfl)
    | (apply e_ret; rfl)
    | (apply e_ret' (vs := [.d (.val _)]); rfl)
    | (apply e_ret'; rfl)
    | (apply w_seq)
    | (apply w_ops; ((conv => lhs; simp only [Nat.reduceAdd]) <;> rfl))
    | (apply e_thenN)
    | (apply w_block)
    | (apply e_thenR)
    | (apply e_thenX)
    | (apply e_blkN)
    | (apply e_blkR)
    | (apply e_blkE)
    | (apply w_exit)
    | (apply w_ret)
    | (apply w_skip)
    | (apply e_blkE'; rfl))
      exact retB (by simp [hz])
    · repeat' (first
    | (apply r_mvV; rfl)
    | (apply r_mvP; rfl)
    | (apply r_mvPL; rfl)
    | (apply r_mvS; rfl)
    | (apply r_mvSL; rfl)
    | (apply r_mvA; rfl)
    | (apply r_mvT; rfl)
    | (apply r_mvF; rfl)
    | (apply r_mvD; rfl)
    | (apply r_faddD; rfl)
    | (apply r_faddL; rfl)
    | (apply r_l; apply ld_kind; assumption; rfl)
    | (apply r_l; apply ld_mn; assumption; rfl)
    | (apply r_l; apply ld_mx; assumption; rfl)
    | (apply r_l; apply ld_subs; assumption; rfl)
    | (apply r_l; apply ld_set; assumption; rfl)
    | (apply r_l; apply ld_node; assumption; rfl)
    | (apply r_l; apply ld_kind'; assumption; rfl)
    | (apply r_l; apply ld_mn'; assumption; rfl)
    | (apply r_l; apply ld_mx'; assumption; rfl)
    | (apply r_l; apply ld_subs'; assumption; rfl)
    | (apply r_l; apply ld_node'; assumption; rfl)
    | (apply r_callA; rfl; rfl; exact h)
    | (apply r_ldL (v := .b false); rfl; rfl; rfl)
    | (apply r_ldL (v := .i fl); rfl; rfl; rfl)
    | (apply r_ldL; rfl; rfl; rfl)
    | (apply r_eql; rfl; rfl; (first | (apply decide_eq_true; omega) | (apply decide_eq_false; omega) | rfl))
    | (apply r_not; rfl; rfl)
    | (apply r_pickT; rfl)
    | (apply r_pickF; rfl)
    | (apply r_ext; rfl; rfl)
    | (apply r_gT; rfl)
    | (apply r_gF'; rfl; rfl)
    | (apply r_gN'; rfl)
    | ((apply r_gS (o := default); rfl) <;> (intro h; try simp only [decide_eq_true_eq, decide_eq_false_iff_not, Bool.not_eq_true, Bool.not_eq_false] at h))
    | (apply r_alloc; ((conv => lhs; simp only [Nat.reduceAdd]) <;> rfl); rfl)
    | (apply r_box; ((conv => lhs; simp only [Nat.reduceAdd]) <;> rfl); rfl; rfl; rfl)
    | (apply r_stL; rfl; rfl; rfl; rfl; (first | rfl | (simp only [z_nil, z_add] <;> rfl)); rfl; rfl)
    | (apply r_nilK)
    | (apply r_nil)
    | (apply k_V; rfl)
    | (apply k_P; rfl)
    | (apply k_PL; rfl)
    | (apply k_S; rfl)
    | (apply k_SL; rfl)
    | (apply k_A; rfl)
    | (apply k_T; rfl)
    | (apply k_F; rfl)
    | (apply k_D; rfl; rotate_left; rfl)
    | (apply k_nil)
    | (apply e_ret (vs := [.d (.val _)]); rfl)
    | (apply e_ret; rfl)
    | (apply e_ret' (vs := [.d (.val _)]); rfl)
    | (apply e_ret'; rfl)
    | (apply w_seq)
    | (apply w_ops; ((conv => lhs; simp only [Nat.reduceAdd]) <;> rfl))
    | (apply e_thenN)
    | (apply w_block)
    | (apply e_thenR)
    | (apply e_thenX)
    | (apply e_blkN)
    | (apply e_blkR)
    | (apply e_blkE)
    | (apply w_exit)
    | (apply w_ret)
    | (apply w_skip)
    | (apply e_blkE'; rfl))
      exact retB (by simp [hz])
theorem first70_good (t : T) (hc : t.cnt ≤ 200) (hok : fitsT t 12 = true → okT t) : Good Try.prog 70 [nodeA t] none (setA (ofK t).a (ofK t).b (ofK t).c (ofK t).d) none none := by
  have h := of121_good t hc hok
  generalize fitsT t 12 = q at h
  generalize ofK t = f at h
  obtain ⟨fn, fl, fh, fa, fb, fc, fd⟩ := f
  have e : faA ⟨fn, fl, fh, fa, fb, fc, fd⟩ = .agg [.b fn, .i fl, .i fh, .d (.val (.int .u64 fa)), .d (.val (.int .u64 fb)), .d (.val (.int .u64 fc)), .d (.val (.int .u64 fd))] := rfl
  rw [e] at h
  dsimp only
  unfold setA
  obtain ⟨k, a, b, c, d, mn, mx, subs⟩ := t
  have e0 : nodeA (T.node k a b c d mn mx subs) = .agg [.i k, .d (.val (.int .u64 a)), .d (.val (.int .u64 b)), .d (.val (.int .u64 c)), .d (.val (.int .u64 d)), .i mn, .i mx, .d (.sl (encL subs) subs.length)] := rfl
  rw [e0] at h ⊢
  refine b70 (by simp) (by simp) (w_init ?_)
  unfold x70
  repeat' (first
    | (apply r_mvV; rfl)
    | (apply r_mvP; rfl)
    | (apply r_mvPL; rfl)
    | (apply r_mvS; rfl)
    | (apply r_mvSL; rfl)
    | (apply r_mvA; rfl)
    | (apply r_mvT; rfl)
    | (apply r_mvF; rfl)
    | (apply r_mvD; rfl)
    | (apply r_faddD; rfl)
    | (apply r_faddL; rfl)
    | (apply r_l; apply ld_kind; assumption; rfl)
    | (apply r_l; apply ld_mn; assumption; rfl)
    | (apply r_l; apply ld_mx; assumption; rfl)
    | (apply r_l; apply ld_subs; assumption; rfl)
    | (apply r_l; apply ld_set; assumption; rfl)
    | (apply r_l; apply ld_node; assumption; rfl)
    | (apply r_l; apply ld_kind'; assumption; rfl)
    | (apply r_l; apply ld_mn'; assumption; rfl)
    | (apply r_l; apply ld_mx'; assumption; rfl)
    | (apply r_l; apply ld_subs'; assumption; rfl)
    | (apply r_l; apply ld_node'; assumption; rfl)
    | (apply r_callA; rfl; rfl; exact h)
    | (apply r_ldL (v := .agg [.d (.val (.int .u64 fa)), .d (.val (.int .u64 fb)), .d (.val (.int .u64 fc)), .d (.val (.int .u64 fd))]); rfl; rfl; rfl)
    | (apply r_ldL; rfl; rfl; rfl)
    | (apply r_ext; rfl; rfl)
    | (apply r_alloc; ((conv => lhs; simp only [Nat.reduceAdd]) <;> rfl); rfl)
    | (apply r_box; ((conv => lhs; simp only [Nat.reduceAdd]) <;> rfl); rfl; rfl; rfl)
    | (apply r_stL; rfl; rfl; rfl; rfl; (first | rfl | (simp only [z_nil, z_add] <;> rfl)); rfl; rfl)
    | (apply r_nilK)
    | (apply r_nil)
    | (apply k_V; rfl)
    | (apply k_P; rfl)
    | (apply k_PL; rfl)
    | (apply k_S; rfl)
    | (apply k_SL; rfl)
    | (apply k_A; rfl)
    | (apply k_T; rfl)
    | (apply k_F; rfl)
    | (apply k_D; rfl; rotate_left; rfl)
    | (apply k_nil)
    | (apply e_ret (vs := [.d (.val _)]); rfl)
    | (apply e_ret; rfl)
    | (apply e_ret' (vs := [.d (.val _)]); rfl)
    | (apply e_ret'; rfl)
    | (apply w_seq)
    | (apply w_ops; ((conv => lhs; simp only [Nat.reduceAdd]) <;> rfl))
    | (apply e_thenN)
    | (apply w_block)
    | (apply e_thenR)
    | (apply e_thenX)
    | (apply e_blkN)
    | (apply e_blkR)
    | (apply e_blkE)
    | (apply w_exit)
    | (apply w_ret)
    | (apply w_skip)
    | (apply e_blkE'; rfl))
  exact .data _ rfl
theorem none71_good (t : T) (hc : t.cnt ≤ 200) (hok : fitsT t 12 = true → okT t) : Good Try.prog 71 [nodeA t] none (.b (ofK t).no) none none := by
  have h := of121_good t hc hok
  generalize fitsT t 12 = q at h
  generalize ofK t = f at h
  obtain ⟨fn, fl, fh, fa, fb, fc, fd⟩ := f
  have e : faA ⟨fn, fl, fh, fa, fb, fc, fd⟩ = .agg [.b fn, .i fl, .i fh, .d (.val (.int .u64 fa)), .d (.val (.int .u64 fb)), .d (.val (.int .u64 fc)), .d (.val (.int .u64 fd))] := rfl
  rw [e] at h
  dsimp only
  obtain ⟨k, a, b, c, d, mn, mx, subs⟩ := t
  have e0 : nodeA (T.node k a b c d mn mx subs) = .agg [.i k, .d (.val (.int .u64 a)), .d (.val (.int .u64 b)), .d (.val (.int .u64 c)), .d (.val (.int .u64 d)), .i mn, .i mx, .d (.sl (encL subs) subs.length)] := rfl
  rw [e0] at h ⊢
  refine b71 (by simp) (by simp) (w_init ?_)
  unfold x71
  repeat' (first
    | (apply r_mvV; rfl)
    | (apply r_mvP; rfl)
    | (apply r_mvPL; rfl)
    | (apply r_mvS; rfl)
    | (apply r_mvSL; rfl)
    | (apply r_mvA; rfl)
    | (apply r_mvT; rfl)
    | (apply r_mvF; rfl)
    | (apply r_mvD; rfl)
    | (apply r_faddD; rfl)
    | (apply r_faddL; rfl)
    | (apply r_l; apply ld_kind; assumption; rfl)
    | (apply r_l; apply ld_mn; assumption; rfl)
    | (apply r_l; apply ld_mx; assumption; rfl)
    | (apply r_l; apply ld_subs; assumption; rfl)
    | (apply r_l; apply ld_set; assumption; rfl)
    | (apply r_l; apply ld_node; assumption; rfl)
    | (apply r_l; apply ld_kind'; assumption; rfl)
    | (apply r_l; apply ld_mn'; assumption; rfl)
    | (apply r_l; apply ld_mx'; assumption; rfl)
    | (apply r_l; apply ld_subs'; assumption; rfl)
    | (apply r_l; apply ld_node'; assumption; rfl)
    | (apply r_callA; rfl; rfl; exact h)
    | (apply r_ldL (v := .b fn); rfl; rfl; rfl)
    | (apply r_ldL; rfl; rfl; rfl)
    | (apply r_ext; rfl; rfl)
    | (apply r_alloc; ((conv => lhs; simp only [Nat.reduceAdd]) <;> rfl); rfl)
    | (apply r_box; ((conv => lhs; simp only [Nat.reduceAdd]) <;> rfl); rfl; rfl; rfl)
    | (apply r_stL; rfl; rfl; rfl; rfl; (first | rfl | (simp only [z_nil, z_add] <;> rfl)); rfl; rfl)
    | (apply r_nilK)
    | (apply r_nil)
    | (apply k_V; rfl)
    | (apply k_P; rfl)
    | (apply k_PL; rfl)
    | (apply k_S; rfl)
    | (apply k_SL; rfl)
    | (apply k_A; rfl)
    | (apply k_T; rfl)
    | (apply k_F; rfl)
    | (apply k_D; rfl; rotate_left; rfl)
    | (apply k_nil)
    | (apply e_ret (vs := [.d (.val _)]); rfl)
    | (apply e_ret; rfl)
    | (apply e_ret' (vs := [.d (.val _)]); rfl)
    | (apply e_ret'; rfl)
    | (apply w_seq)
    | (apply w_ops; ((conv => lhs; simp only [Nat.reduceAdd]) <;> rfl))
    | (apply e_thenN)
    | (apply w_block)
    | (apply e_thenR)
    | (apply e_thenX)
    | (apply e_blkN)
    | (apply e_blkR)
    | (apply e_blkE)
    | (apply w_exit)
    | (apply w_ret)
    | (apply w_skip)
    | (apply e_blkE'; rfl))
  exact retB rfl
end Go.Sv
namespace Go.Sv
open Go Go.Proofs
set_option maxRecDepth 100000
set_option maxHeartbeats 4000000
attribute [local irreducible] W E R KP thenK blockK retK Good xwp aRun
end Go.Sv
namespace Go.Sv
open Go Go.Proofs
def Ored (p q p2 : List Bool) (k : Nat) : Prop := p2.length = p.length ∧ ∀ n, At p2 n ↔ At p n ∨ (n < k ∧ At q n)
theorem Ored.zero (p q : List Bool) : Ored p q p 0 := ⟨rfl, fun n => ⟨.inl, fun h => h.elim id fun h => absurd h.1 (by omega)⟩⟩
theorem Ored.step {p q p2 : List Bool} {k : Nat} (h : Ored p q p2 k) (hk : k < p.length) : Ored p q (p2.set k (p2.getD k false || q.getD k false)) (k + 1) := by
  refine ⟨by rw [List.length_set]; exact h.1, fun n => ?_⟩
  rw [at_set n (by rw [h.1]; exact hk), h.2 n]
  have hv : (p2.getD k false || q.getD k false) = true ↔ At p2 k ∨ At q k := by simp [At]
  rw [hv, h.2 k]
  constructor
  · rintro (⟨rfl, (h1 | h1) | h1⟩ | ⟨h1, h2 | h2⟩)
    · exact .inl h1
    · exact .inr ⟨by omega, h1.2⟩
    · exact .inr ⟨by omega, h1⟩
    · exact .inl h2
    · exact .inr ⟨by omega, h2.2⟩
  · rintro (h1 | ⟨h1, h2⟩)
    · by_cases e : n = k
      · subst e; exact .inl ⟨rfl, .inl (.inl h1)⟩
      · exact .inr ⟨e, .inl h1⟩
    · by_cases e : n = k
      · subst e; exact .inl ⟨rfl, .inr h2⟩
      · exact .inr ⟨e, .inr ⟨by omega, h2⟩⟩
set_option maxRecDepth 100000
set_option maxHeartbeats 4000000
attribute [local irreducible] W E R KP thenK blockK retK Good xwp aRun
noncomputable def nullS (t : T) : Bool := @decide (L t []) (Classical.propDecidable _)
end Go.Sv
namespace Go.Sv
open Go
set_option linter.unusedVariables false
structure FOf (P : List Nat → Prop) (f : Fa) : Prop where
  no : f.no = true → ∀ w, ¬ P w
  lo : f.no = false → (∃ w, P w ∧ (w.length : Int) = f.lo) ∧ ∀ w, P w → f.lo ≤ w.length
  hi : f.no = false → 0 ≤ f.hi → ∀ w, P w → (w.length : Int) ≤ f.hi
  fi : ∀ y, y < 256 → (inG f.a f.b f.c f.d y = true ↔ ∃ w, P (y :: w))
theorem FOf.congr {P Q : List Nat → Prop} {f : Fa} (h : FOf P f) (e : ∀ w, Q w ↔ P w) : FOf Q f := by
  have : Q = P := funext fun w => propext (e w)
  rw [this]; exact h
theorem FOf.some {P : List Nat → Prop} {f : Fa} (h : FOf P f) (hn : f.no = false) : ∃ w, P w := by
  obtain ⟨w, hw, _⟩ := (h.lo hn).1
  exact ⟨w, hw⟩
theorem FOf.nil {P : List Nat → Prop} {f : Fa} (h : FOf P f) (hn : f.no = false) (ho : 0 ≤ f.lo) : f.lo = 0 ↔ P [] := by
  obtain ⟨⟨w, hw, hl⟩, h2⟩ := h.lo hn
  constructor
  · intro e
    have : w = [] := List.length_eq_zero_iff.1 (by omega)
    rwa [this] at hw
  · intro hp
    have := h2 [] hp
    simp at this
    omega
end Go.Sv
namespace Go.Sv
open Go Go.Proofs
set_option maxRecDepth 100000
def x64 : XC := (.seq (.ops 1 [
    (0, ⟨(some 0), none, .mv (.k (.d (.val (.bool false))))⟩)] (some [])) (.seq (.ops 9 [
    (0, ⟨(some 12), none, .call 118 [(.k (.d (.val (.string ⟨#[97, 123, 50, 44, 51, 125, 124, 98, 42]⟩))))] none false⟩),
    (1, ⟨(some 11), none, .mv (.t 12)⟩),
    (2, ⟨(some 13), none, .ext (.t 11) 0⟩),
    (3, ⟨(some 14), none, .ext (.t 11) 1⟩),
    (4, ⟨(some 15), none, .ext (.t 11) 2⟩),
    (5, ⟨(some 1), none, .alloc [(.int .i64 0), (.int .u64 0), (.int .u64 0), (.int .u64 0), (.int .u64 0), (.int .i64 0), (.int .i64 0), (.slice none 0 0)]⟩),
    (6, ⟨none, none, .store 8 (.t 1) (.t 13)⟩),
    (7, ⟨(some 2), none, .mv (.t 14)⟩),
    (8, ⟨(some 3), none, .mv (.t 15)⟩)] (some [1])) (.seq (.ops 9 [
    (0, ⟨(some 17), none, .call 118 [(.k (.d (.val (.string ⟨#[97, 91, 93]⟩))))] none false⟩),
    (1, ⟨(some 16), none, .mv (.t 17)⟩),
    (2, ⟨(some 18), none, .ext (.t 16) 0⟩),
    (3, ⟨(some 19), none, .ext (.t 16) 1⟩),
    (4, ⟨(some 20), none, .ext (.t 16) 2⟩),
    (5, ⟨(some 4), none, .alloc [(.int .i64 0), (.int .u64 0), (.int .u64 0), (.int .u64 0), (.int .u64 0), (.int .i64 0), (.int .i64 0), (.slice none 0 0)]⟩),
    (6, ⟨none, none, .store 8 (.t 4) (.t 18)⟩),
    (7, ⟨(some 5), none, .mv (.t 19)⟩),
    (8, ⟨(some 6), none, .mv (.t 20)⟩)] (some [1, 4])) (.seq (.ops 7 [
    (0, ⟨(some 22), none, .load (some 8) (.t 1)⟩),
    (1, ⟨(some 23), none, .call 66 [(.t 22)] none false⟩),
    (2, ⟨(some 21), none, .mv (.t 23)⟩),
    (3, ⟨(some 24), none, .ext (.t 21) 0⟩),
    (4, ⟨(some 25), none, .ext (.t 21) 1⟩),
    (5, ⟨(some 7), none, .mv (.t 24)⟩),
    (6, ⟨(some 8), none, .mv (.t 25)⟩)] (some [1, 4, 7, 8])) (.seq (.ops 7 [
    (0, ⟨(some 27), none, .load (some 8) (.t 4)⟩),
    (1, ⟨(some 28), none, .call 66 [(.t 27)] none false⟩),
    (2, ⟨(some 26), none, .mv (.t 28)⟩),
    (3, ⟨(some 29), none, .ext (.t 26) 0⟩),
    (4, ⟨(some 30), none, .ext (.t 26) 1⟩),
    (5, ⟨(some 9), none, .mv (.t 29)⟩),
    (6, ⟨(some 10), none, .mv (.t 30)⟩)] (some [1, 4, 7, 8, 9, 10])) (.seq (.ops 60 [
    (0, ⟨(some 31), none, .load (some 8) (.t 1)⟩),
    (1, ⟨(some 32), none, .call 67 [(.t 31)] none false⟩),
    (2, ⟨(some 33), none, .arith .eql (.t 32) (.k (.d (.val (.int .i64 5))))⟩),
    (3, ⟨(some 34), none, .mv (.t 33)⟩),
    (4, ⟨(some 35), (some (34, true)), .load (some 8) (.t 1)⟩),
    (5, ⟨(some 36), (some (34, true)), .call 68 [(.t 35)] none false⟩),
    (6, ⟨(some 37), (some (34, true)), .arith .eql (.t 36) (.k (.d (.val (.int .i64 14))))⟩),
    (7, ⟨(some 38), none, .pick (.t 34) (.t 37) (.k (.d (.val (.bool false))))⟩),
    (8, ⟨(some 39), none, .mv (.t 38)⟩),
    (9, ⟨(some 40), (some (39, true)), .load (some 8) (.t 1)⟩),
    (10, ⟨(some 41), (some (39, true)), .call 69 [(.t 40)] none false⟩),
    (11, ⟨(some 42), none, .pick (.t 39) (.t 41) (.k (.d (.val (.bool false))))⟩),
    (12, ⟨(some 43), none, .mv (.t 42)⟩),
    (13, ⟨(some 44), (some (43, true)), .load (some 8) (.t 1)⟩),
    (14, ⟨(some 45), (some (43, true)), .call 70 [(.t 44)] none false⟩),
    (15, ⟨(some 46), (some (43, true)), .call 119 [(.k (.d (.val (.int .u8 97)))), (.k (.d (.val (.int .u8 98))))] none false⟩),
    (16, ⟨(some 47), (some (43, true)), .eqAgg 4 false (.t 45) (.t 46)⟩),
    (17, ⟨(some 48), none, .pick (.t 43) (.t 47) (.k (.d (.val (.bool false))))⟩),
    (18, ⟨(some 49), none, .mv (.t 48)⟩),
    (19, ⟨(some 50), (some (49, true)), .mv (.t 7)⟩),
    (20, ⟨(some 51), (some (49, true)), .arith .eql (.t 50) (.k (.d (.val (.int .i64 0))))⟩),
    (21, ⟨(some 52), none, .pick (.t 49) (.t 51) (.k (.d (.val (.bool false))))⟩),
    (22, ⟨(some 53), none, .mv (.t 52)⟩),
    (23, ⟨(some 54), (some (53, true)), .mv (.t 8)⟩),
    (24, ⟨(some 55), (some (53, true)), .arith .eql (.t 54) (.k (.d (.val (.int .i64 (-1)))))⟩),
    (25, ⟨(some 56), none, .pick (.t 53) (.t 55) (.k (.d (.val (.bool false))))⟩),
    (26, ⟨(some 57), none, .mv (.t 56)⟩),
    (27, ⟨(some 58), (some (57, true)), .mv (.t 9)⟩),
    (28, ⟨(some 59), (some (57, true)), .arith .eql (.t 58) (.k (.d (.val (.int .i64 (-1)))))⟩),
    (29, ⟨(some 60), none, .pick (.t 57) (.t 59) (.k (.d (.val (.bool false))))⟩),
    (30, ⟨(some 61), none, .mv (.t 60)⟩),
    (31, ⟨(some 62), (some (61, true)), .mv (.t 10)⟩),
    (32, ⟨(some 63), (some (61, true)), .arith .eql (.t 62) (.k (.d (.val (.int .i64 (-1)))))⟩),
    (33, ⟨(some 64), none, .pick (.t 61) (.t 63) (.k (.d (.val (.bool false))))⟩),
    (34, ⟨(some 65), none, .mv (.t 64)⟩),
    (35, ⟨(some 66), (some (65, true)), .load (some 8) (.t 4)⟩),
    (36, ⟨(some 67), (some (65, true)), .call 71 [(.t 66)] none false⟩),
    (37, ⟨(some 68), none, .pick (.t 65) (.t 67) (.k (.d (.val (.bool false))))⟩),
    (38, ⟨(some 69), none, .mv (.t 68)⟩),
    (39, ⟨(some 70), (some (69, true)), .load (some 8) (.t 1)⟩),
    (40, ⟨(some 71), (some (69, true)), .call 71 [(.t 70)] none false⟩),
    (41, ⟨(some 72), (some (69, true)), .un .not (.t 71)⟩),
    (42, ⟨(some 73), none, .pick (.t 69) (.t 72) (.k (.d (.val (.bool false))))⟩),
    (43, ⟨(some 74), none, .mv (.t 73)⟩),
    (44, ⟨(some 75), (some (74, true)), .load (some 8) (.t 1)⟩),
    (45, ⟨(some 76), (some (74, true)), .call 65 [(.t 75)] none false⟩),
    (46, ⟨(some 77), (some (74, true)), .lenS (.t 76)⟩),
    (47, ⟨(some 78), (some (74, true)), .arith .eql (.t 77) (.k (.d (.val (.int .i64 2))))⟩),
    (48, ⟨(some 79), none, .pick (.t 74) (.t 78) (.k (.d (.val (.bool false))))⟩),
    (49, ⟨(some 80), none, .mv (.t 79)⟩),
    (50, ⟨(some 81), (some (80, true)), .build [(.int .i64 0), (.int .u64 0), (.int .u64 0), (.int .u64 0), (.int .u64 0), (.int .i64 0), (.int .i64 0), (.slice none 0 0)] []⟩),
    (51, ⟨(some 82), (some (80, true)), .call 67 [(.t 81)] none false⟩),
    (52, ⟨(some 83), (some (80, true)), .arith .eql (.t 82) (.k (.d (.val (.int .i64 0))))⟩),
    (53, ⟨(some 84), none, .pick (.t 80) (.t 83) (.k (.d (.val (.bool false))))⟩),
    (54, ⟨(some 85), none, .mv (.t 84)⟩),
    (55, ⟨(some 86), (some (85, true)), .build [(.int .i64 0), (.int .u64 0), (.int .u64 0), (.int .u64 0), (.int .u64 0), (.int .i64 0), (.int .i64 0), (.slice none 0 0)] []⟩),
    (56, ⟨(some 87), (some (85, true)), .call 68 [(.t 86)] none false⟩),
    (57, ⟨(some 88), (some (85, true)), .arith .eql (.t 87) (.k (.d (.val (.int .i64 0))))⟩),
    (58, ⟨(some 89), none, .pick (.t 85) (.t 88) (.k (.d (.val (.bool false))))⟩),
    (59, ⟨(some 0), none, .mv (.t 89)⟩)] (some [0])) .ret))))))
def md64 : FuncId → Option Nat × Bool
  | _ => (none, false)
def od64 : Nat → List (List Nat) × List Nat × Option (List Nat)
  | 0 => ([], [], some [])
  | 1 => ([], [], some [1])
  | 2 => ([], [], some [1, 4])
  | 3 => ([], [], some [1, 4, 7, 8])
  | 4 => ([], [], some [1, 4, 7, 8, 9, 10])
  | 5 => ([], [], some [0])
  | _ => ([], [], none)
theorem b64 {ags : List AV} {row : Option (List DV)} {r : AV} {row' nw : Option (List DV)} (hal : ags.length ≤ 90) (hrow : row'.isSome = true → row.isSome = true) (h : xwp Try.prog x64 (retK [.tmp 0] row.isSome r row' nw) (St.init ags row)) : Good Try.prog 64 ags row r row' nw :=
  good_of_body' (md := md64) (od := od64) Try.f64 (by kernel_rfl) (by kernel_rfl) (by kernel_rfl) (by kernel_rfl) (by kernel_rfl) hal hrow h

def x65 : XC := (.seq (.ops 2 [
    (0, ⟨(some 1), none, .box (.t 0)⟩),
    (1, ⟨(some 2), none, .mv (.k (.d (.val (.slice none 0 0))))⟩)] (some [1])) (.seq (.seq (.ops 3 [
    (0, ⟨(some 3), none, .load (some 8) (.t 1)⟩),
    (1, ⟨(some 4), none, .call 84 [(.t 3)] none false⟩),
    (2, ⟨(some 5), none, .un .not (.t 4)⟩)] (some [1, 5])) (.cond (.t 5) (.seq (.ops 1 [
    (0, ⟨(some 2), none, .mv (.k (.d (.val (.slice none 0 0))))⟩)] (some [2])) .ret) .skip)) (.seq (.ops 2 [
    (0, ⟨(some 6), none, .call 120 [(.t 1), (.k (.d (.val (.slice none 0 0))))] (some 1) true⟩),
    (1, ⟨(some 2), none, .mv (.t 6)⟩)] (some [2])) .ret)))
def md65 : FuncId → Option Nat × Bool
  | 120 => (some 1, true)
  | _ => (none, false)
def od65 : Nat → List (List Nat) × List Nat × Option (List Nat)
  | 0 => ([], [], some [1])
  | 1 => ([], [], some [1, 5])
  | 2 => ([], [], some [2])
  | 3 => ([], [], some [2])
  | _ => ([], [], none)
theorem b65 {ags : List AV} {row : Option (List DV)} {r : AV} {row' nw : Option (List DV)} (hal : ags.length ≤ 7) (hrow : row'.isSome = true → row.isSome = true) (h : xwp Try.prog x65 (retK [.tmp 2] row.isSome r row' nw) (St.init ags row)) : Good Try.prog 65 ags row r row' nw :=
  good_of_body' (md := md65) (od := od65) Try.f65 (by kernel_rfl) (by kernel_rfl) (by kernel_rfl) (by kernel_rfl) (by kernel_rfl) hal hrow h

def x67 : XC := (.seq (.ops 2 [
    (0, ⟨(some 1), none, .box (.t 0)⟩),
    (1, ⟨(some 2), none, .mv (.k (.d (.val (.int .i64 0))))⟩)] (some [1])) (.seq (.seq (.ops 3 [
    (0, ⟨(some 3), none, .load (some 8) (.t 1)⟩),
    (1, ⟨(some 4), none, .call 84 [(.t 3)] none false⟩),
    (2, ⟨(some 5), none, .un .not (.t 4)⟩)] (some [1, 5])) (.cond (.t 5) (.seq (.ops 1 [
    (0, ⟨(some 2), none, .mv (.k (.d (.val (.int .i64 0))))⟩)] (some [2])) .ret) .skip)) (.seq (.ops 2 [
    (0, ⟨(some 6), none, .call 122 [(.t 1)] none false⟩),
    (1, ⟨(some 2), none, .mv (.t 6)⟩)] (some [2])) .ret)))
def md67 : FuncId → Option Nat × Bool
  | _ => (none, false)
def od67 : Nat → List (List Nat) × List Nat × Option (List Nat)
  | 0 => ([], [], some [1])
  | 1 => ([], [], some [1, 5])
  | 2 => ([], [], some [2])
  | 3 => ([], [], some [2])
  | _ => ([], [], none)
theorem b67 {ags : List AV} {row : Option (List DV)} {r : AV} {row' nw : Option (List DV)} (hal : ags.length ≤ 7) (hrow : row'.isSome = true → row.isSome = true) (h : xwp Try.prog x67 (retK [.tmp 2] row.isSome r row' nw) (St.init ags row)) : Good Try.prog 67 ags row r row' nw :=
  good_of_body' (md := md67) (od := od67) Try.f67 (by kernel_rfl) (by kernel_rfl) (by kernel_rfl) (by kernel_rfl) (by kernel_rfl) hal hrow h

def x120 : XC := (.seq (.ops 1 [
    (0, ⟨(some 4), none, .mv (.k (.d (.val (.slice none 0 0))))⟩)] (some [0, 1])) (.seq (.seq (.ops 5 [
    (0, ⟨(some 6), none, .mv (.t 0)⟩),
    (1, ⟨(some 7), none, .nilck (.t 6)⟩),
    (2, ⟨(some 8), none, .fadd 0 (.t 7)⟩),
    (3, ⟨(some 9), none, .load none (.t 8)⟩),
    (4, ⟨(some 10), none, .arith .eql (.t 9) (.k (.d (.val (.int .i64 2))))⟩)] (some [0, 1, 10])) (.cond (.t 10) (.seq (.ops 8 [
    (0, ⟨(some 11), none, .mv (.t 1)⟩),
    (1, ⟨(some 12), none, .mv (.t 0)⟩),
    (2, ⟨(some 13), none, .nilck (.t 12)⟩),
    (3, ⟨(some 14), none, .fadd 1 (.t 13)⟩),
    (4, ⟨(some 15), none, .load (some 4) (.t 14)⟩),
    (5, ⟨(some 16), none, .mkrow [(.int .u64 0), (.int .u64 0), (.int .u64 0), (.int .u64 0)] 1 4 [(0, 4, (.t 15))]⟩),
    (6, ⟨(some 17), none, .app [(.int .u64 0), (.int .u64 0), (.int .u64 0), (.int .u64 0)] 32 (.t 11) (.t 16)⟩),
    (7, ⟨(some 4), none, .mv (.t 17)⟩)] (some [4])) .ret) .skip)) (.seq (.seq (.ops 6 [
    (0, ⟨(some 18), none, .mv (.t 0)⟩),
    (1, ⟨(some 19), none, .nilck (.t 18)⟩),
    (2, ⟨(some 20), none, .fadd 7 (.t 19)⟩),
    (3, ⟨(some 21), none, .load none (.t 20)⟩),
    (4, ⟨(some 22), none, .lenS (.t 21)⟩),
    (5, ⟨(some 23), none, .mv (.k (.d (.val (.int .i64 0))))⟩)] (some [0, 1, 22, 23])) (.block 0 (.loop (.seq (.ops 1 [
    (0, ⟨(some 24), none, .arith .lss (.t 23) (.t 22)⟩)] (some [0, 1, 22, 23, 24])) (.seq (.cond (.t 24) .skip (.exit 0)) (.seq (.block 1 (.seq (.ops 2 [
    (0, ⟨(some 25), none, .mv (.t 23)⟩),
    (1, ⟨(some 5), none, .mv (.t 25)⟩)] (some [0, 1, 5, 22, 23])) (.ops 9 [
    (0, ⟨(some 26), none, .mv (.t 0)⟩),
    (1, ⟨(some 27), none, .nilck (.t 26)⟩),
    (2, ⟨(some 28), none, .fadd 7 (.t 27)⟩),
    (3, ⟨(some 29), none, .load none (.t 28)⟩),
    (4, ⟨(some 30), none, .mv (.t 5)⟩),
    (5, ⟨(some 31), none, .idxS 8 (.t 29) (.t 30)⟩),
    (6, ⟨(some 32), none, .mv (.t 1)⟩),
    (7, ⟨(some 33), none, .call 120 [(.t 31), (.t 32)] (some 1) true⟩),
    (8, ⟨(some 1), none, .mv (.t 33)⟩)] (some [0, 1, 22, 23])))) (.ops 2 [
    (0, ⟨(some 34), none, .arith .add (.t 23) (.k (.d (.val (.int .i64 1))))⟩),
    (1, ⟨(some 23), none, .mv (.t 34)⟩)] (some [0, 1, 22, 23])))))))) (.seq (.ops 2 [
    (0, ⟨(some 35), none, .mv (.t 1)⟩),
    (1, ⟨(some 4), none, .mv (.t 35)⟩)] (some [4])) .ret))))
def md120 : FuncId → Option Nat × Bool
  | 120 => (some 1, true)
  | _ => (none, false)
def od120 : Nat → List (List Nat) × List Nat × Option (List Nat)
  | 0 => ([], [], some [0, 1])
  | 1 => ([], [], some [0, 1, 10])
  | 2 => ([], [], some [4])
  | 3 => ([], [], some [0, 1, 22, 23])
  | 4 => ([], [], some [0, 1, 22, 23, 24])
  | 5 => ([], [], some [0, 1, 5, 22, 23])
  | 6 => ([], [], some [0, 1, 22, 23])
  | 7 => ([], [], some [0, 1, 22, 23])
  | 8 => ([], [], some [4])
  | _ => ([], [], none)
theorem b120 {ags : List AV} {row : Option (List DV)} {r : AV} {row' nw : Option (List DV)} (hal : ags.length ≤ 36) (hrow : row'.isSome = true → row.isSome = true) (h : xwp Try.prog x120 (retK [.tmp 4] row.isSome r row' nw) (St.init ags row)) : Good Try.prog 120 ags row r row' nw :=
  good_of_body' (md := md120) (od := od120) Try.f120 (by kernel_rfl) (by kernel_rfl) (by kernel_rfl) (by kernel_rfl) (by kernel_rfl) hal hrow h

def x122 : XC := (.seq (.ops 1 [
    (0, ⟨(some 2), none, .mv (.k (.d (.val (.int .i64 0))))⟩)] (some [0])) (.seq (.ops 1 [
    (0, ⟨(some 3), none, .mv (.k (.d (.val (.int .i64 1))))⟩)] (some [0, 3])) (.seq (.seq (.ops 6 [
    (0, ⟨(some 5), none, .mv (.t 0)⟩),
    (1, ⟨(some 6), none, .nilck (.t 5)⟩),
    (2, ⟨(some 7), none, .fadd 7 (.t 6)⟩),
    (3, ⟨(some 8), none, .load none (.t 7)⟩),
    (4, ⟨(some 9), none, .lenS (.t 8)⟩),
    (5, ⟨(some 10), none, .mv (.k (.d (.val (.int .i64 0))))⟩)] (some [0, 3, 9, 10])) (.block 0 (.loop (.seq (.ops 1 [
    (0, ⟨(some 11), none, .arith .lss (.t 10) (.t 9)⟩)] (some [0, 3, 9, 10, 11])) (.seq (.cond (.t 11) .skip (.exit 0)) (.seq (.block 1 (.seq (.ops 2 [
    (0, ⟨(some 12), none, .mv (.t 10)⟩),
    (1, ⟨(some 4), none, .mv (.t 12)⟩)] (some [0, 3, 4, 9, 10])) (.ops 10 [
    (0, ⟨(some 13), none, .mv (.t 3)⟩),
    (1, ⟨(some 14), none, .mv (.t 0)⟩),
    (2, ⟨(some 15), none, .nilck (.t 14)⟩),
    (3, ⟨(some 16), none, .fadd 7 (.t 15)⟩),
    (4, ⟨(some 17), none, .load none (.t 16)⟩),
    (5, ⟨(some 18), none, .mv (.t 4)⟩),
    (6, ⟨(some 19), none, .idxS 8 (.t 17) (.t 18)⟩),
    (7, ⟨(some 20), none, .call 122 [(.t 19)] none false⟩),
    (8, ⟨(some 21), none, .arith .add (.t 13) (.t 20)⟩),
    (9, ⟨(some 3), none, .mv (.t 21)⟩)] (some [0, 3, 9, 10])))) (.ops 2 [
    (0, ⟨(some 22), none, .arith .add (.t 10) (.k (.d (.val (.int .i64 1))))⟩),
    (1, ⟨(some 10), none, .mv (.t 22)⟩)] (some [0, 3, 9, 10])))))))) (.seq (.ops 2 [
    (0, ⟨(some 23), none, .mv (.t 3)⟩),
    (1, ⟨(some 2), none, .mv (.t 23)⟩)] (some [2])) .ret))))
def md122 : FuncId → Option Nat × Bool
  | _ => (none, false)
def od122 : Nat → List (List Nat) × List Nat × Option (List Nat)
  | 0 => ([], [], some [0])
  | 1 => ([], [], some [0, 3])
  | 2 => ([], [], some [0, 3, 9, 10])
  | 3 => ([], [], some [0, 3, 9, 10, 11])
  | 4 => ([], [], some [0, 3, 4, 9, 10])
  | 5 => ([], [], some [0, 3, 9, 10])
  | 6 => ([], [], some [0, 3, 9, 10])
  | 7 => ([], [], some [2])
  | _ => ([], [], none)
theorem b122 {ags : List AV} {row : Option (List DV)} {r : AV} {row' nw : Option (List DV)} (hal : ags.length ≤ 24) (hrow : row'.isSome = true → row.isSome = true) (h : xwp Try.prog x122 (retK [.tmp 2] row.isSome r row' nw) (St.init ags row)) : Good Try.prog 122 ags row r row' nw :=
  good_of_body' (md := md122) (od := od122) Try.f122 (by kernel_rfl) (by kernel_rfl) (by kernel_rfl) (by kernel_rfl) (by kernel_rfl) hal hrow h

def tabM : Tab
  | 64 => some ⟨x64, [.tmp 0], 90, false, 8⟩
  | 65 => some ⟨x65, [.tmp 2], 7, false, 8⟩
  | 67 => some ⟨x67, [.tmp 2], 7, false, 8⟩
  | 120 => some ⟨x120, [.tmp 4], 36, true, 4⟩
  | 122 => some ⟨x122, [.tmp 2], 24, false, 8⟩
  | 121 => some ⟨x121, [.cell 2 (some 7), .tmp 3], 9, false, 8⟩
  | 69 => some ⟨x69, [.tmp 2], 21, false, 8⟩
  | 70 => some ⟨x70, [.cell 2 (some 4)], 12, false, 8⟩
  | 66 => some ⟨x66, [.tmp 2, .tmp 3], 15, false, 8⟩
  | 71 => some ⟨x71, [.tmp 2], 12, false, 8⟩
  | 151 => some ⟨x151, [.cell 2 (some 7)], 87, false, 8⟩
  | 165 => some ⟨x165, [.cell 0 (some 7)], 2, false, 8⟩
  | 173 => some ⟨x173, [.tmp 4], 14, false, 8⟩
  | 166 => some ⟨x166, [.cell 4 (some 7)], 34, false, 8⟩
  | 167 => some ⟨x167, [.cell 4 (some 7)], 39, false, 8⟩
  | 168 => some ⟨x168, [.cell 6 (some 7)], 45, false, 8⟩
  | 68 => some ⟨x68, [.tmp 2], 7, false, 8⟩
  | 123 => some ⟨x123, [.tmp 2], 54, false, 8⟩
  | 84 => some ⟨x84, [.tmp 2], 4, false, 8⟩
  | 132 => some ⟨x132, [.tmp 4], 46, false, 8⟩
  | 156 => some ⟨x156, [.tmp 2], 121, false, 8⟩
  | 157 => some ⟨x157, [.tmp 4], 24, false, 8⟩
  | 83 => some ⟨x83, [.cell 2 (some 8)], 13, false, 8⟩
  | 119 => some ⟨x119, [.cell 4 (some 4)], 24, false, 8⟩
  | 149 => some ⟨x149, [.cell 2 (some 8)], 16, false, 8⟩
  | 150 => some ⟨x150, [], 10, false, 8⟩
  | 162 => some ⟨x162, [.cell 2 (some 8)], 14, false, 8⟩
  | 163 => some ⟨x163, [.tmp 4], 17, false, 8⟩
  | 164 => some ⟨x164, [.cell 4 (some 8)], 20, false, 8⟩
  | 170 => some ⟨x170, [.tmp 2], 16, false, 8⟩
  | 171 => some ⟨x171, [.cell 2 (some 8)], 33, false, 8⟩
  | 172 => some ⟨x172, [.tmp 2], 23, false, 8⟩
  | 176 => some ⟨x176, [.cell 2 (some 8)], 60, false, 8⟩
  | 177 => some ⟨x177, [.tmp 2, .tmp 3], 29, false, 8⟩
  | 178 => some ⟨x178, [], 15, false, 8⟩
  | 179 => some ⟨x179, [.cell 2 (some 4)], 19, false, 8⟩
  | 180 => some ⟨x180, [.cell 2 (some 4)], 10, false, 8⟩
  | 181 => some ⟨x181, [.tmp 2], 34, false, 8⟩
  | 182 => some ⟨x182, [.tmp 2], 54, false, 8⟩
  | 183 => some ⟨x183, [.cell 2 (some 4)], 28, false, 8⟩
  | 184 => some ⟨x184, [.cell 2 (some 4)], 15, false, 8⟩
  | 185 => some ⟨x185, [.tmp 2], 50, false, 8⟩
  | 186 => some ⟨x186, [.tmp 2], 22, false, 8⟩
  | 187 => some ⟨x187, [.tmp 2], 28, false, 8⟩
  | 188 => some ⟨x188, [.tmp 4], 8, false, 8⟩
  | 189 => some ⟨x189, [.tmp 2], 24, false, 8⟩
  | 190 => some ⟨x190, [.tmp 4], 8, false, 8⟩
  | 73 => some ⟨x73, [.cell 4 (some 4)], 19, false, 8⟩
  | _ => none
theorem tabM_ok : TabOK Try.prog tabM := by
  intro f t h ags row r row' nw hal hrow hx
  unfold tabM at h
  split at h
  · cases h; exact b64 hal hrow hx
  · cases h; exact b65 hal hrow hx
  · cases h; exact b67 hal hrow hx
  · cases h; exact b120 hal hrow hx
  · cases h; exact b122 hal hrow hx
  · cases h; exact b121 hal hrow hx
  · cases h; exact b69 hal hrow hx
  · cases h; exact b70 hal hrow hx
  · cases h; exact b66 hal hrow hx
  · cases h; exact b71 hal hrow hx
  · cases h; exact b151 hal hrow hx
  · cases h; exact b165 hal hrow hx
  · cases h; exact b173 hal hrow hx
  · cases h; exact b166 hal hrow hx
  · cases h; exact b167 hal hrow hx
  · cases h; exact b168 hal hrow hx
  · cases h; exact b68 hal hrow hx
  · cases h; exact b123 hal hrow hx
  · cases h; exact b84 hal hrow hx
  · cases h; exact b132 hal hrow hx
  · cases h; exact b156 hal hrow hx
  · cases h; exact b157 hal hrow hx
  · cases h; exact b83 hal hrow hx
  · cases h; exact b119 hal hrow hx
  · cases h; exact b149 hal hrow hx
  · cases h; exact b150 hal hrow hx
  · cases h; exact b162 hal hrow hx
  · cases h; exact b163 hal hrow hx
  · cases h; exact b164 hal hrow hx
  · cases h; exact b170 hal hrow hx
  · cases h; exact b171 hal hrow hx
  · cases h; exact b172 hal hrow hx
  · cases h; exact b176 hal hrow hx
  · cases h; exact b177 hal hrow hx
  · cases h; exact b178 hal hrow hx
  · cases h; exact b179 hal hrow hx
  · cases h; exact b180 hal hrow hx
  · cases h; exact b181 hal hrow hx
  · cases h; exact b182 hal hrow hx
  · cases h; exact b183 hal hrow hx
  · cases h; exact b184 hal hrow hx
  · cases h; exact b185 hal hrow hx
  · cases h; exact b186 hal hrow hx
  · cases h; exact b187 hal hrow hx
  · cases h; exact b188 hal hrow hx
  · cases h; exact b189 hal hrow hx
  · cases h; exact b190 hal hrow hx
  · cases h; exact b73 hal hrow hx
  · cases h

theorem awake64_ev : evF tabM (spP 100) 100 40 64 [] none = some (.b true, none, none) := by kernel_rfl
theorem awake64_good : Good Try.prog 64 [] none (.b true) none none := evF_sound tabM_ok (spP_ok 100) 40 64 [] none _ _ _ awake64_ev
end Go.Sv
namespace Go.Sv
open Go Go.Proofs
set_option maxRecDepth 100000
set_option maxHeartbeats 4000000
attribute [local irreducible] W E R KP thenK blockK retK Good xwp aRun
end Go.Sv
namespace Go.Sv
open Go Go.Proofs
def x7 : XC := (.seq (.ops 2 [
    (0, ⟨(some 4), none, .box (.t 0)⟩),
    (1, ⟨(some 8), none, .mv (.k (.d (.val (.bool false))))⟩)] (some [1, 2, 3, 4])) (.seq (.seq (.ops 25 [
    (0, ⟨(some 15), none, .call 29 [] none false⟩),
    (1, ⟨(some 16), none, .un .not (.t 15)⟩),
    (2, ⟨(some 17), none, .mv (.t 16)⟩),
    (3, ⟨(some 18), (some (17, false)), .load (some 8) (.t 4)⟩),
    (4, ⟨(some 19), (some (17, false)), .mv (.t 1)⟩),
    (5, ⟨(some 20), (some (17, false)), .mv (.t 2)⟩),
    (6, ⟨(some 21), (some (17, false)), .arith .add (.t 19) (.t 20)⟩),
    (7, ⟨(some 22), (some (17, false)), .call 30 [(.t 18), (.t 21)] none false⟩),
    (8, ⟨(some 23), (some (17, false)), .un .not (.t 22)⟩),
    (9, ⟨(some 24), none, .pick (.t 17) (.k (.d (.val (.bool true)))) (.t 23)⟩),
    (10, ⟨(some 25), none, .mv (.t 24)⟩),
    (11, ⟨(some 26), (some (25, false)), .load (some 8) (.t 4)⟩),
    (12, ⟨(some 27), (some (25, false)), .call 32 [(.t 26)] none false⟩),
    (13, ⟨(some 28), (some (25, false)), .un .not (.t 27)⟩),
    (14, ⟨(some 29), none, .pick (.t 25) (.k (.d (.val (.bool true)))) (.t 28)⟩),
    (15, ⟨(some 30), none, .mv (.t 29)⟩),
    (16, ⟨(some 31), (some (30, false)), .mv (.t 3)⟩),
    (17, ⟨(some 32), (some (30, false)), .arith .lss (.t 31) (.k (.d (.val (.int .i64 0))))⟩),
    (18, ⟨(some 33), none, .pick (.t 30) (.k (.d (.val (.bool true)))) (.t 32)⟩),
    (19, ⟨(some 34), none, .mv (.t 33)⟩),
    (20, ⟨(some 35), (some (34, false)), .mv (.t 3)⟩),
    (21, ⟨(some 36), (some (34, false)), .mv (.t 1)⟩),
    (22, ⟨(some 37), (some (34, false)), .lenT (.t 36)⟩),
    (23, ⟨(some 38), (some (34, false)), .arith .gtr (.t 35) (.t 37)⟩),
    (24, ⟨(some 39), none, .pick (.t 34) (.k (.d (.val (.bool true)))) (.t 38)⟩)] (some [1, 2, 3, 4, 39])) (.cond (.t 39) (.seq (.ops 2 [
    (0, ⟨(some 40), none, .call 29 [] none false⟩),
    (1, ⟨(some 8), none, .mv (.t 40)⟩)] (some [8])) .ret) .skip)) (.seq (.ops 9 [
    (0, ⟨(some 42), none, .load (some 8) (.t 4)⟩),
    (1, ⟨(some 43), none, .mv (.t 1)⟩),
    (2, ⟨(some 44), none, .mv (.t 3)⟩),
    (3, ⟨(some 45), none, .call 31 [(.t 42), (.t 43), (.t 44)] none false⟩),
    (4, ⟨(some 41), none, .mv (.t 45)⟩),
    (5, ⟨(some 46), none, .ext (.t 41) 0⟩),
    (6, ⟨(some 47), none, .ext (.t 41) 1⟩),
    (7, ⟨(some 9), none, .mv (.t 46)⟩),
    (8, ⟨(some 10), none, .mv (.t 47)⟩)] (some [1, 2, 3, 4, 9, 10])) (.seq (.ops 11 [
    (0, ⟨(some 49), none, .load (some 8) (.t 4)⟩),
    (1, ⟨(some 50), none, .mv (.t 1)⟩),
    (2, ⟨(some 51), none, .mv (.t 2)⟩),
    (3, ⟨(some 52), none, .arith .add (.t 50) (.t 51)⟩),
    (4, ⟨(some 53), none, .mv (.t 3)⟩),
    (5, ⟨(some 54), none, .call 31 [(.t 49), (.t 52), (.t 53)] none false⟩),
    (6, ⟨(some 48), none, .mv (.t 54)⟩),
    (7, ⟨(some 55), none, .ext (.t 48) 0⟩),
    (8, ⟨(some 56), none, .ext (.t 48) 1⟩),
    (9, ⟨(some 11), none, .mv (.t 55)⟩),
    (10, ⟨(some 12), none, .mv (.t 56)⟩)] (some [1, 9, 10, 11, 12])) (.seq (.seq (.ops 22 [
    (0, ⟨(some 57), none, .mv (.t 10)⟩),
    (1, ⟨(some 58), none, .arith .neq (.t 57) (.k (.d (.val (.int .i64 0))))⟩),
    (2, ⟨(some 59), none, .mv (.t 58)⟩),
    (3, ⟨(some 60), (some (59, false)), .mv (.t 12)⟩),
    (4, ⟨(some 61), (some (59, false)), .arith .neq (.t 60) (.k (.d (.val (.int .i64 0))))⟩),
    (5, ⟨(some 62), none, .pick (.t 59) (.k (.d (.val (.bool true)))) (.t 61)⟩),
    (6, ⟨(some 63), none, .mv (.t 62)⟩),
    (7, ⟨(some 64), (some (63, false)), .mv (.t 11)⟩),
    (8, ⟨(some 65), (some (63, false)), .lenS (.t 64)⟩),
    (9, ⟨(some 66), (some (63, false)), .mv (.t 9)⟩),
    (10, ⟨(some 67), (some (63, false)), .lenS (.t 66)⟩),
    (11, ⟨(some 68), (some (63, false)), .arith .lss (.t 65) (.t 67)⟩),
    (12, ⟨(some 69), none, .pick (.t 63) (.k (.d (.val (.bool true)))) (.t 68)⟩),
    (13, ⟨(some 70), none, .mv (.t 69)⟩),
    (14, ⟨(some 71), (some (70, false)), .mv (.t 9)⟩),
    (15, ⟨(some 72), (some (70, false)), .mv (.t 11)⟩),
    (16, ⟨(some 73), (some (70, false)), .mv (.t 9)⟩),
    (17, ⟨(some 74), (some (70, false)), .lenS (.t 73)⟩),
    (18, ⟨(some 75), (some (70, false)), .slS 1 (.t 72) none (some (.t 74))⟩),
    (19, ⟨(some 76), (some (70, false)), .call 35 [(.t 71), (.t 75)] none false⟩),
    (20, ⟨(some 77), (some (70, false)), .un .not (.t 76)⟩),
    (21, ⟨(some 78), none, .pick (.t 70) (.k (.d (.val (.bool true)))) (.t 77)⟩)] (some [1, 9, 11, 78])) (.cond (.t 78) (.seq (.ops 1 [
    (0, ⟨(some 8), none, .mv (.k (.d (.val (.bool false))))⟩)] (some [8])) .ret) .skip)) (.seq (.seq (.ops 6 [
    (0, ⟨(some 79), none, .mv (.t 11)⟩),
    (1, ⟨(some 80), none, .mv (.t 9)⟩),
    (2, ⟨(some 81), none, .lenS (.t 80)⟩),
    (3, ⟨(some 82), none, .slS 1 (.t 79) (some (.t 81)) none⟩),
    (4, ⟨(some 83), none, .lenS (.t 82)⟩),
    (5, ⟨(some 84), none, .mv (.k (.d (.val (.int .i64 0))))⟩)] (some [1, 82, 83, 84])) (.block 0 (.loop (.seq (.ops 1 [
    (0, ⟨(some 85), none, .arith .lss (.t 84) (.t 83)⟩)] (some [1, 82, 83, 84, 85])) (.seq (.cond (.t 85) .skip (.exit 0)) (.seq (.block 1 (.seq (.ops 3 [
    (0, ⟨(some 86), none, .idxS 1 (.t 82) (.t 84)⟩),
    (1, ⟨(some 87), none, .load none (.t 86)⟩),
    (2, ⟨(some 14), none, .mv (.t 87)⟩)] (some [1, 14, 82, 83, 84])) (.seq (.ops 4 [
    (0, ⟨(some 88), none, .mv (.t 14)⟩),
    (1, ⟨(some 89), none, .mv (.t 1)⟩),
    (2, ⟨(some 90), none, .lenT (.t 89)⟩),
    (3, ⟨(some 91), none, .arith .leq (.t 88) (.t 90)⟩)] (some [1, 82, 83, 84, 91])) (.cond (.t 91) (.seq (.ops 1 [
    (0, ⟨(some 8), none, .mv (.k (.d (.val (.bool false))))⟩)] (some [8])) .ret) .skip)))) (.ops 2 [
    (0, ⟨(some 92), none, .arith .add (.t 84) (.k (.d (.val (.int .i64 1))))⟩),
    (1, ⟨(some 84), none, .mv (.t 92)⟩)] (some [1, 82, 83, 84])))))))) (.seq (.ops 1 [
    (0, ⟨(some 8), none, .mv (.k (.d (.val (.bool true))))⟩)] (some [8])) .ret)))))))
def md7 : FuncId → Option Nat × Bool
  | _ => (none, false)
def od7 : Nat → List (List Nat) × List Nat × Option (List Nat)
  | 0 => ([], [], some [1, 2, 3, 4])
  | 1 => ([], [], some [1, 2, 3, 4, 39])
  | 2 => ([], [], some [8])
  | 3 => ([], [], some [1, 2, 3, 4, 9, 10])
  | 4 => ([], [], some [1, 9, 10, 11, 12])
  | 5 => ([], [], some [1, 9, 11, 78])
  | 6 => ([], [], some [8])
  | 7 => ([], [], some [1, 82, 83, 84])
  | 8 => ([], [], some [1, 82, 83, 84, 85])
  | 9 => ([], [], some [1, 14, 82, 83, 84])
  | 10 => ([], [], some [1, 82, 83, 84, 91])
  | 11 => ([], [], some [8])
  | 12 => ([], [], some [1, 82, 83, 84])
  | 13 => ([], [], some [8])
  | _ => ([], [], none)
theorem b7 {ags : List AV} {row : Option (List DV)} {r : AV} {row' nw : Option (List DV)} (hal : ags.length ≤ 93) (hrow : row'.isSome = true → row.isSome = true) (h : xwp Try.prog x7 (retK [.tmp 8] row.isSome r row' nw) (St.init ags row)) : Good Try.prog 7 ags row r row' nw :=
  good_of_body' (md := md7) (od := od7) Try.f7 (by kernel_rfl) (by kernel_rfl) (by kernel_rfl) (by kernel_rfl) (by kernel_rfl) hal hrow h

section
variable {P : Program} {Q : Cont} {fr : Fr} {C : Heap} {Z Z' : Frz} {nx : Nat} {base n d : Nat} {l : List (Nat × XO)} {kp : Option (List Nat)} {x i y s : X}
end
set_option maxRecDepth 100000
set_option maxHeartbeats 4000000
attribute [local irreducible] W E R KP thenK blockK retK Good xwp aRun
end Go.Sv
namespace Go.Sv
open Go Go.Proofs
def x9 : XC := (.seq (.ops 2 [
    (0, ⟨(some 2), none, .box (.t 0)⟩),
    (1, ⟨(some 4), none, .mv (.k (.d (.val (.bool false))))⟩)] (some [1, 2])) (.seq (.ops 5 [
    (0, ⟨(some 12), none, .load (some 8) (.t 2)⟩),
    (1, ⟨(some 13), none, .mkrow [(.int .i64 0), (.int .u64 0), (.int .u64 0), (.int .u64 0), (.int .u64 0), (.int .i64 0), (.int .i64 0), (.slice none 0 0)] 1 8 [(0, 8, (.t 12))]⟩),
    (2, ⟨(some 14), none, .build [(.int .i64 0), (.int .u64 0), (.int .u64 0), (.int .u64 0), (.int .u64 0), (.int .i64 0), (.int .i64 0), (.slice none 0 0)] [(0, 1, (.k (.d (.val (.int .i64 5))))), (6, 1, (.k (.d (.val (.int .i64 (-1)))))), (7, 1, (.t 13))]⟩),
    (3, ⟨(some 5), none, .alloc [(.int .i64 0), (.int .u64 0), (.int .u64 0), (.int .u64 0), (.int .u64 0), (.int .i64 0), (.int .i64 0), (.slice none 0 0)]⟩),
    (4, ⟨none, none, .store 8 (.t 5) (.t 14)⟩)] (some [1, 2, 5])) (.seq (.ops 9 [
    (0, ⟨(some 15), none, .build [(.int .i64 0), (.int .u64 0), (.int .u64 0), (.int .u64 0), (.int .u64 0), (.int .i64 0), (.int .i64 0), (.slice none 0 0)] [(0, 1, (.k (.d (.val (.int .i64 1)))))]⟩),
    (1, ⟨(some 16), none, .load (some 8) (.t 2)⟩),
    (2, ⟨(some 17), none, .load (some 8) (.t 5)⟩),
    (3, ⟨(some 18), none, .mkrow [(.int .i64 0), (.int .u64 0), (.int .u64 0), (.int .u64 0), (.int .u64 0), (.int .i64 0), (.int .i64 0), (.slice none 0 0)] 2 8 [(0, 8, (.t 16)), (8, 8, (.t 17))]⟩),
    (4, ⟨(some 19), none, .build [(.int .i64 0), (.int .u64 0), (.int .u64 0), (.int .u64 0), (.int .u64 0), (.int .i64 0), (.int .i64 0), (.slice none 0 0)] [(0, 1, (.k (.d (.val (.int .i64 3))))), (7, 1, (.t 18))]⟩),
    (5, ⟨(some 20), none, .mkrow [(.int .i64 0), (.int .u64 0), (.int .u64 0), (.int .u64 0), (.int .u64 0), (.int .i64 0), (.int .i64 0), (.slice none 0 0)] 2 8 [(0, 8, (.t 15)), (8, 8, (.t 19))]⟩),
    (6, ⟨(some 21), none, .build [(.int .i64 0), (.int .u64 0), (.int .u64 0), (.int .u64 0), (.int .u64 0), (.int .i64 0), (.int .i64 0), (.slice none 0 0)] [(0, 1, (.k (.d (.val (.int .i64 4))))), (7, 1, (.t 20))]⟩),
    (7, ⟨(some 6), none, .alloc [(.int .i64 0), (.int .u64 0), (.int .u64 0), (.int .u64 0), (.int .u64 0), (.int .i64 0), (.int .i64 0), (.slice none 0 0)]⟩),
    (8, ⟨none, none, .store 8 (.t 6) (.t 21)⟩)] (some [1, 5, 6])) (.seq (.seq (.ops 13 [
    (0, ⟨(some 22), none, .call 29 [] none false⟩),
    (1, ⟨(some 23), none, .un .not (.t 22)⟩),
    (2, ⟨(some 24), none, .mv (.t 23)⟩),
    (3, ⟨(some 25), (some (24, false)), .load (some 8) (.t 6)⟩),
    (4, ⟨(some 26), (some (24, false)), .mv (.t 1)⟩),
    (5, ⟨(some 27), (some (24, false)), .call 30 [(.t 25), (.t 26)] none false⟩),
    (6, ⟨(some 28), (some (24, false)), .un .not (.t 27)⟩),
    (7, ⟨(some 29), none, .pick (.t 24) (.k (.d (.val (.bool true)))) (.t 28)⟩),
    (8, ⟨(some 30), none, .mv (.t 29)⟩),
    (9, ⟨(some 31), (some (30, false)), .load (some 8) (.t 6)⟩),
    (10, ⟨(some 32), (some (30, false)), .call 32 [(.t 31)] none false⟩),
    (11, ⟨(some 33), (some (30, false)), .un .not (.t 32)⟩),
    (12, ⟨(some 34), none, .pick (.t 30) (.k (.d (.val (.bool true)))) (.t 33)⟩)] (some [1, 5, 6, 34])) (.cond (.t 34) (.seq (.ops 2 [
    (0, ⟨(some 35), none, .call 29 [] none false⟩),
    (1, ⟨(some 4), none, .mv (.t 35)⟩)] (some [4])) .ret) .skip)) (.seq (.seq (.ops 4 [
    (0, ⟨(some 36), none, .mv (.t 1)⟩),
    (1, ⟨(some 37), none, .lenT (.t 36)⟩),
    (2, ⟨(some 38), none, .arith .add (.t 37) (.k (.d (.val (.int .i64 1))))⟩),
    (3, ⟨(some 39), none, .mv (.k (.d (.val (.int .i64 0))))⟩)] (some [1, 5, 6, 38, 39])) (.block 0 (.loop (.seq (.ops 1 [
    (0, ⟨(some 40), none, .arith .lss (.t 39) (.t 38)⟩)] (some [1, 5, 6, 38, 39, 40])) (.seq (.cond (.t 40) .skip (.exit 0)) (.seq (.block 1 (.seq (.ops 2 [
    (0, ⟨(some 41), none, .mv (.t 39)⟩),
    (1, ⟨(some 7), none, .mv (.t 41)⟩)] (some [1, 5, 6, 7, 38, 39])) (.seq (.ops 9 [
    (0, ⟨(some 43), none, .load (some 8) (.t 5)⟩),
    (1, ⟨(some 44), none, .mv (.t 1)⟩),
    (2, ⟨(some 45), none, .mv (.t 7)⟩),
    (3, ⟨(some 46), none, .call 31 [(.t 43), (.t 44), (.t 45)] none false⟩),
    (4, ⟨(some 42), none, .mv (.t 46)⟩),
    (5, ⟨(some 47), none, .ext (.t 42) 0⟩),
    (6, ⟨(some 48), none, .ext (.t 42) 1⟩),
    (7, ⟨(some 8), none, .mv (.t 47)⟩),
    (8, ⟨(some 9), none, .mv (.t 48)⟩)] (some [1, 5, 6, 7, 8, 9, 38, 39])) (.seq (.ops 9 [
    (0, ⟨(some 50), none, .load (some 8) (.t 6)⟩),
    (1, ⟨(some 51), none, .mv (.t 1)⟩),
    (2, ⟨(some 52), none, .mv (.t 7)⟩),
    (3, ⟨(some 53), none, .call 31 [(.t 50), (.t 51), (.t 52)] none false⟩),
    (4, ⟨(some 49), none, .mv (.t 53)⟩),
    (5, ⟨(some 54), none, .ext (.t 49) 0⟩),
    (6, ⟨(some 55), none, .ext (.t 49) 1⟩),
    (7, ⟨(some 10), none, .mv (.t 54)⟩),
    (8, ⟨(some 11), none, .mv (.t 55)⟩)] (some [1, 5, 6, 7, 8, 9, 10, 11, 38, 39])) (.seq (.ops 24 [
    (0, ⟨(some 56), none, .mv (.t 9)⟩),
    (1, ⟨(some 57), none, .arith .neq (.t 56) (.k (.d (.val (.int .i64 0))))⟩),
    (2, ⟨(some 58), none, .mv (.t 57)⟩),
    (3, ⟨(some 59), (some (58, false)), .mv (.t 11)⟩),
    (4, ⟨(some 60), (some (58, false)), .arith .neq (.t 59) (.k (.d (.val (.int .i64 0))))⟩),
    (5, ⟨(some 61), none, .pick (.t 58) (.k (.d (.val (.bool true)))) (.t 60)⟩),
    (6, ⟨(some 62), none, .mv (.t 61)⟩),
    (7, ⟨(some 63), (some (62, false)), .mv (.t 8)⟩),
    (8, ⟨(some 64), (some (62, false)), .mv (.t 10)⟩),
    (9, ⟨(some 65), (some (62, false)), .call 35 [(.t 63), (.t 64)] none false⟩),
    (10, ⟨(some 66), (some (62, false)), .un .not (.t 65)⟩),
    (11, ⟨(some 67), none, .pick (.t 62) (.k (.d (.val (.bool true)))) (.t 66)⟩),
    (12, ⟨(some 68), none, .mv (.t 67)⟩),
    (13, ⟨(some 69), (some (68, false)), .mv (.t 8)⟩),
    (14, ⟨(some 70), (some (68, false)), .lenS (.t 69)⟩),
    (15, ⟨(some 71), (some (68, false)), .arith .eql (.t 70) (.k (.d (.val (.int .i64 0))))⟩),
    (16, ⟨(some 72), none, .pick (.t 68) (.k (.d (.val (.bool true)))) (.t 71)⟩),
    (17, ⟨(some 73), none, .mv (.t 72)⟩),
    (18, ⟨(some 74), (some (73, false)), .mv (.t 8)⟩),
    (19, ⟨(some 75), (some (73, false)), .idxS 1 (.t 74) (.k (.d (.val (.int .i64 0))))⟩),
    (20, ⟨(some 76), (some (73, false)), .load none (.t 75)⟩),
    (21, ⟨(some 77), (some (73, false)), .mv (.t 7)⟩),
    (22, ⟨(some 78), (some (73, false)), .arith .neq (.t 76) (.t 77)⟩),
    (23, ⟨(some 79), none, .pick (.t 73) (.k (.d (.val (.bool true)))) (.t 78)⟩)] (some [1, 5, 6, 38, 39, 79])) (.cond (.t 79) (.seq (.ops 1 [
    (0, ⟨(some 4), none, .mv (.k (.d (.val (.bool false))))⟩)] (some [4])) .ret) .skip)))))) (.ops 2 [
    (0, ⟨(some 80), none, .arith .add (.t 39) (.k (.d (.val (.int .i64 1))))⟩),
    (1, ⟨(some 39), none, .mv (.t 80)⟩)] (some [1, 5, 6, 38, 39])))))))) (.seq (.ops 1 [
    (0, ⟨(some 4), none, .mv (.k (.d (.val (.bool true))))⟩)] (some [4])) .ret))))))
def md9 : FuncId → Option Nat × Bool
  | _ => (none, false)
def od9 : Nat → List (List Nat) × List Nat × Option (List Nat)
  | 0 => ([], [], some [1, 2])
  | 1 => ([], [], some [1, 2, 5])
  | 2 => ([], [], some [1, 5, 6])
  | 3 => ([], [], some [1, 5, 6, 34])
  | 4 => ([], [], some [4])
  | 5 => ([], [], some [1, 5, 6, 38, 39])
  | 6 => ([], [], some [1, 5, 6, 38, 39, 40])
  | 7 => ([], [], some [1, 5, 6, 7, 38, 39])
  | 8 => ([], [], some [1, 5, 6, 7, 8, 9, 38, 39])
  | 9 => ([], [], some [1, 5, 6, 7, 8, 9, 10, 11, 38, 39])
  | 10 => ([], [], some [1, 5, 6, 38, 39, 79])
  | 11 => ([], [], some [4])
  | 12 => ([], [], some [1, 5, 6, 38, 39])
  | 13 => ([], [], some [4])
  | _ => ([], [], none)
theorem b9 {ags : List AV} {row : Option (List DV)} {r : AV} {row' nw : Option (List DV)} (hal : ags.length ≤ 81) (hrow : row'.isSome = true → row.isSome = true) (h : xwp Try.prog x9 (retK [.tmp 4] row.isSome r row' nw) (St.init ags row)) : Good Try.prog 9 ags row r row' nw :=
  good_of_body' (md := md9) (od := od9) Try.f9 (by kernel_rfl) (by kernel_rfl) (by kernel_rfl) (by kernel_rfl) (by kernel_rfl) hal hrow h

theorem openL_sub (k : Int) : ∀ (l : List T) (m : Int), 0 ≤ openL k l m → m ≤ openL k l m ∧ ∀ i (h : i < l.length), 0 ≤ openT l[i] ∧ openT l[i] ≤ openL k l m
  | [], m, h => ⟨by simp [openL], fun i h => by simp at h⟩
  | t :: l, m, h => by
    simp only [openL] at h ⊢
    split at h
    · omega
    · rename_i hn
      rw [if_neg hn]
      obtain ⟨h1, h2⟩ := openL_sub k l _ h
      generalize openL k l (max m (if roundG k t.kind = true then openT t + 1 else openT t)) = q at h1 h2 ⊢
      have h3 : openT t ≤ (if roundG k t.kind = true then openT t + 1 else openT t) := by split <;> omega
      refine ⟨by omega, fun i hi => ?_⟩
      cases i with
      | zero =>
        simp only [List.getElem_cons_zero]
        omega
      | succ i => simpa using h2 i (by simpa using hi)
theorem right_sub {k a b c d mn mx : Int} {subs : List T} (h : rightT (.node k a b c d mn mx subs) = true) (i : Nat) (hi : i < subs.length) : rightT subs[i] = true := by
  simp only [rightT, openT] at h
  split at h
  · simp only [Bool.and_eq_true, decide_eq_true_eq] at h
    have := (openL_sub k subs 0 h.1).2 i hi
    simp only [rightT, Bool.and_eq_true, decide_eq_true_eq]; omega
  · simp at h
set_option maxRecDepth 100000
set_option maxHeartbeats 4000000
attribute [local irreducible] W E R KP thenK blockK retK Good xwp aRun
end Go.Sv
namespace Go.Sv
open Go
end Go.Sv
namespace Go.Sv
open Go
def altT (t u : T) : T := .node 4 0 0 0 0 0 0 [t, u]
def catT (t u : T) : T := .node 3 0 0 0 0 0 0 [t, u]
end Go.Sv
namespace Go.Sv
open Go Go.Proofs
def x8 : XC := (.seq (.ops 3 [
    (0, ⟨(some 4), none, .box (.t 0)⟩),
    (1, ⟨(some 5), none, .box (.t 1)⟩),
    (2, ⟨(some 8), none, .mv (.k (.d (.val (.bool false))))⟩)] (some [2, 3, 4, 5])) (.seq (.ops 12 [
    (5, ⟨(some 41), none, .load (some 8) (.t 5)⟩),
    (4, ⟨(some 40), none, .load (some 8) (.t 4)⟩),
    (0, ⟨(some 36), none, .load (some 8) (.t 4)⟩),
    (1, ⟨(some 37), none, .load (some 8) (.t 5)⟩),
    (2, ⟨(some 38), none, .mkrow [(.int .i64 0), (.int .u64 0), (.int .u64 0), (.int .u64 0), (.int .u64 0), (.int .i64 0), (.int .i64 0), (.slice none 0 0)] 2 8 [(0, 8, (.t 36)), (8, 8, (.t 37))]⟩),
    (3, ⟨(some 39), none, .build [(.int .i64 0), (.int .u64 0), (.int .u64 0), (.int .u64 0), (.int .u64 0), (.int .i64 0), (.int .i64 0), (.slice none 0 0)] [(0, 1, (.k (.d (.val (.int .i64 4))))), (7, 1, (.t 38))]⟩),
    (8, ⟨(some 9), none, .alloc [(.int .i64 0), (.int .u64 0), (.int .u64 0), (.int .u64 0), (.int .u64 0), (.int .i64 0), (.int .i64 0), (.slice none 0 0)]⟩),
    (9, ⟨(some 10), none, .alloc [(.int .i64 0), (.int .u64 0), (.int .u64 0), (.int .u64 0), (.int .u64 0), (.int .i64 0), (.int .i64 0), (.slice none 0 0)]⟩),
    (10, ⟨none, none, .storeA 8 (.t 9) (.t 39) [4, 5]⟩),
    (6, ⟨(some 42), none, .mkrow [(.int .i64 0), (.int .u64 0), (.int .u64 0), (.int .u64 0), (.int .u64 0), (.int .i64 0), (.int .i64 0), (.slice none 0 0)] 2 8 [(0, 8, (.t 40)), (8, 8, (.t 41))]⟩),
    (7, ⟨(some 43), none, .build [(.int .i64 0), (.int .u64 0), (.int .u64 0), (.int .u64 0), (.int .u64 0), (.int .i64 0), (.int .i64 0), (.slice none 0 0)] [(0, 1, (.k (.d (.val (.int .i64 3))))), (7, 1, (.t 42))]⟩),
    (11, ⟨none, none, .store 8 (.t 10) (.t 43)⟩)] (some [2, 3, 4, 5, 9, 10])) (.seq (.seq (.ops 28 [
    (0, ⟨(some 44), none, .call 29 [] none false⟩),
    (1, ⟨(some 45), none, .un .not (.t 44)⟩),
    (2, ⟨(some 46), none, .mv (.t 45)⟩),
    (3, ⟨(some 47), (some (46, false)), .load (some 8) (.t 9)⟩),
    (4, ⟨(some 48), (some (46, false)), .mv (.t 2)⟩),
    (5, ⟨(some 49), (some (46, false)), .call 30 [(.t 47), (.t 48)] none false⟩),
    (6, ⟨(some 50), (some (46, false)), .un .not (.t 49)⟩),
    (7, ⟨(some 51), none, .pick (.t 46) (.k (.d (.val (.bool true)))) (.t 50)⟩),
    (8, ⟨(some 52), none, .mv (.t 51)⟩),
    (9, ⟨(some 53), (some (52, false)), .load (some 8) (.t 9)⟩),
    (10, ⟨(some 54), (some (52, false)), .call 32 [(.t 53)] none false⟩),
    (11, ⟨(some 55), (some (52, false)), .un .not (.t 54)⟩),
    (12, ⟨(some 56), none, .pick (.t 52) (.k (.d (.val (.bool true)))) (.t 55)⟩),
    (13, ⟨(some 57), none, .mv (.t 56)⟩),
    (14, ⟨(some 58), (some (57, false)), .load (some 8) (.t 10)⟩),
    (15, ⟨(some 59), (some (57, false)), .call 32 [(.t 58)] none false⟩),
    (16, ⟨(some 60), (some (57, false)), .un .not (.t 59)⟩),
    (17, ⟨(some 61), none, .pick (.t 57) (.k (.d (.val (.bool true)))) (.t 60)⟩),
    (18, ⟨(some 62), none, .mv (.t 61)⟩),
    (19, ⟨(some 63), (some (62, false)), .mv (.t 3)⟩),
    (20, ⟨(some 64), (some (62, false)), .arith .lss (.t 63) (.k (.d (.val (.int .i64 0))))⟩),
    (21, ⟨(some 65), none, .pick (.t 62) (.k (.d (.val (.bool true)))) (.t 64)⟩),
    (22, ⟨(some 66), none, .mv (.t 65)⟩),
    (23, ⟨(some 67), (some (66, false)), .mv (.t 3)⟩),
    (24, ⟨(some 68), (some (66, false)), .mv (.t 2)⟩),
    (25, ⟨(some 69), (some (66, false)), .lenT (.t 68)⟩),
    (26, ⟨(some 70), (some (66, false)), .arith .gtr (.t 67) (.t 69)⟩),
    (27, ⟨(some 71), none, .pick (.t 66) (.k (.d (.val (.bool true)))) (.t 70)⟩)] (some [2, 3, 4, 5, 9, 10, 71])) (.cond (.t 71) (.seq (.ops 2 [
    (0, ⟨(some 72), none, .call 29 [] none false⟩),
    (1, ⟨(some 8), none, .mv (.t 72)⟩)] (some [8])) .ret) .skip)) (.seq (.ops 9 [
    (0, ⟨(some 74), none, .load (some 8) (.t 4)⟩),
    (1, ⟨(some 75), none, .mv (.t 2)⟩),
    (2, ⟨(some 76), none, .mv (.t 3)⟩),
    (3, ⟨(some 77), none, .call 31 [(.t 74), (.t 75), (.t 76)] none false⟩),
    (4, ⟨(some 73), none, .mv (.t 77)⟩),
    (5, ⟨(some 78), none, .ext (.t 73) 0⟩),
    (6, ⟨(some 79), none, .ext (.t 73) 1⟩),
    (7, ⟨(some 11), none, .mv (.t 78)⟩),
    (8, ⟨(some 12), none, .mv (.t 79)⟩)] (some [2, 3, 5, 9, 10, 11])) (.seq (.ops 9 [
    (0, ⟨(some 81), none, .load (some 8) (.t 5)⟩),
    (1, ⟨(some 82), none, .mv (.t 2)⟩),
    (2, ⟨(some 83), none, .mv (.t 3)⟩),
    (3, ⟨(some 84), none, .call 31 [(.t 81), (.t 82), (.t 83)] none false⟩),
    (4, ⟨(some 80), none, .mv (.t 84)⟩),
    (5, ⟨(some 85), none, .ext (.t 80) 0⟩),
    (6, ⟨(some 86), none, .ext (.t 80) 1⟩),
    (7, ⟨(some 13), none, .mv (.t 85)⟩),
    (8, ⟨(some 14), none, .mv (.t 86)⟩)] (some [2, 3, 5, 9, 10, 11, 13])) (.seq (.ops 10 [
    (0, ⟨(some 87), none, .mv (.t 2)⟩),
    (1, ⟨(some 88), none, .lenT (.t 87)⟩),
    (2, ⟨(some 89), none, .arith .add (.t 88) (.k (.d (.val (.int .i64 1))))⟩),
    (3, ⟨(some 90), none, .mks [(.bool false)] 1 (.t 89) (.t 89)⟩),
    (4, ⟨(some 91), none, .mv (.t 2)⟩),
    (5, ⟨(some 92), none, .lenT (.t 91)⟩),
    (6, ⟨(some 93), none, .arith .add (.t 92) (.k (.d (.val (.int .i64 1))))⟩),
    (7, ⟨(some 94), none, .mks [(.bool false)] 1 (.t 93) (.t 93)⟩),
    (8, ⟨(some 15), none, .mv (.t 90)⟩),
    (9, ⟨(some 16), none, .mv (.t 94)⟩)] (some [2, 3, 5, 9, 10, 11, 13, 15, 16])) (.seq (.seq (.ops 3 [
    (0, ⟨(some 95), none, .mv (.t 13)⟩),
    (1, ⟨(some 96), none, .lenS (.t 95)⟩),
    (2, ⟨(some 97), none, .mv (.k (.d (.val (.int .i64 0))))⟩)] (some [2, 3, 5, 9, 10, 11, 15, 16, 95, 96, 97])) (.block 0 (.loop (.seq (.ops 1 [
    (0, ⟨(some 98), none, .arith .lss (.t 97) (.t 96)⟩)] (some [2, 3, 5, 9, 10, 11, 15, 16, 95, 96, 97, 98])) (.seq (.cond (.t 98) .skip (.exit 0)) (.seq (.block 1 (.seq (.ops 3 [
    (0, ⟨(some 99), none, .idxS 1 (.t 95) (.t 97)⟩),
    (1, ⟨(some 100), none, .load none (.t 99)⟩),
    (2, ⟨(some 18), none, .mv (.t 100)⟩)] (some [2, 3, 5, 9, 10, 11, 15, 16, 18, 95, 96, 97])) (.ops 4 [
    (0, ⟨(some 101), none, .mv (.t 15)⟩),
    (1, ⟨(some 102), none, .mv (.t 18)⟩),
    (2, ⟨(some 103), none, .idxS 1 (.t 101) (.t 102)⟩),
    (3, ⟨none, none, .store 1 (.t 103) (.k (.d (.val (.bool true))))⟩)] (some [2, 3, 5, 9, 10, 11, 15, 16, 95, 96, 97])))) (.ops 2 [
    (0, ⟨(some 104), none, .arith .add (.t 97) (.k (.d (.val (.int .i64 1))))⟩),
    (1, ⟨(some 97), none, .mv (.t 104)⟩)] (some [2, 3, 5, 9, 10, 11, 15, 16, 95, 96, 97])))))))) (.seq (.seq (.ops 3 [
    (0, ⟨(some 105), none, .mv (.t 11)⟩),
    (1, ⟨(some 106), none, .lenS (.t 105)⟩),
    (2, ⟨(some 107), none, .mv (.k (.d (.val (.int .i64 0))))⟩)] (some [2, 3, 5, 9, 10, 15, 16, 105, 106, 107])) (.block 2 (.loop (.seq (.ops 1 [
    (0, ⟨(some 108), none, .arith .lss (.t 107) (.t 106)⟩)] (some [2, 3, 5, 9, 10, 15, 16, 105, 106, 107, 108])) (.seq (.cond (.t 108) .skip (.exit 2)) (.seq (.block 3 (.seq (.ops 3 [
    (0, ⟨(some 109), none, .idxS 1 (.t 105) (.t 107)⟩),
    (1, ⟨(some 110), none, .load none (.t 109)⟩),
    (2, ⟨(some 20), none, .mv (.t 110)⟩)] (some [2, 3, 5, 9, 10, 15, 16, 20, 105, 106, 107])) (.seq (.ops 4 [
    (0, ⟨(some 111), none, .mv (.t 15)⟩),
    (1, ⟨(some 112), none, .mv (.t 20)⟩),
    (2, ⟨(some 113), none, .idxS 1 (.t 111) (.t 112)⟩),
    (3, ⟨none, none, .store 1 (.t 113) (.k (.d (.val (.bool true))))⟩)] (some [2, 3, 5, 9, 10, 15, 16, 20, 105, 106, 107])) (.seq (.ops 9 [
    (0, ⟨(some 115), none, .load (some 8) (.t 5)⟩),
    (1, ⟨(some 116), none, .mv (.t 2)⟩),
    (2, ⟨(some 117), none, .mv (.t 20)⟩),
    (3, ⟨(some 118), none, .call 31 [(.t 115), (.t 116), (.t 117)] none false⟩),
    (4, ⟨(some 114), none, .mv (.t 118)⟩),
    (5, ⟨(some 119), none, .ext (.t 114) 0⟩),
    (6, ⟨(some 120), none, .ext (.t 114) 1⟩),
    (7, ⟨(some 21), none, .mv (.t 119)⟩),
    (8, ⟨(some 22), none, .mv (.t 120)⟩)] (some [2, 3, 5, 9, 10, 15, 16, 21, 105, 106, 107])) (.seq (.ops 3 [
    (0, ⟨(some 121), none, .mv (.t 21)⟩),
    (1, ⟨(some 122), none, .lenS (.t 121)⟩),
    (2, ⟨(some 123), none, .mv (.k (.d (.val (.int .i64 0))))⟩)] (some [2, 3, 5, 9, 10, 15, 16, 105, 106, 107, 121, 122, 123])) (.block 4 (.loop (.seq (.ops 1 [
    (0, ⟨(some 124), none, .arith .lss (.t 123) (.t 122)⟩)] (some [2, 3, 5, 9, 10, 15, 16, 105, 106, 107, 121, 122, 123, 124])) (.seq (.cond (.t 124) .skip (.exit 4)) (.seq (.block 5 (.seq (.ops 3 [
    (0, ⟨(some 125), none, .idxS 1 (.t 121) (.t 123)⟩),
    (1, ⟨(some 126), none, .load none (.t 125)⟩),
    (2, ⟨(some 24), none, .mv (.t 126)⟩)] (some [2, 3, 5, 9, 10, 15, 16, 24, 105, 106, 107, 121, 122, 123])) (.ops 4 [
    (0, ⟨(some 127), none, .mv (.t 16)⟩),
    (1, ⟨(some 128), none, .mv (.t 24)⟩),
    (2, ⟨(some 129), none, .idxS 1 (.t 127) (.t 128)⟩),
    (3, ⟨none, none, .store 1 (.t 129) (.k (.d (.val (.bool true))))⟩)] (some [2, 3, 5, 9, 10, 15, 16, 105, 106, 107, 121, 122, 123])))) (.ops 2 [
    (0, ⟨(some 130), none, .arith .add (.t 123) (.k (.d (.val (.int .i64 1))))⟩),
    (1, ⟨(some 123), none, .mv (.t 130)⟩)] (some [2, 3, 5, 9, 10, 15, 16, 105, 106, 107, 121, 122, 123])))))))))))) (.ops 2 [
    (0, ⟨(some 131), none, .arith .add (.t 107) (.k (.d (.val (.int .i64 1))))⟩),
    (1, ⟨(some 107), none, .mv (.t 131)⟩)] (some [2, 3, 5, 9, 10, 15, 16, 105, 106, 107])))))))) (.seq (.ops 9 [
    (0, ⟨(some 133), none, .load (some 8) (.t 9)⟩),
    (1, ⟨(some 134), none, .mv (.t 2)⟩),
    (2, ⟨(some 135), none, .mv (.t 3)⟩),
    (3, ⟨(some 136), none, .call 31 [(.t 133), (.t 134), (.t 135)] none false⟩),
    (4, ⟨(some 132), none, .mv (.t 136)⟩),
    (5, ⟨(some 137), none, .ext (.t 132) 0⟩),
    (6, ⟨(some 138), none, .ext (.t 132) 1⟩),
    (7, ⟨(some 25), none, .mv (.t 137)⟩),
    (8, ⟨(some 26), none, .mv (.t 138)⟩)] (some [2, 3, 10, 15, 16, 25, 26])) (.seq (.ops 9 [
    (0, ⟨(some 140), none, .load (some 8) (.t 10)⟩),
    (1, ⟨(some 141), none, .mv (.t 2)⟩),
    (2, ⟨(some 142), none, .mv (.t 3)⟩),
    (3, ⟨(some 143), none, .call 31 [(.t 140), (.t 141), (.t 142)] none false⟩),
    (4, ⟨(some 139), none, .mv (.t 143)⟩),
    (5, ⟨(some 144), none, .ext (.t 139) 0⟩),
    (6, ⟨(some 145), none, .ext (.t 139) 1⟩),
    (7, ⟨(some 27), none, .mv (.t 144)⟩),
    (8, ⟨(some 28), none, .mv (.t 145)⟩)] (some [15, 16, 25, 26, 27, 28])) (.seq (.ops 2 [
    (0, ⟨(some 29), none, .mv (.k (.d (.val (.int .i64 0))))⟩),
    (1, ⟨(some 30), none, .mv (.k (.d (.val (.int .i64 0))))⟩)] (some [15, 16, 25, 26, 27, 28, 29, 30])) (.seq (.seq (.ops 3 [
    (0, ⟨(some 146), none, .mv (.t 15)⟩),
    (1, ⟨(some 147), none, .lenS (.t 146)⟩),
    (2, ⟨(some 148), none, .mv (.k (.d (.val (.int .i64 0))))⟩)] (some [15, 16, 25, 26, 27, 28, 29, 30, 147, 148])) (.block 6 (.loop (.seq (.ops 1 [
    (0, ⟨(some 149), none, .arith .lss (.t 148) (.t 147)⟩)] (some [15, 16, 25, 26, 27, 28, 29, 30, 147, 148, 149])) (.seq (.cond (.t 149) .skip (.exit 6)) (.seq (.block 7 (.seq (.ops 2 [
    (0, ⟨(some 150), none, .mv (.t 148)⟩),
    (1, ⟨(some 31), none, .mv (.t 150)⟩)] (some [15, 16, 25, 26, 27, 28, 29, 30, 31, 147, 148])) (.seq (.seq (.ops 4 [
    (0, ⟨(some 151), none, .mv (.t 15)⟩),
    (1, ⟨(some 152), none, .mv (.t 31)⟩),
    (2, ⟨(some 153), none, .idxS 1 (.t 151) (.t 152)⟩),
    (3, ⟨(some 154), none, .load none (.t 153)⟩)] (some [15, 16, 25, 26, 27, 28, 29, 30, 31, 147, 148, 154])) (.cond (.t 154) (.ops 3 [
    (0, ⟨(some 155), none, .mv (.t 29)⟩),
    (1, ⟨(some 156), none, .arith .add (.t 155) (.k (.d (.val (.int .i64 1))))⟩),
    (2, ⟨(some 29), none, .mv (.t 156)⟩)] (some [15, 16, 25, 26, 27, 28, 29, 30, 31, 147, 148])) .skip)) (.seq (.ops 4 [
    (0, ⟨(some 157), none, .mv (.t 16)⟩),
    (1, ⟨(some 158), none, .mv (.t 31)⟩),
    (2, ⟨(some 159), none, .idxS 1 (.t 157) (.t 158)⟩),
    (3, ⟨(some 160), none, .load none (.t 159)⟩)] (some [15, 16, 25, 26, 27, 28, 29, 30, 147, 148, 160])) (.cond (.t 160) (.ops 3 [
    (0, ⟨(some 161), none, .mv (.t 30)⟩),
    (1, ⟨(some 162), none, .arith .add (.t 161) (.k (.d (.val (.int .i64 1))))⟩),
    (2, ⟨(some 30), none, .mv (.t 162)⟩)] (some [15, 16, 25, 26, 27, 28, 29, 30, 147, 148])) .skip))))) (.ops 2 [
    (0, ⟨(some 163), none, .arith .add (.t 148) (.k (.d (.val (.int .i64 1))))⟩),
    (1, ⟨(some 148), none, .mv (.t 163)⟩)] (some [15, 16, 25, 26, 27, 28, 29, 30, 147, 148])))))))) (.seq (.seq (.ops 18 [
    (0, ⟨(some 164), none, .mv (.t 26)⟩),
    (1, ⟨(some 165), none, .arith .neq (.t 164) (.k (.d (.val (.int .i64 0))))⟩),
    (2, ⟨(some 166), none, .mv (.t 165)⟩),
    (3, ⟨(some 167), (some (166, false)), .mv (.t 28)⟩),
    (4, ⟨(some 168), (some (166, false)), .arith .neq (.t 167) (.k (.d (.val (.int .i64 0))))⟩),
    (5, ⟨(some 169), none, .pick (.t 166) (.k (.d (.val (.bool true)))) (.t 168)⟩),
    (6, ⟨(some 170), none, .mv (.t 169)⟩),
    (7, ⟨(some 171), (some (170, false)), .mv (.t 25)⟩),
    (8, ⟨(some 172), (some (170, false)), .lenS (.t 171)⟩),
    (9, ⟨(some 173), (some (170, false)), .mv (.t 29)⟩),
    (10, ⟨(some 174), (some (170, false)), .arith .neq (.t 172) (.t 173)⟩),
    (11, ⟨(some 175), none, .pick (.t 170) (.k (.d (.val (.bool true)))) (.t 174)⟩),
    (12, ⟨(some 176), none, .mv (.t 175)⟩),
    (13, ⟨(some 177), (some (176, false)), .mv (.t 27)⟩),
    (14, ⟨(some 178), (some (176, false)), .lenS (.t 177)⟩),
    (15, ⟨(some 179), (some (176, false)), .mv (.t 30)⟩),
    (16, ⟨(some 180), (some (176, false)), .arith .neq (.t 178) (.t 179)⟩),
    (17, ⟨(some 181), none, .pick (.t 176) (.k (.d (.val (.bool true)))) (.t 180)⟩)] (some [15, 16, 25, 27, 181])) (.cond (.t 181) (.seq (.ops 1 [
    (0, ⟨(some 8), none, .mv (.k (.d (.val (.bool false))))⟩)] (some [8])) .ret) .skip)) (.seq (.seq (.ops 3 [
    (0, ⟨(some 182), none, .mv (.t 25)⟩),
    (1, ⟨(some 183), none, .lenS (.t 182)⟩),
    (2, ⟨(some 184), none, .mv (.k (.d (.val (.int .i64 0))))⟩)] (some [15, 16, 27, 182, 183, 184])) (.block 8 (.loop (.seq (.ops 1 [
    (0, ⟨(some 185), none, .arith .lss (.t 184) (.t 183)⟩)] (some [15, 16, 27, 182, 183, 184, 185])) (.seq (.cond (.t 185) .skip (.exit 8)) (.seq (.block 9 (.seq (.ops 3 [
    (0, ⟨(some 186), none, .idxS 1 (.t 182) (.t 184)⟩),
    (1, ⟨(some 187), none, .load none (.t 186)⟩),
    (2, ⟨(some 33), none, .mv (.t 187)⟩)] (some [15, 16, 27, 33, 182, 183, 184])) (.seq (.ops 5 [
    (0, ⟨(some 188), none, .mv (.t 15)⟩),
    (1, ⟨(some 189), none, .mv (.t 33)⟩),
    (2, ⟨(some 190), none, .idxS 1 (.t 188) (.t 189)⟩),
    (3, ⟨(some 191), none, .load none (.t 190)⟩),
    (4, ⟨(some 192), none, .un .not (.t 191)⟩)] (some [15, 16, 27, 182, 183, 184, 192])) (.cond (.t 192) (.seq (.ops 1 [
    (0, ⟨(some 8), none, .mv (.k (.d (.val (.bool false))))⟩)] (some [8])) .ret) .skip)))) (.ops 2 [
    (0, ⟨(some 193), none, .arith .add (.t 184) (.k (.d (.val (.int .i64 1))))⟩),
    (1, ⟨(some 184), none, .mv (.t 193)⟩)] (some [15, 16, 27, 182, 183, 184])))))))) (.seq (.seq (.ops 3 [
    (0, ⟨(some 194), none, .mv (.t 27)⟩),
    (1, ⟨(some 195), none, .lenS (.t 194)⟩),
    (2, ⟨(some 196), none, .mv (.k (.d (.val (.int .i64 0))))⟩)] (some [16, 194, 195, 196])) (.block 10 (.loop (.seq (.ops 1 [
    (0, ⟨(some 197), none, .arith .lss (.t 196) (.t 195)⟩)] (some [16, 194, 195, 196, 197])) (.seq (.cond (.t 197) .skip (.exit 10)) (.seq (.block 11 (.seq (.ops 3 [
    (0, ⟨(some 198), none, .idxS 1 (.t 194) (.t 196)⟩),
    (1, ⟨(some 199), none, .load none (.t 198)⟩),
    (2, ⟨(some 35), none, .mv (.t 199)⟩)] (some [16, 35, 194, 195, 196])) (.seq (.ops 5 [
    (0, ⟨(some 200), none, .mv (.t 16)⟩),
    (1, ⟨(some 201), none, .mv (.t 35)⟩),
    (2, ⟨(some 202), none, .idxS 1 (.t 200) (.t 201)⟩),
    (3, ⟨(some 203), none, .load none (.t 202)⟩),
    (4, ⟨(some 204), none, .un .not (.t 203)⟩)] (some [16, 194, 195, 196, 204])) (.cond (.t 204) (.seq (.ops 1 [
    (0, ⟨(some 8), none, .mv (.k (.d (.val (.bool false))))⟩)] (some [8])) .ret) .skip)))) (.ops 2 [
    (0, ⟨(some 205), none, .arith .add (.t 196) (.k (.d (.val (.int .i64 1))))⟩),
    (1, ⟨(some 196), none, .mv (.t 205)⟩)] (some [16, 194, 195, 196])))))))) (.seq (.ops 1 [
    (0, ⟨(some 8), none, .mv (.k (.d (.val (.bool true))))⟩)] (some [8])) .ret))))))))))))))))
def md8 : FuncId → Option Nat × Bool
  | _ => (none, false)
def od8 : Nat → List (List Nat) × List Nat × Option (List Nat)
  | 0 => ([], [], some [2, 3, 4, 5])
  | 1 => ([[], [], [0, 1], [0, 1, 2], [], [], [4, 5], [4, 5, 6], [], [], [0, 1, 2, 3, 8, 9], [0, 1, 2, 3, 4, 5, 6, 7, 8, 9, 10]], [5, 4, 0, 1, 2, 3, 8, 9, 10, 6, 7, 11], some [2, 3, 4, 5, 9, 10])
  | 2 => ([], [], some [2, 3, 4, 5, 9, 10, 71])
  | 3 => ([], [], some [8])
  | 4 => ([], [], some [2, 3, 5, 9, 10, 11])
  | 5 => ([], [], some [2, 3, 5, 9, 10, 11, 13])
  | 6 => ([[], [0], [0, 1], [0, 1, 2], [], [4], [4, 5], [4, 5, 6], [0, 1, 2, 3], [0, 1, 2, 3, 4, 5, 6, 7, 8]], [0, 1, 2, 3, 4, 5, 6, 7, 8, 9], some [2, 3, 5, 9, 10, 11, 13, 15, 16])
  | 7 => ([], [], some [2, 3, 5, 9, 10, 11, 15, 16, 95, 96, 97])
  | 8 => ([], [], some [2, 3, 5, 9, 10, 11, 15, 16, 95, 96, 97, 98])
  | 9 => ([], [], some [2, 3, 5, 9, 10, 11, 15, 16, 18, 95, 96, 97])
  | 10 => ([], [], some [2, 3, 5, 9, 10, 11, 15, 16, 95, 96, 97])
  | 11 => ([], [], some [2, 3, 5, 9, 10, 11, 15, 16, 95, 96, 97])
  | 12 => ([], [], some [2, 3, 5, 9, 10, 15, 16, 105, 106, 107])
  | 13 => ([], [], some [2, 3, 5, 9, 10, 15, 16, 105, 106, 107, 108])
  | 14 => ([], [], some [2, 3, 5, 9, 10, 15, 16, 20, 105, 106, 107])
  | 15 => ([], [], some [2, 3, 5, 9, 10, 15, 16, 20, 105, 106, 107])
  | 16 => ([], [], some [2, 3, 5, 9, 10, 15, 16, 21, 105, 106, 107])
  | 17 => ([], [], some [2, 3, 5, 9, 10, 15, 16, 105, 106, 107, 121, 122, 123])
  | 18 => ([], [], some [2, 3, 5, 9, 10, 15, 16, 105, 106, 107, 121, 122, 123, 124])
  | 19 => ([], [], some [2, 3, 5, 9, 10, 15, 16, 24, 105, 106, 107, 121, 122, 123])
  | 20 => ([], [], some [2, 3, 5, 9, 10, 15, 16, 105, 106, 107, 121, 122, 123])
  | 21 => ([], [], some [2, 3, 5, 9, 10, 15, 16, 105, 106, 107, 121, 122, 123])
  | 22 => ([], [], some [2, 3, 5, 9, 10, 15, 16, 105, 106, 107])
  | 23 => ([], [], some [2, 3, 10, 15, 16, 25, 26])
  | 24 => ([], [], some [15, 16, 25, 26, 27, 28])
  | 25 => ([], [], some [15, 16, 25, 26, 27, 28, 29, 30])
  | 26 => ([], [], some [15, 16, 25, 26, 27, 28, 29, 30, 147, 148])
  | 27 => ([], [], some [15, 16, 25, 26, 27, 28, 29, 30, 147, 148, 149])
  | 28 => ([], [], some [15, 16, 25, 26, 27, 28, 29, 30, 31, 147, 148])
  | 29 => ([], [], some [15, 16, 25, 26, 27, 28, 29, 30, 31, 147, 148, 154])
  | 30 => ([], [], some [15, 16, 25, 26, 27, 28, 29, 30, 31, 147, 148])
  | 31 => ([], [], some [15, 16, 25, 26, 27, 28, 29, 30, 147, 148, 160])
  | 32 => ([], [], some [15, 16, 25, 26, 27, 28, 29, 30, 147, 148])
  | 33 => ([], [], some [15, 16, 25, 26, 27, 28, 29, 30, 147, 148])
  | 34 => ([], [], some [15, 16, 25, 27, 181])
  | 35 => ([], [], some [8])
  | 36 => ([], [], some [15, 16, 27, 182, 183, 184])
  | 37 => ([], [], some [15, 16, 27, 182, 183, 184, 185])
  | 38 => ([], [], some [15, 16, 27, 33, 182, 183, 184])
  | 39 => ([], [], some [15, 16, 27, 182, 183, 184, 192])
  | 40 => ([], [], some [8])
  | 41 => ([], [], some [15, 16, 27, 182, 183, 184])
  | 42 => ([], [], some [16, 194, 195, 196])
  | 43 => ([], [], some [16, 194, 195, 196, 197])
  | 44 => ([], [], some [16, 35, 194, 195, 196])
  | 45 => ([], [], some [16, 194, 195, 196, 204])
  | 46 => ([], [], some [8])
  | 47 => ([], [], some [16, 194, 195, 196])
  | 48 => ([], [], some [8])
  | _ => ([], [], none)
theorem b8 {ags : List AV} {row : Option (List DV)} {r : AV} {row' nw : Option (List DV)} (hal : ags.length ≤ 206) (hrow : row'.isSome = true → row.isSome = true) (h : xwp Try.prog x8 (retK [.tmp 8] row.isSome r row' nw) (St.init ags row)) : Good Try.prog 8 ags row r row' nw :=
  good_of_body' (md := md8) (od := od8) Try.f8 (by kernel_rfl) (by kernel_rfl) (by kernel_rfl) (by kernel_rfl) (by kernel_rfl) hal hrow h

set_option maxRecDepth 100000
set_option maxHeartbeats 4000000
attribute [local irreducible] W E R KP thenK blockK retK Good xwp aRun
end Go.Sv
namespace Go.Sv
open Go
set_option linter.unusedVariables false
end Go.Sv
namespace Go.Sv
open Go
end Go.Sv
namespace Go.Sv
open Go
set_option linter.unusedVariables false
theorem listTo_mono {a b c d a' b' c' d' : Int} (h : ∀ y, inG a b c d y = true → inG a' b' c' d' y = true) : ∀ m, (listTo a b c d m).length ≤ (listTo a' b' c' d' m).length
  | 0 => by simp [listTo]
  | m + 1 => by
    have ih := listTo_mono h m
    rw [listTo, listTo]
    by_cases h1 : inG a b c d m = true
    · rw [if_pos h1, if_pos (h m h1)]
      simp only [List.length_append, List.length_singleton]; omega
    · rw [if_neg h1]
      split
      · simp only [List.length_append, List.length_singleton]; omega
      · exact ih
theorem orW_0l {a : Int} (h : okW a) : orW 0 a = a := by
  obtain ⟨m, rfl, hm⟩ := okW_nat h
  have := orW_nat (a := 0) (b := m) (by omega) hm
  simpa using this
theorem kn_alt2 {t u : T} : knT (.node 4 0 0 0 0 0 0 [t, u]) = faOr (knT t) (knT u) := by
  rw [knT, if_neg (by omega), if_neg (by omega), if_pos rfl]
  simp only [knO]
  congr 1
theorem kn_cat2 {t u : T} (ht : okT t) : knT (.node 3 0 0 0 0 0 0 [t, u]) = faThen (knT t) (knT u) := by
  rw [knT, if_neg (by omega), if_pos rfl]
  simp only [knC]
  congr 1
  obtain ⟨⟨ha, hb, hc, hd⟩, h1, h2, _⟩ := kn_ok t ht
  generalize knT t = f at *
  obtain ⟨fn, fl, fh, fa, fb, fc, fd⟩ := f
  cases fn with
  | true => rw [h1 rfl]; rfl
  | false =>
    have h2 := h2 rfl
    dsimp only at ha hb hc hd h2
    unfold faThen
    rw [if_neg (by simp [faE]), if_pos (show faE.lo = 0 from rfl)]
    simp only [faE, orW_0l ha, orW_0l hb, orW_0l hc, orW_0l hd, Int.zero_add, Fa.mk.injEq, and_true, true_and]
    unfold plusH
    split
    · omega
    · omega
def nulA (f : Fa) : Bool := !f.no && decide (f.lo = 0)
theorem orW_0r {a : Int} (h : okW a) : orW a 0 = a := by
  obtain ⟨n, rfl, hn⟩ := okW_nat h
  have := orW_nat hn (show 0 < 2 ^ 64 by omega)
  simpa using this
theorem two_or {f g : Fa} {X Y : Int} (hf : okF f X) (hg : okF g Y) : (faOr f g).a = orW f.a g.a ∧ (faOr f g).b = orW f.b g.b ∧ (faOr f g).c = orW f.c g.c ∧ (faOr f g).d = orW f.d g.d ∧ nulA (faOr f g) = (nulA f || nulA g) := by
  obtain ⟨⟨ha, hb, hc, hd⟩, h1, h2, _⟩ := hf
  obtain ⟨⟨ga, gb, gc, gd⟩, g1, g2, _⟩ := hg
  unfold faOr
  by_cases hn : f.no = true
  · rw [if_pos hn]
    have := h1 hn
    subst this
    exact ⟨(orW_0l ga).symm, (orW_0l gb).symm, (orW_0l gc).symm, (orW_0l gd).symm, by simp [nulA, faNo]⟩
  rw [if_neg hn]
  by_cases hm : g.no = true
  · rw [if_pos hm]
    have := g1 hm
    subst this
    exact ⟨(orW_0r ha).symm, (orW_0r hb).symm, (orW_0r hc).symm, (orW_0r hd).symm, by simp [nulA, faNo]⟩
  rw [if_neg hm]
  have e1 : f.no = false := by simpa using hn
  have e2 : g.no = false := by simpa using hm
  have h2 := h2 e1
  have g2 := g2 e2
  refine ⟨rfl, rfl, rfl, rfl, ?_⟩
  simp only [nulA, e1, e2, Bool.not_false, Bool.true_and]
  rw [Bool.eq_iff_iff]
  simp only [Bool.or_eq_true, decide_eq_true_eq]
  omega
theorem two_then {f g : Fa} {X Y : Int} (hf : okF f X) (hg : okF g Y) : nulA (faThen f g) = (nulA f && nulA g) ∧
    ((f.no = true ∨ g.no = true) → (faThen f g).a = 0 ∧ (faThen f g).b = 0 ∧ (faThen f g).c = 0 ∧ (faThen f g).d = 0) ∧
    (f.no = false → g.no = false → f.lo = 0 → (faThen f g).a = orW f.a g.a ∧ (faThen f g).b = orW f.b g.b ∧ (faThen f g).c = orW f.c g.c ∧ (faThen f g).d = orW f.d g.d) ∧
    (f.no = false → g.no = false → ¬ f.lo = 0 → (faThen f g).a = f.a ∧ (faThen f g).b = f.b ∧ (faThen f g).c = f.c ∧ (faThen f g).d = f.d) := by
  obtain ⟨_, h1, h2, _⟩ := hf
  obtain ⟨_, g1, g2, _⟩ := hg
  unfold faThen
  refine ⟨?_, fun h => ?_, fun h3 h4 h5 => ?_, fun h3 h4 h5 => ?_⟩
  · by_cases hn : f.no = true ∨ g.no = true
    · rw [if_pos hn]
      rcases hn with hn | hn <;> simp [nulA, faNo, hn]
    · rw [if_neg hn]
      have e1 : f.no = false := by cases h : f.no <;> simp_all
      have e2 : g.no = false := by cases h : g.no <;> simp_all
      have h2 := h2 e1
      have g2 := g2 e2
      split
      · simp only [nulA, e1, e2, Bool.not_false, Bool.true_and]
        rw [Bool.eq_iff_iff]
        simp only [Bool.and_eq_true, decide_eq_true_eq]
        omega
      · simp only [nulA, e1, e2, Bool.not_false, Bool.true_and]
        rw [Bool.eq_iff_iff]
        simp only [Bool.and_eq_true, decide_eq_true_eq]
        omega
  · rw [if_pos h]; exact ⟨rfl, rfl, rfl, rfl⟩
  · rw [if_neg (by simp [h3, h4]), if_pos h5]; exact ⟨rfl, rfl, rfl, rfl⟩
  · rw [if_neg (by simp [h3, h4]), if_neg h5]; exact ⟨rfl, rfl, rfl, rfl⟩
end Go.Sv
