/- A part of the proof of the law SimplifyKeeps: that it answers true for every input, and that the input reads behind the call as before (no condition). -/
import Derived.Test.YtcnlgmajkclgjaaSimplifyKeepsG5
set_option linter.all false
set_option linter.unusedSectionVars false
set_option linter.unusedVariables false
set_option linter.unusedSimpArgs false
namespace Go.Sv
open Go Go.Proofs
def x143 : XC := (.seq (.ops 2 [
    (0, ⟨(some 1), none, .box (.t 0)⟩),
    (1, ⟨(some 2), none, .alloc [(.int .u64 0), (.int .u64 0), (.int .u64 0), (.int .u64 0)]⟩)] (some [1, 2])) (.seq (.ops 1 [
    (0, ⟨(some 3), none, .mv (.k (.d (.val (.slice none 0 0))))⟩)] (some [1, 2, 3])) (.seq (.seq (.ops 1 [
    (0, ⟨(some 4), none, .mv (.k (.d (.val (.int .i64 0))))⟩)] (some [1, 2, 3, 4])) (.block 0 (.loop (.seq (.seq (.ops 2 [
    (0, ⟨(some 5), none, .mv (.t 4)⟩),
    (1, ⟨(some 6), none, .arith .lss (.t 5) (.k (.d (.val (.int .i64 256))))⟩)] (some [1, 2, 3, 4, 6])) (.cond (.t 6) .skip (.exit 0))) (.seq (.block 1 (.seq (.ops 4 [
    (0, ⟨(some 9), none, .load (some 4) (.t 1)⟩),
    (1, ⟨(some 10), none, .mv (.t 4)⟩),
    (2, ⟨(some 11), none, .call 124 [(.t 9), (.t 10)] none false⟩),
    (3, ⟨(some 12), none, .un .not (.t 11)⟩)] (some [1, 2, 3, 4, 12])) (.cond (.t 12) (.ops 5 [
    (0, ⟨(some 13), none, .mv (.t 3)⟩),
    (1, ⟨(some 14), none, .mv (.t 4)⟩),
    (2, ⟨(some 15), none, .mkrow [(.int .i64 0)] 1 1 [(0, 1, (.t 14))]⟩),
    (3, ⟨(some 16), none, .app [(.int .i64 0)] 8 (.t 13) (.t 15)⟩),
    (4, ⟨(some 3), none, .mv (.t 16)⟩)] (some [1, 2, 3, 4])) .skip))) (.ops 3 [
    (0, ⟨(some 7), none, .mv (.t 4)⟩),
    (1, ⟨(some 8), none, .arith .add (.t 7) (.k (.d (.val (.int .i64 1))))⟩),
    (2, ⟨(some 4), none, .mv (.t 8)⟩)] (some [1, 2, 3, 4]))))))) (.seq (.ops 3 [
    (0, ⟨(some 17), none, .mv (.t 3)⟩),
    (1, ⟨(some 18), none, .call 99 [(.t 17)] none false⟩),
    (2, ⟨none, none, .store 4 (.t 2) (.t 18)⟩)] (some [2])) .ret))))
def md143 : FuncId → Option Nat × Bool
  | _ => (none, false)
def od143 : Nat → List (List Nat) × List Nat × Option (List Nat)
  | 0 => ([], [], some [1, 2])
  | 1 => ([], [], some [1, 2, 3])
  | 2 => ([], [], some [1, 2, 3, 4])
  | 3 => ([], [], some [1, 2, 3, 4, 6])
  | 4 => ([], [], some [1, 2, 3, 4])
  | 5 => ([], [], some [1, 2, 3, 4, 12])
  | 6 => ([], [], some [1, 2, 3, 4])
  | 7 => ([], [], some [2])
  | _ => ([], [], none)
theorem b143 {ags : List AV} {row : Option (List DV)} {r : AV} {row' nw : Option (List DV)} (hal : ags.length ≤ 19) (hrow : row'.isSome = true → row.isSome = true) (h : xwp Try.prog x143 (retK [.cell 2 (some 4)] row.isSome r row' nw) (St.init ags row)) : Good Try.prog 143 ags row r row' nw :=
  good_of_body' (md := md143) (od := od143) Try.f143 (by kernel_rfl) (by kernel_rfl) (by kernel_rfl) (by kernel_rfl) (by kernel_rfl) hal hrow h

def x100 : XC := (.seq (.ops 2 [
    (0, ⟨(some 1), none, .box (.t 0)⟩),
    (1, ⟨(some 2), none, .mv (.k (.d (.val (.string ⟨#[]⟩))))⟩)] (some [1])) (.seq (.ops 3 [
    (0, ⟨(some 4), none, .load (some 4) (.t 1)⟩),
    (1, ⟨(some 5), none, .call 74 [(.t 4)] none false⟩),
    (2, ⟨(some 3), none, .mv (.t 5)⟩)] (some [1, 3])) (.seq (.seq (.ops 3 [
    (0, ⟨(some 6), none, .mv (.t 3)⟩),
    (1, ⟨(some 7), none, .lenS (.t 6)⟩),
    (2, ⟨(some 8), none, .arith .eql (.t 7) (.k (.d (.val (.int .i64 256))))⟩)] (some [1, 3, 8])) (.cond (.t 8) (.seq (.ops 1 [
    (0, ⟨(some 2), none, .mv (.k (.d (.val (.string ⟨#[46]⟩))))⟩)] (some [2])) .ret) .skip)) (.seq (.seq (.ops 3 [
    (0, ⟨(some 9), none, .mv (.t 3)⟩),
    (1, ⟨(some 10), none, .lenS (.t 9)⟩),
    (2, ⟨(some 11), none, .arith .eql (.t 10) (.k (.d (.val (.int .i64 1))))⟩)] (some [1, 3, 11])) (.cond (.t 11) (.seq (.ops 5 [
    (0, ⟨(some 12), none, .mv (.t 3)⟩),
    (1, ⟨(some 13), none, .idxS 1 (.t 12) (.k (.d (.val (.int .i64 0))))⟩),
    (2, ⟨(some 14), none, .load none (.t 13)⟩),
    (3, ⟨(some 15), none, .call 141 [(.t 14)] none false⟩),
    (4, ⟨(some 2), none, .mv (.t 15)⟩)] (some [2])) .ret) .skip)) (.seq (.seq (.ops 3 [
    (0, ⟨(some 16), none, .mv (.t 3)⟩),
    (1, ⟨(some 17), none, .lenS (.t 16)⟩),
    (2, ⟨(some 18), none, .arith .leq (.t 17) (.k (.d (.val (.int .i64 128))))⟩)] (some [1, 18])) (.cond (.t 18) (.seq (.ops 5 [
    (0, ⟨(some 19), none, .load (some 4) (.t 1)⟩),
    (1, ⟨(some 20), none, .call 142 [(.t 19)] none false⟩),
    (2, ⟨(some 21), none, .arith .add (.k (.d (.val (.string ⟨#[91]⟩)))) (.t 20)⟩),
    (3, ⟨(some 22), none, .arith .add (.t 21) (.k (.d (.val (.string ⟨#[93]⟩))))⟩),
    (4, ⟨(some 2), none, .mv (.t 22)⟩)] (some [2])) .ret) .skip)) (.seq (.ops 6 [
    (0, ⟨(some 23), none, .load (some 4) (.t 1)⟩),
    (1, ⟨(some 24), none, .call 143 [(.t 23)] none false⟩),
    (2, ⟨(some 25), none, .call 142 [(.t 24)] none false⟩),
    (3, ⟨(some 26), none, .arith .add (.k (.d (.val (.string ⟨#[91, 94]⟩)))) (.t 25)⟩),
    (4, ⟨(some 27), none, .arith .add (.t 26) (.k (.d (.val (.string ⟨#[93]⟩))))⟩),
    (5, ⟨(some 2), none, .mv (.t 27)⟩)] (some [2])) .ret))))))
def md100 : FuncId → Option Nat × Bool
  | _ => (none, false)
def od100 : Nat → List (List Nat) × List Nat × Option (List Nat)
  | 0 => ([], [], some [1])
  | 1 => ([], [], some [1, 3])
  | 2 => ([], [], some [1, 3, 8])
  | 3 => ([], [], some [2])
  | 4 => ([], [], some [1, 3, 11])
  | 5 => ([], [], some [2])
  | 6 => ([], [], some [1, 18])
  | 7 => ([], [], some [2])
  | 8 => ([], [], some [2])
  | _ => ([], [], none)
theorem b100 {ags : List AV} {row : Option (List DV)} {r : AV} {row' nw : Option (List DV)} (hal : ags.length ≤ 28) (hrow : row'.isSome = true → row.isSome = true) (h : xwp Try.prog x100 (retK [.tmp 2] row.isSome r row' nw) (St.init ags row)) : Good Try.prog 100 ags row r row' nw :=
  good_of_body' (md := md100) (od := od100) Try.f100 (by kernel_rfl) (by kernel_rfl) (by kernel_rfl) (by kernel_rfl) (by kernel_rfl) hal hrow h

def notTo (g : Nat → Bool) (m : Nat) : List Nat := (List.range m).filter fun x => !g x
theorem notTo_lt (g : Nat → Bool) (m : Nat) : ∀ x ∈ notTo g m, x < m := fun x hx => by
  have := (List.mem_filter.1 hx).1
  simpa using this
theorem notTo_len (g : Nat → Bool) (m : Nat) : (notTo g m).length ≤ m := by
  have := List.length_filter_le (fun x => !g x) (List.range m)
  simpa [notTo] using this
theorem notTo_succ (g : Nat → Bool) (m : Nat) : notTo g (m + 1) = if g m = true then notTo g m else notTo g m ++ [m] := by
  unfold notTo
  rw [List.range_succ, List.filter_append]
  cases h : g m <;> simp [h]
set_option maxRecDepth 100000
set_option maxHeartbeats 4000000
attribute [local irreducible] W E R KP thenK blockK retK Good xwp aRun
theorem not143_good {a b c d : Int} (ha : okW a) (hb : okW b) (hc : okW c) (hd : okW d) : Good Try.prog 143 [setA a b c d] none (.agg (encW (setWs (notTo (inG a b c d) 256)))) none none := by
  unfold setA
  refine b143 (by simp) (by simp) (w_init ?_)
  unfold x143
  repeat' (first
    | (apply r_mvV; rfl)
    | (apply r_mvP; rfl)
    | (apply r_mvPL; rfl)
    | (apply r_mvS; rfl)
    | (apply r_mvSL; rfl)
    | (apply r_mvA; rfl)
    | (apply r_mvT; rfl)
    | (apply r_mvF; rfl)
    | (apply r_mvD; rfl)
    | (apply r_ldL; rfl; rfl; rfl)
    | (apply r_lss; rfl; rfl; (first | (apply decide_eq_true; omega) | (apply decide_eq_false; omega) | rfl))
    | (apply r_add; rfl; rfl; rfl; omega)
    | (apply r_not; rfl; rfl)
    | (apply r_alloc; ((conv => lhs; simp only [Nat.reduceAdd]) <;> rfl); rfl)
    | (apply r_box; ((conv => lhs; simp only [Nat.reduceAdd]) <;> rfl); rfl; rfl; rfl)
    | (apply r_stL; rfl; rfl; rfl; rfl; (first | rfl | (simp only [z_nil, z_add] <;> rfl)); rfl; rfl)
    | (apply r_nilK)
    | (apply r_nil)
    | (apply k_V; rfl)
    | (apply k_P; rfl)
    | (apply k_PL; rfl)
    | (apply k_S; rfl)
    | (apply k_SL; rfl)
    | (apply k_A; rfl)
    | (apply k_T; rfl)
    | (apply k_F; rfl)
    | (apply k_D; rfl; rotate_left; rfl)
    | (apply k_nil)
    | (apply e_ret (vs := [.d (.val _)]); rfl)
    | (apply e_ret; rfl)
    | (apply e_ret' (vs := [.d (.val _)]); rfl)
    | (apply e_ret'; rfl)
    | (apply w_seq)
    | (apply w_ops; ((conv => lhs; simp only [Nat.reduceAdd]) <;> rfl))
    | (apply w_condT; rfl)
    | (apply w_condF; rfl)
    | ((apply w_condS; rfl) <;> (intro h; try simp only [decide_eq_true_eq, decide_eq_false_iff_not, Bool.not_eq_true, Bool.not_eq_false] at h))
    | (apply e_thenN)
    | (apply w_block)
    | (apply e_thenR)
    | (apply e_thenX)
    | (apply e_blkN)
    | (apply e_blkR)
    | (apply e_blkE)
    | (apply w_exit)
    | (apply w_ret)
    | (apply w_skip)
    | (apply e_blkE'; rfl))
  apply w_loopI (S := fun i : Nat => ⟨(((Fr.nil.put 1 (.ptrL 1 0)).put 2 (.ptrL 2 0)).put 3 (.slL 50 0 (notTo (inG a b c d) i).length 1)).put 4 (.i i), rowsOf [(1, [.d (.val (.int .u64 a)), .d (.val (.int .u64 b)), .d (.val (.int .u64 c)), .d (.val (.int .u64 d))]), (2, [.d (.val (.int .u64 0)), .d (.val (.int .u64 0)), .d (.val (.int .u64 0)), .d (.val (.int .u64 0))]), (50, (encI (encJ (notTo (inG a b c d) i))).map AV.d)], Frz.buts 100 [2, 50], 100⟩) (m := fun i => 256 - i) (I := fun i => i ≤ 256) (i0 := 0)
  · exact Nat.zero_le _
  · refine wkM [] [50] rfl ?_ ?_ rfl ?_
    · intro p hp
      simp only [List.mem_cons, List.not_mem_nil, or_false] at hp
      rcases hp with rfl | rfl | rfl
      · exact ⟨by omega, .inr ⟨rfl, _, rfl, .data rfl⟩⟩
      · exact ⟨by omega, .inr ⟨rfl, _, rfl, .data rfl⟩⟩
      · exact ⟨by omega, .inl ⟨rfl, rfl⟩⟩
    · intro q hq; simp only [List.mem_cons, List.not_mem_nil, or_false] at hq; rcases hq with rfl | rfl <;> rfl
    · repeat' (first
    | exact FWk.nil
    | (apply FWk.i; rfl; (first | rfl | omega | (simp; done)))
    | (apply FWk.sl; rfl; rfl; rfl; rfl; omega; rfl)
    | (apply FWk.ptr; rfl; rfl; rfl; omega; rfl)
    | (apply FWk.d; rfl; rfl)
    | (apply FWk.a; rfl; rfl; rfl)
    | (apply FWk.slN; rfl; omega; rfl))
  intro i K hi hK
  dsimp only
  rcases Nat.lt_or_ge i 256 with hlt | hge
  · have hh := has124_good ha hb hc hd i hlt
    unfold setA at hh
    have hidx := notTo_len (inG a b c d) i
    have e := notTo_succ (inG a b c d) i
    rcases Bool.eq_false_or_eq_true (inG a b c d i) with hq | hq
    · rw [hq, if_pos rfl] at e
      rw [hq] at hh
      repeat' (first
    | (apply r_mvV; rfl)
    | (apply r_mvP; rfl)
    | (apply r_mvPL; rfl)
    | (apply r_mvS; rfl)
    | (apply r_mvSL; rfl)
    | (apply r_mvA; rfl)
    | (apply r_mvT; rfl)
    | (apply r_mvF; rfl)
    | (apply r_mvD; rfl)
    | (apply r_ldL (v := .agg [.d (.val (.int .u64 a)), .d (.val (.int .u64 b)), .d (.val (.int .u64 c)), .d (.val (.int .u64 d))]); rfl; rfl; rfl)
    | (apply r_callA; rfl; rfl; exact hh)
    | (apply r_ldL; rfl; rfl; rfl)
    | (apply r_lss; rfl; rfl; (first | (apply decide_eq_true; omega) | (apply decide_eq_false; omega) | rfl))
    | (apply r_add; rfl; rfl; rfl; omega)
    | (apply r_not; rfl; rfl)
    | (apply r_alloc; ((conv => lhs; simp only [Nat.reduceAdd]) <;> rfl); rfl)
    | (apply r_box; ((conv => lhs; simp only [Nat.reduceAdd]) <;> rfl); rfl; rfl; rfl)
    | (apply r_stL; rfl; rfl; rfl; rfl; (first | rfl | (simp only [z_nil, z_add] <;> rfl)); rfl; rfl)
    | (apply r_nilK)
    | (apply r_nil)
    | (apply k_V; rfl)
    | (apply k_P; rfl)
    | (apply k_PL; rfl)
    | (apply k_S; rfl)
    | (apply k_SL; rfl)
    | (apply k_A; rfl)
    | (apply k_T; rfl)
    | (apply k_F; rfl)
    | (apply k_D; rfl; rotate_left; rfl)
    | (apply k_nil)
    | (apply e_ret (vs := [.d (.val _)]); rfl)
    | (apply e_ret; rfl)
    | (apply e_ret' (vs := [.d (.val _)]); rfl)
    | (apply e_ret'; rfl)
    | (apply w_seq)
    | (apply w_ops; ((conv => lhs; simp only [Nat.reduceAdd]) <;> rfl))
    | (apply w_condT; rfl)
    | (apply w_condF; rfl)
    | ((apply w_condS; rfl) <;> (intro h; try simp only [decide_eq_true_eq, decide_eq_false_iff_not, Bool.not_eq_true, Bool.not_eq_false] at h))
    | (apply e_thenN)
    | (apply w_block)
    | (apply e_thenR)
    | (apply e_thenX)
    | (apply e_blkN)
    | (apply e_blkR)
    | (apply e_blkE)
    | (apply w_exit)
    | (apply w_ret)
    | (apply w_skip)
    | (apply e_blkE'; rfl))
      apply e_thenK
      apply hK (i + 1)
      · omega
      · omega
      · rw [e]
        refine wkM [] [] rfl ?_ ?_ rfl ?_
        · intro p hp
          simp only [List.mem_cons, List.not_mem_nil, or_false] at hp
          rcases hp with rfl | rfl | rfl
          · exact ⟨by omega, .inr ⟨rfl, _, rfl, .data rfl⟩⟩
          · exact ⟨by omega, .inr ⟨rfl, _, rfl, .data rfl⟩⟩
          · exact ⟨by omega, .inr ⟨rfl, _, rfl, .data (by simp [encI, AV.isD])⟩⟩
        · intro q hq; simp only [List.mem_cons, List.not_mem_nil, or_false] at hq; rcases hq with rfl | rfl <;> rfl
        · repeat' (first
    | exact FWk.nil
    | (apply FWk.i; rfl; (first | rfl | omega | (simp; done)))
    | (apply FWk.sl; rfl; rfl; rfl; rfl; omega; rfl)
    | (apply FWk.ptr; rfl; rfl; rfl; omega; rfl)
    | (apply FWk.d; rfl; rfl)
    | (apply FWk.a; rfl; rfl; rfl)
    | (apply FWk.slN; rfl; omega; rfl))
    · rw [hq, if_neg (by simp)] at e
      rw [hq] at hh
      repeat' (first
    | (apply r_mvV; rfl)
    | (apply r_mvP; rfl)
    | (apply r_mvPL; rfl)
    | (apply r_mvS; rfl)
    | (apply r_mvSL; rfl)
    | (apply r_mvA; rfl)
    | (apply r_mvT; rfl)
    | (apply r_mvF; rfl)
    | (apply r_mvD; rfl)
    | (apply r_ldL (v := .agg [.d (.val (.int .u64 a)), .d (.val (.int .u64 b)), .d (.val (.int .u64 c)), .d (.val (.int .u64 d))]); rfl; rfl; rfl)
    | (apply r_callA; rfl; rfl; exact hh)
    | (apply r_mkrow1; rfl; ((conv => lhs; simp only [Nat.reduceAdd]) <;> rfl))
    | (apply r_app1 (li := encJ (notTo (inG a b c d) i)); rfl; rfl; rfl; rfl; rfl; ((conv => lhs; simp only [Nat.reduceAdd]) <;> rfl); exact encJ_len _; omega)
    | (apply r_ldL; rfl; rfl; rfl)
    | (apply r_lss; rfl; rfl; (first | (apply decide_eq_true; omega) | (apply decide_eq_false; omega) | rfl))
    | (apply r_add; rfl; rfl; rfl; omega)
    | (apply r_not; rfl; rfl)
    | (apply r_alloc; ((conv => lhs; simp only [Nat.reduceAdd]) <;> rfl); rfl)
    | (apply r_box; ((conv => lhs; simp only [Nat.reduceAdd]) <;> rfl); rfl; rfl; rfl)
    | (apply r_stL; rfl; rfl; rfl; rfl; (first | rfl | (simp only [z_nil, z_add] <;> rfl)); rfl; rfl)
    | (apply r_nilK)
    | (apply r_nil)
    | (apply k_V; rfl)
    | (apply k_P; rfl)
    | (apply k_PL; rfl)
    | (apply k_S; rfl)
    | (apply k_SL; rfl)
    | (apply k_A; rfl)
    | (apply k_T; rfl)
    | (apply k_F; rfl)
    | (apply k_D; rfl; rotate_left; rfl)
    | (apply k_nil)
    | (apply e_ret (vs := [.d (.val _)]); rfl)
    | (apply e_ret; rfl)
    | (apply e_ret' (vs := [.d (.val _)]); rfl)
    | (apply e_ret'; rfl)
    | (apply w_seq)
    | (apply w_ops; ((conv => lhs; simp only [Nat.reduceAdd]) <;> rfl))
    | (apply w_condT; rfl)
    | (apply w_condF; rfl)
    | ((apply w_condS; rfl) <;> (intro h; try simp only [decide_eq_true_eq, decide_eq_false_iff_not, Bool.not_eq_true, Bool.not_eq_false] at h))
    | (apply e_thenN)
    | (apply w_block)
    | (apply e_thenR)
    | (apply e_thenX)
    | (apply e_blkN)
    | (apply e_blkR)
    | (apply e_blkE)
    | (apply w_exit)
    | (apply w_ret)
    | (apply w_skip)
    | (apply e_blkE'; rfl))
      apply e_thenK
      apply hK (i + 1)
      · omega
      · omega
      · rw [e]
        refine wkM [(50, 109)] [] rfl ?_ ?_ rfl ?_
        · intro p hp
          simp only [List.mem_cons, List.not_mem_nil, or_false] at hp
          rcases hp with rfl | rfl | rfl
          · exact ⟨by omega, .inr ⟨rfl, _, rfl, .data rfl⟩⟩
          · exact ⟨by omega, .inr ⟨rfl, _, rfl, .data rfl⟩⟩
          · refine ⟨by omega, .inr ⟨rfl, _, ?_, .data (by simp [encI, AV.isD])⟩⟩
            rw [encJ_app]; rfl
        · intro q hq; simp only [List.mem_cons, List.not_mem_nil, or_false] at hq; rcases hq with rfl | rfl <;> rfl
        · rw [List.length_append, List.length_singleton]
          repeat' (first
    | exact FWk.nil
    | (apply FWk.i; rfl; (first | rfl | omega | (simp; done)))
    | (apply FWk.sl; rfl; rfl; rfl; rfl; omega; rfl)
    | (apply FWk.ptr; rfl; rfl; rfl; omega; rfl)
    | (apply FWk.d; rfl; rfl)
    | (apply FWk.a; rfl; rfl; rfl)
    | (apply FWk.slN; rfl; omega; rfl))
  · have ei : i = 256 := by omega
    subst ei
    have hll := notTo_len (inG a b c d) 256
    have hlt2 := notTo_lt (inG a b c d) 256
    clear hK hi hge
    generalize notTo (inG a b c d) 256 = ll at hll hlt2 ⊢
    have h99 := set99_good ll hlt2 (by omega)
    obtain ⟨hok, _⟩ := setWs_ok hlt2
    generalize setWs ll = ws at hok h99 ⊢
    match ws, hok.1 with
    | [w0, w1, w2, w3], _ =>
    repeat' (first
    | (apply r_mvV; rfl)
    | (apply r_mvP; rfl)
    | (apply r_mvPL; rfl)
    | (apply r_mvS; rfl)
    | (apply r_mvSL; rfl)
    | (apply r_mvA; rfl)
    | (apply r_mvT; rfl)
    | (apply r_mvF; rfl)
    | (apply r_mvD; rfl)
    | (apply r_callLI (b := 50) (L := encJ ll) (us := []); rfl; rfl; exact encJ_len _; exact h99; rfl)
    | (apply r_ldL; rfl; rfl; rfl)
    | (apply r_lss; rfl; rfl; (first | (apply decide_eq_true; omega) | (apply decide_eq_false; omega) | rfl))
    | (apply r_add; rfl; rfl; rfl; omega)
    | (apply r_not; rfl; rfl)
    | (apply r_alloc; ((conv => lhs; simp only [Nat.reduceAdd]) <;> rfl); rfl)
    | (apply r_box; ((conv => lhs; simp only [Nat.reduceAdd]) <;> rfl); rfl; rfl; rfl)
    | (apply r_stL; rfl; rfl; rfl; rfl; (first | rfl | (simp only [z_nil, z_add] <;> rfl)); rfl; rfl)
    | (apply r_nilK)
    | (apply r_nil)
    | (apply k_V; rfl)
    | (apply k_P; rfl)
    | (apply k_PL; rfl)
    | (apply k_S; rfl)
    | (apply k_SL; rfl)
    | (apply k_A; rfl)
    | (apply k_T; rfl)
    | (apply k_F; rfl)
    | (apply k_D; rfl; rotate_left; rfl)
    | (apply k_nil)
    | (apply e_ret (vs := [.d (.val _)]); rfl)
    | (apply e_ret; rfl)
    | (apply e_ret' (vs := [.d (.val _)]); rfl)
    | (apply e_ret'; rfl)
    | (apply w_seq)
    | (apply w_ops; ((conv => lhs; simp only [Nat.reduceAdd]) <;> rfl))
    | (apply w_condT; rfl)
    | (apply w_condF; rfl)
    | ((apply w_condS; rfl) <;> (intro h; try simp only [decide_eq_true_eq, decide_eq_false_iff_not, Bool.not_eq_true, Bool.not_eq_false] at h))
    | (apply e_thenN)
    | (apply w_block)
    | (apply e_thenR)
    | (apply e_thenX)
    | (apply e_blkN)
    | (apply e_blkR)
    | (apply e_blkE)
    | (apply w_exit)
    | (apply w_ret)
    | (apply w_skip)
    | (apply e_blkE'; rfl))
    exact .data _ rfl
theorem ins_size (g : Nat → Bool) : (insS (rngTo g 256)).size ≤ 8448 := by
  have h := ins_len (rngTo g 256) ⟨#[]⟩ (rng_lt g 256)
  have h2 := rng_len g 256
  have e0 : (⟨#[]⟩ : ByteArray).size = 0 := rfl
  rw [e0] at h
  unfold insS
  omega
theorem set100_good {a b c d : Int} (ha : okW a) (hb : okW b) (hc : okW c) (hd : okW d) : ∃ s : ByteArray, s.size ≤ 9000 ∧ Good Try.prog 100 [setA a b c d] none (.d (.val (.string s))) none none := by
  have z1 : (⟨#[91]⟩ : ByteArray).size = 1 := rfl
  have z2 : (⟨#[93]⟩ : ByteArray).size = 1 := rfl
  have z3 : (⟨#[91, 94]⟩ : ByteArray).size = 2 := rfl
  have h74 := list74_good ha hb hc hd
  have h142 := ins142_good ha hb hc hd
  have h143 := not143_good ha hb hc hd
  have hi1 := ins_size (inG a b c d)
  have hll := listTo_len a b c d 256
  have hlt : ∀ x ∈ listTo a b c d 256, x < 256 := fun x hx => ((mem_listTo a b c d x 256).1 hx).1
  have hlt2 := notTo_lt (inG a b c d) 256
  unfold setA at h74 h142 h143 ⊢
  obtain ⟨hok, _⟩ := setWs_ok hlt2
  generalize setWs (notTo (inG a b c d) 256) = ws at hok h143
  generalize insS (rngTo (inG a b c d) 256) = s1 at h142 hi1
  generalize listTo a b c d 256 = ll at h74 hll hlt
  clear hlt2
  match ws, hok.1 with
  | [w0, w1, w2, w3], _ =>
  have h142n := ins142_good (hok.2 w0 (by simp)) (hok.2 w1 (by simp)) (hok.2 w2 (by simp)) (hok.2 w3 (by simp))
  have hi2 := ins_size (inG w0 w1 w2 w3)
  unfold setA at h142n
  generalize insS (rngTo (inG w0 w1 w2 w3) 256) = s2 at h142n hi2
  clear hok ha hb hc hd
  by_cases c1 : ll.length = 256
  · refine ⟨⟨#[46]⟩, by show 1 ≤ 9000; omega, ?_⟩
    refine b100 (by simp) (by simp) (w_init ?_)
    unfold x100
    repeat' (first
    | (apply r_mvV; rfl)
    | (apply r_mvP; rfl)
    | (apply r_mvPL; rfl)
    | (apply r_mvS; rfl)
    | (apply r_mvSL; rfl)
    | (apply r_mvA; rfl)
    | (apply r_mvT; rfl)
    | (apply r_mvF; rfl)
    | (apply r_mvD; rfl)
    | (apply r_ldL (v := .agg [.d (.val (.int .u64 a)), .d (.val (.int .u64 b)), .d (.val (.int .u64 c)), .d (.val (.int .u64 d))]); rfl; rfl; rfl)
    | (apply r_callA; rfl; rfl; exact h74)
    | (apply r_ldL; rfl; rfl; rfl)
    | (apply r_eql; rfl; rfl; (first | (apply decide_eq_true; omega) | (apply decide_eq_false; omega) | rfl))
    | (apply r_leq; rfl; rfl; (first | (apply decide_eq_true; omega) | (apply decide_eq_false; omega) | rfl))
    | (apply r_add; rfl; rfl; rfl; omega)
    | (apply r_lenD; rfl)
    | (apply r_lenL; rfl)
    | (apply r_len0; rfl)
    | (apply r_box; ((conv => lhs; simp only [Nat.reduceAdd]) <;> rfl); rfl; rfl; rfl)
    | (apply r_p; rfl)
    | (apply r_nilK)
    | (apply r_nil)
    | (apply k_V; rfl)
    | (apply k_P; rfl)
    | (apply k_PL; rfl)
    | (apply k_S; rfl)
    | (apply k_SL; rfl)
    | (apply k_A; rfl)
    | (apply k_T; rfl)
    | (apply k_F; rfl)
    | (apply k_D; rfl; rotate_left; rfl)
    | (apply k_nil)
    | (apply e_ret (vs := [.d (.val _)]); rfl)
    | (apply e_ret; rfl)
    | (apply e_ret' (vs := [.d (.val _)]); rfl)
    | (apply e_ret'; rfl)
    | (apply w_seq)
    | (apply w_ops; ((conv => lhs; simp only [Nat.reduceAdd]) <;> rfl))
    | (apply w_condT; rfl)
    | (apply w_condF; rfl)
    | ((apply w_condS; rfl) <;> (intro h; try simp only [decide_eq_true_eq, decide_eq_false_iff_not, Bool.not_eq_true, Bool.not_eq_false] at h))
    | (apply e_thenN)
    | (apply w_block)
    | (apply e_thenR)
    | (apply e_thenX)
    | (apply e_blkN)
    | (apply e_blkR)
    | (apply e_blkE)
    | (apply w_exit)
    | (apply w_ret)
    | (apply w_skip)
    | (apply e_blkE'; rfl))
    exact .data _ rfl
  by_cases c2 : ll.length = 1
  · obtain ⟨x, rfl⟩ := List.length_eq_one_iff.1 c2
    have hx := hlt x (by simp)
    have g := esc141 hx
    refine ⟨escS x, by have := esc_len hx; omega, ?_⟩
    refine b100 (by simp) (by simp) (w_init ?_)
    unfold x100
    repeat' (first
    | (apply r_mvV; rfl)
    | (apply r_mvP; rfl)
    | (apply r_mvPL; rfl)
    | (apply r_mvS; rfl)
    | (apply r_mvSL; rfl)
    | (apply r_mvA; rfl)
    | (apply r_mvT; rfl)
    | (apply r_mvF; rfl)
    | (apply r_mvD; rfl)
    | (apply r_ldL (v := .agg [.d (.val (.int .u64 a)), .d (.val (.int .u64 b)), .d (.val (.int .u64 c)), .d (.val (.int .u64 d))]); rfl; rfl; rfl)
    | (apply r_callA; rfl; rfl; exact h74)
    | (apply r_ixI (j := 0); rfl; rfl; rfl; rfl; (simp))
    | (apply r_ldI (v := (x : Int)); rfl; rfl)
    | (apply r_callA; rfl; rfl; exact g)
    | (apply r_ldL; rfl; rfl; rfl)
    | (apply r_eql; rfl; rfl; (first | (apply decide_eq_true; omega) | (apply decide_eq_false; omega) | rfl))
    | (apply r_leq; rfl; rfl; (first | (apply decide_eq_true; omega) | (apply decide_eq_false; omega) | rfl))
    | (apply r_add; rfl; rfl; rfl; omega)
    | (apply r_lenD; rfl)
    | (apply r_lenL; rfl)
    | (apply r_len0; rfl)
    | (apply r_box; ((conv => lhs; simp only [Nat.reduceAdd]) <;> rfl); rfl; rfl; rfl)
    | (apply r_p; rfl)
    | (apply r_nilK)
    | (apply r_nil)
    | (apply k_V; rfl)
    | (apply k_P; rfl)
    | (apply k_PL; rfl)
    | (apply k_S; rfl)
    | (apply k_SL; rfl)
    | (apply k_A; rfl)
    | (apply k_T; rfl)
    | (apply k_F; rfl)
    | (apply k_D; rfl; rotate_left; rfl)
    | (apply k_nil)
    | (apply e_ret (vs := [.d (.val _)]); rfl)
    | (apply e_ret; rfl)
    | (apply e_ret' (vs := [.d (.val _)]); rfl)
    | (apply e_ret'; rfl)
    | (apply w_seq)
    | (apply w_ops; ((conv => lhs; simp only [Nat.reduceAdd]) <;> rfl))
    | (apply w_condT; rfl)
    | (apply w_condF; rfl)
    | ((apply w_condS; rfl) <;> (intro h; try simp only [decide_eq_true_eq, decide_eq_false_iff_not, Bool.not_eq_true, Bool.not_eq_false] at h))
    | (apply e_thenN)
    | (apply w_block)
    | (apply e_thenR)
    | (apply e_thenX)
    | (apply e_blkN)
    | (apply e_blkR)
    | (apply e_blkE)
    | (apply w_exit)
    | (apply w_ret)
    | (apply w_skip)
    | (apply e_blkE'; rfl))
    exact .data _ rfl
  by_cases c3 : ll.length ≤ 128
  · refine ⟨⟨#[91]⟩ ++ s1 ++ ⟨#[93]⟩, by simp only [ByteArray.size_append, z1, z2]; omega, ?_⟩
    refine b100 (by simp) (by simp) (w_init ?_)
    unfold x100
    repeat' (first
    | (apply r_mvV; rfl)
    | (apply r_mvP; rfl)
    | (apply r_mvPL; rfl)
    | (apply r_mvS; rfl)
    | (apply r_mvSL; rfl)
    | (apply r_mvA; rfl)
    | (apply r_mvT; rfl)
    | (apply r_mvF; rfl)
    | (apply r_mvD; rfl)
    | (apply r_ldL (v := .agg [.d (.val (.int .u64 a)), .d (.val (.int .u64 b)), .d (.val (.int .u64 c)), .d (.val (.int .u64 d))]); rfl; rfl; rfl)
    | (apply r_callA; rfl; rfl; exact h74)
    | (apply r_callA; rfl; rfl; exact h142)
    | (apply r_cat; rfl; rfl; rfl; (first | omega | (simp only [ByteArray.size_append, z1, z2, z3]; omega)))
    | (apply r_ldL; rfl; rfl; rfl)
    | (apply r_eql; rfl; rfl; (first | (apply decide_eq_true; omega) | (apply decide_eq_false; omega) | rfl))
    | (apply r_leq; rfl; rfl; (first | (apply decide_eq_true; omega) | (apply decide_eq_false; omega) | rfl))
    | (apply r_add; rfl; rfl; rfl; omega)
    | (apply r_lenD; rfl)
    | (apply r_lenL; rfl)
    | (apply r_len0; rfl)
    | (apply r_box; ((conv => lhs; simp only [Nat.reduceAdd]) <;> rfl); rfl; rfl; rfl)
    | (apply r_p; rfl)
    | (apply r_nilK)
    | (apply r_nil)
    | (apply k_V; rfl)
    | (apply k_P; rfl)
    | (apply k_PL; rfl)
    | (apply k_S; rfl)
    | (apply k_SL; rfl)
    | (apply k_A; rfl)
    | (apply k_T; rfl)
    | (apply k_F; rfl)
    | (apply k_D; rfl; rotate_left; rfl)
    | (apply k_nil)
    | (apply e_ret (vs := [.d (.val _)]); rfl)
    | (apply e_ret; rfl)
    | (apply e_ret' (vs := [.d (.val _)]); rfl)
    | (apply e_ret'; rfl)
    | (apply w_seq)
    | (apply w_ops; ((conv => lhs; simp only [Nat.reduceAdd]) <;> rfl))
    | (apply w_condT; rfl)
    | (apply w_condF; rfl)
    | ((apply w_condS; rfl) <;> (intro h; try simp only [decide_eq_true_eq, decide_eq_false_iff_not, Bool.not_eq_true, Bool.not_eq_false] at h))
    | (apply e_thenN)
    | (apply w_block)
    | (apply e_thenR)
    | (apply e_thenX)
    | (apply e_blkN)
    | (apply e_blkR)
    | (apply e_blkE)
    | (apply w_exit)
    | (apply w_ret)
    | (apply w_skip)
    | (apply e_blkE'; rfl))
    exact .data _ rfl
  · refine ⟨⟨#[91, 94]⟩ ++ s2 ++ ⟨#[93]⟩, by simp only [ByteArray.size_append, z3, z2]; omega, ?_⟩
    refine b100 (by simp) (by simp) (w_init ?_)
    unfold x100
    repeat' (first
    | (apply r_mvV; rfl)
    | (apply r_mvP; rfl)
    | (apply r_mvPL; rfl)
    | (apply r_mvS; rfl)
    | (apply r_mvSL; rfl)
    | (apply r_mvA; rfl)
    | (apply r_mvT; rfl)
    | (apply r_mvF; rfl)
    | (apply r_mvD; rfl)
    | (apply r_ldL (v := .agg [.d (.val (.int .u64 a)), .d (.val (.int .u64 b)), .d (.val (.int .u64 c)), .d (.val (.int .u64 d))]); rfl; rfl; rfl)
    | (apply r_callA; rfl; rfl; exact h74)
    | (apply r_callA; rfl; rfl; exact h143)
    | (apply r_callA (ags := [.agg [.d (.val (.int .u64 w0)), .d (.val (.int .u64 w1)), .d (.val (.int .u64 w2)), .d (.val (.int .u64 w3))]]); rfl; rfl; exact h142n)
    | (apply r_cat; rfl; rfl; rfl; (first | omega | (simp only [ByteArray.size_append, z1, z2, z3]; omega)))
    | (apply r_ldL; rfl; rfl; rfl)
    | (apply r_eql; rfl; rfl; (first | (apply decide_eq_true; omega) | (apply decide_eq_false; omega) | rfl))
    | (apply r_leq; rfl; rfl; (first | (apply decide_eq_true; omega) | (apply decide_eq_false; omega) | rfl))
    | (apply r_add; rfl; rfl; rfl; omega)
    | (apply r_lenD; rfl)
    | (apply r_lenL; rfl)
    | (apply r_len0; rfl)
    | (apply r_box; ((conv => lhs; simp only [Nat.reduceAdd]) <;> rfl); rfl; rfl; rfl)
    | (apply r_p; rfl)
    | (apply r_nilK)
    | (apply r_nil)
    | (apply k_V; rfl)
    | (apply k_P; rfl)
    | (apply k_PL; rfl)
    | (apply k_S; rfl)
    | (apply k_SL; rfl)
    | (apply k_A; rfl)
    | (apply k_T; rfl)
    | (apply k_F; rfl)
    | (apply k_D; rfl; rotate_left; rfl)
    | (apply k_nil)
    | (apply e_ret (vs := [.d (.val _)]); rfl)
    | (apply e_ret; rfl)
    | (apply e_ret' (vs := [.d (.val _)]); rfl)
    | (apply e_ret'; rfl)
    | (apply w_seq)
    | (apply w_ops; ((conv => lhs; simp only [Nat.reduceAdd]) <;> rfl))
    | (apply w_condT; rfl)
    | (apply w_condF; rfl)
    | ((apply w_condS; rfl) <;> (intro h; try simp only [decide_eq_true_eq, decide_eq_false_iff_not, Bool.not_eq_true, Bool.not_eq_false] at h))
    | (apply e_thenN)
    | (apply w_block)
    | (apply e_thenR)
    | (apply e_thenX)
    | (apply e_blkN)
    | (apply e_blkR)
    | (apply e_blkE)
    | (apply w_exit)
    | (apply w_ret)
    | (apply w_skip)
    | (apply e_blkE'; rfl))
    exact .data _ rfl
end Go.Sv
namespace Go.Sv
open Go Go.Proofs
def x105 : XC := (.seq (.ops 2 [
    (0, ⟨(some 1), none, .box (.t 0)⟩),
    (1, ⟨(some 2), none, .mv (.k (.d (.val (.bool false))))⟩)] (some [1])) (.seq (.ops 10 [
    (0, ⟨(some 3), none, .fadd 0 (.t 1)⟩),
    (1, ⟨(some 4), none, .load none (.t 3)⟩),
    (2, ⟨(some 5), none, .arith .eql (.t 4) (.k (.d (.val (.int .i64 2))))⟩),
    (3, ⟨(some 6), none, .mv (.t 5)⟩),
    (4, ⟨(some 7), (some (6, true)), .fadd 1 (.t 1)⟩),
    (5, ⟨(some 8), (some (6, true)), .load (some 4) (.t 7)⟩),
    (6, ⟨(some 9), (some (6, true)), .build [(.int .u64 0), (.int .u64 0), (.int .u64 0), (.int .u64 0)] []⟩),
    (7, ⟨(some 10), (some (6, true)), .eqAgg 4 false (.t 8) (.t 9)⟩),
    (8, ⟨(some 11), none, .pick (.t 6) (.t 10) (.k (.d (.val (.bool false))))⟩),
    (9, ⟨(some 2), none, .mv (.t 11)⟩)] (some [2])) .ret))
def md105 : FuncId → Option Nat × Bool
  | _ => (none, false)
def od105 : Nat → List (List Nat) × List Nat × Option (List Nat)
  | 0 => ([], [], some [1])
  | 1 => ([], [], some [2])
  | _ => ([], [], none)
theorem b105 {ags : List AV} {row : Option (List DV)} {r : AV} {row' nw : Option (List DV)} (hal : ags.length ≤ 12) (hrow : row'.isSome = true → row.isSome = true) (h : xwp Try.prog x105 (retK [.tmp 2] row.isSome r row' nw) (St.init ags row)) : Good Try.prog 105 ags row r row' nw :=
  good_of_body' (md := md105) (od := od105) Try.f105 (by kernel_rfl) (by kernel_rfl) (by kernel_rfl) (by kernel_rfl) (by kernel_rfl) hal hrow h

def x108 : XC := (.seq (.ops 2 [
    (0, ⟨(some 1), none, .box (.t 0)⟩),
    (1, ⟨(some 2), none, .mv (.k (.d (.val (.bool false))))⟩)] (some [1])) (.seq (.ops 4 [
    (0, ⟨(some 3), none, .fadd 0 (.t 1)⟩),
    (1, ⟨(some 4), none, .load none (.t 3)⟩),
    (2, ⟨(some 5), none, .arith .eql (.t 4) (.k (.d (.val (.int .i64 1))))⟩),
    (3, ⟨(some 2), none, .mv (.t 5)⟩)] (some [2])) .ret))
def md108 : FuncId → Option Nat × Bool
  | _ => (none, false)
def od108 : Nat → List (List Nat) × List Nat × Option (List Nat)
  | 0 => ([], [], some [1])
  | 1 => ([], [], some [2])
  | _ => ([], [], none)
theorem b108 {ags : List AV} {row : Option (List DV)} {r : AV} {row' nw : Option (List DV)} (hal : ags.length ≤ 6) (hrow : row'.isSome = true → row.isSome = true) (h : xwp Try.prog x108 (retK [.tmp 2] row.isSome r row' nw) (St.init ags row)) : Good Try.prog 108 ags row r row' nw :=
  good_of_body' (md := md108) (od := od108) Try.f108 (by kernel_rfl) (by kernel_rfl) (by kernel_rfl) (by kernel_rfl) (by kernel_rfl) hal hrow h

def x110 : XC := (.seq (.ops 1 [
    (0, ⟨(some 0), none, .alloc [(.int .i64 0), (.int .u64 0), (.int .u64 0), (.int .u64 0), (.int .u64 0), (.int .i64 0), (.int .i64 0), (.slice none 0 0)]⟩)] (some [0])) (.seq (.ops 2 [
    (0, ⟨(some 1), none, .build [(.int .i64 0), (.int .u64 0), (.int .u64 0), (.int .u64 0), (.int .u64 0), (.int .i64 0), (.int .i64 0), (.slice none 0 0)] [(0, 1, (.k (.d (.val (.int .i64 1)))))]⟩),
    (1, ⟨none, none, .store 8 (.t 0) (.t 1)⟩)] (some [0])) .ret))
def md110 : FuncId → Option Nat × Bool
  | _ => (none, false)
def od110 : Nat → List (List Nat) × List Nat × Option (List Nat)
  | 0 => ([], [], some [0])
  | 1 => ([], [], some [0])
  | _ => ([], [], none)
theorem b110 {ags : List AV} {row : Option (List DV)} {r : AV} {row' nw : Option (List DV)} (hal : ags.length ≤ 2) (hrow : row'.isSome = true → row.isSome = true) (h : xwp Try.prog x110 (retK [.cell 0 (some 8)] row.isSome r row' nw) (St.init ags row)) : Good Try.prog 110 ags row r row' nw :=
  good_of_body' (md := md110) (od := od110) Try.f110 (by kernel_rfl) (by kernel_rfl) (by kernel_rfl) (by kernel_rfl) (by kernel_rfl) hal hrow h

def x106 : XC := (.seq (.ops 1 [
    (0, ⟨(some 0), none, .alloc [(.int .i64 0), (.int .u64 0), (.int .u64 0), (.int .u64 0), (.int .u64 0), (.int .i64 0), (.int .i64 0), (.slice none 0 0)]⟩)] (some [0])) (.seq (.ops 2 [
    (0, ⟨(some 1), none, .build [(.int .i64 0), (.int .u64 0), (.int .u64 0), (.int .u64 0), (.int .u64 0), (.int .i64 0), (.int .i64 0), (.slice none 0 0)] [(0, 1, (.k (.d (.val (.int .i64 2)))))]⟩),
    (1, ⟨none, none, .store 8 (.t 0) (.t 1)⟩)] (some [0])) .ret))
def md106 : FuncId → Option Nat × Bool
  | _ => (none, false)
def od106 : Nat → List (List Nat) × List Nat × Option (List Nat)
  | 0 => ([], [], some [0])
  | 1 => ([], [], some [0])
  | _ => ([], [], none)
theorem b106 {ags : List AV} {row : Option (List DV)} {r : AV} {row' nw : Option (List DV)} (hal : ags.length ≤ 2) (hrow : row'.isSome = true → row.isSome = true) (h : xwp Try.prog x106 (retK [.cell 0 (some 8)] row.isSome r row' nw) (St.init ags row)) : Good Try.prog 106 ags row r row' nw :=
  good_of_body' (md := md106) (od := od106) Try.f106 (by kernel_rfl) (by kernel_rfl) (by kernel_rfl) (by kernel_rfl) (by kernel_rfl) hal hrow h

def x109 : XC := (.seq (.ops 2 [
    (0, ⟨(some 5), none, .box (.t 2)⟩),
    (1, ⟨(some 6), none, .alloc [(.int .i64 0), (.int .u64 0), (.int .u64 0), (.int .u64 0), (.int .u64 0), (.int .i64 0), (.int .i64 0), (.slice none 0 0)]⟩)] (some [0, 1, 5, 6])) (.seq (.seq (.ops 2 [
    (0, ⟨(some 7), none, .mv (.t 1)⟩),
    (1, ⟨(some 8), none, .lenS (.t 7)⟩)] (some [0, 1, 5, 6, 8])) (.block 0 (.seq (.ops 2 [
    (0, ⟨(some 10), none, .arith .eql (.t 8) (.k (.d (.val (.int .i64 0))))⟩),
    (1, ⟨(some 9), none, .mv (.t 10)⟩)] (some [0, 1, 5, 6, 8, 9])) (.cond (.t 9) (.seq (.ops 2 [
    (0, ⟨(some 11), none, .load (some 8) (.t 5)⟩),
    (1, ⟨none, none, .store 8 (.t 6) (.t 11)⟩)] (some [6])) .ret) (.seq (.ops 2 [
    (0, ⟨(some 13), none, .arith .eql (.t 8) (.k (.d (.val (.int .i64 1))))⟩),
    (1, ⟨(some 12), none, .mv (.t 13)⟩)] (some [0, 1, 6, 12])) (.cond (.t 12) (.seq (.ops 4 [
    (0, ⟨(some 14), none, .mv (.t 1)⟩),
    (1, ⟨(some 15), none, .idxS 8 (.t 14) (.k (.d (.val (.int .i64 0))))⟩),
    (2, ⟨(some 16), none, .load (some 8) (.t 15)⟩),
    (3, ⟨none, none, .store 8 (.t 6) (.t 16)⟩)] (some [6])) .ret) .skip)))))) (.seq (.ops 4 [
    (0, ⟨(some 17), none, .mv (.t 0)⟩),
    (1, ⟨(some 18), none, .mv (.t 1)⟩),
    (2, ⟨(some 19), none, .build [(.int .i64 0), (.int .u64 0), (.int .u64 0), (.int .u64 0), (.int .u64 0), (.int .i64 0), (.int .i64 0), (.slice none 0 0)] [(0, 1, (.t 17)), (7, 1, (.t 18))]⟩),
    (3, ⟨none, none, .store 8 (.t 6) (.t 19)⟩)] (some [6])) .ret)))
def md109 : FuncId → Option Nat × Bool
  | _ => (none, false)
def od109 : Nat → List (List Nat) × List Nat × Option (List Nat)
  | 0 => ([], [], some [0, 1, 5, 6])
  | 1 => ([], [], some [0, 1, 5, 6, 8])
  | 2 => ([], [], some [0, 1, 5, 6, 8, 9])
  | 3 => ([], [], some [6])
  | 4 => ([], [], some [0, 1, 6, 12])
  | 5 => ([], [], some [6])
  | 6 => ([], [], some [6])
  | _ => ([], [], none)
theorem b109 {ags : List AV} {row : Option (List DV)} {r : AV} {row' nw : Option (List DV)} (hal : ags.length ≤ 20) (hrow : row'.isSome = true → row.isSome = true) (h : xwp Try.prog x109 (retK [.cell 6 (some 8)] row.isSome r row' nw) (St.init ags row)) : Good Try.prog 109 ags row r row' nw :=
  good_of_body' (md := md109) (od := od109) Try.f109 (by kernel_rfl) (by kernel_rfl) (by kernel_rfl) (by kernel_rfl) (by kernel_rfl) hal hrow h

def x113 : XC := (.seq (.ops 2 [
    (0, ⟨(some 1), none, .box (.t 0)⟩),
    (1, ⟨(some 2), none, .mv (.k (.d (.val (.bool false))))⟩)] (some [1])) (.seq (.ops 14 [
    (0, ⟨(some 3), none, .fadd 0 (.t 1)⟩),
    (1, ⟨(some 4), none, .load none (.t 3)⟩),
    (2, ⟨(some 5), none, .arith .eql (.t 4) (.k (.d (.val (.int .i64 5))))⟩),
    (3, ⟨(some 6), none, .mv (.t 5)⟩),
    (4, ⟨(some 7), (some (6, true)), .fadd 5 (.t 1)⟩),
    (5, ⟨(some 8), (some (6, true)), .load none (.t 7)⟩),
    (6, ⟨(some 9), (some (6, true)), .arith .eql (.t 8) (.k (.d (.val (.int .i64 0))))⟩),
    (7, ⟨(some 10), none, .pick (.t 6) (.t 9) (.k (.d (.val (.bool false))))⟩),
    (8, ⟨(some 11), none, .mv (.t 10)⟩),
    (9, ⟨(some 12), (some (11, true)), .fadd 6 (.t 1)⟩),
    (10, ⟨(some 13), (some (11, true)), .load none (.t 12)⟩),
    (11, ⟨(some 14), (some (11, true)), .arith .eql (.t 13) (.k (.d (.val (.int .i64 (-1)))))⟩),
    (12, ⟨(some 15), none, .pick (.t 11) (.t 14) (.k (.d (.val (.bool false))))⟩),
    (13, ⟨(some 2), none, .mv (.t 15)⟩)] (some [2])) .ret))
def md113 : FuncId → Option Nat × Bool
  | _ => (none, false)
def od113 : Nat → List (List Nat) × List Nat × Option (List Nat)
  | 0 => ([], [], some [1])
  | 1 => ([], [], some [2])
  | _ => ([], [], none)
theorem b113 {ags : List AV} {row : Option (List DV)} {r : AV} {row' nw : Option (List DV)} (hal : ags.length ≤ 16) (hrow : row'.isSome = true → row.isSome = true) (h : xwp Try.prog x113 (retK [.tmp 2] row.isSome r row' nw) (St.init ags row)) : Good Try.prog 113 ags row r row' nw :=
  good_of_body' (md := md113) (od := od113) Try.f113 (by kernel_rfl) (by kernel_rfl) (by kernel_rfl) (by kernel_rfl) (by kernel_rfl) hal hrow h

def x103 : XC := (.seq (.ops 1 [
    (0, ⟨(some 4), none, .mv (.k (.d (.val (.slice none 0 0))))⟩)] (some [0, 1, 4])) (.seq (.seq (.ops 3 [
    (0, ⟨(some 7), none, .mv (.t 1)⟩),
    (1, ⟨(some 8), none, .lenS (.t 7)⟩),
    (2, ⟨(some 9), none, .mv (.k (.d (.val (.int .i64 0))))⟩)] (some [0, 4, 7, 8, 9])) (.block 0 (.loop (.seq (.ops 1 [
    (0, ⟨(some 10), none, .arith .lss (.t 9) (.t 8)⟩)] (some [0, 4, 7, 8, 9, 10])) (.seq (.cond (.t 10) .skip (.exit 0)) (.seq (.block 1 (.seq (.ops 4 [
    (0, ⟨(some 11), none, .idxS 8 (.t 7) (.t 9)⟩),
    (1, ⟨(some 12), none, .load (some 8) (.t 11)⟩),
    (2, ⟨(some 6), none, .alloc [(.int .i64 0), (.int .u64 0), (.int .u64 0), (.int .u64 0), (.int .u64 0), (.int .i64 0), (.int .i64 0), (.slice none 0 0)]⟩),
    (3, ⟨none, none, .store 8 (.t 6) (.t 12)⟩)] (some [0, 4, 6, 7, 8, 9])) (.seq (.ops 4 [
    (0, ⟨(some 13), none, .fadd 0 (.t 6)⟩),
    (1, ⟨(some 14), none, .load none (.t 13)⟩),
    (2, ⟨(some 15), none, .mv (.t 0)⟩),
    (3, ⟨(some 16), none, .arith .eql (.t 14) (.t 15)⟩)] (some [0, 4, 6, 7, 8, 9, 16])) (.cond (.t 16) (.ops 5 [
    (0, ⟨(some 17), none, .mv (.t 4)⟩),
    (1, ⟨(some 18), none, .fadd 7 (.t 6)⟩),
    (2, ⟨(some 19), none, .load none (.t 18)⟩),
    (3, ⟨(some 20), none, .app [(.int .i64 0), (.int .u64 0), (.int .u64 0), (.int .u64 0), (.int .u64 0), (.int .i64 0), (.int .i64 0), (.slice none 0 0)] 80 (.t 17) (.t 19)⟩),
    (4, ⟨(some 4), none, .mv (.t 20)⟩)] (some [0, 4, 7, 8, 9])) (.ops 5 [
    (0, ⟨(some 21), none, .mv (.t 4)⟩),
    (1, ⟨(some 22), none, .load (some 8) (.t 6)⟩),
    (2, ⟨(some 23), none, .mkrow [(.int .i64 0), (.int .u64 0), (.int .u64 0), (.int .u64 0), (.int .u64 0), (.int .i64 0), (.int .i64 0), (.slice none 0 0)] 1 8 [(0, 8, (.t 22))]⟩),
    (3, ⟨(some 24), none, .app [(.int .i64 0), (.int .u64 0), (.int .u64 0), (.int .u64 0), (.int .u64 0), (.int .i64 0), (.int .i64 0), (.slice none 0 0)] 80 (.t 21) (.t 23)⟩),
    (4, ⟨(some 4), none, .mv (.t 24)⟩)] (some [0, 4, 7, 8, 9])))))) (.ops 2 [
    (0, ⟨(some 25), none, .arith .add (.t 9) (.k (.d (.val (.int .i64 1))))⟩),
    (1, ⟨(some 9), none, .mv (.t 25)⟩)] (some [0, 4, 7, 8, 9])))))))) (.seq (.ops 2 [
    (0, ⟨(some 26), none, .mv (.t 4)⟩),
    (1, ⟨(some 4), none, .mv (.t 26)⟩)] (some [4])) .ret)))
def md103 : FuncId → Option Nat × Bool
  | _ => (none, false)
def od103 : Nat → List (List Nat) × List Nat × Option (List Nat)
  | 0 => ([], [], some [0, 1, 4])
  | 1 => ([], [], some [0, 4, 7, 8, 9])
  | 2 => ([], [], some [0, 4, 7, 8, 9, 10])
  | 3 => ([], [], some [0, 4, 6, 7, 8, 9])
  | 4 => ([], [], some [0, 4, 6, 7, 8, 9, 16])
  | 5 => ([], [], some [0, 4, 7, 8, 9])
  | 6 => ([], [], some [0, 4, 7, 8, 9])
  | 7 => ([], [], some [0, 4, 7, 8, 9])
  | 8 => ([], [], some [4])
  | _ => ([], [], none)
theorem b103 {ags : List AV} {row : Option (List DV)} {r : AV} {row' nw : Option (List DV)} (hal : ags.length ≤ 27) (hrow : row'.isSome = true → row.isSome = true) (h : xwp Try.prog x103 (retK [.tmp 4] row.isSome r row' nw) (St.init ags row)) : Good Try.prog 103 ags row r row' nw :=
  good_of_body' (md := md103) (od := od103) Try.f103 (by kernel_rfl) (by kernel_rfl) (by kernel_rfl) (by kernel_rfl) (by kernel_rfl) hal hrow h

set_option maxRecDepth 100000
set_option maxHeartbeats 4000000
attribute [local irreducible] W E R KP thenK blockK retK Good xwp aRun
theorem no105_good (t : T) : Good Try.prog 105 [nodeA t] none (.b (isNo t)) none none := by
  obtain ⟨k, a, b, c, d, mn, mx, subs⟩ := t
  have e0 : nodeA (.node k a b c d mn mx subs) = .agg [.i k, .d (.val (.int .u64 a)), .d (.val (.int .u64 b)), .d (.val (.int .u64 c)), .d (.val (.int .u64 d)), .i mn, .i mx, .d (.sl (encL subs) subs.length)] := rfl
  rw [e0]
  by_cases hk : k = 2
  · refine b105 (by simp) (by simp) (w_init ?_)
    unfold x105
    repeat' (first
    | (apply r_mvV; rfl)
    | (apply r_mvP; rfl)
    | (apply r_mvPL; rfl)
    | (apply r_mvS; rfl)
    | (apply r_mvSL; rfl)
    | (apply r_mvA; rfl)
    | (apply r_mvT; rfl)
    | (apply r_mvF; rfl)
    | (apply r_mvD; rfl)
    | (apply r_faddD; rfl)
    | (apply r_faddL; rfl)
    | (apply r_l; apply ld_kind; assumption; rfl)
    | (apply r_l; apply ld_mn; assumption; rfl)
    | (apply r_l; apply ld_mx; assumption; rfl)
    | (apply r_l; apply ld_subs; assumption; rfl)
    | (apply r_l; apply ld_set; assumption; rfl)
    | (apply r_l; apply ld_node; assumption; rfl)
    | (apply r_l; apply ld_kind'; assumption; rfl)
    | (apply r_l; apply ld_mn'; assumption; rfl)
    | (apply r_l; apply ld_mx'; assumption; rfl)
    | (apply r_l; apply ld_subs'; assumption; rfl)
    | (apply r_l; apply ld_node'; assumption; rfl)
    | (apply r_ldL (v := .agg [.d (.val (.int .u64 a)), .d (.val (.int .u64 b)), .d (.val (.int .u64 c)), .d (.val (.int .u64 d))]); rfl; rfl; rfl)
    | (apply r_p (v := .agg [.d (.val (.int .u64 0)), .d (.val (.int .u64 0)), .d (.val (.int .u64 0)), .d (.val (.int .u64 0))]); rfl)
    | (apply r_eqX; rfl; rfl; rfl)
    | (apply r_ldL; rfl; rfl; rfl)
    | (apply r_eql; rfl; rfl; (first | (apply decide_eq_true; omega) | (apply decide_eq_false; omega) | rfl))
    | (apply r_pickT; rfl)
    | (apply r_pickF; rfl)
    | (apply r_gT; rfl)
    | (apply r_gF'; rfl; rfl)
    | (apply r_gN'; rfl)
    | ((apply r_gS (o := default); rfl) <;> (intro h; try simp only [decide_eq_true_eq, decide_eq_false_iff_not, Bool.not_eq_true, Bool.not_eq_false] at h))
    | (apply r_box; ((conv => lhs; simp only [Nat.reduceAdd]) <;> rfl); rfl; rfl; rfl)
    | (apply r_p; rfl)
    | (apply r_nilK)
    | (apply r_nil)
    | (apply k_V; rfl)
    | (apply k_P; rfl)
    | (apply k_PL; rfl)
    | (apply k_S; rfl)
    | (apply k_SL; rfl)
    | (apply k_A; rfl)
    | (apply k_T; rfl)
    | (apply k_F; rfl)
    | (apply k_D; rfl; rotate_left; rfl)
    | (apply k_nil)
    | (apply e_ret (vs := [.d (.val _)]); rfl)
    | (apply e_ret; rfl)
    | (apply e_ret' (vs := [.d (.val _)]); rfl)
    | (apply e_ret'; rfl)
    | (apply w_seq)
    | (apply w_ops; ((conv => lhs; simp only [Nat.reduceAdd]) <;> rfl))
    | (apply e_thenN)
    | (apply w_block)
    | (apply e_thenR)
    | (apply e_thenX)
    | (apply e_blkN)
    | (apply e_blkR)
    | (apply e_blkE)
    | (apply w_exit)
    | (apply w_ret)
    | (apply w_skip)
    | (apply e_blkE'; rfl))
    exact retB (by simp [isNo, isZero, hk])
  · refine b105 (by simp) (by simp) (w_init ?_)
    unfold x105
    repeat' (first
    | (apply r_mvV; rfl)
    | (apply r_mvP; rfl)
    | (apply r_mvPL; rfl)
    | (apply r_mvS; rfl)
    | (apply r_mvSL; rfl)
    | (apply r_mvA; rfl)
    | (apply r_mvT; rfl)
    | (apply r_mvF; rfl)
    | (apply r_mvD; rfl)
    | (apply r_faddD; rfl)
    | (apply r_faddL; rfl)
    | (apply r_l; apply ld_kind; assumption; rfl)
    | (apply r_l; apply ld_mn; assumption; rfl)
    | (apply r_l; apply ld_mx; assumption; rfl)
    | (apply r_l; apply ld_subs; assumption; rfl)
    | (apply r_l; apply ld_set; assumption; rfl)
    | (apply r_l; apply ld_node; assumption; rfl)
    | (apply r_l; apply ld_kind'; assumption; rfl)
    | (apply r_l; apply ld_mn'; assumption; rfl)
    | (apply r_l; apply ld_mx'; assumption; rfl)
    | (apply r_l; apply ld_subs'; assumption; rfl)
    | (apply r_l; apply ld_node'; assumption; rfl)
    | (apply r_ldL; rfl; rfl; rfl)
    | (apply r_eql; rfl; rfl; (first | (apply decide_eq_true; omega) | (apply decide_eq_false; omega) | rfl))
    | (apply r_pickT; rfl)
    | (apply r_pickF; rfl)
    | (apply r_gT; rfl)
    | (apply r_gF'; rfl; rfl)
    | (apply r_gN'; rfl)
    | ((apply r_gS (o := default); rfl) <;> (intro h; try simp only [decide_eq_true_eq, decide_eq_false_iff_not, Bool.not_eq_true, Bool.not_eq_false] at h))
    | (apply r_box; ((conv => lhs; simp only [Nat.reduceAdd]) <;> rfl); rfl; rfl; rfl)
    | (apply r_p; rfl)
    | (apply r_nilK)
    | (apply r_nil)
    | (apply k_V; rfl)
    | (apply k_P; rfl)
    | (apply k_PL; rfl)
    | (apply k_S; rfl)
    | (apply k_SL; rfl)
    | (apply k_A; rfl)
    | (apply k_T; rfl)
    | (apply k_F; rfl)
    | (apply k_D; rfl; rotate_left; rfl)
    | (apply k_nil)
    | (apply e_ret (vs := [.d (.val _)]); rfl)
    | (apply e_ret; rfl)
    | (apply e_ret' (vs := [.d (.val _)]); rfl)
    | (apply e_ret'; rfl)
    | (apply w_seq)
    | (apply w_ops; ((conv => lhs; simp only [Nat.reduceAdd]) <;> rfl))
    | (apply e_thenN)
    | (apply w_block)
    | (apply e_thenR)
    | (apply e_thenX)
    | (apply e_blkN)
    | (apply e_blkR)
    | (apply e_blkE)
    | (apply w_exit)
    | (apply w_ret)
    | (apply w_skip)
    | (apply e_blkE'; rfl))
    exact retB (by simp [isNo, hk])
theorem e108_good (t : T) : Good Try.prog 108 [nodeA t] none (.b (!notE t)) none none := by
  obtain ⟨k, a, b, c, d, mn, mx, subs⟩ := t
  have e0 : nodeA (.node k a b c d mn mx subs) = .agg [.i k, .d (.val (.int .u64 a)), .d (.val (.int .u64 b)), .d (.val (.int .u64 c)), .d (.val (.int .u64 d)), .i mn, .i mx, .d (.sl (encL subs) subs.length)] := rfl
  rw [e0]
  by_cases hk : k = 1
  · refine b108 (by simp) (by simp) (w_init ?_)
    unfold x108
    repeat' (first
    | (apply r_mvV; rfl)
    | (apply r_mvP; rfl)
    | (apply r_mvPL; rfl)
    | (apply r_mvS; rfl)
    | (apply r_mvSL; rfl)
    | (apply r_mvA; rfl)
    | (apply r_mvT; rfl)
    | (apply r_mvF; rfl)
    | (apply r_mvD; rfl)
    | (apply r_faddD; rfl)
    | (apply r_faddL; rfl)
    | (apply r_l; apply ld_kind; assumption; rfl)
    | (apply r_l; apply ld_mn; assumption; rfl)
    | (apply r_l; apply ld_mx; assumption; rfl)
    | (apply r_l; apply ld_subs; assumption; rfl)
    | (apply r_l; apply ld_set; assumption; rfl)
    | (apply r_l; apply ld_node; assumption; rfl)
    | (apply r_l; apply ld_kind'; assumption; rfl)
    | (apply r_l; apply ld_mn'; assumption; rfl)
    | (apply r_l; apply ld_mx'; assumption; rfl)
    | (apply r_l; apply ld_subs'; assumption; rfl)
    | (apply r_l; apply ld_node'; assumption; rfl)
    | (apply r_ldL; rfl; rfl; rfl)
    | (apply r_eql; rfl; rfl; (first | (apply decide_eq_true; omega) | (apply decide_eq_false; omega) | rfl))
    | (apply r_box; ((conv => lhs; simp only [Nat.reduceAdd]) <;> rfl); rfl; rfl; rfl)
    | (apply r_nilK)
    | (apply r_nil)
    | (apply k_V; rfl)
    | (apply k_P; rfl)
    | (apply k_PL; rfl)
    | (apply k_S; rfl)
    | (apply k_SL; rfl)
    | (apply k_A; rfl)
    | (apply k_T; rfl)
    | (apply k_F; rfl)
    | (apply k_D; rfl; rotate_left; rfl)
    | (apply k_nil)
    | (apply e_ret (vs := [.d (.val _)]); rfl)
    | (apply e_ret; rfl)
    | (apply e_ret' (vs := [.d (.val _)]); rfl)
    | (apply e_ret'; rfl)
    | (apply w_seq)
    | (apply w_ops; ((conv => lhs; simp only [Nat.reduceAdd]) <;> rfl))
    | (apply e_thenN)
    | (apply w_block)
    | (apply e_thenR)
    | (apply e_thenX)
    | (apply e_blkN)
    | (apply e_blkR)
    | (apply e_blkE)
    | (apply w_exit)
    | (apply w_ret)
    | (apply w_skip)
    | (apply e_blkE'; rfl))
    exact retB (by simp [notE, T.kind, hk])
  · refine b108 (by simp) (by simp) (w_init ?_)
    unfold x108
    repeat' (first
    | (apply r_mvV; rfl)
    | (apply r_mvP; rfl)
    | (apply r_mvPL; rfl)
    | (apply r_mvS; rfl)
    | (apply r_mvSL; rfl)
    | (apply r_mvA; rfl)
    | (apply r_mvT; rfl)
    | (apply r_mvF; rfl)
    | (apply r_mvD; rfl)
    | (apply r_faddD; rfl)
    | (apply r_faddL; rfl)
    | (apply r_l; apply ld_kind; assumption; rfl)
    | (apply r_l; apply ld_mn; assumption; rfl)
    | (apply r_l; apply ld_mx; assumption; rfl)
    | (apply r_l; apply ld_subs; assumption; rfl)
    | (apply r_l; apply ld_set; assumption; rfl)
    | (apply r_l; apply ld_node; assumption; rfl)
    | (apply r_l; apply ld_kind'; assumption; rfl)
    | (apply r_l; apply ld_mn'; assumption; rfl)
    | (apply r_l; apply ld_mx'; assumption; rfl)
    | (apply r_l; apply ld_subs'; assumption; rfl)
    | (apply r_l; apply ld_node'; assumption; rfl)
    | (apply r_ldL; rfl; rfl; rfl)
    | (apply r_eql; rfl; rfl; (first | (apply decide_eq_true; omega) | (apply decide_eq_false; omega) | rfl))
    | (apply r_box; ((conv => lhs; simp only [Nat.reduceAdd]) <;> rfl); rfl; rfl; rfl)
    | (apply r_nilK)
    | (apply r_nil)
    | (apply k_V; rfl)
    | (apply k_P; rfl)
    | (apply k_PL; rfl)
    | (apply k_S; rfl)
    | (apply k_SL; rfl)
    | (apply k_A; rfl)
    | (apply k_T; rfl)
    | (apply k_F; rfl)
    | (apply k_D; rfl; rotate_left; rfl)
    | (apply k_nil)
    | (apply e_ret (vs := [.d (.val _)]); rfl)
    | (apply e_ret; rfl)
    | (apply e_ret' (vs := [.d (.val _)]); rfl)
    | (apply e_ret'; rfl)
    | (apply w_seq)
    | (apply w_ops; ((conv => lhs; simp only [Nat.reduceAdd]) <;> rfl))
    | (apply e_thenN)
    | (apply w_block)
    | (apply e_thenR)
    | (apply e_thenX)
    | (apply e_blkN)
    | (apply e_blkR)
    | (apply e_blkE)
    | (apply w_exit)
    | (apply w_ret)
    | (apply w_skip)
    | (apply e_blkE'; rfl))
    exact retB (by simp [notE, T.kind, hk])
theorem empty110_good : Good Try.prog 110 [] none (nodeA emptyT) none none := by
  refine b110 (by simp) (by simp) (w_init ?_)
  unfold x110
  repeat' (first
    | (apply r_alloc; ((conv => lhs; simp only [Nat.reduceAdd]) <;> rfl); rfl)
    | (apply r_stL; rfl; rfl; rfl; rfl; (first | rfl | (simp only [z_nil, z_add] <;> rfl)); rfl; rfl)
    | (apply r_p; rfl)
    | (apply r_nilK)
    | (apply r_nil)
    | (apply k_V; rfl)
    | (apply k_P; rfl)
    | (apply k_PL; rfl)
    | (apply k_S; rfl)
    | (apply k_SL; rfl)
    | (apply k_A; rfl)
    | (apply k_T; rfl)
    | (apply k_F; rfl)
    | (apply k_D; rfl; rotate_left; rfl)
    | (apply k_nil)
    | (apply e_ret (vs := [.d (.val _)]); rfl)
    | (apply e_ret; rfl)
    | (apply e_ret' (vs := [.d (.val _)]); rfl)
    | (apply e_ret'; rfl)
    | (apply w_seq)
    | (apply w_ops; ((conv => lhs; simp only [Nat.reduceAdd]) <;> rfl))
    | (apply e_thenN)
    | (apply w_block)
    | (apply e_thenR)
    | (apply e_thenX)
    | (apply e_blkN)
    | (apply e_blkR)
    | (apply e_blkE)
    | (apply w_exit)
    | (apply w_ret)
    | (apply w_skip)
    | (apply e_blkE'; rfl))
  exact .data _ rfl
theorem no106_good : Good Try.prog 106 [] none (nodeA noneT) none none := by
  refine b106 (by simp) (by simp) (w_init ?_)
  unfold x106
  repeat' (first
    | (apply r_alloc; ((conv => lhs; simp only [Nat.reduceAdd]) <;> rfl); rfl)
    | (apply r_stL; rfl; rfl; rfl; rfl; (first | rfl | (simp only [z_nil, z_add] <;> rfl)); rfl; rfl)
    | (apply r_p; rfl)
    | (apply r_nilK)
    | (apply r_nil)
    | (apply k_V; rfl)
    | (apply k_P; rfl)
    | (apply k_PL; rfl)
    | (apply k_S; rfl)
    | (apply k_SL; rfl)
    | (apply k_A; rfl)
    | (apply k_T; rfl)
    | (apply k_F; rfl)
    | (apply k_D; rfl; rotate_left; rfl)
    | (apply k_nil)
    | (apply e_ret (vs := [.d (.val _)]); rfl)
    | (apply e_ret; rfl)
    | (apply e_ret' (vs := [.d (.val _)]); rfl)
    | (apply e_ret'; rfl)
    | (apply w_seq)
    | (apply w_ops; ((conv => lhs; simp only [Nat.reduceAdd]) <;> rfl))
    | (apply e_thenN)
    | (apply w_block)
    | (apply e_thenR)
    | (apply e_thenX)
    | (apply e_blkN)
    | (apply e_blkR)
    | (apply e_blkE)
    | (apply w_exit)
    | (apply w_ret)
    | (apply w_skip)
    | (apply e_blkE'; rfl))
  exact .data _ rfl
theorem star113_good (t : T) : Good Try.prog 113 [nodeA t] none (.b (isStar t)) none none := by
  obtain ⟨k, a, b, c, d, mn, mx, subs⟩ := t
  have e0 : nodeA (.node k a b c d mn mx subs) = .agg [.i k, .d (.val (.int .u64 a)), .d (.val (.int .u64 b)), .d (.val (.int .u64 c)), .d (.val (.int .u64 d)), .i mn, .i mx, .d (.sl (encL subs) subs.length)] := rfl
  rw [e0]
  refine b113 (by simp) (by simp) (w_init ?_)
  unfold x113
  repeat' (first
    | (apply r_mvV; rfl)
    | (apply r_mvP; rfl)
    | (apply r_mvPL; rfl)
    | (apply r_mvS; rfl)
    | (apply r_mvSL; rfl)
    | (apply r_mvA; rfl)
    | (apply r_mvT; rfl)
    | (apply r_mvF; rfl)
    | (apply r_mvD; rfl)
    | (apply r_faddD; rfl)
    | (apply r_faddL; rfl)
    | (apply r_l; apply ld_kind; assumption; rfl)
    | (apply r_l; apply ld_mn; assumption; rfl)
    | (apply r_l; apply ld_mx; assumption; rfl)
    | (apply r_l; apply ld_subs; assumption; rfl)
    | (apply r_l; apply ld_set; assumption; rfl)
    | (apply r_l; apply ld_node; assumption; rfl)
    | (apply r_l; apply ld_kind'; assumption; rfl)
    | (apply r_l; apply ld_mn'; assumption; rfl)
    | (apply r_l; apply ld_mx'; assumption; rfl)
    | (apply r_l; apply ld_subs'; assumption; rfl)
    | (apply r_l; apply ld_node'; assumption; rfl)
    | (apply r_ldL; rfl; rfl; rfl)
    | (apply r_eql; rfl; rfl; (first | (apply decide_eq_true; omega) | (apply decide_eq_false; omega) | rfl))
    | (apply r_pickT; rfl)
    | (apply r_pickF; rfl)
    | (apply r_gT; rfl)
    | (apply r_gF'; rfl; rfl)
    | (apply r_gN'; rfl)
    | ((apply r_gS (o := default); rfl) <;> (intro h; try simp only [decide_eq_true_eq, decide_eq_false_iff_not, Bool.not_eq_true, Bool.not_eq_false] at h))
    | (apply r_box; ((conv => lhs; simp only [Nat.reduceAdd]) <;> rfl); rfl; rfl; rfl)
    | (apply r_nilK)
    | (apply r_nil)
    | (apply k_V; rfl)
    | (apply k_P; rfl)
    | (apply k_PL; rfl)
    | (apply k_S; rfl)
    | (apply k_SL; rfl)
    | (apply k_A; rfl)
    | (apply k_T; rfl)
    | (apply k_F; rfl)
    | (apply k_D; rfl; rotate_left; rfl)
    | (apply k_nil)
    | (apply e_ret (vs := [.d (.val _)]); rfl)
    | (apply e_ret; rfl)
    | (apply e_ret' (vs := [.d (.val _)]); rfl)
    | (apply e_ret'; rfl)
    | (apply w_seq)
    | (apply w_ops; ((conv => lhs; simp only [Nat.reduceAdd]) <;> rfl))
    | (apply e_thenN)
    | (apply w_block)
    | (apply e_thenR)
    | (apply e_thenX)
    | (apply e_blkN)
    | (apply e_blkR)
    | (apply e_blkE)
    | (apply w_exit)
    | (apply w_ret)
    | (apply w_skip)
    | (apply e_blkE'; rfl))
  all_goals refine retB (Bool.eq_iff_iff.2 ?_)
  all_goals (simp_all [isStar, T.kind, T.mn, T.mx] <;> omega)
theorem put109_good (k : Int) (l : List T) (e : T) (hl : l.length ≤ 1000000) : Good Try.prog 109 [.i k, .d (.sl (encL l) l.length), nodeA e] none (nodeA (ofT k l e)) none none := by
  obtain ⟨k1, a1, b1, c1, d1, mn1, mx1, subs1⟩ := e
  have e1 : nodeA (.node k1 a1 b1 c1 d1 mn1 mx1 subs1) = .agg [.i k1, .d (.val (.int .u64 a1)), .d (.val (.int .u64 b1)), .d (.val (.int .u64 c1)), .d (.val (.int .u64 d1)), .i mn1, .i mx1, .d (.sl (encL subs1) subs1.length)] := rfl
  rw [e1]
  match l, hl with
  | [], _ =>
    refine b109 (by simp) (by simp) (w_init ?_)
    unfold x109
    simp only [List.length_nil]
    repeat' (first
    | (apply r_mvV; rfl)
    | (apply r_mvP; rfl)
    | (apply r_mvPL; rfl)
    | (apply r_mvS; rfl)
    | (apply r_mvSL; rfl)
    | (apply r_mvA; rfl)
    | (apply r_mvT; rfl)
    | (apply r_mvF; rfl)
    | (apply r_mvD; rfl)
    | (apply r_ldL (v := .agg [.i k1, .d (.val (.int .u64 a1)), .d (.val (.int .u64 b1)), .d (.val (.int .u64 c1)), .d (.val (.int .u64 d1)), .i mn1, .i mx1, .d (.sl (encL subs1) subs1.length)]); rfl; rfl; rfl)
    | (apply r_ldL; rfl; rfl; rfl)
    | (apply r_eql; rfl; rfl; (first | (apply decide_eq_true; omega) | (apply decide_eq_false; omega) | rfl))
    | (apply r_lenD; rfl)
    | (apply r_lenL; rfl)
    | (apply r_len0; rfl)
    | (apply r_alloc; ((conv => lhs; simp only [Nat.reduceAdd]) <;> rfl); rfl)
    | (apply r_box; ((conv => lhs; simp only [Nat.reduceAdd]) <;> rfl); rfl; rfl; rfl)
    | (apply r_stL; rfl; rfl; rfl; rfl; (first | rfl | (simp only [z_nil, z_add] <;> rfl)); rfl; rfl)
    | (apply r_p; rfl)
    | (apply r_nilK)
    | (apply r_nil)
    | (apply k_V; rfl)
    | (apply k_P; rfl)
    | (apply k_PL; rfl)
    | (apply k_S; rfl)
    | (apply k_SL; rfl)
    | (apply k_A; rfl)
    | (apply k_T; rfl)
    | (apply k_F; rfl)
    | (apply k_D; rfl; rotate_left; rfl)
    | (apply k_nil)
    | (apply e_ret (vs := [.d (.val _)]); rfl)
    | (apply e_ret; rfl)
    | (apply e_ret' (vs := [.d (.val _)]); rfl)
    | (apply e_ret'; rfl)
    | (apply w_seq)
    | (apply w_ops; ((conv => lhs; simp only [Nat.reduceAdd]) <;> rfl))
    | (apply w_condT; rfl)
    | (apply w_condF; rfl)
    | ((apply w_condS; rfl) <;> (intro h; try simp only [decide_eq_true_eq, decide_eq_false_iff_not, Bool.not_eq_true, Bool.not_eq_false] at h))
    | (apply e_thenN)
    | (apply w_block)
    | (apply e_thenR)
    | (apply e_thenX)
    | (apply e_blkN)
    | (apply e_blkR)
    | (apply e_blkE)
    | (apply w_exit)
    | (apply w_ret)
    | (apply w_skip)
    | (apply e_blkE'; rfl))
    exact .data _ rfl
  | [u], _ =>
    obtain ⟨k2, a2, b2, c2, d2, mn2, mx2, subs2⟩ := u
    refine b109 (by simp) (by simp) (w_init ?_)
    unfold x109
    simp only [List.length_cons, List.length_nil, Nat.zero_add]
    repeat' (first
    | (apply r_mvV; rfl)
    | (apply r_mvP; rfl)
    | (apply r_mvPL; rfl)
    | (apply r_mvS; rfl)
    | (apply r_mvSL; rfl)
    | (apply r_mvA; rfl)
    | (apply r_mvT; rfl)
    | (apply r_mvF; rfl)
    | (apply r_mvD; rfl)
    | (apply r_p (v := .d (.ptr (encL [.node k2 a2 b2 c2 d2 mn2 mx2 subs2]) 0)); rfl)
    | (apply r_l (v := .agg [.i k2, .d (.val (.int .u64 a2)), .d (.val (.int .u64 b2)), .d (.val (.int .u64 c2)), .d (.val (.int .u64 d2)), .i mn2, .i mx2, .d (.sl (encL subs2) subs2.length)]); rfl)
    | (apply r_ldL (v := .agg [.i k2, .d (.val (.int .u64 a2)), .d (.val (.int .u64 b2)), .d (.val (.int .u64 c2)), .d (.val (.int .u64 d2)), .i mn2, .i mx2, .d (.sl (encL subs2) subs2.length)]); rfl; rfl; rfl)
    | (apply r_ldL; rfl; rfl; rfl)
    | (apply r_eql; rfl; rfl; (first | (apply decide_eq_true; omega) | (apply decide_eq_false; omega) | rfl))
    | (apply r_lenD; rfl)
    | (apply r_lenL; rfl)
    | (apply r_len0; rfl)
    | (apply r_alloc; ((conv => lhs; simp only [Nat.reduceAdd]) <;> rfl); rfl)
    | (apply r_box; ((conv => lhs; simp only [Nat.reduceAdd]) <;> rfl); rfl; rfl; rfl)
    | (apply r_stL; rfl; rfl; rfl; rfl; (first | rfl | (simp only [z_nil, z_add] <;> rfl)); rfl; rfl)
    | (apply r_p; rfl)
    | (apply r_nilK)
    | (apply r_nil)
    | (apply k_V; rfl)
    | (apply k_P; rfl)
    | (apply k_PL; rfl)
    | (apply k_S; rfl)
    | (apply k_SL; rfl)
    | (apply k_A; rfl)
    | (apply k_T; rfl)
    | (apply k_F; rfl)
    | (apply k_D; rfl; rotate_left; rfl)
    | (apply k_nil)
    | (apply e_ret (vs := [.d (.val _)]); rfl)
    | (apply e_ret; rfl)
    | (apply e_ret' (vs := [.d (.val _)]); rfl)
    | (apply e_ret'; rfl)
    | (apply w_seq)
    | (apply w_ops; ((conv => lhs; simp only [Nat.reduceAdd]) <;> rfl))
    | (apply w_condT; rfl)
    | (apply w_condF; rfl)
    | ((apply w_condS; rfl) <;> (intro h; try simp only [decide_eq_true_eq, decide_eq_false_iff_not, Bool.not_eq_true, Bool.not_eq_false] at h))
    | (apply e_thenN)
    | (apply w_block)
    | (apply e_thenR)
    | (apply e_thenX)
    | (apply e_blkN)
    | (apply e_blkR)
    | (apply e_blkE)
    | (apply w_exit)
    | (apply w_ret)
    | (apply w_skip)
    | (apply e_blkE'; rfl))
    exact .data _ rfl
  | x :: y :: z, hl =>
    refine b109 (by simp) (by simp) (w_init ?_)
    unfold x109
    simp only [List.length_cons] at hl ⊢
    repeat' (first
    | (apply r_mvV; rfl)
    | (apply r_mvP; rfl)
    | (apply r_mvPL; rfl)
    | (apply r_mvS; rfl)
    | (apply r_mvSL; rfl)
    | (apply r_mvA; rfl)
    | (apply r_mvT; rfl)
    | (apply r_mvF; rfl)
    | (apply r_mvD; rfl)
    | (apply r_p (v := .agg [.i k, .d (.val (.int .u64 0)), .d (.val (.int .u64 0)), .d (.val (.int .u64 0)), .d (.val (.int .u64 0)), .i 0, .i 0, .d (.sl (encL (x :: y :: z)) (z.length + 1 + 1))]); rfl)
    | (apply r_ldL; rfl; rfl; rfl)
    | (apply r_eql; rfl; rfl; (first | (apply decide_eq_true; omega) | (apply decide_eq_false; omega) | rfl))
    | (apply r_lenD; rfl)
    | (apply r_lenL; rfl)
    | (apply r_len0; rfl)
    | (apply r_alloc; ((conv => lhs; simp only [Nat.reduceAdd]) <;> rfl); rfl)
    | (apply r_box; ((conv => lhs; simp only [Nat.reduceAdd]) <;> rfl); rfl; rfl; rfl)
    | (apply r_stL; rfl; rfl; rfl; rfl; (first | rfl | (simp only [z_nil, z_add] <;> rfl)); rfl; rfl)
    | (apply r_p; rfl)
    | (apply r_nilK)
    | (apply r_nil)
    | (apply k_V; rfl)
    | (apply k_P; rfl)
    | (apply k_PL; rfl)
    | (apply k_S; rfl)
    | (apply k_SL; rfl)
    | (apply k_A; rfl)
    | (apply k_T; rfl)
    | (apply k_F; rfl)
    | (apply k_D; rfl; rotate_left; rfl)
    | (apply k_nil)
    | (apply e_ret (vs := [.d (.val _)]); rfl)
    | (apply e_ret; rfl)
    | (apply e_ret' (vs := [.d (.val _)]); rfl)
    | (apply e_ret'; rfl)
    | (apply w_seq)
    | (apply w_ops; ((conv => lhs; simp only [Nat.reduceAdd]) <;> rfl))
    | (apply w_condT; rfl)
    | (apply w_condF; rfl)
    | ((apply w_condS; rfl) <;> (intro h; try simp only [decide_eq_true_eq, decide_eq_false_iff_not, Bool.not_eq_true, Bool.not_eq_false] at h))
    | (apply e_thenN)
    | (apply w_block)
    | (apply e_thenR)
    | (apply e_thenX)
    | (apply e_blkN)
    | (apply e_blkR)
    | (apply e_blkE)
    | (apply w_exit)
    | (apply w_ret)
    | (apply w_skip)
    | (apply e_blkE'; rfl))
    exact .data _ rfl
theorem flat103_good (k : Int) (l : List T) (hc : cntL l ≤ 500000) : Good Try.prog 103 [.i k, .d (.sl (encL l) l.length)] none (.slL 1 0 (flatL k l).length 8) none (some (encL (flatL k l))) := by
  have hll := cntL_len l
  have hft : ∀ i, (flatL k (l.take i)).length ≤ 500000 := fun i => by
    have h1 := flatL_len k (l.take i)
    have h2 := cntL_take_le l i
    omega
  refine b103 (by simp) (by simp) (w_init ?_)
  unfold x103
  repeat' (first
    | (apply r_mvV; rfl)
    | (apply r_mvP; rfl)
    | (apply r_mvPL; rfl)
    | (apply r_mvS; rfl)
    | (apply r_mvSL; rfl)
    | (apply r_mvA; rfl)
    | (apply r_mvT; rfl)
    | (apply r_mvF; rfl)
    | (apply r_mvD; rfl)
    | (apply r_faddD; rfl)
    | (apply r_faddL; rfl)
    | (apply r_ldL; rfl; rfl; rfl)
    | (apply r_eql; rfl; rfl; (first | (apply decide_eq_true; omega) | (apply decide_eq_false; omega) | rfl))
    | (apply r_lss; rfl; rfl; (first | (apply decide_eq_true; omega) | (apply decide_eq_false; omega) | rfl))
    | (apply r_add; rfl; rfl; rfl; omega)
    | (apply r_lenD; rfl)
    | (apply r_lenL; rfl)
    | (apply r_len0; rfl)
    | (apply r_alloc; ((conv => lhs; simp only [Nat.reduceAdd]) <;> rfl); rfl)
    | (apply r_stL; rfl; rfl; rfl; rfl; (first | rfl | (simp only [z_nil, z_add] <;> rfl)); rfl; rfl)
    | (apply r_p; rfl)
    | (apply r_nilK)
    | (apply r_nil)
    | (apply k_V; rfl)
    | (apply k_P; rfl)
    | (apply k_PL; rfl)
    | (apply k_S; rfl)
    | (apply k_SL; rfl)
    | (apply k_A; rfl)
    | (apply k_T; rfl)
    | (apply k_F; rfl)
    | (apply k_D; rfl; rotate_left; rfl)
    | (apply k_nil)
    | (apply e_ret (vs := [.d (.val _)]); rfl)
    | (apply e_ret; rfl)
    | (apply e_ret' (vs := [.d (.val _)]); rfl)
    | (apply e_ret'; rfl)
    | (apply w_seq)
    | (apply w_ops; ((conv => lhs; simp only [Nat.reduceAdd]) <;> rfl))
    | (apply w_condT; rfl)
    | (apply w_condF; rfl)
    | ((apply w_condS; rfl) <;> (intro h; try simp only [decide_eq_true_eq, decide_eq_false_iff_not, Bool.not_eq_true, Bool.not_eq_false] at h))
    | (apply e_thenN)
    | (apply w_block)
    | (apply e_thenR)
    | (apply e_thenX)
    | (apply e_blkN)
    | (apply e_blkR)
    | (apply e_blkE)
    | (apply w_exit)
    | (apply w_ret)
    | (apply w_skip)
    | (apply e_blkE'; rfl))
  apply w_loopI (S := fun i : Nat => ⟨((((Fr.nil.put 0 (.i k)).put 4 (.slL 50 0 (flatL k (l.take i)).length 8)).put 7 (.d (.sl (encL l) l.length))).put 8 (.i l.length)).put 9 (.i i), rowsOf [(50, (encL (flatL k (l.take i))).map AV.d)], Frz.buts 100 [50], 100⟩) (m := fun i => l.length - i) (I := fun i => i ≤ l.length) (i0 := 0)
  · exact Nat.zero_le _
  · refine wkM [] [50] rfl ?_ ?_ rfl ?_
    · intro p hp
      simp only [List.mem_cons, List.not_mem_nil, or_false] at hp
      rcases hp with rfl
      · exact ⟨by omega, .inl ⟨rfl, rfl⟩⟩
    · intro q hq; simp only [List.mem_cons, List.not_mem_nil, or_false] at hq; rcases hq with rfl <;> rfl
    · repeat' (first
    | exact FWk.nil
    | (apply FWk.i; rfl; (first | rfl | omega | (simp; done)))
    | (apply FWk.sl; rfl; rfl; rfl; rfl; omega; rfl)
    | (apply FWk.ptr; rfl; rfl; rfl; omega; rfl)
    | (apply FWk.d; rfl; rfl)
    | (apply FWk.a; rfl; rfl; rfl)
    | (apply FWk.slN; rfl; omega; rfl))
  intro i K hi hK
  dsimp only
  rcases Nat.lt_or_ge i l.length with hlt | hge
  · have hs := NodeAt.sub hlt
    have htk := flatL_take k l i hlt
    have h1 := hft i
    have h2 := hft (i + 1)
    have hsub : l[i].subs.length ≤ 500000 := by
      have h3 := cntL_get l i hlt
      have h4 := cntL_len l[i].subs
      have h5 : cntL l[i].subs ≤ l[i].cnt := by cases l[i]; simp [T.subs, T.cnt]
      omega
    by_cases hk : l[i].kind = k
    · have e : flatO k l[i] = l[i].subs := by rw [flatO, if_pos hk]
      rw [e] at htk
      generalize l[i] = v at hs hk htk hsub
      obtain ⟨k2, a2, b2, c2, d2, mn2, mx2, subs2⟩ := v
      simp only [T.kind] at hk
      simp only [T.subs] at htk hsub
      repeat' (first
    | (apply r_mvV; rfl)
    | (apply r_mvP; rfl)
    | (apply r_mvPL; rfl)
    | (apply r_mvS; rfl)
    | (apply r_mvSL; rfl)
    | (apply r_mvA; rfl)
    | (apply r_mvT; rfl)
    | (apply r_mvF; rfl)
    | (apply r_mvD; rfl)
    | (apply r_faddD; rfl)
    | (apply r_faddL; rfl)
    | (apply r_p; apply ix_sub; rfl; rfl; omega)
    | (apply r_l (v := .agg [.i k2, .d (.val (.int .u64 a2)), .d (.val (.int .u64 b2)), .d (.val (.int .u64 c2)), .d (.val (.int .u64 d2)), .i mn2, .i mx2, .d (.sl (encL subs2) subs2.length)]); exact ld_node hs rfl)
    | (apply r_ldL (v := .d (.sl (encL subs2) subs2.length)); rfl; rfl; rfl)
    | (apply r_appD (b := 50) (id := 112) (K := flatL k (l.take i)) (L := subs2); rfl; rfl; rfl; rfl; rfl; rfl; rfl; omega)
    | (apply r_ldL; rfl; rfl; rfl)
    | (apply r_eql; rfl; rfl; (first | (apply decide_eq_true; omega) | (apply decide_eq_false; omega) | rfl))
    | (apply r_lss; rfl; rfl; (first | (apply decide_eq_true; omega) | (apply decide_eq_false; omega) | rfl))
    | (apply r_add; rfl; rfl; rfl; omega)
    | (apply r_lenD; rfl)
    | (apply r_lenL; rfl)
    | (apply r_len0; rfl)
    | (apply r_alloc; ((conv => lhs; simp only [Nat.reduceAdd]) <;> rfl); rfl)
    | (apply r_stL; rfl; rfl; rfl; rfl; (first | rfl | (simp only [z_nil, z_add] <;> rfl)); rfl; rfl)
    | (apply r_p; rfl)
    | (apply r_nilK)
    | (apply r_nil)
    | (apply k_V; rfl)
    | (apply k_P; rfl)
    | (apply k_PL; rfl)
    | (apply k_S; rfl)
    | (apply k_SL; rfl)
    | (apply k_A; rfl)
    | (apply k_T; rfl)
    | (apply k_F; rfl)
    | (apply k_D; rfl; rotate_left; rfl)
    | (apply k_nil)
    | (apply e_ret (vs := [.d (.val _)]); rfl)
    | (apply e_ret; rfl)
    | (apply e_ret' (vs := [.d (.val _)]); rfl)
    | (apply e_ret'; rfl)
    | (apply w_seq)
    | (apply w_ops; ((conv => lhs; simp only [Nat.reduceAdd]) <;> rfl))
    | (apply w_condT; rfl)
    | (apply w_condF; rfl)
    | ((apply w_condS; rfl) <;> (intro h; try simp only [decide_eq_true_eq, decide_eq_false_iff_not, Bool.not_eq_true, Bool.not_eq_false] at h))
    | (apply e_thenN)
    | (apply w_block)
    | (apply e_thenR)
    | (apply e_thenX)
    | (apply e_blkN)
    | (apply e_blkR)
    | (apply e_blkE)
    | (apply w_exit)
    | (apply w_ret)
    | (apply w_skip)
    | (apply e_blkE'; rfl))
      apply e_thenK
      apply hK (i + 1)
      · omega
      · omega
      · rw [htk]
        refine wkM [(50, 112)] [] rfl ?_ ?_ rfl ?_
        · intro p hp
          simp only [List.mem_cons, List.not_mem_nil, or_false] at hp
          rcases hp with rfl
          · exact ⟨by omega, .inr ⟨rfl, _, rfl, .data (isD_encL _)⟩⟩
        · intro q hq; simp only [List.mem_cons, List.not_mem_nil, or_false] at hq; rcases hq with rfl <;> rfl
        · rw [List.length_append]
          repeat' (first
    | exact FWk.nil
    | (apply FWk.i; rfl; (first | rfl | omega | (simp; done)))
    | (apply FWk.sl; rfl; rfl; rfl; rfl; omega; rfl)
    | (apply FWk.ptr; rfl; rfl; rfl; omega; rfl)
    | (apply FWk.d; rfl; rfl)
    | (apply FWk.a; rfl; rfl; rfl)
    | (apply FWk.slN; rfl; omega; rfl))
    · have e : flatO k l[i] = [l[i]] := by rw [flatO, if_neg hk]
      rw [e] at htk
      generalize l[i] = v at hs hk htk hsub
      obtain ⟨k2, a2, b2, c2, d2, mn2, mx2, subs2⟩ := v
      simp only [T.kind] at hk
      repeat' (first
    | (apply r_mvV; rfl)
    | (apply r_mvP; rfl)
    | (apply r_mvPL; rfl)
    | (apply r_mvS; rfl)
    | (apply r_mvSL; rfl)
    | (apply r_mvA; rfl)
    | (apply r_mvT; rfl)
    | (apply r_mvF; rfl)
    | (apply r_mvD; rfl)
    | (apply r_faddD; rfl)
    | (apply r_faddL; rfl)
    | (apply r_p; apply ix_sub; rfl; rfl; omega)
    | (apply r_l (v := .agg [.i k2, .d (.val (.int .u64 a2)), .d (.val (.int .u64 b2)), .d (.val (.int .u64 c2)), .d (.val (.int .u64 d2)), .i mn2, .i mx2, .d (.sl (encL subs2) subs2.length)]); exact ld_node hs rfl)
    | (apply r_ldL (v := .agg [.i k2, .d (.val (.int .u64 a2)), .d (.val (.int .u64 b2)), .d (.val (.int .u64 c2)), .d (.val (.int .u64 d2)), .i mn2, .i mx2, .d (.sl (encL subs2) subs2.length)]); rfl; rfl; rfl)
    | (apply r_mkN (t := .node k2 a2 b2 c2 d2 mn2 mx2 subs2) (id := 111); rfl; rfl)
    | (apply r_appE (b := 50) (c := 111) (id := 112) (K := flatL k (l.take i)) (L := [.node k2 a2 b2 c2 d2 mn2 mx2 subs2]) (j := 1); rfl; rfl; rfl; rfl; rfl; rfl; rfl; rfl; omega)
    | (apply r_ldL; rfl; rfl; rfl)
    | (apply r_eql; rfl; rfl; (first | (apply decide_eq_true; omega) | (apply decide_eq_false; omega) | rfl))
    | (apply r_lss; rfl; rfl; (first | (apply decide_eq_true; omega) | (apply decide_eq_false; omega) | rfl))
    | (apply r_add; rfl; rfl; rfl; omega)
    | (apply r_lenD; rfl)
    | (apply r_lenL; rfl)
    | (apply r_len0; rfl)
    | (apply r_alloc; ((conv => lhs; simp only [Nat.reduceAdd]) <;> rfl); rfl)
    | (apply r_stL; rfl; rfl; rfl; rfl; (first | rfl | (simp only [z_nil, z_add] <;> rfl)); rfl; rfl)
    | (apply r_p; rfl)
    | (apply r_nilK)
    | (apply r_nil)
    | (apply k_V; rfl)
    | (apply k_P; rfl)
    | (apply k_PL; rfl)
    | (apply k_S; rfl)
    | (apply k_SL; rfl)
    | (apply k_A; rfl)
    | (apply k_T; rfl)
    | (apply k_F; rfl)
    | (apply k_D; rfl; rotate_left; rfl)
    | (apply k_nil)
    | (apply e_ret (vs := [.d (.val _)]); rfl)
    | (apply e_ret; rfl)
    | (apply e_ret' (vs := [.d (.val _)]); rfl)
    | (apply e_ret'; rfl)
    | (apply w_seq)
    | (apply w_ops; ((conv => lhs; simp only [Nat.reduceAdd]) <;> rfl))
    | (apply w_condT; rfl)
    | (apply w_condF; rfl)
    | ((apply w_condS; rfl) <;> (intro h; try simp only [decide_eq_true_eq, decide_eq_false_iff_not, Bool.not_eq_true, Bool.not_eq_false] at h))
    | (apply e_thenN)
    | (apply w_block)
    | (apply e_thenR)
    | (apply e_thenX)
    | (apply e_blkN)
    | (apply e_blkR)
    | (apply e_blkE)
    | (apply w_exit)
    | (apply w_ret)
    | (apply w_skip)
    | (apply e_blkE'; rfl))
      apply e_thenK
      apply hK (i + 1)
      · omega
      · omega
      · rw [htk]
        refine wkM [(50, 112)] [] rfl ?_ ?_ rfl ?_
        · intro p hp
          simp only [List.mem_cons, List.not_mem_nil, or_false] at hp
          rcases hp with rfl
          · exact ⟨by omega, .inr ⟨rfl, _, rfl, .data (isD_encL _)⟩⟩
        · intro q hq; simp only [List.mem_cons, List.not_mem_nil, or_false] at hq; rcases hq with rfl <;> rfl
        · rw [List.length_append]
          repeat' (first
    | exact FWk.nil
    | (apply FWk.i; rfl; (first | rfl | omega | (simp; done)))
    | (apply FWk.sl; rfl; rfl; rfl; rfl; omega; rfl)
    | (apply FWk.ptr; rfl; rfl; rfl; omega; rfl)
    | (apply FWk.d; rfl; rfl)
    | (apply FWk.a; rfl; rfl; rfl)
    | (apply FWk.slN; rfl; omega; rfl))
  have ei : i = l.length := by omega
  subst ei
  rw [List.take_length]
  repeat' (first
    | (apply r_mvV; rfl)
    | (apply r_mvP; rfl)
    | (apply r_mvPL; rfl)
    | (apply r_mvS; rfl)
    | (apply r_mvSL; rfl)
    | (apply r_mvA; rfl)
    | (apply r_mvT; rfl)
    | (apply r_mvF; rfl)
    | (apply r_mvD; rfl)
    | (apply r_faddD; rfl)
    | (apply r_faddL; rfl)
    | (apply r_ldL; rfl; rfl; rfl)
    | (apply r_eql; rfl; rfl; (first | (apply decide_eq_true; omega) | (apply decide_eq_false; omega) | rfl))
    | (apply r_lss; rfl; rfl; (first | (apply decide_eq_true; omega) | (apply decide_eq_false; omega) | rfl))
    | (apply r_add; rfl; rfl; rfl; omega)
    | (apply r_lenD; rfl)
    | (apply r_lenL; rfl)
    | (apply r_len0; rfl)
    | (apply r_alloc; ((conv => lhs; simp only [Nat.reduceAdd]) <;> rfl); rfl)
    | (apply r_stL; rfl; rfl; rfl; rfl; (first | rfl | (simp only [z_nil, z_add] <;> rfl)); rfl; rfl)
    | (apply r_p; rfl)
    | (apply r_nilK)
    | (apply r_nil)
    | (apply k_V; rfl)
    | (apply k_P; rfl)
    | (apply k_PL; rfl)
    | (apply k_S; rfl)
    | (apply k_SL; rfl)
    | (apply k_A; rfl)
    | (apply k_T; rfl)
    | (apply k_F; rfl)
    | (apply k_D; rfl; rotate_left; rfl)
    | (apply k_nil)
    | (apply e_ret (vs := [.d (.val _)]); rfl)
    | (apply e_ret; rfl)
    | (apply e_ret' (vs := [.d (.val _)]); rfl)
    | (apply e_ret'; rfl)
    | (apply w_seq)
    | (apply w_ops; ((conv => lhs; simp only [Nat.reduceAdd]) <;> rfl))
    | (apply w_condT; rfl)
    | (apply w_condF; rfl)
    | ((apply w_condS; rfl) <;> (intro h; try simp only [decide_eq_true_eq, decide_eq_false_iff_not, Bool.not_eq_true, Bool.not_eq_false] at h))
    | (apply e_thenN)
    | (apply w_block)
    | (apply e_thenR)
    | (apply e_thenX)
    | (apply e_blkN)
    | (apply e_blkR)
    | (apply e_blkE)
    | (apply w_exit)
    | (apply w_ret)
    | (apply w_skip)
    | (apply e_blkE'; rfl))
  exact .new 50 _ _ _ _ rfl rfl rfl
end Go.Sv
namespace Go.Sv
open Go Go.Proofs
section
variable {P : Program} {Q : Cont} {fr : Fr} {C : Heap} {Z : Frz} {nx : Nat} {base n d0 : Nat} {l : List (Nat × XO)} {kp : Option (List Nat)} {x y : X}
theorem r_callvC {f : FuncId} {g : X} {xs : List X} {ags : List AV} {caps : List DV} {r : AV} (hf : g.ev fr = .d (.fn f caps)) (ha : xs.map (X.ev fr) = ags) (hn : (ags ++ caps.map AV.d).all AV.nrm = true) (hg : Good P f (ags ++ caps.map AV.d) none r none none)
    (k : R P l base kp Q nx (fr.put d0 r) C Z) : R P ((n, ⟨some d0, none, .callv g xs⟩) :: l) base kp Q nx fr C Z := by
  refine ⟨r, C, Z, .inl ⟨rfl, f, caps.map AV.d, .inr ⟨caps, hf, rfl⟩, ?_⟩, k⟩
  subst ha
  refine ⟨_, [], r, none, convAs_nrm _ hn, hg, rfl, fun h => (by cases h), rfl, rfl, ?_⟩
  simp [Frz.add_nil]
end
def firstP (p : T → Bool) : List T → Nat → Int
  | [], _ => -1
  | t :: l, i => if p t = true then i else firstP p l (i + 1)
theorem firstP_drop (p : T → Bool) (l : List T) (i : Nat) (h : i < l.length) : firstP p (l.drop i) i = if p l[i] = true then (i : Int) else firstP p (l.drop (i + 1)) (i + 1) := by
  rw [List.drop_eq_getElem_cons h, firstP]
theorem firstP_any (p : T → Bool) : ∀ (l : List T) (i : Nat), decide (0 ≤ firstP p l i) = l.any p
  | [], _ => by simp [firstP]
  | t :: l, i => by
    rw [firstP, List.any_cons]
    rcases Bool.eq_false_or_eq_true (p t) with h | h
    · rw [if_pos h, h]; simp
    · rw [if_neg (by simp [h]), firstP_any p l (i + 1), h, Bool.false_or]
theorem firstP_spec (p : T → Bool) : ∀ (l : List T) (i : Nat), (firstP p l i = -1 ∧ l.any p = false) ∨ ∃ j, firstP p l i = ((i + j : Nat) : Int) ∧ j < l.length ∧ (l.take j).any p = false ∧ ∀ h : j < l.length, p l[j] = true
  | [], i => .inl ⟨rfl, rfl⟩
  | t :: l, i => by
    rw [firstP]
    rcases Bool.eq_false_or_eq_true (p t) with h | h
    · rw [if_pos h]
      exact .inr ⟨0, by simp, by simp, rfl, fun _ => h⟩
    · rw [if_neg (by simp [h])]
      rcases firstP_spec p l (i + 1) with ⟨h1, h2⟩ | ⟨j, h1, h2, h3, h4⟩
      · exact .inl ⟨h1, by rw [List.any_cons, h, h2]; rfl⟩
      · refine .inr ⟨j + 1, by rw [h1]; congr 1; omega, by simp; omega, ?_, fun hj => ?_⟩
        · rw [List.take_succ_cons, List.any_cons, h, h3]; rfl
        · simpa using h4 h2
set_option maxRecDepth 100000
set_option maxHeartbeats 4000000
attribute [local irreducible] W E R KP thenK blockK retK Good xwp aRun
def PredOK (f : FuncId) (caps : List DV) (p : T → Bool) (l : List T) : Prop := (caps.map AV.d).all AV.nrm = true ∧ ∀ i (hi : i < l.length), Good Try.prog f (nodeA l[i] :: caps.map AV.d) none (.b (p l[i])) none none
theorem idx145_good {f : FuncId} {caps : List DV} {p : T → Bool} {l : List T} (hp : PredOK f caps p l) (hl : l.length ≤ 1000000) : Good Try.prog 145 [.d (.sl (encL l) l.length), .d (.fn f caps)] none (.i (firstP p l 0)) none none := by
  refine b145 (by simp) (by simp) (w_init ?_)
  unfold x145
  repeat' (first
    | (apply r_mvV; rfl)
    | (apply r_mvP; rfl)
    | (apply r_mvPL; rfl)
    | (apply r_mvS; rfl)
    | (apply r_mvSL; rfl)
    | (apply r_mvA; rfl)
    | (apply r_mvT; rfl)
    | (apply r_mvF; rfl)
    | (apply r_mvD; rfl)
    | (apply k_E (v := .d (.fn f caps)); rfl)
    | (apply r_ldL; rfl; rfl; rfl)
    | (apply r_lss; rfl; rfl; (first | (apply decide_eq_true; omega) | (apply decide_eq_false; omega) | rfl))
    | (apply r_add; rfl; rfl; rfl; omega)
    | (apply r_lenD; rfl)
    | (apply r_lenL; rfl)
    | (apply r_len0; rfl)
    | (apply r_p; rfl)
    | (apply r_nilK)
    | (apply r_nil)
    | (apply k_V; rfl)
    | (apply k_P; rfl)
    | (apply k_PL; rfl)
    | (apply k_S; rfl)
    | (apply k_SL; rfl)
    | (apply k_A; rfl)
    | (apply k_T; rfl)
    | (apply k_F; rfl)
    | (apply k_D; rfl; rotate_left; rfl)
    | (apply k_nil)
    | (apply e_ret (vs := [.d (.val _)]); rfl)
    | (apply e_ret; rfl)
    | (apply e_ret' (vs := [.d (.val _)]); rfl)
    | (apply e_ret'; rfl)
    | (apply w_seq)
    | (apply w_ops; ((conv => lhs; simp only [Nat.reduceAdd]) <;> rfl))
    | (apply w_condT; rfl)
    | (apply w_condF; rfl)
    | ((apply w_condS; rfl) <;> (intro h; try simp only [decide_eq_true_eq, decide_eq_false_iff_not, Bool.not_eq_true, Bool.not_eq_false] at h))
    | (apply e_thenN)
    | (apply w_block)
    | (apply e_thenR)
    | (apply e_thenX)
    | (apply e_blkN)
    | (apply e_blkR)
    | (apply e_blkE)
    | (apply w_exit)
    | (apply w_ret)
    | (apply w_skip)
    | (apply e_blkE'; rfl))
  apply w_loopI (S := fun i : Nat => ⟨(((Fr.nil.put 0 (.d (.sl (encL l) l.length))).put 1 (.d (.fn f caps))).put 7 (.i l.length)).put 8 (.i i), Heap.nil, Frz.lo 100, 100⟩) (m := fun i => l.length - i) (I := fun i => i ≤ l.length ∧ firstP p l 0 = firstP p (l.drop i) i) (i0 := 0)
  · exact ⟨Nat.zero_le _, rfl⟩
  · refine wk0 (by omega) ?_
    repeat' (first
    | exact FWk.nil
    | (apply FWk.i; rfl; (first | rfl | omega | (simp; done)))
    | (apply FWk.sl; rfl; rfl; rfl; rfl; omega; rfl)
    | (apply FWk.ptr; rfl; rfl; rfl; omega; rfl)
    | (apply FWk.d; rfl; rfl)
    | (apply FWk.a; rfl; rfl; rfl)
    | (apply FWk.slN; rfl; omega; rfl))
  rintro i K ⟨hi, hpp⟩ hK
  dsimp only
  rcases Nat.lt_or_ge i l.length with hlt | hge
  · have hs := NodeAt.sub hlt
    have hg := hp.2 i hlt
    have hd := firstP_drop p l i hlt
    have hna : ([nodeA l[i]] ++ caps.map AV.d).all AV.nrm = true := by rw [List.singleton_append, List.all_cons, nodeA_nrm, hp.1]; rfl
    rcases Bool.eq_false_or_eq_true (p l[i]) with hq | hq
    · rw [hq] at hg
      rw [if_pos hq] at hd
      repeat' (first
    | (apply r_mvV; rfl)
    | (apply r_mvP; rfl)
    | (apply r_mvPL; rfl)
    | (apply r_mvS; rfl)
    | (apply r_mvSL; rfl)
    | (apply r_mvA; rfl)
    | (apply r_mvT; rfl)
    | (apply r_mvF; rfl)
    | (apply r_mvD; rfl)
    | (apply k_E (v := .d (.fn f caps)); rfl)
    | (apply r_p; apply ix_sub; rfl; rfl; omega)
    | (apply r_l; apply ld_node'; exact hs; rfl)
    | (apply r_callvC (ags := [nodeA l[i]]) (caps := caps); rfl; rfl; exact hna; exact hg)
    | (apply r_ldL; rfl; rfl; rfl)
    | (apply r_lss; rfl; rfl; (first | (apply decide_eq_true; omega) | (apply decide_eq_false; omega) | rfl))
    | (apply r_add; rfl; rfl; rfl; omega)
    | (apply r_lenD; rfl)
    | (apply r_lenL; rfl)
    | (apply r_len0; rfl)
    | (apply r_p; rfl)
    | (apply r_nilK)
    | (apply r_nil)
    | (apply k_V; rfl)
    | (apply k_P; rfl)
    | (apply k_PL; rfl)
    | (apply k_S; rfl)
    | (apply k_SL; rfl)
    | (apply k_A; rfl)
    | (apply k_T; rfl)
    | (apply k_F; rfl)
    | (apply k_D; rfl; rotate_left; rfl)
    | (apply k_nil)
    | (apply e_ret (vs := [.d (.val _)]); rfl)
    | (apply e_ret; rfl)
    | (apply e_ret' (vs := [.d (.val _)]); rfl)
    | (apply e_ret'; rfl)
    | (apply w_seq)
    | (apply w_ops; ((conv => lhs; simp only [Nat.reduceAdd]) <;> rfl))
    | (apply w_condT; rfl)
    | (apply w_condF; rfl)
    | ((apply w_condS; rfl) <;> (intro h; try simp only [decide_eq_true_eq, decide_eq_false_iff_not, Bool.not_eq_true, Bool.not_eq_false] at h))
    | (apply e_thenN)
    | (apply w_block)
    | (apply e_thenR)
    | (apply e_thenX)
    | (apply e_blkN)
    | (apply e_blkR)
    | (apply e_blkE)
    | (apply w_exit)
    | (apply w_ret)
    | (apply w_skip)
    | (apply e_blkE'; rfl))
      exact retI (by rw [hpp, hd])
    · rw [hq] at hg
      rw [if_neg (by simp [hq])] at hd
      repeat' (first
    | (apply r_mvV; rfl)
    | (apply r_mvP; rfl)
    | (apply r_mvPL; rfl)
    | (apply r_mvS; rfl)
    | (apply r_mvSL; rfl)
    | (apply r_mvA; rfl)
    | (apply r_mvT; rfl)
    | (apply r_mvF; rfl)
    | (apply r_mvD; rfl)
    | (apply k_E (v := .d (.fn f caps)); rfl)
    | (apply r_p; apply ix_sub; rfl; rfl; omega)
    | (apply r_l; apply ld_node'; exact hs; rfl)
    | (apply r_callvC (ags := [nodeA l[i]]) (caps := caps); rfl; rfl; exact hna; exact hg)
    | (apply r_ldL; rfl; rfl; rfl)
    | (apply r_lss; rfl; rfl; (first | (apply decide_eq_true; omega) | (apply decide_eq_false; omega) | rfl))
    | (apply r_add; rfl; rfl; rfl; omega)
    | (apply r_lenD; rfl)
    | (apply r_lenL; rfl)
    | (apply r_len0; rfl)
    | (apply r_p; rfl)
    | (apply r_nilK)
    | (apply r_nil)
    | (apply k_V; rfl)
    | (apply k_P; rfl)
    | (apply k_PL; rfl)
    | (apply k_S; rfl)
    | (apply k_SL; rfl)
    | (apply k_A; rfl)
    | (apply k_T; rfl)
    | (apply k_F; rfl)
    | (apply k_D; rfl; rotate_left; rfl)
    | (apply k_nil)
    | (apply e_ret (vs := [.d (.val _)]); rfl)
    | (apply e_ret; rfl)
    | (apply e_ret' (vs := [.d (.val _)]); rfl)
    | (apply e_ret'; rfl)
    | (apply w_seq)
    | (apply w_ops; ((conv => lhs; simp only [Nat.reduceAdd]) <;> rfl))
    | (apply w_condT; rfl)
    | (apply w_condF; rfl)
    | ((apply w_condS; rfl) <;> (intro h; try simp only [decide_eq_true_eq, decide_eq_false_iff_not, Bool.not_eq_true, Bool.not_eq_false] at h))
    | (apply e_thenN)
    | (apply w_block)
    | (apply e_thenR)
    | (apply e_thenX)
    | (apply e_blkN)
    | (apply e_blkR)
    | (apply e_blkE)
    | (apply w_exit)
    | (apply w_ret)
    | (apply w_skip)
    | (apply e_blkE'; rfl))
      apply e_thenK
      apply hK (i + 1)
      · exact ⟨by omega, by rw [hpp, hd]⟩
      · omega
      · refine wk0 (by omega) ?_
        repeat' (first
    | exact FWk.nil
    | (apply FWk.i; rfl; (first | rfl | omega | (simp; done)))
    | (apply FWk.sl; rfl; rfl; rfl; rfl; omega; rfl)
    | (apply FWk.ptr; rfl; rfl; rfl; omega; rfl)
    | (apply FWk.d; rfl; rfl)
    | (apply FWk.a; rfl; rfl; rfl)
    | (apply FWk.slN; rfl; omega; rfl))
  · have e : firstP p l 0 = -1 := by rw [hpp, List.drop_of_length_le hge, firstP]
    repeat' (first
    | (apply r_mvV; rfl)
    | (apply r_mvP; rfl)
    | (apply r_mvPL; rfl)
    | (apply r_mvS; rfl)
    | (apply r_mvSL; rfl)
    | (apply r_mvA; rfl)
    | (apply r_mvT; rfl)
    | (apply r_mvF; rfl)
    | (apply r_mvD; rfl)
    | (apply k_E (v := .d (.fn f caps)); rfl)
    | (apply r_ldL; rfl; rfl; rfl)
    | (apply r_lss; rfl; rfl; (first | (apply decide_eq_true; omega) | (apply decide_eq_false; omega) | rfl))
    | (apply r_add; rfl; rfl; rfl; omega)
    | (apply r_lenD; rfl)
    | (apply r_lenL; rfl)
    | (apply r_len0; rfl)
    | (apply r_p; rfl)
    | (apply r_nilK)
    | (apply r_nil)
    | (apply k_V; rfl)
    | (apply k_P; rfl)
    | (apply k_PL; rfl)
    | (apply k_S; rfl)
    | (apply k_SL; rfl)
    | (apply k_A; rfl)
    | (apply k_T; rfl)
    | (apply k_F; rfl)
    | (apply k_D; rfl; rotate_left; rfl)
    | (apply k_nil)
    | (apply e_ret (vs := [.d (.val _)]); rfl)
    | (apply e_ret; rfl)
    | (apply e_ret' (vs := [.d (.val _)]); rfl)
    | (apply e_ret'; rfl)
    | (apply w_seq)
    | (apply w_ops; ((conv => lhs; simp only [Nat.reduceAdd]) <;> rfl))
    | (apply w_condT; rfl)
    | (apply w_condF; rfl)
    | ((apply w_condS; rfl) <;> (intro h; try simp only [decide_eq_true_eq, decide_eq_false_iff_not, Bool.not_eq_true, Bool.not_eq_false] at h))
    | (apply e_thenN)
    | (apply w_block)
    | (apply e_thenR)
    | (apply e_thenX)
    | (apply e_blkN)
    | (apply e_blkR)
    | (apply e_blkE)
    | (apply w_exit)
    | (apply w_ret)
    | (apply w_skip)
    | (apply e_blkE'; rfl))
    exact retI e.symm
theorem contains104_good {f : FuncId} {caps : List DV} {p : T → Bool} {l : List T} (hp : PredOK f caps p l) (hl : l.length ≤ 1000000) : Good Try.prog 104 [.d (.sl (encL l) l.length), .d (.fn f caps)] none (.b (l.any p)) none none := by
  have h := idx145_good hp hl
  have hq := firstP_any p l 0
  generalize firstP p l 0 = q at h hq
  refine b104 (by simp) (by simp) (w_init ?_)
  unfold x104
  have hna : [AV.d (.sl (encL l) l.length), .d (.fn f caps)].all AV.nrm = true := rfl
  repeat' (first
    | (apply r_mvV; rfl)
    | (apply r_mvP; rfl)
    | (apply r_mvPL; rfl)
    | (apply r_mvS; rfl)
    | (apply r_mvSL; rfl)
    | (apply r_mvA; rfl)
    | (apply r_mvT; rfl)
    | (apply r_mvF; rfl)
    | (apply r_mvD; rfl)
    | (apply k_E (v := .d (.fn f caps)); rfl)
    | (apply r_mv (v := .d (.fn f caps)); rfl)
    | (apply r_callA (ags := [.d (.sl (encL l) l.length), .d (.fn f caps)]); rfl; exact hna; exact h)
    | (apply r_geq; rfl; rfl; (first | (apply decide_eq_true; omega) | (apply decide_eq_false; omega) | rfl))
    | (apply r_nilK)
    | (apply r_nil)
    | (apply k_V; rfl)
    | (apply k_P; rfl)
    | (apply k_PL; rfl)
    | (apply k_S; rfl)
    | (apply k_SL; rfl)
    | (apply k_A; rfl)
    | (apply k_T; rfl)
    | (apply k_F; rfl)
    | (apply k_D; rfl; rotate_left; rfl)
    | (apply k_nil)
    | (apply e_ret (vs := [.d (.val _)]); rfl)
    | (apply e_ret; rfl)
    | (apply e_ret' (vs := [.d (.val _)]); rfl)
    | (apply e_ret'; rfl)
    | (apply w_seq)
    | (apply w_ops; ((conv => lhs; simp only [Nat.reduceAdd]) <;> rfl))
    | (apply e_thenN)
    | (apply w_block)
    | (apply e_thenR)
    | (apply e_thenX)
    | (apply e_blkN)
    | (apply e_blkR)
    | (apply e_blkE)
    | (apply w_exit)
    | (apply w_ret)
    | (apply w_skip)
    | (apply e_blkE'; rfl))
  all_goals exact retB hq
end Go.Sv
namespace Go.Sv
open Go Go.Proofs
def x112 : XC := (.seq (.ops 3 [
    (0, ⟨(some 2), none, .box (.t 0)⟩),
    (1, ⟨(some 3), none, .box (.t 1)⟩),
    (2, ⟨(some 4), none, .mv (.k (.d (.val (.bool false))))⟩)] (some [2, 3])) (.seq (.ops 34 [
    (0, ⟨(some 5), none, .fadd 0 (.t 2)⟩),
    (1, ⟨(some 6), none, .load none (.t 5)⟩),
    (2, ⟨(some 7), none, .fadd 0 (.t 3)⟩),
    (3, ⟨(some 8), none, .load none (.t 7)⟩),
    (4, ⟨(some 9), none, .arith .eql (.t 6) (.t 8)⟩),
    (5, ⟨(some 10), none, .mv (.t 9)⟩),
    (6, ⟨(some 11), (some (10, true)), .fadd 1 (.t 2)⟩),
    (7, ⟨(some 12), (some (10, true)), .load (some 4) (.t 11)⟩),
    (8, ⟨(some 13), (some (10, true)), .fadd 1 (.t 3)⟩),
    (9, ⟨(some 14), (some (10, true)), .load (some 4) (.t 13)⟩),
    (10, ⟨(some 15), (some (10, true)), .eqAgg 4 false (.t 12) (.t 14)⟩),
    (11, ⟨(some 16), none, .pick (.t 10) (.t 15) (.k (.d (.val (.bool false))))⟩),
    (12, ⟨(some 17), none, .mv (.t 16)⟩),
    (13, ⟨(some 18), (some (17, true)), .fadd 5 (.t 2)⟩),
    (14, ⟨(some 19), (some (17, true)), .load none (.t 18)⟩),
    (15, ⟨(some 20), (some (17, true)), .fadd 5 (.t 3)⟩),
    (16, ⟨(some 21), (some (17, true)), .load none (.t 20)⟩),
    (17, ⟨(some 22), (some (17, true)), .arith .eql (.t 19) (.t 21)⟩),
    (18, ⟨(some 23), none, .pick (.t 17) (.t 22) (.k (.d (.val (.bool false))))⟩),
    (19, ⟨(some 24), none, .mv (.t 23)⟩),
    (20, ⟨(some 25), (some (24, true)), .fadd 6 (.t 2)⟩),
    (21, ⟨(some 26), (some (24, true)), .load none (.t 25)⟩),
    (22, ⟨(some 27), (some (24, true)), .fadd 6 (.t 3)⟩),
    (23, ⟨(some 28), (some (24, true)), .load none (.t 27)⟩),
    (24, ⟨(some 29), (some (24, true)), .arith .eql (.t 26) (.t 28)⟩),
    (25, ⟨(some 30), none, .pick (.t 24) (.t 29) (.k (.d (.val (.bool false))))⟩),
    (26, ⟨(some 31), none, .mv (.t 30)⟩),
    (27, ⟨(some 32), (some (31, true)), .fadd 7 (.t 2)⟩),
    (28, ⟨(some 33), (some (31, true)), .load none (.t 32)⟩),
    (29, ⟨(some 34), (some (31, true)), .fadd 7 (.t 3)⟩),
    (30, ⟨(some 35), (some (31, true)), .load none (.t 34)⟩),
    (31, ⟨(some 36), (some (31, true)), .call 146 [(.t 33), (.t 35), (.k (.d (.fn 112 [])))] none false⟩),
    (32, ⟨(some 37), none, .pick (.t 31) (.t 36) (.k (.d (.val (.bool false))))⟩),
    (33, ⟨(some 4), none, .mv (.t 37)⟩)] (some [4])) .ret))
def md112 : FuncId → Option Nat × Bool
  | _ => (none, false)
def od112 : Nat → List (List Nat) × List Nat × Option (List Nat)
  | 0 => ([], [], some [2, 3])
  | 1 => ([], [], some [4])
  | _ => ([], [], none)
theorem b112 {ags : List AV} {row : Option (List DV)} {r : AV} {row' nw : Option (List DV)} (hal : ags.length ≤ 38) (hrow : row'.isSome = true → row.isSome = true) (h : xwp Try.prog x112 (retK [.tmp 4] row.isSome r row' nw) (St.init ags row)) : Good Try.prog 112 ags row r row' nw :=
  good_of_body' (md := md112) (od := od112) Try.f112 (by kernel_rfl) (by kernel_rfl) (by kernel_rfl) (by kernel_rfl) (by kernel_rfl) hal hrow h

def x146 : XC := (.seq (.ops 1 [
    (0, ⟨(some 6), none, .mv (.k (.d (.val (.bool false))))⟩)] (some [0, 1, 2])) (.seq (.seq (.ops 5 [
    (0, ⟨(some 10), none, .mv (.t 0)⟩),
    (1, ⟨(some 11), none, .lenS (.t 10)⟩),
    (2, ⟨(some 12), none, .mv (.t 1)⟩),
    (3, ⟨(some 13), none, .lenS (.t 12)⟩),
    (4, ⟨(some 14), none, .arith .neq (.t 11) (.t 13)⟩)] (some [0, 1, 2, 14])) (.cond (.t 14) (.seq (.ops 1 [
    (0, ⟨(some 6), none, .mv (.k (.d (.val (.bool false))))⟩)] (some [6])) .ret) .skip)) (.seq (.seq (.ops 3 [
    (0, ⟨(some 15), none, .mv (.t 0)⟩),
    (1, ⟨(some 16), none, .lenS (.t 15)⟩),
    (2, ⟨(some 17), none, .mv (.k (.d (.val (.int .i64 0))))⟩)] (some [1, 2, 15, 16, 17])) (.block 0 (.loop (.seq (.ops 1 [
    (0, ⟨(some 18), none, .arith .lss (.t 17) (.t 16)⟩)] (some [1, 2, 15, 16, 17, 18])) (.seq (.cond (.t 18) .skip (.exit 0)) (.seq (.block 1 (.seq (.ops 6 [
    (0, ⟨(some 19), none, .mv (.t 17)⟩),
    (1, ⟨(some 20), none, .idxS 8 (.t 15) (.t 17)⟩),
    (2, ⟨(some 21), none, .load (some 8) (.t 20)⟩),
    (3, ⟨(some 8), none, .alloc [(.int .i64 0), (.int .u64 0), (.int .u64 0), (.int .u64 0), (.int .u64 0), (.int .i64 0), (.int .i64 0), (.slice none 0 0)]⟩),
    (4, ⟨(some 7), none, .mv (.t 19)⟩),
    (5, ⟨none, none, .store 8 (.t 8) (.t 21)⟩)] (some [1, 2, 7, 8, 15, 16, 17])) (.seq (.ops 6 [
    (0, ⟨(some 22), none, .mv (.t 1)⟩),
    (1, ⟨(some 23), none, .mv (.t 7)⟩),
    (2, ⟨(some 24), none, .idxS 8 (.t 22) (.t 23)⟩),
    (3, ⟨(some 25), none, .load (some 8) (.t 24)⟩),
    (4, ⟨(some 9), none, .alloc [(.int .i64 0), (.int .u64 0), (.int .u64 0), (.int .u64 0), (.int .u64 0), (.int .i64 0), (.int .i64 0), (.slice none 0 0)]⟩),
    (5, ⟨none, none, .store 8 (.t 9) (.t 25)⟩)] (some [1, 2, 8, 9, 15, 16, 17])) (.seq (.ops 5 [
    (0, ⟨(some 26), none, .mv (.t 2)⟩),
    (1, ⟨(some 27), none, .load (some 8) (.t 8)⟩),
    (2, ⟨(some 28), none, .load (some 8) (.t 9)⟩),
    (3, ⟨(some 29), none, .callv (.t 26) [(.t 27), (.t 28)]⟩),
    (4, ⟨(some 30), none, .un .not (.t 29)⟩)] (some [1, 2, 15, 16, 17, 30])) (.cond (.t 30) (.seq (.ops 1 [
    (0, ⟨(some 6), none, .mv (.k (.d (.val (.bool false))))⟩)] (some [6])) .ret) .skip))))) (.ops 2 [
    (0, ⟨(some 31), none, .arith .add (.t 17) (.k (.d (.val (.int .i64 1))))⟩),
    (1, ⟨(some 17), none, .mv (.t 31)⟩)] (some [1, 2, 15, 16, 17])))))))) (.seq (.ops 1 [
    (0, ⟨(some 6), none, .mv (.k (.d (.val (.bool true))))⟩)] (some [6])) .ret))))
def md146 : FuncId → Option Nat × Bool
  | _ => (none, false)
def od146 : Nat → List (List Nat) × List Nat × Option (List Nat)
  | 0 => ([], [], some [0, 1, 2])
  | 1 => ([], [], some [0, 1, 2, 14])
  | 2 => ([], [], some [6])
  | 3 => ([], [], some [1, 2, 15, 16, 17])
  | 4 => ([], [], some [1, 2, 15, 16, 17, 18])
  | 5 => ([], [], some [1, 2, 7, 8, 15, 16, 17])
  | 6 => ([], [], some [1, 2, 8, 9, 15, 16, 17])
  | 7 => ([], [], some [1, 2, 15, 16, 17, 30])
  | 8 => ([], [], some [6])
  | 9 => ([], [], some [1, 2, 15, 16, 17])
  | 10 => ([], [], some [6])
  | _ => ([], [], none)
theorem b146 {ags : List AV} {row : Option (List DV)} {r : AV} {row' nw : Option (List DV)} (hal : ags.length ≤ 32) (hrow : row'.isSome = true → row.isSome = true) (h : xwp Try.prog x146 (retK [.tmp 6] row.isSome r row' nw) (St.init ags row)) : Good Try.prog 146 ags row r row' nw :=
  good_of_body' (md := md146) (od := od146) Try.f146 (by kernel_rfl) (by kernel_rfl) (by kernel_rfl) (by kernel_rfl) (by kernel_rfl) hal hrow h

def x111 : XC := (.seq (.ops 2 [
    (0, ⟨(some 2), none, .box (.t 0)⟩),
    (1, ⟨(some 3), none, .mv (.k (.d (.val (.bool false))))⟩)] (some [1, 2])) (.seq (.ops 4 [
    (0, ⟨(some 4), none, .load (some 8) (.t 2)⟩),
    (1, ⟨(some 5), none, .load (some 8) (.t 1)⟩),
    (2, ⟨(some 6), none, .call 112 [(.t 4), (.t 5)] none false⟩),
    (3, ⟨(some 3), none, .mv (.t 6)⟩)] (some [3])) .ret))
def md111 : FuncId → Option Nat × Bool
  | _ => (none, false)
def od111 : Nat → List (List Nat) × List Nat × Option (List Nat)
  | 0 => ([], [], some [1, 2])
  | 1 => ([], [], some [3])
  | _ => ([], [], none)
theorem b111 {ags : List AV} {row : Option (List DV)} {r : AV} {row' nw : Option (List DV)} (hal : ags.length ≤ 7) (hrow : row'.isSome = true → row.isSome = true) (h : xwp Try.prog x111 (retK [.tmp 3] row.isSome r row' nw) (St.init ags row)) : Good Try.prog 111 ags row r row' nw :=
  good_of_body' (md := md111) (od := od111) Try.f111 (by kernel_rfl) (by kernel_rfl) (by kernel_rfl) (by kernel_rfl) (by kernel_rfl) hal hrow h

set_option maxRecDepth 100000
set_option maxHeartbeats 4000000
attribute [local irreducible] W E R KP thenK blockK retK Good xwp aRun
theorem eq146_of (l r : List T) (hl : l.length ≤ 1000000) (h : ∀ i (h1 : i < l.length) (h2 : i < r.length), Good Try.prog 112 [nodeA l[i], nodeA r[i]] none (.b (sameT l[i] r[i])) none none) : Good Try.prog 146 [.d (.sl (encL l) l.length), .d (.sl (encL r) r.length), .d (.fn 112 [])] none (.b (sameL l r)) none none := by
  by_cases hlen : l.length = r.length
  case neg =>
    refine b146 (by simp) (by simp) (w_init ?_)
    unfold x146
    repeat' (first
    | (apply r_mvV; rfl)
    | (apply r_mvP; rfl)
    | (apply r_mvPL; rfl)
    | (apply r_mvS; rfl)
    | (apply r_mvSL; rfl)
    | (apply r_mvA; rfl)
    | (apply r_mvT; rfl)
    | (apply r_mvF; rfl)
    | (apply r_mvD; rfl)
    | (apply k_E (v := .d (.fn 112 [])); rfl)
    | (apply r_ldL; rfl; rfl; rfl)
    | (apply r_neq; rfl; rfl; (first | (apply decide_eq_true; omega) | (apply decide_eq_false; omega) | rfl))
    | (apply r_lss; rfl; rfl; (first | (apply decide_eq_true; omega) | (apply decide_eq_false; omega) | rfl))
    | (apply r_add; rfl; rfl; rfl; omega)
    | (apply r_not; rfl; rfl)
    | (apply r_lenD; rfl)
    | (apply r_lenL; rfl)
    | (apply r_len0; rfl)
    | (apply r_alloc; ((conv => lhs; simp only [Nat.reduceAdd]) <;> rfl); rfl)
    | (apply r_stL; rfl; rfl; rfl; rfl; (first | rfl | (simp only [z_nil, z_add] <;> rfl)); rfl; rfl)
    | (apply r_p; rfl)
    | (apply r_nilK)
    | (apply r_nil)
    | (apply k_V; rfl)
    | (apply k_P; rfl)
    | (apply k_PL; rfl)
    | (apply k_S; rfl)
    | (apply k_SL; rfl)
    | (apply k_A; rfl)
    | (apply k_T; rfl)
    | (apply k_F; rfl)
    | (apply k_D; rfl; rotate_left; rfl)
    | (apply k_nil)
    | (apply e_ret (vs := [.d (.val _)]); rfl)
    | (apply e_ret; rfl)
    | (apply e_ret' (vs := [.d (.val _)]); rfl)
    | (apply e_ret'; rfl)
    | (apply w_seq)
    | (apply w_ops; ((conv => lhs; simp only [Nat.reduceAdd]) <;> rfl))
    | (apply w_condT; rfl)
    | (apply w_condF; rfl)
    | ((apply w_condS; rfl) <;> (intro h; try simp only [decide_eq_true_eq, decide_eq_false_iff_not, Bool.not_eq_true, Bool.not_eq_false] at h))
    | (apply e_thenN)
    | (apply w_block)
    | (apply e_thenR)
    | (apply e_thenX)
    | (apply e_blkN)
    | (apply e_blkR)
    | (apply e_blkE)
    | (apply w_exit)
    | (apply w_ret)
    | (apply w_skip)
    | (apply e_blkE'; rfl))
    exact retB (sameL_len hlen).symm
  refine b146 (by simp) (by simp) (w_init ?_)
  unfold x146
  repeat' (first
    | (apply r_mvV; rfl)
    | (apply r_mvP; rfl)
    | (apply r_mvPL; rfl)
    | (apply r_mvS; rfl)
    | (apply r_mvSL; rfl)
    | (apply r_mvA; rfl)
    | (apply r_mvT; rfl)
    | (apply r_mvF; rfl)
    | (apply r_mvD; rfl)
    | (apply k_E (v := .d (.fn 112 [])); rfl)
    | (apply r_ldL; rfl; rfl; rfl)
    | (apply r_neq; rfl; rfl; (first | (apply decide_eq_true; omega) | (apply decide_eq_false; omega) | rfl))
    | (apply r_lss; rfl; rfl; (first | (apply decide_eq_true; omega) | (apply decide_eq_false; omega) | rfl))
    | (apply r_add; rfl; rfl; rfl; omega)
    | (apply r_not; rfl; rfl)
    | (apply r_lenD; rfl)
    | (apply r_lenL; rfl)
    | (apply r_len0; rfl)
    | (apply r_alloc; ((conv => lhs; simp only [Nat.reduceAdd]) <;> rfl); rfl)
    | (apply r_stL; rfl; rfl; rfl; rfl; (first | rfl | (simp only [z_nil, z_add] <;> rfl)); rfl; rfl)
    | (apply r_p; rfl)
    | (apply r_nilK)
    | (apply r_nil)
    | (apply k_V; rfl)
    | (apply k_P; rfl)
    | (apply k_PL; rfl)
    | (apply k_S; rfl)
    | (apply k_SL; rfl)
    | (apply k_A; rfl)
    | (apply k_T; rfl)
    | (apply k_F; rfl)
    | (apply k_D; rfl; rotate_left; rfl)
    | (apply k_nil)
    | (apply e_ret (vs := [.d (.val _)]); rfl)
    | (apply e_ret; rfl)
    | (apply e_ret' (vs := [.d (.val _)]); rfl)
    | (apply e_ret'; rfl)
    | (apply w_seq)
    | (apply w_ops; ((conv => lhs; simp only [Nat.reduceAdd]) <;> rfl))
    | (apply w_condT; rfl)
    | (apply w_condF; rfl)
    | ((apply w_condS; rfl) <;> (intro h; try simp only [decide_eq_true_eq, decide_eq_false_iff_not, Bool.not_eq_true, Bool.not_eq_false] at h))
    | (apply e_thenN)
    | (apply w_block)
    | (apply e_thenR)
    | (apply e_thenX)
    | (apply e_blkN)
    | (apply e_blkR)
    | (apply e_blkE)
    | (apply w_exit)
    | (apply w_ret)
    | (apply w_skip)
    | (apply e_blkE'; rfl))
  apply w_loopI (S := fun i : Nat => ⟨((((Fr.nil.put 1 (.d (.sl (encL r) r.length))).put 2 (.d (.fn 112 []))).put 15 (.d (.sl (encL l) l.length))).put 16 (.i l.length)).put 17 (.i i), Heap.nil, Frz.lo 100, 100⟩) (m := fun i => l.length - i) (I := fun i => i ≤ l.length ∧ sameL l r = sameL (l.drop i) (r.drop i)) (i0 := 0)
  · exact ⟨Nat.zero_le _, rfl⟩
  · refine wk0 (by omega) ?_
    repeat' (first
    | exact FWk.nil
    | (apply FWk.i; rfl; (first | rfl | omega | (simp; done)))
    | (apply FWk.sl; rfl; rfl; rfl; rfl; omega; rfl)
    | (apply FWk.ptr; rfl; rfl; rfl; omega; rfl)
    | (apply FWk.d; rfl; rfl)
    | (apply FWk.a; rfl; rfl; rfl)
    | (apply FWk.slN; rfl; omega; rfl))
  rintro i K ⟨hi, hp⟩ hK
  dsimp only
  rcases Nat.lt_or_ge i l.length with hlt | hge
  · have hlt2 : i < r.length := by omega
    have hs := NodeAt.sub hlt
    have hs2 := NodeAt.sub hlt2
    have hg := h i hlt hlt2
    have hd := sameL_drop l r i hlt hlt2
    rcases Bool.eq_false_or_eq_true (sameT l[i] r[i]) with hq | hq
    · rw [hq] at hg hd
      generalize l[i] = v at hs hg
      generalize r[i] = w at hs2 hg
      obtain ⟨k, a, b, c, d, mn, mx, subs⟩ := v
      obtain ⟨k2, a2, b2, c2, d2, mn2, mx2, subs2⟩ := w
      repeat' (first
    | (apply r_mvV; rfl)
    | (apply r_mvP; rfl)
    | (apply r_mvPL; rfl)
    | (apply r_mvS; rfl)
    | (apply r_mvSL; rfl)
    | (apply r_mvA; rfl)
    | (apply r_mvT; rfl)
    | (apply r_mvF; rfl)
    | (apply r_mvD; rfl)
    | (apply k_E (v := .d (.fn 112 [])); rfl)
    | (apply r_mv (v := .d (.fn 112 [])); rfl)
    | (apply r_p; apply ix_sub; rfl; rfl; omega)
    | (apply r_l (v := .agg [.i k, .d (.val (.int .u64 a)), .d (.val (.int .u64 b)), .d (.val (.int .u64 c)), .d (.val (.int .u64 d)), .i mn, .i mx, .d (.sl (encL subs) subs.length)]); exact ld_node hs rfl)
    | (apply r_l (v := .agg [.i k2, .d (.val (.int .u64 a2)), .d (.val (.int .u64 b2)), .d (.val (.int .u64 c2)), .d (.val (.int .u64 d2)), .i mn2, .i mx2, .d (.sl (encL subs2) subs2.length)]); exact ld_node hs2 rfl)
    | (apply r_ldL (v := .agg [.i k, .d (.val (.int .u64 a)), .d (.val (.int .u64 b)), .d (.val (.int .u64 c)), .d (.val (.int .u64 d)), .i mn, .i mx, .d (.sl (encL subs) subs.length)]); rfl; rfl; rfl)
    | (apply r_ldL (v := .agg [.i k2, .d (.val (.int .u64 a2)), .d (.val (.int .u64 b2)), .d (.val (.int .u64 c2)), .d (.val (.int .u64 d2)), .i mn2, .i mx2, .d (.sl (encL subs2) subs2.length)]); rfl; rfl; rfl)
    | (apply r_callv (ags := [.agg [.i k, .d (.val (.int .u64 a)), .d (.val (.int .u64 b)), .d (.val (.int .u64 c)), .d (.val (.int .u64 d)), .i mn, .i mx, .d (.sl (encL subs) subs.length)], .agg [.i k2, .d (.val (.int .u64 a2)), .d (.val (.int .u64 b2)), .d (.val (.int .u64 c2)), .d (.val (.int .u64 d2)), .i mn2, .i mx2, .d (.sl (encL subs2) subs2.length)]]); rfl; rfl; rfl; exact hg)
    | (apply r_ldL; rfl; rfl; rfl)
    | (apply r_neq; rfl; rfl; (first | (apply decide_eq_true; omega) | (apply decide_eq_false; omega) | rfl))
    | (apply r_lss; rfl; rfl; (first | (apply decide_eq_true; omega) | (apply decide_eq_false; omega) | rfl))
    | (apply r_add; rfl; rfl; rfl; omega)
    | (apply r_not; rfl; rfl)
    | (apply r_lenD; rfl)
    | (apply r_lenL; rfl)
    | (apply r_len0; rfl)
    | (apply r_alloc; ((conv => lhs; simp only [Nat.reduceAdd]) <;> rfl); rfl)
    | (apply r_stL; rfl; rfl; rfl; rfl; (first | rfl | (simp only [z_nil, z_add] <;> rfl)); rfl; rfl)
    | (apply r_p; rfl)
    | (apply r_nilK)
    | (apply r_nil)
    | (apply k_V; rfl)
    | (apply k_P; rfl)
    | (apply k_PL; rfl)
    | (apply k_S; rfl)
    | (apply k_SL; rfl)
    | (apply k_A; rfl)
    | (apply k_T; rfl)
    | (apply k_F; rfl)
    | (apply k_D; rfl; rotate_left; rfl)
    | (apply k_nil)
    | (apply e_ret (vs := [.d (.val _)]); rfl)
    | (apply e_ret; rfl)
    | (apply e_ret' (vs := [.d (.val _)]); rfl)
    | (apply e_ret'; rfl)
    | (apply w_seq)
    | (apply w_ops; ((conv => lhs; simp only [Nat.reduceAdd]) <;> rfl))
    | (apply w_condT; rfl)
    | (apply w_condF; rfl)
    | ((apply w_condS; rfl) <;> (intro h; try simp only [decide_eq_true_eq, decide_eq_false_iff_not, Bool.not_eq_true, Bool.not_eq_false] at h))
    | (apply e_thenN)
    | (apply w_block)
    | (apply e_thenR)
    | (apply e_thenX)
    | (apply e_blkN)
    | (apply e_blkR)
    | (apply e_blkE)
    | (apply w_exit)
    | (apply w_ret)
    | (apply w_skip)
    | (apply e_blkE'; rfl))
      apply e_thenK
      apply hK (i + 1)
      · exact ⟨by omega, by rw [hp, hd, Bool.true_and]⟩
      · omega
      · refine wk0 (by omega) ?_
        repeat' (first
    | exact FWk.nil
    | (apply FWk.i; rfl; (first | rfl | omega | (simp; done)))
    | (apply FWk.sl; rfl; rfl; rfl; rfl; omega; rfl)
    | (apply FWk.ptr; rfl; rfl; rfl; omega; rfl)
    | (apply FWk.d; rfl; rfl)
    | (apply FWk.a; rfl; rfl; rfl)
    | (apply FWk.slN; rfl; omega; rfl))
    · rw [hq] at hg hd
      generalize l[i] = v at hs hg
      generalize r[i] = w at hs2 hg
      obtain ⟨k, a, b, c, d, mn, mx, subs⟩ := v
      obtain ⟨k2, a2, b2, c2, d2, mn2, mx2, subs2⟩ := w
      repeat' (first
    | (apply r_mvV; rfl)
    | (apply r_mvP; rfl)
    | (apply r_mvPL; rfl)
    | (apply r_mvS; rfl)
    | (apply r_mvSL; rfl)
    | (apply r_mvA; rfl)
    | (apply r_mvT; rfl)
    | (apply r_mvF; rfl)
    | (apply r_mvD; rfl)
    | (apply k_E (v := .d (.fn 112 [])); rfl)
    | (apply r_mv (v := .d (.fn 112 [])); rfl)
    | (apply r_p; apply ix_sub; rfl; rfl; omega)
    | (apply r_l (v := .agg [.i k, .d (.val (.int .u64 a)), .d (.val (.int .u64 b)), .d (.val (.int .u64 c)), .d (.val (.int .u64 d)), .i mn, .i mx, .d (.sl (encL subs) subs.length)]); exact ld_node hs rfl)
    | (apply r_l (v := .agg [.i k2, .d (.val (.int .u64 a2)), .d (.val (.int .u64 b2)), .d (.val (.int .u64 c2)), .d (.val (.int .u64 d2)), .i mn2, .i mx2, .d (.sl (encL subs2) subs2.length)]); exact ld_node hs2 rfl)
    | (apply r_ldL (v := .agg [.i k, .d (.val (.int .u64 a)), .d (.val (.int .u64 b)), .d (.val (.int .u64 c)), .d (.val (.int .u64 d)), .i mn, .i mx, .d (.sl (encL subs) subs.length)]); rfl; rfl; rfl)
    | (apply r_ldL (v := .agg [.i k2, .d (.val (.int .u64 a2)), .d (.val (.int .u64 b2)), .d (.val (.int .u64 c2)), .d (.val (.int .u64 d2)), .i mn2, .i mx2, .d (.sl (encL subs2) subs2.length)]); rfl; rfl; rfl)
    | (apply r_callv (ags := [.agg [.i k, .d (.val (.int .u64 a)), .d (.val (.int .u64 b)), .d (.val (.int .u64 c)), .d (.val (.int .u64 d)), .i mn, .i mx, .d (.sl (encL subs) subs.length)], .agg [.i k2, .d (.val (.int .u64 a2)), .d (.val (.int .u64 b2)), .d (.val (.int .u64 c2)), .d (.val (.int .u64 d2)), .i mn2, .i mx2, .d (.sl (encL subs2) subs2.length)]]); rfl; rfl; rfl; exact hg)
    | (apply r_ldL; rfl; rfl; rfl)
    | (apply r_neq; rfl; rfl; (first | (apply decide_eq_true; omega) | (apply decide_eq_false; omega) | rfl))
    | (apply r_lss; rfl; rfl; (first | (apply decide_eq_true; omega) | (apply decide_eq_false; omega) | rfl))
    | (apply r_add; rfl; rfl; rfl; omega)
    | (apply r_not; rfl; rfl)
    | (apply r_lenD; rfl)
    | (apply r_lenL; rfl)
    | (apply r_len0; rfl)
    | (apply r_alloc; ((conv => lhs; simp only [Nat.reduceAdd]) <;> rfl); rfl)
    | (apply r_stL; rfl; rfl; rfl; rfl; (first | rfl | (simp only [z_nil, z_add] <;> rfl)); rfl; rfl)
    | (apply r_p; rfl)
    | (apply r_nilK)
    | (apply r_nil)
    | (apply k_V; rfl)
    | (apply k_P; rfl)
    | (apply k_PL; rfl)
    | (apply k_S; rfl)
    | (apply k_SL; rfl)
    | (apply k_A; rfl)
    | (apply k_T; rfl)
    | (apply k_F; rfl)
    | (apply k_D; rfl; rotate_left; rfl)
    | (apply k_nil)
    | (apply e_ret (vs := [.d (.val _)]); rfl)
    | (apply e_ret; rfl)
    | (apply e_ret' (vs := [.d (.val _)]); rfl)
    | (apply e_ret'; rfl)
    | (apply w_seq)
    | (apply w_ops; ((conv => lhs; simp only [Nat.reduceAdd]) <;> rfl))
    | (apply w_condT; rfl)
    | (apply w_condF; rfl)
    | ((apply w_condS; rfl) <;> (intro h; try simp only [decide_eq_true_eq, decide_eq_false_iff_not, Bool.not_eq_true, Bool.not_eq_false] at h))
    | (apply e_thenN)
    | (apply w_block)
    | (apply e_thenR)
    | (apply e_thenX)
    | (apply e_blkN)
    | (apply e_blkR)
    | (apply e_blkE)
    | (apply w_exit)
    | (apply w_ret)
    | (apply w_skip)
    | (apply e_blkE'; rfl))
      exact retB (by rw [hp, hd, Bool.false_and])
  · have e : sameL l r = true := by rw [hp, List.drop_of_length_le hge, List.drop_of_length_le (by omega), sameL]
    repeat' (first
    | (apply r_mvV; rfl)
    | (apply r_mvP; rfl)
    | (apply r_mvPL; rfl)
    | (apply r_mvS; rfl)
    | (apply r_mvSL; rfl)
    | (apply r_mvA; rfl)
    | (apply r_mvT; rfl)
    | (apply r_mvF; rfl)
    | (apply r_mvD; rfl)
    | (apply k_E (v := .d (.fn 112 [])); rfl)
    | (apply r_ldL; rfl; rfl; rfl)
    | (apply r_neq; rfl; rfl; (first | (apply decide_eq_true; omega) | (apply decide_eq_false; omega) | rfl))
    | (apply r_lss; rfl; rfl; (first | (apply decide_eq_true; omega) | (apply decide_eq_false; omega) | rfl))
    | (apply r_add; rfl; rfl; rfl; omega)
    | (apply r_not; rfl; rfl)
    | (apply r_lenD; rfl)
    | (apply r_lenL; rfl)
    | (apply r_len0; rfl)
    | (apply r_alloc; ((conv => lhs; simp only [Nat.reduceAdd]) <;> rfl); rfl)
    | (apply r_stL; rfl; rfl; rfl; rfl; (first | rfl | (simp only [z_nil, z_add] <;> rfl)); rfl; rfl)
    | (apply r_p; rfl)
    | (apply r_nilK)
    | (apply r_nil)
    | (apply k_V; rfl)
    | (apply k_P; rfl)
    | (apply k_PL; rfl)
    | (apply k_S; rfl)
    | (apply k_SL; rfl)
    | (apply k_A; rfl)
    | (apply k_T; rfl)
    | (apply k_F; rfl)
    | (apply k_D; rfl; rotate_left; rfl)
    | (apply k_nil)
    | (apply e_ret (vs := [.d (.val _)]); rfl)
    | (apply e_ret; rfl)
    | (apply e_ret' (vs := [.d (.val _)]); rfl)
    | (apply e_ret'; rfl)
    | (apply w_seq)
    | (apply w_ops; ((conv => lhs; simp only [Nat.reduceAdd]) <;> rfl))
    | (apply w_condT; rfl)
    | (apply w_condF; rfl)
    | ((apply w_condS; rfl) <;> (intro h; try simp only [decide_eq_true_eq, decide_eq_false_iff_not, Bool.not_eq_true, Bool.not_eq_false] at h))
    | (apply e_thenN)
    | (apply w_block)
    | (apply e_thenR)
    | (apply e_thenX)
    | (apply e_blkN)
    | (apply e_blkR)
    | (apply e_blkE)
    | (apply w_exit)
    | (apply w_ret)
    | (apply w_skip)
    | (apply e_blkE'; rfl))
    exact retB e.symm
theorem same112_good : ∀ (n : Nat) (t u : T), t.cnt ≤ n → n ≤ 1000000 → Good Try.prog 112 [nodeA t, nodeA u] none (.b (sameT t u)) none none := by
  intro n
  induction n with
  | zero => intro t u ht; have := cnt_pos t; omega
  | succ n ih =>
  intro t u ht hc
  obtain ⟨k, a, b, c, d, mn, mx, subs⟩ := t
  obtain ⟨k2, a2, b2, c2, d2, mn2, mx2, subs2⟩ := u
  have hlen : subs.length ≤ 1000000 := by
    have := cntL_len subs
    simp only [T.cnt] at ht
    omega
  have h146 := eq146_of subs subs2 hlen fun i h1 h2 => by
    refine ih _ _ ?_ (by omega)
    have := cntL_get subs i h1
    simp only [T.cnt] at ht
    omega
  have e0 : nodeA (.node k a b c d mn mx subs) = .agg [.i k, .d (.val (.int .u64 a)), .d (.val (.int .u64 b)), .d (.val (.int .u64 c)), .d (.val (.int .u64 d)), .i mn, .i mx, .d (.sl (encL subs) subs.length)] := rfl
  have e1 : nodeA (.node k2 a2 b2 c2 d2 mn2 mx2 subs2) = .agg [.i k2, .d (.val (.int .u64 a2)), .d (.val (.int .u64 b2)), .d (.val (.int .u64 c2)), .d (.val (.int .u64 d2)), .i mn2, .i mx2, .d (.sl (encL subs2) subs2.length)] := rfl
  rw [e0, e1]
  clear ih ht
  by_cases hk : k = k2
  case neg =>
    refine b112 (by simp) (by simp) (w_init ?_)
    unfold x112
    repeat' (first
    | (apply r_mvV; rfl)
    | (apply r_mvP; rfl)
    | (apply r_mvPL; rfl)
    | (apply r_mvS; rfl)
    | (apply r_mvSL; rfl)
    | (apply r_mvA; rfl)
    | (apply r_mvT; rfl)
    | (apply r_mvF; rfl)
    | (apply r_mvD; rfl)
    | (apply r_faddD; rfl)
    | (apply r_faddL; rfl)
    | (apply r_l; apply ld_kind; assumption; rfl)
    | (apply r_l; apply ld_mn; assumption; rfl)
    | (apply r_l; apply ld_mx; assumption; rfl)
    | (apply r_l; apply ld_subs; assumption; rfl)
    | (apply r_l; apply ld_set; assumption; rfl)
    | (apply r_l; apply ld_node; assumption; rfl)
    | (apply r_l; apply ld_kind'; assumption; rfl)
    | (apply r_l; apply ld_mn'; assumption; rfl)
    | (apply r_l; apply ld_mx'; assumption; rfl)
    | (apply r_l; apply ld_subs'; assumption; rfl)
    | (apply r_l; apply ld_node'; assumption; rfl)
    | (apply r_ldL; rfl; rfl; rfl)
    | (apply r_eql; rfl; rfl; (first | (apply decide_eq_true; omega) | (apply decide_eq_false; omega) | rfl))
    | (apply r_pickT; rfl)
    | (apply r_pickF; rfl)
    | (apply r_gT; rfl)
    | (apply r_gF'; rfl; rfl)
    | (apply r_gN'; rfl)
    | ((apply r_gS (o := default); rfl) <;> (intro h; try simp only [decide_eq_true_eq, decide_eq_false_iff_not, Bool.not_eq_true, Bool.not_eq_false] at h))
    | (apply r_box; ((conv => lhs; simp only [Nat.reduceAdd]) <;> rfl); rfl; rfl; rfl)
    | (apply r_p; rfl)
    | (apply r_nilK)
    | (apply r_nil)
    | (apply k_V; rfl)
    | (apply k_P; rfl)
    | (apply k_PL; rfl)
    | (apply k_S; rfl)
    | (apply k_SL; rfl)
    | (apply k_A; rfl)
    | (apply k_T; rfl)
    | (apply k_F; rfl)
    | (apply k_D; rfl; rotate_left; rfl)
    | (apply k_nil)
    | (apply e_ret (vs := [.d (.val _)]); rfl)
    | (apply e_ret; rfl)
    | (apply e_ret' (vs := [.d (.val _)]); rfl)
    | (apply e_ret'; rfl)
    | (apply w_seq)
    | (apply w_ops; ((conv => lhs; simp only [Nat.reduceAdd]) <;> rfl))
    | (apply e_thenN)
    | (apply w_block)
    | (apply e_thenR)
    | (apply e_thenX)
    | (apply e_blkN)
    | (apply e_blkR)
    | (apply e_blkE)
    | (apply w_exit)
    | (apply w_ret)
    | (apply w_skip)
    | (apply e_blkE'; rfl))
    exact retB (by simp [sameT, hk])
  subst hk
  rcases Bool.eq_false_or_eq_true (a == a2 && (b == b2 && (c == c2 && d == d2))) with hw | hw
  case inr =>
    refine b112 (by simp) (by simp) (w_init ?_)
    unfold x112
    repeat' (first
    | (apply r_mvV; rfl)
    | (apply r_mvP; rfl)
    | (apply r_mvPL; rfl)
    | (apply r_mvS; rfl)
    | (apply r_mvSL; rfl)
    | (apply r_mvA; rfl)
    | (apply r_mvT; rfl)
    | (apply r_mvF; rfl)
    | (apply r_mvD; rfl)
    | (apply r_faddD; rfl)
    | (apply r_faddL; rfl)
    | (apply r_l; apply ld_kind; assumption; rfl)
    | (apply r_l; apply ld_mn; assumption; rfl)
    | (apply r_l; apply ld_mx; assumption; rfl)
    | (apply r_l; apply ld_subs; assumption; rfl)
    | (apply r_l; apply ld_set; assumption; rfl)
    | (apply r_l; apply ld_node; assumption; rfl)
    | (apply r_l; apply ld_kind'; assumption; rfl)
    | (apply r_l; apply ld_mn'; assumption; rfl)
    | (apply r_l; apply ld_mx'; assumption; rfl)
    | (apply r_l; apply ld_subs'; assumption; rfl)
    | (apply r_l; apply ld_node'; assumption; rfl)
    | (apply r_ldL (v := .agg [.d (.val (.int .u64 a)), .d (.val (.int .u64 b)), .d (.val (.int .u64 c)), .d (.val (.int .u64 d))]); rfl; rfl; rfl)
    | (apply r_ldL (v := .agg [.d (.val (.int .u64 a2)), .d (.val (.int .u64 b2)), .d (.val (.int .u64 c2)), .d (.val (.int .u64 d2))]); rfl; rfl; rfl)
    | (apply r_eqX (r := false); rfl; rfl; (rw [if_neg (by simp), hw]))
    | (apply r_ldL; rfl; rfl; rfl)
    | (apply r_eql; rfl; rfl; (first | (apply decide_eq_true; omega) | (apply decide_eq_false; omega) | rfl))
    | (apply r_pickT; rfl)
    | (apply r_pickF; rfl)
    | (apply r_gT; rfl)
    | (apply r_gF'; rfl; rfl)
    | (apply r_gN'; rfl)
    | ((apply r_gS (o := default); rfl) <;> (intro h; try simp only [decide_eq_true_eq, decide_eq_false_iff_not, Bool.not_eq_true, Bool.not_eq_false] at h))
    | (apply r_box; ((conv => lhs; simp only [Nat.reduceAdd]) <;> rfl); rfl; rfl; rfl)
    | (apply r_p; rfl)
    | (apply r_nilK)
    | (apply r_nil)
    | (apply k_V; rfl)
    | (apply k_P; rfl)
    | (apply k_PL; rfl)
    | (apply k_S; rfl)
    | (apply k_SL; rfl)
    | (apply k_A; rfl)
    | (apply k_T; rfl)
    | (apply k_F; rfl)
    | (apply k_D; rfl; rotate_left; rfl)
    | (apply k_nil)
    | (apply e_ret (vs := [.d (.val _)]); rfl)
    | (apply e_ret; rfl)
    | (apply e_ret' (vs := [.d (.val _)]); rfl)
    | (apply e_ret'; rfl)
    | (apply w_seq)
    | (apply w_ops; ((conv => lhs; simp only [Nat.reduceAdd]) <;> rfl))
    | (apply e_thenN)
    | (apply w_block)
    | (apply e_thenR)
    | (apply e_thenX)
    | (apply e_blkN)
    | (apply e_blkR)
    | (apply e_blkE)
    | (apply w_exit)
    | (apply w_ret)
    | (apply w_skip)
    | (apply e_blkE'; rfl))
    refine retB ?_
    simp only [Bool.and_eq_false_iff, beq_eq_false_iff_ne] at hw
    simp only [sameT]
    symm
    simp only [Bool.and_eq_false_iff, beq_eq_false_iff_ne]
    rcases hw with h | h | h | h
    · exact .inl (.inl (.inl (.inr (.inl (.inl (.inl h))))))
    · exact .inl (.inl (.inl (.inr (.inl (.inl (.inr h))))))
    · exact .inl (.inl (.inl (.inr (.inl (.inr h)))))
    · exact .inl (.inl (.inl (.inr (.inr h))))
  have hs : sameT (.node k a b c d mn mx subs) (.node k a2 b2 c2 d2 mn2 mx2 subs2) = (mn == mn2 && mx == mx2 && sameL subs subs2) := by
    simp only [Bool.and_eq_true, beq_iff_eq] at hw
    obtain ⟨h1, h2, h3, h4⟩ := hw
    simp [sameT, h1, h2, h3, h4]
  rw [hs]
  clear hs
  by_cases hm : mn = mn2
  case neg =>
    refine b112 (by simp) (by simp) (w_init ?_)
    unfold x112
    repeat' (first
    | (apply r_mvV; rfl)
    | (apply r_mvP; rfl)
    | (apply r_mvPL; rfl)
    | (apply r_mvS; rfl)
    | (apply r_mvSL; rfl)
    | (apply r_mvA; rfl)
    | (apply r_mvT; rfl)
    | (apply r_mvF; rfl)
    | (apply r_mvD; rfl)
    | (apply r_faddD; rfl)
    | (apply r_faddL; rfl)
    | (apply r_l; apply ld_kind; assumption; rfl)
    | (apply r_l; apply ld_mn; assumption; rfl)
    | (apply r_l; apply ld_mx; assumption; rfl)
    | (apply r_l; apply ld_subs; assumption; rfl)
    | (apply r_l; apply ld_set; assumption; rfl)
    | (apply r_l; apply ld_node; assumption; rfl)
    | (apply r_l; apply ld_kind'; assumption; rfl)
    | (apply r_l; apply ld_mn'; assumption; rfl)
    | (apply r_l; apply ld_mx'; assumption; rfl)
    | (apply r_l; apply ld_subs'; assumption; rfl)
    | (apply r_l; apply ld_node'; assumption; rfl)
    | (apply r_ldL (v := .agg [.d (.val (.int .u64 a)), .d (.val (.int .u64 b)), .d (.val (.int .u64 c)), .d (.val (.int .u64 d))]); rfl; rfl; rfl)
    | (apply r_ldL (v := .agg [.d (.val (.int .u64 a2)), .d (.val (.int .u64 b2)), .d (.val (.int .u64 c2)), .d (.val (.int .u64 d2))]); rfl; rfl; rfl)
    | (apply r_eqX (r := true); rfl; rfl; (rw [if_neg (by simp), hw]))
    | (apply r_ldL; rfl; rfl; rfl)
    | (apply r_eql; rfl; rfl; (first | (apply decide_eq_true; omega) | (apply decide_eq_false; omega) | rfl))
    | (apply r_pickT; rfl)
    | (apply r_pickF; rfl)
    | (apply r_gT; rfl)
    | (apply r_gF'; rfl; rfl)
    | (apply r_gN'; rfl)
    | ((apply r_gS (o := default); rfl) <;> (intro h; try simp only [decide_eq_true_eq, decide_eq_false_iff_not, Bool.not_eq_true, Bool.not_eq_false] at h))
    | (apply r_box; ((conv => lhs; simp only [Nat.reduceAdd]) <;> rfl); rfl; rfl; rfl)
    | (apply r_p; rfl)
    | (apply r_nilK)
    | (apply r_nil)
    | (apply k_V; rfl)
    | (apply k_P; rfl)
    | (apply k_PL; rfl)
    | (apply k_S; rfl)
    | (apply k_SL; rfl)
    | (apply k_A; rfl)
    | (apply k_T; rfl)
    | (apply k_F; rfl)
    | (apply k_D; rfl; rotate_left; rfl)
    | (apply k_nil)
    | (apply e_ret (vs := [.d (.val _)]); rfl)
    | (apply e_ret; rfl)
    | (apply e_ret' (vs := [.d (.val _)]); rfl)
    | (apply e_ret'; rfl)
    | (apply w_seq)
    | (apply w_ops; ((conv => lhs; simp only [Nat.reduceAdd]) <;> rfl))
    | (apply e_thenN)
    | (apply w_block)
    | (apply e_thenR)
    | (apply e_thenX)
    | (apply e_blkN)
    | (apply e_blkR)
    | (apply e_blkE)
    | (apply w_exit)
    | (apply w_ret)
    | (apply w_skip)
    | (apply e_blkE'; rfl))
    exact retB (by simp [hm])
  by_cases hx : mx = mx2
  case neg =>
    refine b112 (by simp) (by simp) (w_init ?_)
    unfold x112
    repeat' (first
    | (apply r_mvV; rfl)
    | (apply r_mvP; rfl)
    | (apply r_mvPL; rfl)
    | (apply r_mvS; rfl)
    | (apply r_mvSL; rfl)
    | (apply r_mvA; rfl)
    | (apply r_mvT; rfl)
    | (apply r_mvF; rfl)
    | (apply r_mvD; rfl)
    | (apply r_faddD; rfl)
    | (apply r_faddL; rfl)
    | (apply r_l; apply ld_kind; assumption; rfl)
    | (apply r_l; apply ld_mn; assumption; rfl)
    | (apply r_l; apply ld_mx; assumption; rfl)
    | (apply r_l; apply ld_subs; assumption; rfl)
    | (apply r_l; apply ld_set; assumption; rfl)
    | (apply r_l; apply ld_node; assumption; rfl)
    | (apply r_l; apply ld_kind'; assumption; rfl)
    | (apply r_l; apply ld_mn'; assumption; rfl)
    | (apply r_l; apply ld_mx'; assumption; rfl)
    | (apply r_l; apply ld_subs'; assumption; rfl)
    | (apply r_l; apply ld_node'; assumption; rfl)
    | (apply r_ldL (v := .agg [.d (.val (.int .u64 a)), .d (.val (.int .u64 b)), .d (.val (.int .u64 c)), .d (.val (.int .u64 d))]); rfl; rfl; rfl)
    | (apply r_ldL (v := .agg [.d (.val (.int .u64 a2)), .d (.val (.int .u64 b2)), .d (.val (.int .u64 c2)), .d (.val (.int .u64 d2))]); rfl; rfl; rfl)
    | (apply r_eqX (r := true); rfl; rfl; (rw [if_neg (by simp), hw]))
    | (apply r_ldL; rfl; rfl; rfl)
    | (apply r_eql; rfl; rfl; (first | (apply decide_eq_true; omega) | (apply decide_eq_false; omega) | rfl))
    | (apply r_pickT; rfl)
    | (apply r_pickF; rfl)
    | (apply r_gT; rfl)
    | (apply r_gF'; rfl; rfl)
    | (apply r_gN'; rfl)
    | ((apply r_gS (o := default); rfl) <;> (intro h; try simp only [decide_eq_true_eq, decide_eq_false_iff_not, Bool.not_eq_true, Bool.not_eq_false] at h))
    | (apply r_box; ((conv => lhs; simp only [Nat.reduceAdd]) <;> rfl); rfl; rfl; rfl)
    | (apply r_p; rfl)
    | (apply r_nilK)
    | (apply r_nil)
    | (apply k_V; rfl)
    | (apply k_P; rfl)
    | (apply k_PL; rfl)
    | (apply k_S; rfl)
    | (apply k_SL; rfl)
    | (apply k_A; rfl)
    | (apply k_T; rfl)
    | (apply k_F; rfl)
    | (apply k_D; rfl; rotate_left; rfl)
    | (apply k_nil)
    | (apply e_ret (vs := [.d (.val _)]); rfl)
    | (apply e_ret; rfl)
    | (apply e_ret' (vs := [.d (.val _)]); rfl)
    | (apply e_ret'; rfl)
    | (apply w_seq)
    | (apply w_ops; ((conv => lhs; simp only [Nat.reduceAdd]) <;> rfl))
    | (apply e_thenN)
    | (apply w_block)
    | (apply e_thenR)
    | (apply e_thenX)
    | (apply e_blkN)
    | (apply e_blkR)
    | (apply e_blkE)
    | (apply w_exit)
    | (apply w_ret)
    | (apply w_skip)
    | (apply e_blkE'; rfl))
    exact retB (by simp [hx])
  subst hm hx
  rw [show (mn == mn && mx == mx && sameL subs subs2) = sameL subs subs2 by simp]
  generalize sameL subs subs2 = q at h146
  refine b112 (by simp) (by simp) (w_init ?_)
  unfold x112
  repeat' (first
    | (apply r_mvV; rfl)
    | (apply r_mvP; rfl)
    | (apply r_mvPL; rfl)
    | (apply r_mvS; rfl)
    | (apply r_mvSL; rfl)
    | (apply r_mvA; rfl)
    | (apply r_mvT; rfl)
    | (apply r_mvF; rfl)
    | (apply r_mvD; rfl)
    | (apply r_faddD; rfl)
    | (apply r_faddL; rfl)
    | (apply r_l; apply ld_kind; assumption; rfl)
    | (apply r_l; apply ld_mn; assumption; rfl)
    | (apply r_l; apply ld_mx; assumption; rfl)
    | (apply r_l; apply ld_subs; assumption; rfl)
    | (apply r_l; apply ld_set; assumption; rfl)
    | (apply r_l; apply ld_node; assumption; rfl)
    | (apply r_l; apply ld_kind'; assumption; rfl)
    | (apply r_l; apply ld_mn'; assumption; rfl)
    | (apply r_l; apply ld_mx'; assumption; rfl)
    | (apply r_l; apply ld_subs'; assumption; rfl)
    | (apply r_l; apply ld_node'; assumption; rfl)
    | (apply r_ldL (v := .agg [.d (.val (.int .u64 a)), .d (.val (.int .u64 b)), .d (.val (.int .u64 c)), .d (.val (.int .u64 d))]); rfl; rfl; rfl)
    | (apply r_ldL (v := .agg [.d (.val (.int .u64 a2)), .d (.val (.int .u64 b2)), .d (.val (.int .u64 c2)), .d (.val (.int .u64 d2))]); rfl; rfl; rfl)
    | (apply r_eqX (r := true); rfl; rfl; (rw [if_neg (by simp), hw]))
    | (apply r_callA (ags := [.d (.sl (encL subs) subs.length), .d (.sl (encL subs2) subs2.length), .d (.fn 112 [])]); rfl; rfl; exact h146)
    | (apply r_ldL; rfl; rfl; rfl)
    | (apply r_eql; rfl; rfl; (first | (apply decide_eq_true; omega) | (apply decide_eq_false; omega) | rfl))
    | (apply r_pickT; rfl)
    | (apply r_pickF; rfl)
    | (apply r_gT; rfl)
    | (apply r_gF'; rfl; rfl)
    | (apply r_gN'; rfl)
    | ((apply r_gS (o := default); rfl) <;> (intro h; try simp only [decide_eq_true_eq, decide_eq_false_iff_not, Bool.not_eq_true, Bool.not_eq_false] at h))
    | (apply r_box; ((conv => lhs; simp only [Nat.reduceAdd]) <;> rfl); rfl; rfl; rfl)
    | (apply r_p; rfl)
    | (apply r_nilK)
    | (apply r_nil)
    | (apply k_V; rfl)
    | (apply k_P; rfl)
    | (apply k_PL; rfl)
    | (apply k_S; rfl)
    | (apply k_SL; rfl)
    | (apply k_A; rfl)
    | (apply k_T; rfl)
    | (apply k_F; rfl)
    | (apply k_D; rfl; rotate_left; rfl)
    | (apply k_nil)
    | (apply e_ret (vs := [.d (.val _)]); rfl)
    | (apply e_ret; rfl)
    | (apply e_ret' (vs := [.d (.val _)]); rfl)
    | (apply e_ret'; rfl)
    | (apply w_seq)
    | (apply w_ops; ((conv => lhs; simp only [Nat.reduceAdd]) <;> rfl))
    | (apply e_thenN)
    | (apply w_block)
    | (apply e_thenR)
    | (apply e_thenX)
    | (apply e_blkN)
    | (apply e_blkR)
    | (apply e_blkE)
    | (apply w_exit)
    | (apply w_ret)
    | (apply w_skip)
    | (apply e_blkE'; rfl))
  exact retB rfl
theorem clo111_good (o v : T) (h : o.cnt ≤ 1000000) : Good Try.prog 111 [nodeA o, .d (.ptr (encN v) 0)] none (.b (sameT o v)) none none := by
  have h112 := same112_good 1000000 o v h (Nat.le_refl _)
  obtain ⟨k, a, b, c, d, mn, mx, subs⟩ := o
  obtain ⟨k2, a2, b2, c2, d2, mn2, mx2, subs2⟩ := v
  have e0 : nodeA (.node k a b c d mn mx subs) = .agg [.i k, .d (.val (.int .u64 a)), .d (.val (.int .u64 b)), .d (.val (.int .u64 c)), .d (.val (.int .u64 d)), .i mn, .i mx, .d (.sl (encL subs) subs.length)] := rfl
  have e1 : nodeA (.node k2 a2 b2 c2 d2 mn2 mx2 subs2) = .agg [.i k2, .d (.val (.int .u64 a2)), .d (.val (.int .u64 b2)), .d (.val (.int .u64 c2)), .d (.val (.int .u64 d2)), .i mn2, .i mx2, .d (.sl (encL subs2) subs2.length)] := rfl
  rw [e0, e1] at h112
  rw [e0]
  refine b111 (by simp) (by simp) (w_init ?_)
  unfold x111
  repeat' (first
    | (apply r_mvV; rfl)
    | (apply r_mvP; rfl)
    | (apply r_mvPL; rfl)
    | (apply r_mvS; rfl)
    | (apply r_mvSL; rfl)
    | (apply r_mvA; rfl)
    | (apply r_mvT; rfl)
    | (apply r_mvF; rfl)
    | (apply r_mvD; rfl)
    | (apply r_ldL (v := .agg [.i k, .d (.val (.int .u64 a)), .d (.val (.int .u64 b)), .d (.val (.int .u64 c)), .d (.val (.int .u64 d)), .i mn, .i mx, .d (.sl (encL subs) subs.length)]); rfl; rfl; rfl)
    | (apply r_l (v := .agg [.i k2, .d (.val (.int .u64 a2)), .d (.val (.int .u64 b2)), .d (.val (.int .u64 c2)), .d (.val (.int .u64 d2)), .i mn2, .i mx2, .d (.sl (encL subs2) subs2.length)]); rfl)
    | (apply r_callA (ags := [.agg [.i k, .d (.val (.int .u64 a)), .d (.val (.int .u64 b)), .d (.val (.int .u64 c)), .d (.val (.int .u64 d)), .i mn, .i mx, .d (.sl (encL subs) subs.length)], .agg [.i k2, .d (.val (.int .u64 a2)), .d (.val (.int .u64 b2)), .d (.val (.int .u64 c2)), .d (.val (.int .u64 d2)), .i mn2, .i mx2, .d (.sl (encL subs2) subs2.length)]]); rfl; rfl; exact h112)
    | (apply r_ldL; rfl; rfl; rfl)
    | (apply r_box; ((conv => lhs; simp only [Nat.reduceAdd]) <;> rfl); rfl; rfl; rfl)
    | (apply r_nilK)
    | (apply r_nil)
    | (apply k_V; rfl)
    | (apply k_P; rfl)
    | (apply k_PL; rfl)
    | (apply k_S; rfl)
    | (apply k_SL; rfl)
    | (apply k_A; rfl)
    | (apply k_T; rfl)
    | (apply k_F; rfl)
    | (apply k_D; rfl; rotate_left; rfl)
    | (apply k_nil)
    | (apply e_ret (vs := [.d (.val _)]); rfl)
    | (apply e_ret; rfl)
    | (apply e_ret' (vs := [.d (.val _)]); rfl)
    | (apply e_ret'; rfl)
    | (apply w_seq)
    | (apply w_ops; ((conv => lhs; simp only [Nat.reduceAdd]) <;> rfl))
    | (apply e_thenN)
    | (apply w_block)
    | (apply e_thenR)
    | (apply e_thenX)
    | (apply e_blkN)
    | (apply e_blkR)
    | (apply e_blkE)
    | (apply w_exit)
    | (apply w_ret)
    | (apply w_skip)
    | (apply e_blkE'; rfl))
  exact retB rfl
end Go.Sv
namespace Go.Sv
open Go Go.Proofs
def x107 : XC := (.seq (.ops 1 [
    (0, ⟨(some 4), none, .mv (.k (.d (.val (.slice none 0 0))))⟩)] (some [0, 1])) (.seq (.ops 4 [
    (0, ⟨(some 8), none, .mv (.t 0)⟩),
    (1, ⟨(some 9), none, .mv (.t 1)⟩),
    (2, ⟨(some 10), none, .call 145 [(.t 8), (.t 9)] none false⟩),
    (3, ⟨(some 5), none, .mv (.t 10)⟩)] (some [0, 1, 5])) (.seq (.seq (.ops 2 [
    (0, ⟨(some 11), none, .mv (.t 5)⟩),
    (1, ⟨(some 12), none, .arith .eql (.t 11) (.k (.d (.val (.int .i64 (-1)))))⟩)] (some [0, 1, 5, 12])) (.cond (.t 12) (.seq (.ops 2 [
    (0, ⟨(some 13), none, .mv (.t 0)⟩),
    (1, ⟨(some 4), none, .mv (.t 13)⟩)] (some [4])) .ret) .skip)) (.seq (.seq (.ops 3 [
    (0, ⟨(some 14), none, .mv (.t 5)⟩),
    (1, ⟨(some 15), none, .arith .add (.t 14) (.k (.d (.val (.int .i64 1))))⟩),
    (2, ⟨(some 6), none, .mv (.t 15)⟩)] (some [0, 1, 5, 6])) (.block 0 (.loop (.seq (.seq (.ops 4 [
    (0, ⟨(some 16), none, .mv (.t 6)⟩),
    (1, ⟨(some 17), none, .mv (.t 0)⟩),
    (2, ⟨(some 18), none, .lenS (.t 17)⟩),
    (3, ⟨(some 19), none, .arith .lss (.t 16) (.t 18)⟩)] (some [0, 1, 5, 6, 19])) (.cond (.t 19) .skip (.exit 0))) (.seq (.block 1 (.seq (.ops 6 [
    (0, ⟨(some 22), none, .mv (.t 0)⟩),
    (1, ⟨(some 23), none, .mv (.t 6)⟩),
    (2, ⟨(some 24), none, .idxS 8 (.t 22) (.t 23)⟩),
    (3, ⟨(some 25), none, .load (some 8) (.t 24)⟩),
    (4, ⟨(some 7), none, .alloc [(.int .i64 0), (.int .u64 0), (.int .u64 0), (.int .u64 0), (.int .u64 0), (.int .i64 0), (.int .i64 0), (.slice none 0 0)]⟩),
    (5, ⟨none, none, .store 8 (.t 7) (.t 25)⟩)] (some [0, 1, 5, 6, 7])) (.seq (.ops 4 [
    (0, ⟨(some 26), none, .mv (.t 1)⟩),
    (1, ⟨(some 27), none, .load (some 8) (.t 7)⟩),
    (2, ⟨(some 28), none, .callv (.t 26) [(.t 27)]⟩),
    (3, ⟨(some 29), none, .un .not (.t 28)⟩)] (some [0, 1, 5, 6, 7, 29])) (.cond (.t 29) (.seq (.ops 5 [
    (0, ⟨(some 30), none, .mv (.t 0)⟩),
    (1, ⟨(some 31), none, .mv (.t 5)⟩),
    (2, ⟨(some 32), none, .load (some 8) (.t 7)⟩),
    (3, ⟨(some 33), none, .idxS 8 (.t 30) (.t 31)⟩),
    (4, ⟨none, none, .store 8 (.t 33) (.t 32)⟩)] (some [0, 1, 5, 6])) (.ops 3 [
    (0, ⟨(some 34), none, .mv (.t 5)⟩),
    (1, ⟨(some 35), none, .arith .add (.t 34) (.k (.d (.val (.int .i64 1))))⟩),
    (2, ⟨(some 5), none, .mv (.t 35)⟩)] (some [0, 1, 5, 6]))) .skip)))) (.ops 3 [
    (0, ⟨(some 20), none, .mv (.t 6)⟩),
    (1, ⟨(some 21), none, .arith .add (.t 20) (.k (.d (.val (.int .i64 1))))⟩),
    (2, ⟨(some 6), none, .mv (.t 21)⟩)] (some [0, 1, 5, 6]))))))) (.seq (.ops 4 [
    (0, ⟨(some 36), none, .mv (.t 0)⟩),
    (1, ⟨(some 37), none, .mv (.t 5)⟩),
    (2, ⟨(some 38), none, .slS 8 (.t 36) (some (.t 37)) none⟩),
    (3, ⟨none, none, .clr [(.int .i64 0), (.int .u64 0), (.int .u64 0), (.int .u64 0), (.int .u64 0), (.int .i64 0), (.int .i64 0), (.slice none 0 0)] (.t 38)⟩)] (some [0, 5])) (.seq (.ops 4 [
    (0, ⟨(some 39), none, .mv (.t 0)⟩),
    (1, ⟨(some 40), none, .mv (.t 5)⟩),
    (2, ⟨(some 41), none, .slS 8 (.t 39) none (some (.t 40))⟩),
    (3, ⟨(some 4), none, .mv (.t 41)⟩)] (some [4])) .ret))))))
def md107 : FuncId → Option Nat × Bool
  | _ => (none, false)
def od107 : Nat → List (List Nat) × List Nat × Option (List Nat)
  | 0 => ([], [], some [0, 1])
  | 1 => ([], [], some [0, 1, 5])
  | 2 => ([], [], some [0, 1, 5, 12])
  | 3 => ([], [], some [4])
  | 4 => ([], [], some [0, 1, 5, 6])
  | 5 => ([], [], some [0, 1, 5, 6, 19])
  | 6 => ([], [], some [0, 1, 5, 6])
  | 7 => ([], [], some [0, 1, 5, 6, 7])
  | 8 => ([], [], some [0, 1, 5, 6, 7, 29])
  | 9 => ([], [], some [0, 1, 5, 6])
  | 10 => ([], [], some [0, 1, 5, 6])
  | 11 => ([], [], some [0, 5])
  | 12 => ([], [], some [4])
  | _ => ([], [], none)
theorem b107 {ags : List AV} {row : Option (List DV)} {r : AV} {row' nw : Option (List DV)} (hal : ags.length ≤ 42) (hrow : row'.isSome = true → row.isSome = true) (h : xwp Try.prog x107 (retK [.tmp 4] row.isSome r row' nw) (St.init ags row)) : Good Try.prog 107 ags row r row' nw :=
  good_of_body' (md := md107) (od := od107) Try.f107 (by kernel_rfl) (by kernel_rfl) (by kernel_rfl) (by kernel_rfl) (by kernel_rfl) hal hrow h

def zDV : List DV := [.val (.int .i64 0), .val (.int .u64 0), .val (.int .u64 0), .val (.int .u64 0), .val (.int .u64 0), .val (.int .i64 0), .val (.int .i64 0), .val (.slice none 0 0)]
def zerosD : Nat → List DV
  | 0 => []
  | n + 1 => zDV ++ zerosD n
theorem repl_zeros : ∀ n, repl (zeroA zsN) n = (zerosD n).map AV.d
  | 0 => rfl
  | n + 1 => by rw [repl, repl_zeros n, zerosD, List.map_append]; rfl
theorem zerosD_len : ∀ n, (zerosD n).length = n * 8
  | 0 => rfl
  | n + 1 => by rw [zerosD, List.length_append, zerosD_len n, show zDV.length = 8 from rfl]; omega
section
variable {P : Program} {Q : Cont} {fr : Fr} {C : Heap} {Z : Frz} {nx : Nat} {base n d : Nat} {l : List (Nat × XO)} {kp : Option (List Nat)} {x i y s : X} {j : Nat}
theorem r_stN {a : X} {b : Nat} {t : T} {K : List T} (ha : a.ev fr = .ptrL b (j * 8)) (hx : x.ev fr = nodeA t) (hC : C b = some ((encL K).map AV.d)) (hz : Z b = false) (hj : j < K.length) (k : R P l base kp Q nx fr (C.put b ((encL (K.set j t)).map AV.d)) Z) : R P ((n, ⟨none, none, .store 8 a x⟩) :: l) base kp Q nx fr C Z := by
  refine r_stL (cs := (encN t).map AV.d) ha hC hx rfl hz ?_ ?_ k
  · have h1 : (((encN t).map AV.d).length == 8) = true := by rw [List.length_map, encN_len]; rfl
    have h2 : Nat.ble (j * 8 + 8) ((encL K).map AV.d).length = true := by
      rw [List.length_map, encL_length]
      exact Eq.mpr Nat.ble_eq (by omega)
    have h3 : ((encN t).map AV.d).all AV.one = true := by cases t; rfl
    rw [h1, h2, h3]; rfl
  · rw [encL_set K j t hj]
    simp [splice, List.map_take, List.map_drop]
theorem encL_take : ∀ (K : List T) (j : Nat), (encL K).take (j * 8) = encL (K.take j)
  | [], j => by simp [encL]
  | t :: K, 0 => by simp [encL]
  | t :: K, j + 1 => by
    rw [List.take_succ_cons, encL, encL, List.take_append, encN_len, List.take_of_length_le (l := encN t) (by rw [encN_len]; omega), show (j + 1) * 8 - 8 = j * 8 by omega, encL_take K j]
theorem r_clrN {b m : Nat} {K : List T} (hx : x.ev fr = .slL b (j * 8) m 8) (hC : C b = some ((encL K).map AV.d)) (hz : Z b = false) (hj : j + m = K.length) (k : R P l base kp Q nx fr (C.put b ((encL (K.take j) ++ zerosD m).map AV.d)) Z) : R P ((n, ⟨none, none, .clr [.int .i64 0, .int .u64 0, .int .u64 0, .int .u64 0, .int .u64 0, .int .i64 0, .int .i64 0, .slice none 0 0] x⟩) :: l) base kp Q nx fr C Z := by
  refine r_w (v := .tup []) (C' := C.put b ((encL (K.take j) ++ zerosD m).map AV.d)) ?_ k
  have hl : ((encL K).map AV.d).length = K.length * 8 := by rw [List.length_map, encL_length]
  have h1 : (8 = ([.int .i64 0, .int .u64 0, .int .u64 0, .int .u64 0, .int .u64 0, .int .i64 0, .int .i64 0, .slice none 0 0] : List Value).length ∧ Z b = false ∧ j * 8 + m * 8 ≤ ((encL K).map AV.d).length ∧ ([.int .i64 0, .int .u64 0, .int .u64 0, .int .u64 0, .int .u64 0, .int .i64 0, .int .i64 0, .slice none 0 0] : List Value).all (·.oneCell') = true) := ⟨rfl, hz, by omega, rfl⟩
  simp only [xw, hx, hC, Option.bind_some]
  rw [if_pos h1]
  congr 3
  have hr : repl (zeroA [.int .i64 0, .int .u64 0, .int .u64 0, .int .u64 0, .int .u64 0, .int .i64 0, .int .i64 0, .slice none 0 0]) m = (zerosD m).map AV.d := repl_zeros m
  rw [hr, splice, List.drop_of_length_le (by rw [hl, List.length_map, zerosD_len]; omega), List.append_nil, ← List.map_take, encL_take, List.map_append]
theorem r_slLo {b m : Nat} {e : Int} (hx : x.ev fr = .slL b 0 m 8) (hi : i.ev fr = .i e) (he : e = (j : Nat)) (hj : j < m) (k : R P l base kp Q nx (fr.put d (.slL b (j * 8) (m - j) 8)) C Z) : R P ((n, ⟨some d, none, .slS 8 x (some i) none⟩) :: l) base kp Q nx fr C Z := by
  subst he
  refine r_p ?_ k
  have h1 : (0 : Int) ≤ (j : Int) ∧ (j : Int) ≤ (m : Int) := by omega
  simp only [xp, hx, if_true, hiOf, loOf, Option.bind_some, hi, intUpto, h1, and_self, Option.map_some, Int.toNat_natCast, Nat.zero_add]
  by_cases h0 : j = 0
  · subst h0; simp
  · rw [if_neg h0, if_neg (by omega)]
theorem r_slHi {b m : Nat} {e : Int} (hx : x.ev fr = .slL b 0 m 8) (hi : i.ev fr = .i e) (he : e = (j : Nat)) (hj : j ≤ m) (k : R P l base kp Q nx (fr.put d (.slL b 0 j 8)) C Z) : R P ((n, ⟨some d, none, .slS 8 x none (some i)⟩) :: l) base kp Q nx fr C Z := by
  subst he
  refine r_p ?_ k
  have h1 : (0 : Int) ≤ (j : Int) ∧ (j : Int) ≤ (m : Int) := by omega
  simp only [xp, hx, if_true, hiOf, loOf, Option.bind_some, hi, intUpto, h1, and_self, Option.map_some, Int.toNat_natCast]
end
set_option maxRecDepth 100000
set_option maxHeartbeats 4000000
attribute [local irreducible] W E R KP thenK blockK retK Good xwp aRun
theorem filter_any {p : T → Bool} {l : List T} (h : l.any p = false) : l.filter (fun t => !p t) = l := by
  rw [List.filter_eq_self]
  intro t ht
  rw [List.any_eq_false] at h
  have := h t ht
  simpa using this
theorem del107_good {f : FuncId} {caps : List DV} {p : T → Bool} {l : List T} (hp : PredOK f caps p l) (hl : l.length ≤ 1000000) :
    Good Try.prog 107 [.slL 0 0 l.length 8, .d (.fn f caps)] (some (encL l)) (.slL 0 0 (l.filter fun t => !p t).length 8) (some (encL (l.filter fun t => !p t) ++ zerosD (l.length - (l.filter fun t => !p t).length))) none := by
  have h145 := idx145_good hp hl
  rcases firstP_spec p l 0 with ⟨h1, h2⟩ | ⟨j0, h1, h2, h3, h4⟩
  · rw [h1] at h145
    rw [filter_any h2, Nat.sub_self, zerosD, List.append_nil]
    refine b107 (by simp) (by simp) (w_init ?_)
    unfold x107
    repeat' (first
    | (apply r_mvV; rfl)
    | (apply r_mvP; rfl)
    | (apply r_mvPL; rfl)
    | (apply r_mvS; rfl)
    | (apply r_mvSL; rfl)
    | (apply r_mvA; rfl)
    | (apply r_mvT; rfl)
    | (apply r_mvF; rfl)
    | (apply r_mvD; rfl)
    | (apply k_E (v := .d (.fn f caps)); rfl)
    | (apply r_mv (v := .d (.fn f caps)); rfl)
    | (apply r_callS2 (pre := []) (pre' := []) (post := [.d (.fn f caps)]) (post' := [.d (.fn f caps)]) (b := 0) (L := l) (us := []); rfl; rfl; rfl; rfl; rfl; exact h145; rfl)
    | (apply r_ldL; rfl; rfl; rfl)
    | (apply r_eql; rfl; rfl; (first | (apply decide_eq_true; omega) | (apply decide_eq_false; omega) | rfl))
    | (apply r_lss; rfl; rfl; (first | (apply decide_eq_true; omega) | (apply decide_eq_false; omega) | rfl))
    | (apply r_add; rfl; rfl; rfl; omega)
    | (apply r_not; rfl; rfl)
    | (apply r_lenD; rfl)
    | (apply r_lenL; rfl)
    | (apply r_len0; rfl)
    | (apply r_alloc; ((conv => lhs; simp only [Nat.reduceAdd]) <;> rfl); rfl)
    | (apply r_stL; rfl; rfl; rfl; rfl; (first | rfl | (simp only [z_nil, z_add] <;> rfl)); rfl; rfl)
    | (apply r_p; rfl)
    | (apply r_nilK)
    | (apply r_nil)
    | (apply k_V; rfl)
    | (apply k_P; rfl)
    | (apply k_PL; rfl)
    | (apply k_S; rfl)
    | (apply k_SL; rfl)
    | (apply k_A; rfl)
    | (apply k_T; rfl)
    | (apply k_F; rfl)
    | (apply k_D; rfl; rotate_left; rfl)
    | (apply k_nil)
    | (apply e_ret (vs := [.d (.val _)]); rfl)
    | (apply e_ret; rfl)
    | (apply e_ret' (vs := [.d (.val _)]); rfl)
    | (apply e_ret'; rfl)
    | (apply w_seq)
    | (apply w_ops; ((conv => lhs; simp only [Nat.reduceAdd]) <;> rfl))
    | (apply w_condT; rfl)
    | (apply w_condF; rfl)
    | ((apply w_condS; rfl) <;> (intro h; try simp only [decide_eq_true_eq, decide_eq_false_iff_not, Bool.not_eq_true, Bool.not_eq_false] at h))
    | (apply e_thenN)
    | (apply w_block)
    | (apply e_thenR)
    | (apply e_thenX)
    | (apply e_blkN)
    | (apply e_blkR)
    | (apply e_blkE)
    | (apply w_exit)
    | (apply w_ret)
    | (apply w_skip)
    | (apply e_blkE'; rfl))
    exact .own 0 _ _ _ rfl rfl rfl rfl
  · rw [h1, Nat.zero_add] at h145
    refine b107 (by simp) (by simp) (w_init ?_)
    unfold x107
    repeat' (first
    | (apply r_mvV; rfl)
    | (apply r_mvP; rfl)
    | (apply r_mvPL; rfl)
    | (apply r_mvS; rfl)
    | (apply r_mvSL; rfl)
    | (apply r_mvA; rfl)
    | (apply r_mvT; rfl)
    | (apply r_mvF; rfl)
    | (apply r_mvD; rfl)
    | (apply k_E (v := .d (.fn f caps)); rfl)
    | (apply r_mv (v := .d (.fn f caps)); rfl)
    | (apply r_callS2 (pre := []) (pre' := []) (post := [.d (.fn f caps)]) (post' := [.d (.fn f caps)]) (b := 0) (L := l) (us := []); rfl; rfl; rfl; rfl; rfl; exact h145; rfl)
    | (apply r_ldL; rfl; rfl; rfl)
    | (apply r_eql; rfl; rfl; (first | (apply decide_eq_true; omega) | (apply decide_eq_false; omega) | rfl))
    | (apply r_lss; rfl; rfl; (first | (apply decide_eq_true; omega) | (apply decide_eq_false; omega) | rfl))
    | (apply r_add; rfl; rfl; rfl; omega)
    | (apply r_not; rfl; rfl)
    | (apply r_lenD; rfl)
    | (apply r_lenL; rfl)
    | (apply r_len0; rfl)
    | (apply r_alloc; ((conv => lhs; simp only [Nat.reduceAdd]) <;> rfl); rfl)
    | (apply r_stL; rfl; rfl; rfl; rfl; (first | rfl | (simp only [z_nil, z_add] <;> rfl)); rfl; rfl)
    | (apply r_p; rfl)
    | (apply r_nilK)
    | (apply r_nil)
    | (apply k_V; rfl)
    | (apply k_P; rfl)
    | (apply k_PL; rfl)
    | (apply k_S; rfl)
    | (apply k_SL; rfl)
    | (apply k_A; rfl)
    | (apply k_T; rfl)
    | (apply k_F; rfl)
    | (apply k_D; rfl; rotate_left; rfl)
    | (apply k_nil)
    | (apply e_ret (vs := [.d (.val _)]); rfl)
    | (apply e_ret; rfl)
    | (apply e_ret' (vs := [.d (.val _)]); rfl)
    | (apply e_ret'; rfl)
    | (apply w_seq)
    | (apply w_ops; ((conv => lhs; simp only [Nat.reduceAdd]) <;> rfl))
    | (apply w_condT; rfl)
    | (apply w_condF; rfl)
    | ((apply w_condS; rfl) <;> (intro h; try simp only [decide_eq_true_eq, decide_eq_false_iff_not, Bool.not_eq_true, Bool.not_eq_false] at h))
    | (apply e_thenN)
    | (apply w_block)
    | (apply e_thenR)
    | (apply e_thenX)
    | (apply e_blkN)
    | (apply e_blkR)
    | (apply e_blkE)
    | (apply w_exit)
    | (apply w_ret)
    | (apply w_skip)
    | (apply e_blkE'; rfl))
    apply w_loopI (ι := Nat × Nat × List T) (S := fun q => ⟨(((Fr.nil.put 0 (.slL 0 0 l.length 8)).put 1 (.d (.fn f caps))).put 5 (.i q.1)).put 6 (.i q.2.1), rowsOf [(0, (encL q.2.2).map AV.d)], Frz.buts 100 [0], 100⟩) (m := fun q => l.length - q.2.1)
      (I := fun q => q.1 < q.2.1 ∧ q.2.1 ≤ l.length ∧ q.2.2.length = l.length ∧ q.2.2.take q.1 = (l.take q.2.1).filter (fun t => !p t) ∧ ∀ x, q.2.1 ≤ x → q.2.2[x]? = l[x]?) (i0 := (j0, j0 + 1, l))
    · refine ⟨by dsimp only; omega, by dsimp only; omega, rfl, ?_, fun x _ => rfl⟩
      dsimp only
      rw [filter_take _ l j0 h2, if_neg (by simp [h4 h2]), List.append_nil, filter_any h3]
    · refine wkM [] [] rfl ?_ ?_ rfl ?_
      · intro p hp
        simp only [List.mem_cons, List.not_mem_nil, or_false] at hp
        rcases hp with rfl
        exact ⟨by omega, .inr ⟨rfl, _, rfl, .data (isD_encL _)⟩⟩
      · intro q hq; simp only [List.mem_cons, List.not_mem_nil, or_false] at hq; rcases hq with rfl <;> rfl
      · dsimp only
        repeat' (first
    | exact FWk.nil
    | (apply FWk.i; rfl; (first | rfl | omega | (simp; done)))
    | (apply FWk.sl; rfl; rfl; rfl; rfl; omega; rfl)
    | (apply FWk.ptr; rfl; rfl; rfl; omega; rfl)
    | (apply FWk.d; rfl; rfl)
    | (apply FWk.a; rfl; rfl; rfl)
    | (apply FWk.slN; rfl; omega; rfl))
    rintro ⟨i, j, D⟩ K ⟨q1, q2, q3, q4, q5⟩ hK
    dsimp only at q1 q2 q3 q4 q5 hK ⊢
    rcases Nat.lt_or_ge j l.length with hlt | hge
    · have hltD : j < D.length := by omega
      have hDj : D[j] = l[j] := by
        have := q5 j (Nat.le_refl _)
        rw [List.getElem?_eq_getElem hltD, List.getElem?_eq_getElem hlt] at this
        exact Option.some.inj this
      have hs := NodeAt.sub hltD
      rw [hDj] at hs
      have hg := hp.2 j hlt
      have hft : (l.take (j + 1)).filter (fun t => !p t) = (l.take j).filter (fun t => !p t) ++ (if (!p l[j]) = true then [l[j]] else []) := filter_take (fun t => !p t) l j hlt
      have hna : ([nodeA l[j]] ++ caps.map AV.d).all AV.nrm = true := by rw [List.singleton_append, List.all_cons, nodeA_nrm, hp.1]; rfl
      have hDx : ∀ x, j + 1 ≤ x → D[x]? = l[x]? := fun x hx => q5 x (by omega)
      generalize hpv : p l[j] = b at hg hft
      generalize l[j] = v at hs hg hna hft
      obtain ⟨k2, a2, b2, c2, d2, mn2, mx2, subs2⟩ := v
      have e1 : nodeA (.node k2 a2 b2 c2 d2 mn2 mx2 subs2) = .agg [.i k2, .d (.val (.int .u64 a2)), .d (.val (.int .u64 b2)), .d (.val (.int .u64 c2)), .d (.val (.int .u64 d2)), .i mn2, .i mx2, .d (.sl (encL subs2) subs2.length)] := rfl
      rw [e1] at hg hna
      cases b
      · simp only [Bool.not_false, if_true] at hft
        have hset : (D.set i (.node k2 a2 b2 c2 d2 mn2 mx2 subs2)).take (i + 1) = D.take i ++ [.node k2 a2 b2 c2 d2 mn2 mx2 subs2] := by
          rw [List.take_succ_eq_append_getElem (by rw [List.length_set]; omega), List.getElem_set_self, List.take_set_of_le (Nat.le_refl _)]
        repeat' (first
    | (apply r_mvV; rfl)
    | (apply r_mvP; rfl)
    | (apply r_mvPL; rfl)
    | (apply r_mvS; rfl)
    | (apply r_mvSL; rfl)
    | (apply r_mvA; rfl)
    | (apply r_mvT; rfl)
    | (apply r_mvF; rfl)
    | (apply r_mvD; rfl)
    | (apply k_E (v := .d (.fn f caps)); rfl)
    | (apply r_mv (v := .d (.fn f caps)); rfl)
    | (apply r_ixN (j := j); rfl; rfl; rfl; omega)
    | (apply r_ldN; rfl; rfl; exact hs)
    | (apply r_ldL (v := .agg [.i k2, .d (.val (.int .u64 a2)), .d (.val (.int .u64 b2)), .d (.val (.int .u64 c2)), .d (.val (.int .u64 d2)), .i mn2, .i mx2, .d (.sl (encL subs2) subs2.length)]); rfl; rfl; rfl)
    | (apply r_callvC (ags := [.agg [.i k2, .d (.val (.int .u64 a2)), .d (.val (.int .u64 b2)), .d (.val (.int .u64 c2)), .d (.val (.int .u64 d2)), .i mn2, .i mx2, .d (.sl (encL subs2) subs2.length)]]) (caps := caps); rfl; rfl; exact hna; exact hg)
    | (apply r_ixN (j := i); rfl; rfl; rfl; omega)
    | (apply r_stN (j := i) (t := .node k2 a2 b2 c2 d2 mn2 mx2 subs2) (K := D); rfl; rfl; rfl; rfl; omega)
    | (apply r_ldL; rfl; rfl; rfl)
    | (apply r_eql; rfl; rfl; (first | (apply decide_eq_true; omega) | (apply decide_eq_false; omega) | rfl))
    | (apply r_lss; rfl; rfl; (first | (apply decide_eq_true; omega) | (apply decide_eq_false; omega) | rfl))
    | (apply r_add; rfl; rfl; rfl; omega)
    | (apply r_not; rfl; rfl)
    | (apply r_lenD; rfl)
    | (apply r_lenL; rfl)
    | (apply r_len0; rfl)
    | (apply r_alloc; ((conv => lhs; simp only [Nat.reduceAdd]) <;> rfl); rfl)
    | (apply r_stL; rfl; rfl; rfl; rfl; (first | rfl | (simp only [z_nil, z_add] <;> rfl)); rfl; rfl)
    | (apply r_p; rfl)
    | (apply r_nilK)
    | (apply r_nil)
    | (apply k_V; rfl)
    | (apply k_P; rfl)
    | (apply k_PL; rfl)
    | (apply k_S; rfl)
    | (apply k_SL; rfl)
    | (apply k_A; rfl)
    | (apply k_T; rfl)
    | (apply k_F; rfl)
    | (apply k_D; rfl; rotate_left; rfl)
    | (apply k_nil)
    | (apply e_ret (vs := [.d (.val _)]); rfl)
    | (apply e_ret; rfl)
    | (apply e_ret' (vs := [.d (.val _)]); rfl)
    | (apply e_ret'; rfl)
    | (apply w_seq)
    | (apply w_ops; ((conv => lhs; simp only [Nat.reduceAdd]) <;> rfl))
    | (apply w_condT; rfl)
    | (apply w_condF; rfl)
    | ((apply w_condS; rfl) <;> (intro h; try simp only [decide_eq_true_eq, decide_eq_false_iff_not, Bool.not_eq_true, Bool.not_eq_false] at h))
    | (apply e_thenN)
    | (apply w_block)
    | (apply e_thenR)
    | (apply e_thenX)
    | (apply e_blkN)
    | (apply e_blkR)
    | (apply e_blkE)
    | (apply w_exit)
    | (apply w_ret)
    | (apply w_skip)
    | (apply e_blkE'; rfl))
        apply e_thenK
        apply hK (i + 1, j + 1, D.set i (.node k2 a2 b2 c2 d2 mn2 mx2 subs2))
        · refine ⟨by dsimp only; omega, by dsimp only; omega, by dsimp only; rw [List.length_set]; exact q3, ?_, fun x hx => ?_⟩
          · dsimp only
            rw [hft, ← q4, hset]
          · dsimp only at hx ⊢
            rw [List.getElem?_set_ne (by omega)]
            exact hDx x hx
        · dsimp only; omega
        · refine wkM [] [] rfl ?_ ?_ rfl ?_
          · intro p hp
            simp only [List.mem_cons, List.not_mem_nil, or_false] at hp
            rcases hp with rfl
            exact ⟨by omega, .inr ⟨rfl, _, rfl, .data (isD_encL _)⟩⟩
          · intro q hq; simp only [List.mem_cons, List.not_mem_nil, or_false] at hq; rcases hq with rfl <;> rfl
          · dsimp only
            repeat' (first
    | exact FWk.nil
    | (apply FWk.i; rfl; (first | rfl | omega | (simp; done)))
    | (apply FWk.sl; rfl; rfl; rfl; rfl; omega; rfl)
    | (apply FWk.ptr; rfl; rfl; rfl; omega; rfl)
    | (apply FWk.d; rfl; rfl)
    | (apply FWk.a; rfl; rfl; rfl)
    | (apply FWk.slN; rfl; omega; rfl))
      · simp only [Bool.not_true, Bool.false_eq_true, if_false, List.append_nil] at hft
        repeat' (first
    | (apply r_mvV; rfl)
    | (apply r_mvP; rfl)
    | (apply r_mvPL; rfl)
    | (apply r_mvS; rfl)
    | (apply r_mvSL; rfl)
    | (apply r_mvA; rfl)
    | (apply r_mvT; rfl)
    | (apply r_mvF; rfl)
    | (apply r_mvD; rfl)
    | (apply k_E (v := .d (.fn f caps)); rfl)
    | (apply r_mv (v := .d (.fn f caps)); rfl)
    | (apply r_ixN (j := j); rfl; rfl; rfl; omega)
    | (apply r_ldN; rfl; rfl; exact hs)
    | (apply r_ldL (v := .agg [.i k2, .d (.val (.int .u64 a2)), .d (.val (.int .u64 b2)), .d (.val (.int .u64 c2)), .d (.val (.int .u64 d2)), .i mn2, .i mx2, .d (.sl (encL subs2) subs2.length)]); rfl; rfl; rfl)
    | (apply r_callvC (ags := [.agg [.i k2, .d (.val (.int .u64 a2)), .d (.val (.int .u64 b2)), .d (.val (.int .u64 c2)), .d (.val (.int .u64 d2)), .i mn2, .i mx2, .d (.sl (encL subs2) subs2.length)]]) (caps := caps); rfl; rfl; exact hna; exact hg)
    | (apply r_ldL; rfl; rfl; rfl)
    | (apply r_eql; rfl; rfl; (first | (apply decide_eq_true; omega) | (apply decide_eq_false; omega) | rfl))
    | (apply r_lss; rfl; rfl; (first | (apply decide_eq_true; omega) | (apply decide_eq_false; omega) | rfl))
    | (apply r_add; rfl; rfl; rfl; omega)
    | (apply r_not; rfl; rfl)
    | (apply r_lenD; rfl)
    | (apply r_lenL; rfl)
    | (apply r_len0; rfl)
    | (apply r_alloc; ((conv => lhs; simp only [Nat.reduceAdd]) <;> rfl); rfl)
    | (apply r_stL; rfl; rfl; rfl; rfl; (first | rfl | (simp only [z_nil, z_add] <;> rfl)); rfl; rfl)
    | (apply r_p; rfl)
    | (apply r_nilK)
    | (apply r_nil)
    | (apply k_V; rfl)
    | (apply k_P; rfl)
    | (apply k_PL; rfl)
    | (apply k_S; rfl)
    | (apply k_SL; rfl)
    | (apply k_A; rfl)
    | (apply k_T; rfl)
    | (apply k_F; rfl)
    | (apply k_D; rfl; rotate_left; rfl)
    | (apply k_nil)
    | (apply e_ret (vs := [.d (.val _)]); rfl)
    | (apply e_ret; rfl)
    | (apply e_ret' (vs := [.d (.val _)]); rfl)
    | (apply e_ret'; rfl)
    | (apply w_seq)
    | (apply w_ops; ((conv => lhs; simp only [Nat.reduceAdd]) <;> rfl))
    | (apply w_condT; rfl)
    | (apply w_condF; rfl)
    | ((apply w_condS; rfl) <;> (intro h; try simp only [decide_eq_true_eq, decide_eq_false_iff_not, Bool.not_eq_true, Bool.not_eq_false] at h))
    | (apply e_thenN)
    | (apply w_block)
    | (apply e_thenR)
    | (apply e_thenX)
    | (apply e_blkN)
    | (apply e_blkR)
    | (apply e_blkE)
    | (apply w_exit)
    | (apply w_ret)
    | (apply w_skip)
    | (apply e_blkE'; rfl))
        apply e_thenK
        apply hK (i, j + 1, D)
        · exact ⟨by dsimp only; omega, by dsimp only; omega, q3, by dsimp only; rw [hft, q4], hDx⟩
        · dsimp only; omega
        · refine wkM [] [] rfl ?_ ?_ rfl ?_
          · intro p hp
            simp only [List.mem_cons, List.not_mem_nil, or_false] at hp
            rcases hp with rfl
            exact ⟨by omega, .inr ⟨rfl, _, rfl, .data (isD_encL _)⟩⟩
          · intro q hq; simp only [List.mem_cons, List.not_mem_nil, or_false] at hq; rcases hq with rfl <;> rfl
          · dsimp only
            repeat' (first
    | exact FWk.nil
    | (apply FWk.i; rfl; (first | rfl | omega | (simp; done)))
    | (apply FWk.sl; rfl; rfl; rfl; rfl; omega; rfl)
    | (apply FWk.ptr; rfl; rfl; rfl; omega; rfl)
    | (apply FWk.d; rfl; rfl)
    | (apply FWk.a; rfl; rfl; rfl)
    | (apply FWk.slN; rfl; omega; rfl))
    · have ej : j = l.length := by omega
      subst ej
      rw [List.take_length] at q4
      rw [← q4]
      have hil : (D.take i).length = i := by rw [List.length_take]; omega
      rw [hil]
      repeat' (first
    | (apply r_mvV; rfl)
    | (apply r_mvP; rfl)
    | (apply r_mvPL; rfl)
    | (apply r_mvS; rfl)
    | (apply r_mvSL; rfl)
    | (apply r_mvA; rfl)
    | (apply r_mvT; rfl)
    | (apply r_mvF; rfl)
    | (apply r_mvD; rfl)
    | (apply k_E (v := .d (.fn f caps)); rfl)
    | (apply r_mv (v := .d (.fn f caps)); rfl)
    | (apply r_slLo (j := i); rfl; rfl; rfl; omega)
    | (apply r_clrN (j := i) (K := D); rfl; rfl; rfl; omega)
    | (apply r_slHi (j := i); rfl; rfl; rfl; omega)
    | (apply r_ldL; rfl; rfl; rfl)
    | (apply r_eql; rfl; rfl; (first | (apply decide_eq_true; omega) | (apply decide_eq_false; omega) | rfl))
    | (apply r_lss; rfl; rfl; (first | (apply decide_eq_true; omega) | (apply decide_eq_false; omega) | rfl))
    | (apply r_add; rfl; rfl; rfl; omega)
    | (apply r_not; rfl; rfl)
    | (apply r_lenD; rfl)
    | (apply r_lenL; rfl)
    | (apply r_len0; rfl)
    | (apply r_alloc; ((conv => lhs; simp only [Nat.reduceAdd]) <;> rfl); rfl)
    | (apply r_stL; rfl; rfl; rfl; rfl; (first | rfl | (simp only [z_nil, z_add] <;> rfl)); rfl; rfl)
    | (apply r_p; rfl)
    | (apply r_nilK)
    | (apply r_nil)
    | (apply k_V; rfl)
    | (apply k_P; rfl)
    | (apply k_PL; rfl)
    | (apply k_S; rfl)
    | (apply k_SL; rfl)
    | (apply k_A; rfl)
    | (apply k_T; rfl)
    | (apply k_F; rfl)
    | (apply k_D; rfl; rotate_left; rfl)
    | (apply k_nil)
    | (apply e_ret (vs := [.d (.val _)]); rfl)
    | (apply e_ret; rfl)
    | (apply e_ret' (vs := [.d (.val _)]); rfl)
    | (apply e_ret'; rfl)
    | (apply w_seq)
    | (apply w_ops; ((conv => lhs; simp only [Nat.reduceAdd]) <;> rfl))
    | (apply w_condT; rfl)
    | (apply w_condF; rfl)
    | ((apply w_condS; rfl) <;> (intro h; try simp only [decide_eq_true_eq, decide_eq_false_iff_not, Bool.not_eq_true, Bool.not_eq_false] at h))
    | (apply e_thenN)
    | (apply w_block)
    | (apply e_thenR)
    | (apply e_thenX)
    | (apply e_blkN)
    | (apply e_blkR)
    | (apply e_blkE)
    | (apply w_exit)
    | (apply w_ret)
    | (apply w_skip)
    | (apply e_blkE'; rfl))
      exact .own 0 _ _ _ rfl rfl rfl rfl
end Go.Sv
namespace Go.Sv
open Go Go.Proofs
def x53 : XC := (.seq (.ops 1 [
    (0, ⟨(some 2), none, .alloc [(.int .i64 0), (.int .u64 0), (.int .u64 0), (.int .u64 0), (.int .u64 0), (.int .i64 0), (.int .i64 0), (.slice none 0 0)]⟩)] (some [0, 2])) (.seq (.ops 3 [
    (0, ⟨(some 3), none, .mv (.t 0)⟩),
    (1, ⟨(some 4), none, .call 103 [(.k (.d (.val (.int .i64 3)))), (.t 3)] none true⟩),
    (2, ⟨(some 0), none, .mv (.t 4)⟩)] (some [0, 2])) (.seq (.seq (.ops 2 [
    (0, ⟨(some 5), none, .mv (.t 0)⟩),
    (1, ⟨(some 6), none, .call 104 [(.t 5), (.k (.d (.fn 105 [])))] none false⟩)] (some [0, 2, 6])) (.cond (.t 6) (.seq (.ops 2 [
    (0, ⟨(some 7), none, .call 106 [] none false⟩),
    (1, ⟨none, none, .store 8 (.t 2) (.t 7)⟩)] (some [2])) .ret) .skip)) (.seq (.ops 3 [
    (0, ⟨(some 8), none, .mv (.t 0)⟩),
    (1, ⟨(some 9), none, .call 107 [(.t 8), (.k (.d (.fn 108 [])))] (some 0) false⟩),
    (2, ⟨(some 0), none, .mv (.t 9)⟩)] (some [0, 2])) (.seq (.ops 4 [
    (0, ⟨(some 10), none, .mv (.t 0)⟩),
    (1, ⟨(some 11), none, .call 110 [] none false⟩),
    (2, ⟨(some 12), none, .call 109 [(.k (.d (.val (.int .i64 3)))), (.t 10), (.t 11)] none false⟩),
    (3, ⟨none, none, .store 8 (.t 2) (.t 12)⟩)] (some [2])) .ret)))))
def md53 : FuncId → Option Nat × Bool
  | 103 => (none, true)
  | 107 => (some 0, false)
  | _ => (none, false)
def od53 : Nat → List (List Nat) × List Nat × Option (List Nat)
  | 0 => ([], [], some [0, 2])
  | 1 => ([], [], some [0, 2])
  | 2 => ([], [], some [0, 2, 6])
  | 3 => ([], [], some [2])
  | 4 => ([], [], some [0, 2])
  | 5 => ([], [], some [2])
  | _ => ([], [], none)
theorem b53 {ags : List AV} {row : Option (List DV)} {r : AV} {row' nw : Option (List DV)} (hal : ags.length ≤ 13) (hrow : row'.isSome = true → row.isSome = true) (h : xwp Try.prog x53 (retK [.cell 2 (some 8)] row.isSome r row' nw) (St.init ags row)) : Good Try.prog 53 ags row r row' nw :=
  good_of_body' (md := md53) (od := od53) Try.f53 (by kernel_rfl) (by kernel_rfl) (by kernel_rfl) (by kernel_rfl) (by kernel_rfl) hal hrow h

section
variable {P : Program} {Q : Cont} {fr : Fr} {C : Heap} {Z : Frz} {nx : Nat} {base n d : Nat} {l : List (Nat × XO)} {kp : Option (List Nat)} {x i y s : X} {j : Nat}
theorem conv_rowT {ex : Nat → Bool} {id m : Nat} {L : List T} {M : List DV} (hC : C id = some ((encL L ++ M).map AV.d)) (hm : L.length = m) (hex : ex id = false) : convC C ex 9 (.slL id 0 m 8) = some (.sl (encL L) m, if m = 0 then [] else [id]) := by
  subst hm
  rcases Nat.eq_zero_or_pos L.length with h | h
  · have : L = [] := List.length_eq_zero_iff.1 h
    subst this
    simp [convC, encL]
  · have hl : ((encL L ++ M).map AV.d).length = L.length * 8 + M.length := by rw [List.length_map, List.length_append, encL_length]
    simp only [convC]
    rw [if_neg (by omega), if_neg (by simp [hex]), if_neg (by omega)]
    simp only [hC, Option.bind_some]
    rw [if_pos (by omega), List.drop_zero, List.map_append, List.take_append_of_le_length (by rw [List.length_map, encL_length]; omega), List.take_of_length_le (by rw [List.length_map, encL_length]; omega), mapO_encL]
    rfl
theorem r_callS4 {f : FuncId} {xs : List X} {pre pre' post post' : List AV} {b m : Nat} {L : List T} {M : List DV} {r : AV} {us : List Nat} (ha : xs.map (X.ev fr) = pre ++ .slL b 0 m 8 :: post) (hn : convAs C (fun _ => false) pre = some (pre', [])) (hp : convAs C (fun _ => false) post = some (post', [])) (hC : C b = some ((encL L ++ M).map AV.d)) (hm : L.length = m) (hg : Good P f (pre' ++ .d (.sl (encL L) m) :: post') none r none none) (hu : (if r.scalar = true then [] else if m = 0 then [] else [b]) = us)
    (k : R P l base kp Q nx (fr.put d r) C (Z.add us)) : R P ((n, ⟨some d, none, .call f xs none false⟩) :: l) base kp Q nx fr C Z := by
  subst hu
  refine r_call (bs := pre' ++ .d (.sl (encL L) m) :: post') (us := [] ++ ((if m = 0 then [] else [b]) ++ [])) ha ?_ hg (by simp) k
  refine convAs_app hn ?_
  simp only [convAs, convA, conv_rowT (ex := fun _ => false) hC hm rfl, Option.map_some, Option.bind_some, hp]
theorem r_callOwn {f : FuncId} {xs : List X} {ags : List AV} {b m m' : Nat} {ds ds' : List DV} (ha : xs.map (X.ev fr) = .slL b 0 m 8 :: ags) (hn : ags.all AV.nrm = true) (hC : C b = some (ds.map AV.d)) (hz : Z b = false) (hg : Good P f (.slL 0 0 m 8 :: ags) (some ds) (.slL 0 0 m' 8) (some ds') none)
    (k : R P l base kp Q nx (fr.put d (.slL b 0 m' 8)) (C.put b (ds'.map AV.d)) Z) : R P ((n, ⟨some d, none, .call f xs (some 0) false⟩) :: l) base kp Q nx fr C Z := by
  have hcv : convAsL C b 0 (.slL b 0 m 8 :: ags) = some (.slL 0 0 m 8 :: ags, []) := by
    simp only [convAsL, convAs_nrm ags hn, Option.map_some, toZ]
  exact s_callL (Z' := Z) ha rfl hC hz hcv hg (by simp [Frz.add_nil]) rfl k
end
set_option maxRecDepth 100000
set_option maxHeartbeats 4000000
attribute [local irreducible] W E R KP thenK blockK retK Good xwp aRun
theorem cat53_good (l : List T) (hc : cntL l ≤ 500000) : Good Try.prog 53 [.d (.sl (encL l) l.length)] none (nodeA (catS l)) none none := by
  have hll := cntL_len l
  have hfl := flatL_len 3 l
  have h103 := flat103_good 3 l hc
  have hpn : PredOK 105 [] isNo (flatL 3 l) := ⟨rfl, fun i _ => no105_good _⟩
  have hpe : PredOK 108 [] (fun t => !notE t) (flatL 3 l) := ⟨rfl, fun i _ => e108_good _⟩
  have h104 := contains104_good hpn (by omega)
  have h107 := del107_good hpe (by omega)
  have h110 := empty110_good
  have h106 := no106_good
  have e1 : (flatL 3 l).filter (fun t => !(fun t => !notE t) t) = (flatL 3 l).filter notE := by
    congr 1; funext t; simp
  rw [e1] at h107
  have hfle := List.length_filter_le notE (flatL 3 l)
  have hof := put109_good 3 ((flatL 3 l).filter notE) emptyT (by omega)
  have hcat : catS l = if (flatL 3 l).any isNo = true then noneT else ofT 3 ((flatL 3 l).filter notE) emptyT := rfl
  rw [hcat]
  clear hcat hpn hpe e1
  generalize hq : (flatL 3 l).any isNo = q at h104 ⊢
  generalize (flatL 3 l).filter notE = r at h107 hof hfle ⊢
  generalize flatL 3 l = out at h103 h104 h107 hfl hfle
  have hE : nodeA emptyT = .agg [.i 1, .d (.val (.int .u64 0)), .d (.val (.int .u64 0)), .d (.val (.int .u64 0)), .d (.val (.int .u64 0)), .i 0, .i 0, .d (.sl [] 0)] := rfl
  rw [hE] at h110 hof
  cases q
  · rw [if_neg (by simp)]
    generalize ofT 3 r emptyT = u at hof
    obtain ⟨k2, a2, b2, c2, d2, mn2, mx2, subs2⟩ := u
    match out, r, h103, h104, h107, hof with
    | [], [], h103, h104, h107, hof =>
      simp only [List.length_nil] at h103 h104 h107 hof ⊢
      refine b53 (by simp) (by simp) (w_init ?_)
      unfold x53
      repeat' (first
    | (apply r_mvV; rfl)
    | (apply r_mvP; rfl)
    | (apply r_mvPL; rfl)
    | (apply r_mvS; rfl)
    | (apply r_mvSL; rfl)
    | (apply r_mvA; rfl)
    | (apply r_mvT; rfl)
    | (apply r_mvF; rfl)
    | (apply r_mvD; rfl)
    | (apply r_callMN (id := 3) (us := []); rfl; rfl; rfl; exact h103; rfl)
    | (apply r_callS2 (pre := []) (pre' := []) (post := [.d (.fn 105 [])]) (post' := [.d (.fn 105 [])]) (b := 3) (L := []) (us := []); rfl; rfl; rfl; rfl; rfl; exact h104; rfl)
    | (apply r_callOwn (b := 3) (ags := [.d (.fn 108 [])]) (ds := encL []); rfl; rfl; rfl; rfl; exact h107)
    | (apply r_callA (ags := []); rfl; rfl; exact h110)
    | (apply r_callS4 (pre := [.i 3]) (pre' := [.i 3]) (post := [.agg [.i 1, .d (.val (.int .u64 0)), .d (.val (.int .u64 0)), .d (.val (.int .u64 0)), .d (.val (.int .u64 0)), .i 0, .i 0, .d (.sl [] 0)]]) (post' := [.agg [.i 1, .d (.val (.int .u64 0)), .d (.val (.int .u64 0)), .d (.val (.int .u64 0)), .d (.val (.int .u64 0)), .i 0, .i 0, .d (.sl [] 0)]]) (b := 3) (L := []) (us := []); rfl; rfl; rfl; rfl; rfl; exact hof; rfl)
    | (apply r_ldL (v := .agg [.i k2, .d (.val (.int .u64 a2)), .d (.val (.int .u64 b2)), .d (.val (.int .u64 c2)), .d (.val (.int .u64 d2)), .i mn2, .i mx2, .d (.sl (encL subs2) subs2.length)]); rfl; rfl; rfl)
    | (apply r_alloc; ((conv => lhs; simp only [Nat.reduceAdd]) <;> rfl); rfl)
    | (apply r_stL; rfl; rfl; rfl; rfl; (first | rfl | (simp only [z_nil, z_add] <;> rfl)); rfl; rfl)
    | (apply r_nilK)
    | (apply r_nil)
    | (apply k_V; rfl)
    | (apply k_P; rfl)
    | (apply k_PL; rfl)
    | (apply k_S; rfl)
    | (apply k_SL; rfl)
    | (apply k_A; rfl)
    | (apply k_T; rfl)
    | (apply k_F; rfl)
    | (apply k_D; rfl; rotate_left; rfl)
    | (apply k_nil)
    | (apply e_ret (vs := [.d (.val _)]); rfl)
    | (apply e_ret; rfl)
    | (apply e_ret' (vs := [.d (.val _)]); rfl)
    | (apply e_ret'; rfl)
    | (apply w_seq)
    | (apply w_ops; ((conv => lhs; simp only [Nat.reduceAdd]) <;> rfl))
    | (apply w_condT; rfl)
    | (apply w_condF; rfl)
    | ((apply w_condS; rfl) <;> (intro h; try simp only [decide_eq_true_eq, decide_eq_false_iff_not, Bool.not_eq_true, Bool.not_eq_false] at h))
    | (apply e_thenN)
    | (apply w_block)
    | (apply e_thenR)
    | (apply e_thenX)
    | (apply e_blkN)
    | (apply e_blkR)
    | (apply e_blkE)
    | (apply w_exit)
    | (apply w_ret)
    | (apply w_skip)
    | (apply e_blkE'; rfl))
      exact .data _ rfl
    | x :: o, [], h103, h104, h107, hof =>
      simp only [List.length_nil, List.length_cons] at h103 h104 h107 hof ⊢
      refine b53 (by simp) (by simp) (w_init ?_)
      unfold x53
      repeat' (first
    | (apply r_mvV; rfl)
    | (apply r_mvP; rfl)
    | (apply r_mvPL; rfl)
    | (apply r_mvS; rfl)
    | (apply r_mvSL; rfl)
    | (apply r_mvA; rfl)
    | (apply r_mvT; rfl)
    | (apply r_mvF; rfl)
    | (apply r_mvD; rfl)
    | (apply r_callMN (id := 3) (us := []); rfl; rfl; rfl; exact h103; rfl)
    | (apply r_callS2 (pre := []) (pre' := []) (post := [.d (.fn 105 [])]) (post' := [.d (.fn 105 [])]) (b := 3) (L := x :: o) (us := []); rfl; rfl; rfl; rfl; rfl; exact h104; rfl)
    | (apply r_callOwn (b := 3) (ags := [.d (.fn 108 [])]) (ds := encL (x :: o)); rfl; rfl; rfl; rfl; exact h107)
    | (apply r_callA (ags := []); rfl; rfl; exact h110)
    | (apply r_callS4 (pre := [.i 3]) (pre' := [.i 3]) (post := [.agg [.i 1, .d (.val (.int .u64 0)), .d (.val (.int .u64 0)), .d (.val (.int .u64 0)), .d (.val (.int .u64 0)), .i 0, .i 0, .d (.sl [] 0)]]) (post' := [.agg [.i 1, .d (.val (.int .u64 0)), .d (.val (.int .u64 0)), .d (.val (.int .u64 0)), .d (.val (.int .u64 0)), .i 0, .i 0, .d (.sl [] 0)]]) (b := 3) (L := []) (us := []); rfl; rfl; rfl; rfl; rfl; exact hof; rfl)
    | (apply r_ldL (v := .agg [.i k2, .d (.val (.int .u64 a2)), .d (.val (.int .u64 b2)), .d (.val (.int .u64 c2)), .d (.val (.int .u64 d2)), .i mn2, .i mx2, .d (.sl (encL subs2) subs2.length)]); rfl; rfl; rfl)
    | (apply r_alloc; ((conv => lhs; simp only [Nat.reduceAdd]) <;> rfl); rfl)
    | (apply r_stL; rfl; rfl; rfl; rfl; (first | rfl | (simp only [z_nil, z_add] <;> rfl)); rfl; rfl)
    | (apply r_nilK)
    | (apply r_nil)
    | (apply k_V; rfl)
    | (apply k_P; rfl)
    | (apply k_PL; rfl)
    | (apply k_S; rfl)
    | (apply k_SL; rfl)
    | (apply k_A; rfl)
    | (apply k_T; rfl)
    | (apply k_F; rfl)
    | (apply k_D; rfl; rotate_left; rfl)
    | (apply k_nil)
    | (apply e_ret (vs := [.d (.val _)]); rfl)
    | (apply e_ret; rfl)
    | (apply e_ret' (vs := [.d (.val _)]); rfl)
    | (apply e_ret'; rfl)
    | (apply w_seq)
    | (apply w_ops; ((conv => lhs; simp only [Nat.reduceAdd]) <;> rfl))
    | (apply w_condT; rfl)
    | (apply w_condF; rfl)
    | ((apply w_condS; rfl) <;> (intro h; try simp only [decide_eq_true_eq, decide_eq_false_iff_not, Bool.not_eq_true, Bool.not_eq_false] at h))
    | (apply e_thenN)
    | (apply w_block)
    | (apply e_thenR)
    | (apply e_thenX)
    | (apply e_blkN)
    | (apply e_blkR)
    | (apply e_blkE)
    | (apply w_exit)
    | (apply w_ret)
    | (apply w_skip)
    | (apply e_blkE'; rfl))
      exact .data _ rfl
    | x :: o, y :: r, h103, h104, h107, hof =>
      simp only [List.length_cons] at h103 h104 h107 hof ⊢
      refine b53 (by simp) (by simp) (w_init ?_)
      unfold x53
      repeat' (first
    | (apply r_mvV; rfl)
    | (apply r_mvP; rfl)
    | (apply r_mvPL; rfl)
    | (apply r_mvS; rfl)
    | (apply r_mvSL; rfl)
    | (apply r_mvA; rfl)
    | (apply r_mvT; rfl)
    | (apply r_mvF; rfl)
    | (apply r_mvD; rfl)
    | (apply r_callMN (id := 3) (us := []); rfl; rfl; rfl; exact h103; rfl)
    | (apply r_callS2 (pre := []) (pre' := []) (post := [.d (.fn 105 [])]) (post' := [.d (.fn 105 [])]) (b := 3) (L := x :: o) (us := []); rfl; rfl; rfl; rfl; rfl; exact h104; rfl)
    | (apply r_callOwn (b := 3) (ags := [.d (.fn 108 [])]) (ds := encL (x :: o)); rfl; rfl; rfl; rfl; exact h107)
    | (apply r_callA (ags := []); rfl; rfl; exact h110)
    | (apply r_callS4 (pre := [.i 3]) (pre' := [.i 3]) (post := [.agg [.i 1, .d (.val (.int .u64 0)), .d (.val (.int .u64 0)), .d (.val (.int .u64 0)), .d (.val (.int .u64 0)), .i 0, .i 0, .d (.sl [] 0)]]) (post' := [.agg [.i 1, .d (.val (.int .u64 0)), .d (.val (.int .u64 0)), .d (.val (.int .u64 0)), .d (.val (.int .u64 0)), .i 0, .i 0, .d (.sl [] 0)]]) (b := 3) (L := y :: r) (us := [3]); rfl; rfl; rfl; rfl; rfl; exact hof; rfl)
    | (apply r_ldL (v := .agg [.i k2, .d (.val (.int .u64 a2)), .d (.val (.int .u64 b2)), .d (.val (.int .u64 c2)), .d (.val (.int .u64 d2)), .i mn2, .i mx2, .d (.sl (encL subs2) subs2.length)]); rfl; rfl; rfl)
    | (apply r_alloc; ((conv => lhs; simp only [Nat.reduceAdd]) <;> rfl); rfl)
    | (apply r_stL; rfl; rfl; rfl; rfl; (first | rfl | (simp only [z_nil, z_add] <;> rfl)); rfl; rfl)
    | (apply r_nilK)
    | (apply r_nil)
    | (apply k_V; rfl)
    | (apply k_P; rfl)
    | (apply k_PL; rfl)
    | (apply k_S; rfl)
    | (apply k_SL; rfl)
    | (apply k_A; rfl)
    | (apply k_T; rfl)
    | (apply k_F; rfl)
    | (apply k_D; rfl; rotate_left; rfl)
    | (apply k_nil)
    | (apply e_ret (vs := [.d (.val _)]); rfl)
    | (apply e_ret; rfl)
    | (apply e_ret' (vs := [.d (.val _)]); rfl)
    | (apply e_ret'; rfl)
    | (apply w_seq)
    | (apply w_ops; ((conv => lhs; simp only [Nat.reduceAdd]) <;> rfl))
    | (apply w_condT; rfl)
    | (apply w_condF; rfl)
    | ((apply w_condS; rfl) <;> (intro h; try simp only [decide_eq_true_eq, decide_eq_false_iff_not, Bool.not_eq_true, Bool.not_eq_false] at h))
    | (apply e_thenN)
    | (apply w_block)
    | (apply e_thenR)
    | (apply e_thenX)
    | (apply e_blkN)
    | (apply e_blkR)
    | (apply e_blkE)
    | (apply w_exit)
    | (apply w_ret)
    | (apply w_skip)
    | (apply e_blkE'; rfl))
      exact .data _ rfl
  · rw [if_pos rfl]
    have hN : nodeA noneT = .agg [.i 2, .d (.val (.int .u64 0)), .d (.val (.int .u64 0)), .d (.val (.int .u64 0)), .d (.val (.int .u64 0)), .i 0, .i 0, .d (.sl [] 0)] := rfl
    rw [hN] at h106
    refine b53 (by simp) (by simp) (w_init ?_)
    unfold x53
    repeat' (first
    | (apply r_mvV; rfl)
    | (apply r_mvP; rfl)
    | (apply r_mvPL; rfl)
    | (apply r_mvS; rfl)
    | (apply r_mvSL; rfl)
    | (apply r_mvA; rfl)
    | (apply r_mvT; rfl)
    | (apply r_mvF; rfl)
    | (apply r_mvD; rfl)
    | (apply r_callMN (id := 3) (us := []); rfl; rfl; rfl; exact h103; rfl)
    | (apply r_callS2 (pre := []) (pre' := []) (post := [.d (.fn 105 [])]) (post' := [.d (.fn 105 [])]) (b := 3) (L := out) (us := []); rfl; rfl; rfl; rfl; rfl; exact h104; rfl)
    | (apply r_callA (ags := []); rfl; rfl; exact h106)
    | (apply r_ldL (v := .agg [.i 2, .d (.val (.int .u64 0)), .d (.val (.int .u64 0)), .d (.val (.int .u64 0)), .d (.val (.int .u64 0)), .i 0, .i 0, .d (.sl [] 0)]); rfl; rfl; rfl)
    | (apply r_alloc; ((conv => lhs; simp only [Nat.reduceAdd]) <;> rfl); rfl)
    | (apply r_stL; rfl; rfl; rfl; rfl; (first | rfl | (simp only [z_nil, z_add] <;> rfl)); rfl; rfl)
    | (apply r_nilK)
    | (apply r_nil)
    | (apply k_V; rfl)
    | (apply k_P; rfl)
    | (apply k_PL; rfl)
    | (apply k_S; rfl)
    | (apply k_SL; rfl)
    | (apply k_A; rfl)
    | (apply k_T; rfl)
    | (apply k_F; rfl)
    | (apply k_D; rfl; rotate_left; rfl)
    | (apply k_nil)
    | (apply e_ret (vs := [.d (.val _)]); rfl)
    | (apply e_ret; rfl)
    | (apply e_ret' (vs := [.d (.val _)]); rfl)
    | (apply e_ret'; rfl)
    | (apply w_seq)
    | (apply w_ops; ((conv => lhs; simp only [Nat.reduceAdd]) <;> rfl))
    | (apply w_condT; rfl)
    | (apply w_condF; rfl)
    | ((apply w_condS; rfl) <;> (intro h; try simp only [decide_eq_true_eq, decide_eq_false_iff_not, Bool.not_eq_true, Bool.not_eq_false] at h))
    | (apply e_thenN)
    | (apply w_block)
    | (apply e_thenR)
    | (apply e_thenX)
    | (apply e_blkN)
    | (apply e_blkR)
    | (apply e_blkE)
    | (apply w_exit)
    | (apply w_ret)
    | (apply w_skip)
    | (apply e_blkE'; rfl))
    exact .data _ rfl
end Go.Sv
namespace Go.Sv
open Go Go.Proofs

section
variable {P : Program} {Q : Cont} {fr : Fr} {C : Heap} {Z : Frz} {nx : Nat} {base n d : Nat} {l : List (Nat × XO)} {kp : Option (List Nat)} {x i y s : X} {j : Nat}
theorem r_orW {a b : Int} (hx : x.ev fr = .d (.val (.int .u64 a))) (hy : y.ev fr = .d (.val (.int .u64 b))) (ha : okW a) (hb : okW b) (k : R P l base kp Q nx (fr.put d (.d (.val (.int .u64 (orW a b))))) C Z) : R P ((n, ⟨some d, none, .arith .or x y⟩) :: l) base kp Q nx fr C Z := by
  refine r_p ?_ k
  have e : IntKind.wrap .u64 (orW a b) = orW a b := by
    obtain ⟨h1, h2⟩ := okW_or ha hb
    generalize orW a b = w at h1 h2
    simp [IntKind.wrap, IntKind.signed, IntKind.bits]; omega
  simp only [xp, hx, hy, arith, if_true]
  exact congrArg (fun z => some (AV.d (DV.val (Value.int .u64 z)))) e
end
def zipO (a b c d a' b' c' d' : Int) (i : Nat) : List Int := [orW a a', orW b b', orW c c', orW d d'].take i ++ [a, b, c, d].drop i
theorem encL_setW : ∀ (K : List T) (j : Nat) (a b c d w0 w1 w2 w3 : Int), K[j]? = some (.node 2 a b c d 0 0 []) → splice ((encL K).map AV.d) (j * 8 + 1) [.d (.val (.int .u64 w0)), .d (.val (.int .u64 w1)), .d (.val (.int .u64 w2)), .d (.val (.int .u64 w3))] = (encL (K.set j (.node 2 w0 w1 w2 w3 0 0 []))).map AV.d
  | t :: K, 0, a, b, c, d, w0, w1, w2, w3, h => by
    simp only [List.getElem?_cons_zero, Option.some.injEq] at h
    subst h
    simp [splice, encL, encN]
  | t :: K, j + 1, a, b, c, d, w0, w1, w2, w3, h => by
    have ih := encL_setW K j a b c d w0 w1 w2 w3 (by simpa using h)
    have hl : ((encN t).map AV.d).length = 8 := by rw [List.length_map, encN_len]
    simp only [List.set_cons_succ, encL, List.map_append, ← ih, splice]
    rw [List.take_append, List.drop_append, hl, List.take_of_length_le (l := (encN t).map AV.d) (by rw [hl]; omega), List.drop_of_length_le (l := (encN t).map AV.d) (by rw [hl]; simp; omega), List.nil_append, show (j + 1) * 8 + 1 - 8 = j * 8 + 1 by omega]
    simp only [List.append_assoc, List.length_cons, List.length_nil]
    rw [show (j + 1) * 8 + 1 + (0 + 1 + 1 + 1 + 1) - 8 = j * 8 + 1 + (0 + 1 + 1 + 1 + 1) by omega]
set_option maxRecDepth 100000
set_option maxHeartbeats 4000000
attribute [local irreducible] W E R KP thenK blockK retK Good xwp aRun
theorem or73_good {a b c d a' b' c' d' : Int} (ha : okW a) (hb : okW b) (hc : okW c) (hd : okW d) (ha' : okW a') (hb' : okW b') (hc' : okW c') (hd' : okW d') :
    Good Try.prog 73 [setA a b c d, setA a' b' c' d'] none (setA (orW a a') (orW b b') (orW c c') (orW d d')) none none := by
  unfold setA
  refine b73 (by simp) (by simp) (w_init ?_)
  unfold x73
  repeat' (first
    | (apply r_mvV; rfl)
    | (apply r_mvP; rfl)
    | (apply r_mvPL; rfl)
    | (apply r_mvS; rfl)
    | (apply r_mvSL; rfl)
    | (apply r_mvA; rfl)
    | (apply r_mvT; rfl)
    | (apply r_mvF; rfl)
    | (apply r_mvD; rfl)
    | (apply r_ldL; rfl; rfl; rfl)
    | (apply r_lss; rfl; rfl; (first | (apply decide_eq_true; omega) | (apply decide_eq_false; omega) | rfl))
    | (apply r_add; rfl; rfl; rfl; omega)
    | (apply r_alloc; ((conv => lhs; simp only [Nat.reduceAdd]) <;> rfl); rfl)
    | (apply r_box; ((conv => lhs; simp only [Nat.reduceAdd]) <;> rfl); rfl; rfl; rfl)
    | (apply r_stL; rfl; rfl; rfl; rfl; (first | rfl | (simp only [z_nil, z_add] <;> rfl)); rfl; rfl)
    | (apply r_p; rfl)
    | (apply r_nilK)
    | (apply r_nil)
    | (apply k_V; rfl)
    | (apply k_P; rfl)
    | (apply k_PL; rfl)
    | (apply k_S; rfl)
    | (apply k_SL; rfl)
    | (apply k_A; rfl)
    | (apply k_T; rfl)
    | (apply k_F; rfl)
    | (apply k_D; rfl; rotate_left; rfl)
    | (apply k_nil)
    | (apply e_ret (vs := [.d (.val _)]); rfl)
    | (apply e_ret; rfl)
    | (apply e_ret' (vs := [.d (.val _)]); rfl)
    | (apply e_ret'; rfl)
    | (apply w_seq)
    | (apply w_ops; ((conv => lhs; simp only [Nat.reduceAdd]) <;> rfl))
    | (apply w_condT; rfl)
    | (apply w_condF; rfl)
    | ((apply w_condS; rfl) <;> (intro h; try simp only [decide_eq_true_eq, decide_eq_false_iff_not, Bool.not_eq_true, Bool.not_eq_false] at h))
    | (apply e_thenN)
    | (apply w_block)
    | (apply e_thenR)
    | (apply e_thenX)
    | (apply e_blkN)
    | (apply e_blkR)
    | (apply e_blkE)
    | (apply w_exit)
    | (apply w_ret)
    | (apply w_skip)
    | (apply e_blkE'; rfl))
  apply w_loopI (S := fun i : Nat => ⟨(((Fr.nil.put 2 (.ptrL 1 0)).put 3 (.ptrL 2 0)).put 4 (.ptrL 3 0)).put 6 (.i i), rowsOf [(1, encW (zipO a b c d a' b' c' d' i)), (2, encW [a', b', c', d']), (3, encW [0, 0, 0, 0])], Frz.buts 100 [1, 3], 100⟩) (m := fun i => 4 - i) (I := fun i => i ≤ 4) (i0 := 0)
  · exact Nat.zero_le _
  · refine wkM [] [] rfl ?_ ?_ rfl ?_
    · intro p hp
      simp only [List.mem_cons, List.not_mem_nil, or_false] at hp
      rcases hp with rfl | rfl | rfl
      · exact ⟨by omega, .inr ⟨rfl, _, rfl, .data rfl⟩⟩
      · exact ⟨by omega, .inr ⟨rfl, _, rfl, .data rfl⟩⟩
      · exact ⟨by omega, .inr ⟨rfl, _, rfl, .data rfl⟩⟩
    · intro q hq; simp only [List.mem_cons, List.not_mem_nil, or_false] at hq; rcases hq with rfl | rfl <;> rfl
    · repeat' (first
    | exact FWk.nil
    | (apply FWk.i; rfl; (first | rfl | omega | (simp; done)))
    | (apply FWk.sl; rfl; rfl; rfl; rfl; omega; rfl)
    | (apply FWk.ptr; rfl; rfl; rfl; omega; rfl)
    | (apply FWk.d; rfl; rfl)
    | (apply FWk.a; rfl; rfl; rfl)
    | (apply FWk.slN; rfl; omega; rfl))
  intro i K hi hK
  dsimp only
  rcases Nat.lt_or_ge i 4 with hlt | hge
  · have hzl : (zipO a b c d a' b' c' d' i).length = 4 := by
      match i, hlt with
      | 0, _ => rfl
      | 1, _ => rfl
      | 2, _ => rfl
      | 3, _ => rfl
    have h1 : okW ((zipO a b c d a' b' c' d' i).getD i 0) ∧ okW ([a', b', c', d'].getD i 0) := by
      match i, hlt with
      | 0, _ => exact ⟨ha, ha'⟩
      | 1, _ => exact ⟨hb, hb'⟩
      | 2, _ => exact ⟨hc, hc'⟩
      | 3, _ => exact ⟨hd, hd'⟩
    have h2 : (zipO a b c d a' b' c' d' i).set i (orW ((zipO a b c d a' b' c' d' i).getD i 0) ([a', b', c', d'].getD i 0)) = zipO a b c d a' b' c' d' (i + 1) := by
      match i, hlt with
      | 0, _ => rfl
      | 1, _ => rfl
      | 2, _ => rfl
      | 3, _ => rfl
    repeat' (first
    | (apply r_mvV; rfl)
    | (apply r_mvP; rfl)
    | (apply r_mvPL; rfl)
    | (apply r_mvS; rfl)
    | (apply r_mvSL; rfl)
    | (apply r_mvA; rfl)
    | (apply r_mvT; rfl)
    | (apply r_mvF; rfl)
    | (apply r_mvD; rfl)
    | (apply r_ixPL (j := i); rfl; rfl; omega)
    | (apply r_ldWs (b := 1) (ws := zipO a b c d a' b' c' d' i) (j := i); rfl; rfl; omega)
    | (apply r_ldWs (b := 2) (ws := [a', b', c', d']) (j := i); rfl; rfl; (simp; omega))
    | (apply r_orW; rfl; rfl; exact h1.1; exact h1.2)
    | (apply r_stWs (b := 1) (ws := zipO a b c d a' b' c' d' i) (j := i); rfl; rfl; rfl; rfl; omega)
    | (apply r_ldL; rfl; rfl; rfl)
    | (apply r_lss; rfl; rfl; (first | (apply decide_eq_true; omega) | (apply decide_eq_false; omega) | rfl))
    | (apply r_add; rfl; rfl; rfl; omega)
    | (apply r_alloc; ((conv => lhs; simp only [Nat.reduceAdd]) <;> rfl); rfl)
    | (apply r_box; ((conv => lhs; simp only [Nat.reduceAdd]) <;> rfl); rfl; rfl; rfl)
    | (apply r_stL; rfl; rfl; rfl; rfl; (first | rfl | (simp only [z_nil, z_add] <;> rfl)); rfl; rfl)
    | (apply r_p; rfl)
    | (apply r_nilK)
    | (apply r_nil)
    | (apply k_V; rfl)
    | (apply k_P; rfl)
    | (apply k_PL; rfl)
    | (apply k_S; rfl)
    | (apply k_SL; rfl)
    | (apply k_A; rfl)
    | (apply k_T; rfl)
    | (apply k_F; rfl)
    | (apply k_D; rfl; rotate_left; rfl)
    | (apply k_nil)
    | (apply e_ret (vs := [.d (.val _)]); rfl)
    | (apply e_ret; rfl)
    | (apply e_ret' (vs := [.d (.val _)]); rfl)
    | (apply e_ret'; rfl)
    | (apply w_seq)
    | (apply w_ops; ((conv => lhs; simp only [Nat.reduceAdd]) <;> rfl))
    | (apply w_condT; rfl)
    | (apply w_condF; rfl)
    | ((apply w_condS; rfl) <;> (intro h; try simp only [decide_eq_true_eq, decide_eq_false_iff_not, Bool.not_eq_true, Bool.not_eq_false] at h))
    | (apply e_thenN)
    | (apply w_block)
    | (apply e_thenR)
    | (apply e_thenX)
    | (apply e_blkN)
    | (apply e_blkR)
    | (apply e_blkE)
    | (apply w_exit)
    | (apply w_ret)
    | (apply w_skip)
    | (apply e_blkE'; rfl))
    apply e_thenK
    apply hK (i + 1)
    · omega
    · omega
    · rw [← h2]
      refine wkM [] [] rfl ?_ ?_ rfl ?_
      · intro p hp
        simp only [List.mem_cons, List.not_mem_nil, or_false] at hp
        rcases hp with rfl | rfl | rfl
        · exact ⟨by omega, .inr ⟨rfl, _, rfl, .data (encW_isD _)⟩⟩
        · exact ⟨by omega, .inr ⟨rfl, _, rfl, .data rfl⟩⟩
        · exact ⟨by omega, .inr ⟨rfl, _, rfl, .data rfl⟩⟩
      · intro q hq; simp only [List.mem_cons, List.not_mem_nil, or_false] at hq; rcases hq with rfl | rfl <;> rfl
      · repeat' (first
    | exact FWk.nil
    | (apply FWk.i; rfl; (first | rfl | omega | (simp; done)))
    | (apply FWk.sl; rfl; rfl; rfl; rfl; omega; rfl)
    | (apply FWk.ptr; rfl; rfl; rfl; omega; rfl)
    | (apply FWk.d; rfl; rfl)
    | (apply FWk.a; rfl; rfl; rfl)
    | (apply FWk.slN; rfl; omega; rfl))
  · have ei : i = 4 := by omega
    subst ei
    repeat' (first
    | (apply r_mvV; rfl)
    | (apply r_mvP; rfl)
    | (apply r_mvPL; rfl)
    | (apply r_mvS; rfl)
    | (apply r_mvSL; rfl)
    | (apply r_mvA; rfl)
    | (apply r_mvT; rfl)
    | (apply r_mvF; rfl)
    | (apply r_mvD; rfl)
    | (apply r_ldL (v := .agg [.d (.val (.int .u64 (orW a a'))), .d (.val (.int .u64 (orW b b'))), .d (.val (.int .u64 (orW c c'))), .d (.val (.int .u64 (orW d d')))]); rfl; rfl; rfl)
    | (apply r_ldL; rfl; rfl; rfl)
    | (apply r_lss; rfl; rfl; (first | (apply decide_eq_true; omega) | (apply decide_eq_false; omega) | rfl))
    | (apply r_add; rfl; rfl; rfl; omega)
    | (apply r_alloc; ((conv => lhs; simp only [Nat.reduceAdd]) <;> rfl); rfl)
    | (apply r_box; ((conv => lhs; simp only [Nat.reduceAdd]) <;> rfl); rfl; rfl; rfl)
    | (apply r_stL; rfl; rfl; rfl; rfl; (first | rfl | (simp only [z_nil, z_add] <;> rfl)); rfl; rfl)
    | (apply r_p; rfl)
    | (apply r_nilK)
    | (apply r_nil)
    | (apply k_V; rfl)
    | (apply k_P; rfl)
    | (apply k_PL; rfl)
    | (apply k_S; rfl)
    | (apply k_SL; rfl)
    | (apply k_A; rfl)
    | (apply k_T; rfl)
    | (apply k_F; rfl)
    | (apply k_D; rfl; rotate_left; rfl)
    | (apply k_nil)
    | (apply e_ret (vs := [.d (.val _)]); rfl)
    | (apply e_ret; rfl)
    | (apply e_ret' (vs := [.d (.val _)]); rfl)
    | (apply e_ret'; rfl)
    | (apply w_seq)
    | (apply w_ops; ((conv => lhs; simp only [Nat.reduceAdd]) <;> rfl))
    | (apply w_condT; rfl)
    | (apply w_condF; rfl)
    | ((apply w_condS; rfl) <;> (intro h; try simp only [decide_eq_true_eq, decide_eq_false_iff_not, Bool.not_eq_true, Bool.not_eq_false] at h))
    | (apply e_thenN)
    | (apply w_block)
    | (apply e_thenR)
    | (apply e_thenX)
    | (apply e_blkN)
    | (apply e_blkR)
    | (apply e_blkE)
    | (apply w_exit)
    | (apply w_ret)
    | (apply w_skip)
    | (apply e_blkE'; rfl))
    exact .data _ rfl
end Go.Sv
