/- A part of the proof of the law SimplifyKeeps: that it answers true for every input, and that the input reads behind the call as before (no condition). -/
import Derived.Test.YtcnlgmajkclgjaaSimplifyKeepsG7
set_option linter.all false
set_option linter.unusedSectionVars false
set_option linter.unusedVariables false
set_option linter.unusedSimpArgs false
namespace Go.Sv
open Go Go.Proofs
def x52 : XC := (.seq (.ops 2 [
    (0, ⟨(some 1), none, .box (.t 0)⟩),
    (1, ⟨(some 2), none, .mv (.k (.d (.val (.string ⟨#[]⟩))))⟩)] (some [1])) (.seq (.seq (.ops 3 [
    (0, ⟨(some 6), none, .fadd 0 (.t 1)⟩),
    (1, ⟨(some 7), none, .load none (.t 6)⟩),
    (2, ⟨(some 8), none, .arith .eql (.t 7) (.k (.d (.val (.int .i64 2))))⟩)] (some [1, 8])) (.cond (.t 8) (.seq (.ops 4 [
    (0, ⟨(some 9), none, .fadd 1 (.t 1)⟩),
    (1, ⟨(some 10), none, .load (some 4) (.t 9)⟩),
    (2, ⟨(some 11), none, .call 100 [(.t 10)] none false⟩),
    (3, ⟨(some 2), none, .mv (.t 11)⟩)] (some [2])) .ret) .skip)) (.seq (.ops 1 [
    (0, ⟨(some 3), none, .mv (.k (.d (.val (.string ⟨#[]⟩))))⟩)] (some [1, 3])) (.seq (.seq (.ops 1 [
    (0, ⟨(some 4), none, .mv (.k (.d (.val (.int .i64 0))))⟩)] (some [1, 3, 4])) (.block 0 (.loop (.seq (.seq (.ops 5 [
    (0, ⟨(some 12), none, .mv (.t 4)⟩),
    (1, ⟨(some 13), none, .fadd 7 (.t 1)⟩),
    (2, ⟨(some 14), none, .load none (.t 13)⟩),
    (3, ⟨(some 15), none, .lenS (.t 14)⟩),
    (4, ⟨(some 16), none, .arith .lss (.t 12) (.t 15)⟩)] (some [1, 3, 4, 16])) (.cond (.t 16) .skip (.exit 0))) (.seq (.block 1 (.seq (.ops 7 [
    (0, ⟨(some 19), none, .fadd 7 (.t 1)⟩),
    (1, ⟨(some 20), none, .load none (.t 19)⟩),
    (2, ⟨(some 21), none, .mv (.t 4)⟩),
    (3, ⟨(some 22), none, .idxS 8 (.t 20) (.t 21)⟩),
    (4, ⟨(some 23), none, .load (some 8) (.t 22)⟩),
    (5, ⟨(some 24), none, .call 52 [(.t 23)] none false⟩),
    (6, ⟨(some 5), none, .mv (.t 24)⟩)] (some [1, 3, 4, 5])) (.seq (.seq (.ops 7 [
    (0, ⟨(some 25), none, .load (some 8) (.t 1)⟩),
    (1, ⟨(some 26), none, .fadd 7 (.t 1)⟩),
    (2, ⟨(some 27), none, .load none (.t 26)⟩),
    (3, ⟨(some 28), none, .mv (.t 4)⟩),
    (4, ⟨(some 29), none, .idxS 8 (.t 27) (.t 28)⟩),
    (5, ⟨(some 30), none, .load (some 8) (.t 29)⟩),
    (6, ⟨(some 31), none, .call 101 [(.t 25), (.t 30)] none false⟩)] (some [1, 3, 4, 5, 31])) (.cond (.t 31) (.ops 4 [
    (0, ⟨(some 32), none, .mv (.t 5)⟩),
    (1, ⟨(some 33), none, .arith .add (.k (.d (.val (.string ⟨#[40]⟩)))) (.t 32)⟩),
    (2, ⟨(some 34), none, .arith .add (.t 33) (.k (.d (.val (.string ⟨#[41]⟩))))⟩),
    (3, ⟨(some 5), none, .mv (.t 34)⟩)] (some [1, 3, 4, 5])) .skip)) (.seq (.seq (.ops 7 [
    (0, ⟨(some 35), none, .fadd 0 (.t 1)⟩),
    (1, ⟨(some 36), none, .load none (.t 35)⟩),
    (2, ⟨(some 37), none, .arith .eql (.t 36) (.k (.d (.val (.int .i64 4))))⟩),
    (3, ⟨(some 38), none, .mv (.t 37)⟩),
    (4, ⟨(some 39), (some (38, true)), .mv (.t 4)⟩),
    (5, ⟨(some 40), (some (38, true)), .arith .gtr (.t 39) (.k (.d (.val (.int .i64 0))))⟩),
    (6, ⟨(some 41), none, .pick (.t 38) (.t 40) (.k (.d (.val (.bool false))))⟩)] (some [1, 3, 4, 5, 41])) (.cond (.t 41) (.ops 3 [
    (0, ⟨(some 42), none, .mv (.t 3)⟩),
    (1, ⟨(some 43), none, .arith .add (.t 42) (.k (.d (.val (.string ⟨#[124]⟩))))⟩),
    (2, ⟨(some 3), none, .mv (.t 43)⟩)] (some [1, 3, 4, 5])) .skip)) (.ops 4 [
    (0, ⟨(some 44), none, .mv (.t 3)⟩),
    (1, ⟨(some 45), none, .mv (.t 5)⟩),
    (2, ⟨(some 46), none, .arith .add (.t 44) (.t 45)⟩),
    (3, ⟨(some 3), none, .mv (.t 46)⟩)] (some [1, 3, 4])))))) (.ops 3 [
    (0, ⟨(some 17), none, .mv (.t 4)⟩),
    (1, ⟨(some 18), none, .arith .add (.t 17) (.k (.d (.val (.int .i64 1))))⟩),
    (2, ⟨(some 4), none, .mv (.t 18)⟩)] (some [1, 3, 4]))))))) (.seq (.seq (.ops 3 [
    (0, ⟨(some 47), none, .fadd 0 (.t 1)⟩),
    (1, ⟨(some 48), none, .load none (.t 47)⟩),
    (2, ⟨(some 49), none, .arith .eql (.t 48) (.k (.d (.val (.int .i64 5))))⟩)] (some [1, 3, 49])) (.cond (.t 49) (.ops 8 [
    (0, ⟨(some 50), none, .mv (.t 3)⟩),
    (1, ⟨(some 51), none, .fadd 5 (.t 1)⟩),
    (2, ⟨(some 52), none, .load none (.t 51)⟩),
    (3, ⟨(some 53), none, .fadd 6 (.t 1)⟩),
    (4, ⟨(some 54), none, .load none (.t 53)⟩),
    (5, ⟨(some 55), none, .call 102 [(.t 52), (.t 54)] none false⟩),
    (6, ⟨(some 56), none, .arith .add (.t 50) (.t 55)⟩),
    (7, ⟨(some 3), none, .mv (.t 56)⟩)] (some [3])) .skip)) (.seq (.ops 2 [
    (0, ⟨(some 57), none, .mv (.t 3)⟩),
    (1, ⟨(some 2), none, .mv (.t 57)⟩)] (some [2])) .ret))))))
def md52 : FuncId → Option Nat × Bool
  | _ => (none, false)
def od52 : Nat → List (List Nat) × List Nat × Option (List Nat)
  | 0 => ([], [], some [1])
  | 1 => ([], [], some [1, 8])
  | 2 => ([], [], some [2])
  | 3 => ([], [], some [1, 3])
  | 4 => ([], [], some [1, 3, 4])
  | 5 => ([], [], some [1, 3, 4, 16])
  | 6 => ([], [], some [1, 3, 4])
  | 7 => ([], [], some [1, 3, 4, 5])
  | 8 => ([[], [], [1], [], [1, 2, 3], [1, 2, 3, 4], [0, 1, 2, 3, 4, 5]], [0, 1, 2, 3, 4, 5, 6], some [1, 3, 4, 5, 31])
  | 9 => ([], [], some [1, 3, 4, 5])
  | 10 => ([], [], some [1, 3, 4, 5, 41])
  | 11 => ([], [], some [1, 3, 4, 5])
  | 12 => ([], [], some [1, 3, 4])
  | 13 => ([], [], some [1, 3, 49])
  | 14 => ([], [], some [3])
  | 15 => ([], [], some [2])
  | _ => ([], [], none)
theorem b52 {ags : List AV} {row : Option (List DV)} {r : AV} {row' nw : Option (List DV)} (hal : ags.length ≤ 58) (hrow : row'.isSome = true → row.isSome = true) (h : xwp Try.prog x52 (retK [.tmp 2] row.isSome r row' nw) (St.init ags row)) : Good Try.prog 52 ags row r row' nw :=
  good_of_body' (md := md52) (od := od52) Try.f52 (by kernel_rfl) (by kernel_rfl) (by kernel_rfl) (by kernel_rfl) (by kernel_rfl) hal hrow h

def x12 : XC := (.seq (.ops 2 [
    (0, ⟨(some 1), none, .box (.t 0)⟩),
    (1, ⟨(some 2), none, .mv (.k (.d (.val (.bool false))))⟩)] (some [1])) (.seq (.seq (.ops 12 [
    (0, ⟨(some 4), none, .call 44 [] none false⟩),
    (1, ⟨(some 5), none, .un .not (.t 4)⟩),
    (2, ⟨(some 6), none, .mv (.t 5)⟩),
    (3, ⟨(some 7), (some (6, false)), .load (some 8) (.t 1)⟩),
    (4, ⟨(some 8), (some (6, false)), .call 45 [(.t 7)] none false⟩),
    (5, ⟨(some 9), (some (6, false)), .un .not (.t 8)⟩),
    (6, ⟨(some 10), none, .pick (.t 6) (.k (.d (.val (.bool true)))) (.t 9)⟩),
    (7, ⟨(some 11), none, .mv (.t 10)⟩),
    (8, ⟨(some 12), (some (11, false)), .load (some 8) (.t 1)⟩),
    (9, ⟨(some 13), (some (11, false)), .call 32 [(.t 12)] none false⟩),
    (10, ⟨(some 14), (some (11, false)), .un .not (.t 13)⟩),
    (11, ⟨(some 15), none, .pick (.t 11) (.k (.d (.val (.bool true)))) (.t 14)⟩)] (some [1, 15])) (.cond (.t 15) (.seq (.ops 2 [
    (0, ⟨(some 16), none, .call 44 [] none false⟩),
    (1, ⟨(some 2), none, .mv (.t 16)⟩)] (some [2])) .ret) .skip)) (.seq (.ops 3 [
    (0, ⟨(some 17), none, .load (some 8) (.t 1)⟩),
    (1, ⟨(some 18), none, .call 52 [(.t 17)] none false⟩),
    (2, ⟨(some 3), none, .mv (.t 18)⟩)] (some [1, 3])) (.seq (.ops 2 [
    (0, ⟨(some 19), none, .load (some 8) (.t 1)⟩),
    (1, ⟨(some 20), none, .call 46 [(.t 19)] none false⟩)] (some [1, 3])) (.seq (.ops 4 [
    (0, ⟨(some 21), none, .load (some 8) (.t 1)⟩),
    (1, ⟨(some 22), none, .load (some 8) (.t 1)⟩),
    (2, ⟨(some 23), none, .mkrow [(.int .i64 0), (.int .u64 0), (.int .u64 0), (.int .u64 0), (.int .u64 0), (.int .i64 0), (.int .i64 0), (.slice none 0 0)] 2 8 [(0, 8, (.t 21)), (8, 8, (.t 22))]⟩),
    (3, ⟨(some 24), none, .call 53 [(.t 23)] none false⟩)] (some [1, 3])) (.seq (.ops 4 [
    (0, ⟨(some 25), none, .load (some 8) (.t 1)⟩),
    (1, ⟨(some 26), none, .load (some 8) (.t 1)⟩),
    (2, ⟨(some 27), none, .mkrow [(.int .i64 0), (.int .u64 0), (.int .u64 0), (.int .u64 0), (.int .u64 0), (.int .i64 0), (.int .i64 0), (.slice none 0 0)] 2 8 [(0, 8, (.t 25)), (8, 8, (.t 26))]⟩),
    (3, ⟨(some 28), none, .call 54 [(.t 27)] none false⟩)] (some [1, 3])) (.seq (.ops 5 [
    (0, ⟨(some 29), none, .load (some 8) (.t 1)⟩),
    (1, ⟨(some 30), none, .call 52 [(.t 29)] none false⟩),
    (2, ⟨(some 31), none, .mv (.t 3)⟩),
    (3, ⟨(some 32), none, .arith .eql (.t 30) (.t 31)⟩),
    (4, ⟨(some 2), none, .mv (.t 32)⟩)] (some [2])) .ret)))))))
def md12 : FuncId → Option Nat × Bool
  | _ => (none, false)
def od12 : Nat → List (List Nat) × List Nat × Option (List Nat)
  | 0 => ([], [], some [1])
  | 1 => ([], [], some [1, 15])
  | 2 => ([], [], some [2])
  | 3 => ([], [], some [1, 3])
  | 4 => ([], [], some [1, 3])
  | 5 => ([], [], some [1, 3])
  | 6 => ([], [], some [1, 3])
  | 7 => ([], [], some [2])
  | _ => ([], [], none)
theorem b12 {ags : List AV} {row : Option (List DV)} {r : AV} {row' nw : Option (List DV)} (hal : ags.length ≤ 33) (hrow : row'.isSome = true → row.isSome = true) (h : xwp Try.prog x12 (retK [.tmp 2] row.isSome r row' nw) (St.init ags row)) : Good Try.prog 12 ags row r row' nw :=
  good_of_body' (md := md12) (od := od12) Try.f12 (by kernel_rfl) (by kernel_rfl) (by kernel_rfl) (by kernel_rfl) (by kernel_rfl) hal hrow h

set_option maxRecDepth 100000
set_option maxHeartbeats 4000000
attribute [local irreducible] W E R KP thenK blockK retK Good xwp aRun
def brk (k : Int) (t : T) (s : ByteArray) : ByteArray := if roundG k t.kind = true then ⟨#[40]⟩ ++ s ++ ⟨#[41]⟩ else s
def barS (k : Int) (i : Nat) (s : ByteArray) : ByteArray := if k = 4 ∧ 0 < i then s ++ ⟨#[124]⟩ else s
def preS (k : Int) (subs : List T) (f : Nat → ByteArray) : Nat → ByteArray
  | 0 => ⟨#[]⟩
  | i + 1 => barS k i (preS k subs f i) ++ brk k (subs.getD i (.node 0 0 0 0 0 0 0 [])) (f i)
theorem brk_len (k : Int) (t : T) (s : ByteArray) : (brk k t s).size ≤ s.size + 2 := by
  have e1 : (⟨#[40]⟩ : ByteArray).size = 1 := rfl
  have e2 : (⟨#[41]⟩ : ByteArray).size = 1 := rfl
  unfold brk
  split
  · simp only [ByteArray.size_append, e1, e2]; omega
  · omega
theorem bar_len (k : Int) (i : Nat) (s : ByteArray) : (barS k i s).size ≤ s.size + 1 := by
  have e1 : (⟨#[124]⟩ : ByteArray).size = 1 := rfl
  unfold barS
  split
  · simp only [ByteArray.size_append, e1]; omega
  · omega
theorem text52_good : ∀ (n : Nat) (t : T), t.cnt ≤ n → n ≤ 1000000 → okT t → ∃ s : ByteArray, s.size + 20 ≤ 10000 * t.cnt ∧ Good Try.prog 52 [nodeA t] none (.d (.val (.string s))) none none := by
  intro n
  induction n with
  | zero => intro t ht; have := cnt_pos t; omega
  | succ n ih =>
  intro t ht hc hok
  obtain ⟨k, a, b, c, d, mn, mx, subs⟩ := t
  have hS := okT_S hok
  obtain ⟨ha, hb, hcc, hd⟩ := hS
  have hR := okT_R hok
  have hsubs := okT_subs hok
  have hcn := cntL_len subs
  simp only [T.cnt] at ht ⊢
  have e0 : nodeA (T.node k a b c d mn mx subs) = .agg [.i k, .d (.val (.int .u64 a)), .d (.val (.int .u64 b)), .d (.val (.int .u64 c)), .d (.val (.int .u64 d)), .i mn, .i mx, .d (.sl (encL subs) subs.length)] := rfl
  have ih' : ∀ i, ∃ s : ByteArray, ∀ h : i < subs.length, s.size + 20 ≤ 10000 * subs[i].cnt ∧ Good Try.prog 52 [nodeA subs[i]] none (.d (.val (.string s))) none none := by
    intro i
    by_cases h : i < subs.length
    · have h2 := cntL_get subs i h
      obtain ⟨s, h3⟩ := ih subs[i] (by omega) (by omega) ((okL_iff _).1 hsubs _ (List.getElem_mem h))
      exact ⟨s, fun _ => h3⟩
    · exact ⟨⟨#[]⟩, fun h' => absurd h' h⟩
  obtain ⟨f, hf⟩ := Classical.axiomOfChoice ih'
  have hpre : ∀ i, i ≤ subs.length → (preS k subs f i).size ≤ 10000 * cntL (subs.take i) := by
    intro i
    induction i with
    | zero => intro _; show 0 ≤ _; omega
    | succ i ih2 =>
      intro hi
      have h1 := ih2 (by omega)
      have h2 := (hf i (by omega)).1
      have h3 := brk_len k (subs.getD i (.node 0 0 0 0 0 0 0 [])) (f i)
      have h4 := bar_len k i (preS k subs f i)
      have h5 : cntL (subs.take (i + 1)) = cntL (subs.take i) + subs[i].cnt := by
        rw [List.take_succ_eq_append_getElem (by omega), cntL_app]; simp [cntL]
      rw [preS, ByteArray.size_append]
      omega
  rw [e0]
  by_cases hk2 : k = 2
  · obtain ⟨s, hs, h100⟩ := set100_good ha hb hcc hd
    refine ⟨s, by omega, ?_⟩
    unfold setA at h100
    clear hf hpre f ih ht hc hok hR hsubs hcn e0 ha hb hcc hd
    refine b52 (by simp) (by simp) (w_init ?_)
    unfold x52
    repeat' (first
    | (apply r_mvV; rfl)
    | (apply r_mvP; rfl)
    | (apply r_mvPL; rfl)
    | (apply r_mvS; rfl)
    | (apply r_mvSL; rfl)
    | (apply r_mvA; rfl)
    | (apply r_mvT; rfl)
    | (apply r_mvF; rfl)
    | (apply r_mvD; rfl)
    | (apply r_faddD; rfl)
    | (apply r_faddL; rfl)
    | (apply r_l; apply ld_kind; assumption; rfl)
    | (apply r_l; apply ld_mn; assumption; rfl)
    | (apply r_l; apply ld_mx; assumption; rfl)
    | (apply r_l; apply ld_subs; assumption; rfl)
    | (apply r_l; apply ld_set; assumption; rfl)
    | (apply r_l; apply ld_node; assumption; rfl)
    | (apply r_l; apply ld_kind'; assumption; rfl)
    | (apply r_l; apply ld_mn'; assumption; rfl)
    | (apply r_l; apply ld_mx'; assumption; rfl)
    | (apply r_l; apply ld_subs'; assumption; rfl)
    | (apply r_l; apply ld_node'; assumption; rfl)
    | (apply r_ldL (v := .agg [.d (.val (.int .u64 a)), .d (.val (.int .u64 b)), .d (.val (.int .u64 c)), .d (.val (.int .u64 d))]); rfl; rfl; rfl)
    | (apply r_callA; rfl; rfl; exact h100)
    | (apply r_ldL; rfl; rfl; rfl)
    | (apply r_eql; rfl; rfl; (first | (apply decide_eq_true; omega) | (apply decide_eq_false; omega) | rfl))
    | (apply r_lss; rfl; rfl; (first | (apply decide_eq_true; omega) | (apply decide_eq_false; omega) | rfl))
    | (apply r_gtr; rfl; rfl; (first | (apply decide_eq_true; omega) | (apply decide_eq_false; omega) | rfl))
    | (apply r_add; rfl; rfl; rfl; omega)
    | (apply r_pickT; rfl)
    | (apply r_pickF; rfl)
    | (apply r_lenD; rfl)
    | (apply r_lenL; rfl)
    | (apply r_len0; rfl)
    | (apply r_gT; rfl)
    | (apply r_gF'; rfl; rfl)
    | (apply r_gN'; rfl)
    | ((apply r_gS (o := default); rfl) <;> (intro h; try simp only [decide_eq_true_eq, decide_eq_false_iff_not, Bool.not_eq_true, Bool.not_eq_false] at h))
    | (apply r_box; ((conv => lhs; simp only [Nat.reduceAdd]) <;> rfl); rfl; rfl; rfl)
    | (apply r_p; rfl)
    | (apply r_nilK)
    | (apply r_nil)
    | (apply k_V; rfl)
    | (apply k_P; rfl)
    | (apply k_PL; rfl)
    | (apply k_S; rfl)
    | (apply k_SL; rfl)
    | (apply k_A; rfl)
    | (apply k_T; rfl)
    | (apply k_F; rfl)
    | (apply k_D; rfl; rotate_left; rfl)
    | (apply k_nil)
    | (apply e_ret (vs := [.d (.val _)]); rfl)
    | (apply e_ret; rfl)
    | (apply e_ret' (vs := [.d (.val _)]); rfl)
    | (apply e_ret'; rfl)
    | (apply w_seq)
    | (apply w_ops; ((conv => lhs; simp only [Nat.reduceAdd]) <;> rfl))
    | (apply w_condT; rfl)
    | (apply w_condF; rfl)
    | ((apply w_condS; rfl) <;> (intro h; try simp only [decide_eq_true_eq, decide_eq_false_iff_not, Bool.not_eq_true, Bool.not_eq_false] at h))
    | (apply e_thenN)
    | (apply w_block)
    | (apply e_thenR)
    | (apply e_thenX)
    | (apply e_blkN)
    | (apply e_blkR)
    | (apply e_blkE)
    | (apply w_exit)
    | (apply w_ret)
    | (apply w_skip)
    | (apply e_blkE'; rfl))
    exact .data _ rfl
  have hend := hpre subs.length (Nat.le_refl _)
  rw [List.take_length] at hend
  have hlen : subs.length ≤ 1000000 := by omega
  have z40 : (⟨#[40]⟩ : ByteArray).size = 1 := rfl
  have z41 : (⟨#[41]⟩ : ByteArray).size = 1 := rfl
  have z124 : (⟨#[124]⟩ : ByteArray).size = 1 := rfl
  have hpb : ∀ i, i ≤ subs.length → (preS k subs f i).size ≤ 10000000000 := fun i hi => by
    have h1 := hpre i hi
    have h2 := cntL_take_le subs i
    omega
  have hfb : ∀ i, i < subs.length → (f i).size ≤ 10000000000 := fun i hi => by
    have h1 := (hf i hi).1
    have h2 := cntL_get subs i hi
    omega
  have key : ∀ (Q : ByteArray), (k = 5 → ∃ w : ByteArray, w.size ≤ 16 ∧ Good Try.prog 102 [.i mn, .i mx] none (.d (.val (.string w))) none none ∧ Q = preS k subs f subs.length ++ w) → (k ≠ 5 → Q = preS k subs f subs.length) → Good Try.prog 52 [.agg [.i k, .d (.val (.int .u64 a)), .d (.val (.int .u64 b)), .d (.val (.int .u64 c)), .d (.val (.int .u64 d)), .i mn, .i mx, .d (.sl (encL subs) subs.length)]] none (.d (.val (.string Q))) none none := by
    intro Q hQ5 hQ
    have hround := fun i => round8_good (T.node k a b c d mn mx subs) (subs.getD i (.node 0 0 0 0 0 0 0 []))
    clear ih ht hok hR hsubs hcn hpre hend ha hb hcc hd
    refine b52 (by simp) (by simp) (w_init ?_)
    unfold x52
    repeat' (first
    | (apply r_mvV; rfl)
    | (apply r_mvP; rfl)
    | (apply r_mvPL; rfl)
    | (apply r_mvS; rfl)
    | (apply r_mvSL; rfl)
    | (apply r_mvA; rfl)
    | (apply r_mvT; rfl)
    | (apply r_mvF; rfl)
    | (apply r_mvD; rfl)
    | (apply r_faddD; rfl)
    | (apply r_faddL; rfl)
    | (apply r_l; apply ld_kind; assumption; rfl)
    | (apply r_l; apply ld_mn; assumption; rfl)
    | (apply r_l; apply ld_mx; assumption; rfl)
    | (apply r_l; apply ld_subs; assumption; rfl)
    | (apply r_l; apply ld_set; assumption; rfl)
    | (apply r_l; apply ld_node; assumption; rfl)
    | (apply r_l; apply ld_kind'; assumption; rfl)
    | (apply r_l; apply ld_mn'; assumption; rfl)
    | (apply r_l; apply ld_mx'; assumption; rfl)
    | (apply r_l; apply ld_subs'; assumption; rfl)
    | (apply r_l; apply ld_node'; assumption; rfl)
    | (apply r_ldL; rfl; rfl; rfl)
    | (apply r_eql; rfl; rfl; (first | (apply decide_eq_true; omega) | (apply decide_eq_false; omega) | rfl))
    | (apply r_lss; rfl; rfl; (first | (apply decide_eq_true; omega) | (apply decide_eq_false; omega) | rfl))
    | (apply r_gtr; rfl; rfl; (first | (apply decide_eq_true; omega) | (apply decide_eq_false; omega) | rfl))
    | (apply r_add; rfl; rfl; rfl; omega)
    | (apply r_pickT; rfl)
    | (apply r_pickF; rfl)
    | (apply r_lenD; rfl)
    | (apply r_lenL; rfl)
    | (apply r_len0; rfl)
    | (apply r_gT; rfl)
    | (apply r_gF'; rfl; rfl)
    | (apply r_gN'; rfl)
    | ((apply r_gS (o := default); rfl) <;> (intro h; try simp only [decide_eq_true_eq, decide_eq_false_iff_not, Bool.not_eq_true, Bool.not_eq_false] at h))
    | (apply r_box; ((conv => lhs; simp only [Nat.reduceAdd]) <;> rfl); rfl; rfl; rfl)
    | (apply r_p; rfl)
    | (apply r_nilK)
    | (apply r_nil)
    | (apply k_V; rfl)
    | (apply k_P; rfl)
    | (apply k_PL; rfl)
    | (apply k_S; rfl)
    | (apply k_SL; rfl)
    | (apply k_A; rfl)
    | (apply k_T; rfl)
    | (apply k_F; rfl)
    | (apply k_D; rfl; rotate_left; rfl)
    | (apply k_nil)
    | (apply e_ret (vs := [.d (.val _)]); rfl)
    | (apply e_ret; rfl)
    | (apply e_ret' (vs := [.d (.val _)]); rfl)
    | (apply e_ret'; rfl)
    | (apply w_seq)
    | (apply w_ops; ((conv => lhs; simp only [Nat.reduceAdd]) <;> rfl))
    | (apply w_condT; rfl)
    | (apply w_condF; rfl)
    | ((apply w_condS; rfl) <;> (intro h; try simp only [decide_eq_true_eq, decide_eq_false_iff_not, Bool.not_eq_true, Bool.not_eq_false] at h))
    | (apply e_thenN)
    | (apply w_block)
    | (apply e_thenR)
    | (apply e_thenX)
    | (apply e_blkN)
    | (apply e_blkR)
    | (apply e_blkE)
    | (apply w_exit)
    | (apply w_ret)
    | (apply w_skip)
    | (apply e_blkE'; rfl))
    apply w_loopI (S := fun i : Nat => ⟨((Fr.nil.put 1 (.ptrL 1 0)).put 3 (.d (.val (.string (preS k subs f i))))).put 4 (.i i), rowsOf [(1, [.i k, .d (.val (.int .u64 a)), .d (.val (.int .u64 b)), .d (.val (.int .u64 c)), .d (.val (.int .u64 d)), .i mn, .i mx, .d (.sl (encL subs) subs.length)])], Frz.lo 100, 100⟩) (m := fun i => subs.length - i) (I := fun i => i ≤ subs.length) (i0 := 0)
    · exact Nat.zero_le _
    · refine wkRs (by omega) ?_ ?_
      · intro p hp
        simp only [List.mem_cons, List.not_mem_nil, or_false] at hp
        rcases hp with rfl
        exact ⟨by omega, rfl, rfl⟩
      · repeat' (first
    | exact FWk.nil
    | (apply FWk.i; rfl; (first | rfl | omega | (simp; done)))
    | (apply FWk.sl; rfl; rfl; rfl; rfl; omega; rfl)
    | (apply FWk.ptr; rfl; rfl; rfl; omega; rfl)
    | (apply FWk.d; rfl; rfl)
    | (apply FWk.a; rfl; rfl; rfl)
    | (apply FWk.slN; rfl; omega; rfl))
    intro i K hi hK
    dsimp only
    rcases Nat.lt_or_ge i subs.length with hlt | hge
    · have hsu := NodeAt.sub hlt
      have hg := (hf i hlt).2
      have hr := hround i
      have hpi := hpb i (by omega)
      have hfi := hfb i hlt
      have hst : preS k subs f (i + 1) = barS k i (preS k subs f i) ++ brk k (subs.getD i (.node 0 0 0 0 0 0 0 [])) (f i) := rfl
      have hgd : subs.getD i (.node 0 0 0 0 0 0 0 []) = subs[i] := by rw [List.getD_eq_getElem?_getD, List.getElem?_eq_getElem hlt]; rfl
      rw [hgd, e0] at hr
      rw [hgd] at hst
      have hnu := nodeA_nrm subs[i]
      have hna : [nodeA subs[i]].all AV.nrm = true := by rw [List.all_cons, hnu]; rfl
      have hna2 : [AV.agg [.i k, .d (.val (.int .u64 a)), .d (.val (.int .u64 b)), .d (.val (.int .u64 c)), .d (.val (.int .u64 d)), .i mn, .i mx, .d (.sl (encL subs) subs.length)], nodeA subs[i]].all AV.nrm = true := by rw [List.all_cons, List.all_cons, hnu]; rfl
      generalize f i = v at hg hst hfi
      generalize preS k subs f i = u at hst hpi
      rw [show T.kind (T.node k a b c d mn mx subs) = k from rfl] at hr
      unfold brk barS at hst
      by_cases h4 : k = 4 ∧ 0 < i
      · rw [if_pos h4] at hst
        obtain ⟨h4a, h4b⟩ := h4
        rcases Bool.eq_false_or_eq_true (roundG k subs[i].kind) with hq | hq
        · rw [if_pos hq] at hst
          rw [hq] at hr
          generalize subs[i] = q at hsu hg hr hna hna2
          repeat' (first
    | (apply r_mvV; rfl)
    | (apply r_mvP; rfl)
    | (apply r_mvPL; rfl)
    | (apply r_mvS; rfl)
    | (apply r_mvSL; rfl)
    | (apply r_mvA; rfl)
    | (apply r_mvT; rfl)
    | (apply r_mvF; rfl)
    | (apply r_mvD; rfl)
    | (apply r_faddD; rfl)
    | (apply r_faddL; rfl)
    | (apply r_cat; rfl; rfl; rfl; (first | omega | (simp only [ByteArray.size_append, z40, z41, z124]; omega)))
    | (apply r_l; apply ld_kind; assumption; rfl)
    | (apply r_l; apply ld_mn; assumption; rfl)
    | (apply r_l; apply ld_mx; assumption; rfl)
    | (apply r_l; apply ld_subs; assumption; rfl)
    | (apply r_l; apply ld_set; assumption; rfl)
    | (apply r_l; apply ld_node; assumption; rfl)
    | (apply r_l; apply ld_kind'; assumption; rfl)
    | (apply r_l; apply ld_mn'; assumption; rfl)
    | (apply r_l; apply ld_mx'; assumption; rfl)
    | (apply r_l; apply ld_subs'; assumption; rfl)
    | (apply r_l; apply ld_node'; assumption; rfl)
    | (apply r_p; apply ix_sub; rfl; rfl; omega)
    | (apply r_l; apply ld_node'; exact hsu; rfl)
    | (apply r_callA (ags := [nodeA q]); rfl; exact hna; exact hg)
    | (apply r_ldL (v := .agg [.i k, .d (.val (.int .u64 a)), .d (.val (.int .u64 b)), .d (.val (.int .u64 c)), .d (.val (.int .u64 d)), .i mn, .i mx, .d (.sl (encL subs) subs.length)]); rfl; rfl; rfl)
    | (apply r_callA (ags := [.agg [.i k, .d (.val (.int .u64 a)), .d (.val (.int .u64 b)), .d (.val (.int .u64 c)), .d (.val (.int .u64 d)), .i mn, .i mx, .d (.sl (encL subs) subs.length)], nodeA q]); rfl; exact hna2; exact hr)
    | (apply r_ldL; rfl; rfl; rfl)
    | (apply r_eql; rfl; rfl; (first | (apply decide_eq_true; omega) | (apply decide_eq_false; omega) | rfl))
    | (apply r_lss; rfl; rfl; (first | (apply decide_eq_true; omega) | (apply decide_eq_false; omega) | rfl))
    | (apply r_gtr; rfl; rfl; (first | (apply decide_eq_true; omega) | (apply decide_eq_false; omega) | rfl))
    | (apply r_add; rfl; rfl; rfl; omega)
    | (apply r_pickT; rfl)
    | (apply r_pickF; rfl)
    | (apply r_lenD; rfl)
    | (apply r_lenL; rfl)
    | (apply r_len0; rfl)
    | (apply r_gT; rfl)
    | (apply r_gF'; rfl; rfl)
    | (apply r_gN'; rfl)
    | ((apply r_gS (o := default); rfl) <;> (intro h; try simp only [decide_eq_true_eq, decide_eq_false_iff_not, Bool.not_eq_true, Bool.not_eq_false] at h))
    | (apply r_box; ((conv => lhs; simp only [Nat.reduceAdd]) <;> rfl); rfl; rfl; rfl)
    | (apply r_p; rfl)
    | (apply r_nilK)
    | (apply r_nil)
    | (apply k_V; rfl)
    | (apply k_P; rfl)
    | (apply k_PL; rfl)
    | (apply k_S; rfl)
    | (apply k_SL; rfl)
    | (apply k_A; rfl)
    | (apply k_T; rfl)
    | (apply k_F; rfl)
    | (apply k_D; rfl; rotate_left; rfl)
    | (apply k_nil)
    | (apply e_ret (vs := [.d (.val _)]); rfl)
    | (apply e_ret; rfl)
    | (apply e_ret' (vs := [.d (.val _)]); rfl)
    | (apply e_ret'; rfl)
    | (apply w_seq)
    | (apply w_ops; ((conv => lhs; simp only [Nat.reduceAdd]) <;> rfl))
    | (apply w_condT; rfl)
    | (apply w_condF; rfl)
    | ((apply w_condS; rfl) <;> (intro h; try simp only [decide_eq_true_eq, decide_eq_false_iff_not, Bool.not_eq_true, Bool.not_eq_false] at h))
    | (apply e_thenN)
    | (apply w_block)
    | (apply e_thenR)
    | (apply e_thenX)
    | (apply e_blkN)
    | (apply e_blkR)
    | (apply e_blkE)
    | (apply w_exit)
    | (apply w_ret)
    | (apply w_skip)
    | (apply e_blkE'; rfl))
          apply e_thenK
          apply hK (i + 1)
          · omega
          · omega
          · rw [hst]
            refine wkRs (by omega) ?_ ?_
            · intro p hp
              simp only [List.mem_cons, List.not_mem_nil, or_false] at hp
              rcases hp with rfl
              exact ⟨by omega, rfl, rfl⟩
            · repeat' (first
    | exact FWk.nil
    | (apply FWk.i; rfl; (first | rfl | omega | (simp; done)))
    | (apply FWk.sl; rfl; rfl; rfl; rfl; omega; rfl)
    | (apply FWk.ptr; rfl; rfl; rfl; omega; rfl)
    | (apply FWk.d; rfl; rfl)
    | (apply FWk.a; rfl; rfl; rfl)
    | (apply FWk.slN; rfl; omega; rfl))
        · rw [if_neg (by simp [hq])] at hst
          rw [hq] at hr
          generalize subs[i] = q at hsu hg hr hna hna2
          repeat' (first
    | (apply r_mvV; rfl)
    | (apply r_mvP; rfl)
    | (apply r_mvPL; rfl)
    | (apply r_mvS; rfl)
    | (apply r_mvSL; rfl)
    | (apply r_mvA; rfl)
    | (apply r_mvT; rfl)
    | (apply r_mvF; rfl)
    | (apply r_mvD; rfl)
    | (apply r_faddD; rfl)
    | (apply r_faddL; rfl)
    | (apply r_cat; rfl; rfl; rfl; (first | omega | (simp only [ByteArray.size_append, z40, z41, z124]; omega)))
    | (apply r_l; apply ld_kind; assumption; rfl)
    | (apply r_l; apply ld_mn; assumption; rfl)
    | (apply r_l; apply ld_mx; assumption; rfl)
    | (apply r_l; apply ld_subs; assumption; rfl)
    | (apply r_l; apply ld_set; assumption; rfl)
    | (apply r_l; apply ld_node; assumption; rfl)
    | (apply r_l; apply ld_kind'; assumption; rfl)
    | (apply r_l; apply ld_mn'; assumption; rfl)
    | (apply r_l; apply ld_mx'; assumption; rfl)
    | (apply r_l; apply ld_subs'; assumption; rfl)
    | (apply r_l; apply ld_node'; assumption; rfl)
    | (apply r_p; apply ix_sub; rfl; rfl; omega)
    | (apply r_l; apply ld_node'; exact hsu; rfl)
    | (apply r_callA (ags := [nodeA q]); rfl; exact hna; exact hg)
    | (apply r_ldL (v := .agg [.i k, .d (.val (.int .u64 a)), .d (.val (.int .u64 b)), .d (.val (.int .u64 c)), .d (.val (.int .u64 d)), .i mn, .i mx, .d (.sl (encL subs) subs.length)]); rfl; rfl; rfl)
    | (apply r_callA (ags := [.agg [.i k, .d (.val (.int .u64 a)), .d (.val (.int .u64 b)), .d (.val (.int .u64 c)), .d (.val (.int .u64 d)), .i mn, .i mx, .d (.sl (encL subs) subs.length)], nodeA q]); rfl; exact hna2; exact hr)
    | (apply r_ldL; rfl; rfl; rfl)
    | (apply r_eql; rfl; rfl; (first | (apply decide_eq_true; omega) | (apply decide_eq_false; omega) | rfl))
    | (apply r_lss; rfl; rfl; (first | (apply decide_eq_true; omega) | (apply decide_eq_false; omega) | rfl))
    | (apply r_gtr; rfl; rfl; (first | (apply decide_eq_true; omega) | (apply decide_eq_false; omega) | rfl))
    | (apply r_add; rfl; rfl; rfl; omega)
    | (apply r_pickT; rfl)
    | (apply r_pickF; rfl)
    | (apply r_lenD; rfl)
    | (apply r_lenL; rfl)
    | (apply r_len0; rfl)
    | (apply r_gT; rfl)
    | (apply r_gF'; rfl; rfl)
    | (apply r_gN'; rfl)
    | ((apply r_gS (o := default); rfl) <;> (intro h; try simp only [decide_eq_true_eq, decide_eq_false_iff_not, Bool.not_eq_true, Bool.not_eq_false] at h))
    | (apply r_box; ((conv => lhs; simp only [Nat.reduceAdd]) <;> rfl); rfl; rfl; rfl)
    | (apply r_p; rfl)
    | (apply r_nilK)
    | (apply r_nil)
    | (apply k_V; rfl)
    | (apply k_P; rfl)
    | (apply k_PL; rfl)
    | (apply k_S; rfl)
    | (apply k_SL; rfl)
    | (apply k_A; rfl)
    | (apply k_T; rfl)
    | (apply k_F; rfl)
    | (apply k_D; rfl; rotate_left; rfl)
    | (apply k_nil)
    | (apply e_ret (vs := [.d (.val _)]); rfl)
    | (apply e_ret; rfl)
    | (apply e_ret' (vs := [.d (.val _)]); rfl)
    | (apply e_ret'; rfl)
    | (apply w_seq)
    | (apply w_ops; ((conv => lhs; simp only [Nat.reduceAdd]) <;> rfl))
    | (apply w_condT; rfl)
    | (apply w_condF; rfl)
    | ((apply w_condS; rfl) <;> (intro h; try simp only [decide_eq_true_eq, decide_eq_false_iff_not, Bool.not_eq_true, Bool.not_eq_false] at h))
    | (apply e_thenN)
    | (apply w_block)
    | (apply e_thenR)
    | (apply e_thenX)
    | (apply e_blkN)
    | (apply e_blkR)
    | (apply e_blkE)
    | (apply w_exit)
    | (apply w_ret)
    | (apply w_skip)
    | (apply e_blkE'; rfl))
          apply e_thenK
          apply hK (i + 1)
          · omega
          · omega
          · rw [hst]
            refine wkRs (by omega) ?_ ?_
            · intro p hp
              simp only [List.mem_cons, List.not_mem_nil, or_false] at hp
              rcases hp with rfl
              exact ⟨by omega, rfl, rfl⟩
            · repeat' (first
    | exact FWk.nil
    | (apply FWk.i; rfl; (first | rfl | omega | (simp; done)))
    | (apply FWk.sl; rfl; rfl; rfl; rfl; omega; rfl)
    | (apply FWk.ptr; rfl; rfl; rfl; omega; rfl)
    | (apply FWk.d; rfl; rfl)
    | (apply FWk.a; rfl; rfl; rfl)
    | (apply FWk.slN; rfl; omega; rfl))
      · rw [if_neg h4] at hst
        have h4' : k ≠ 4 ∨ (k = 4 ∧ i = 0) := by omega
        rcases h4' with h4' | ⟨h4a, h4b⟩
        all_goals
          rcases Bool.eq_false_or_eq_true (roundG k subs[i].kind) with hq | hq
        all_goals
          first | rw [if_pos hq] at hst | rw [if_neg (by simp [hq])] at hst
          rw [hq] at hr
          generalize subs[i] = q at hsu hg hr hna hna2
          repeat' (first
    | (apply r_mvV; rfl)
    | (apply r_mvP; rfl)
    | (apply r_mvPL; rfl)
    | (apply r_mvS; rfl)
    | (apply r_mvSL; rfl)
    | (apply r_mvA; rfl)
    | (apply r_mvT; rfl)
    | (apply r_mvF; rfl)
    | (apply r_mvD; rfl)
    | (apply r_faddD; rfl)
    | (apply r_faddL; rfl)
    | (apply r_cat; rfl; rfl; rfl; (first | omega | (simp only [ByteArray.size_append, z40, z41, z124]; omega)))
    | (apply r_l; apply ld_kind; assumption; rfl)
    | (apply r_l; apply ld_mn; assumption; rfl)
    | (apply r_l; apply ld_mx; assumption; rfl)
    | (apply r_l; apply ld_subs; assumption; rfl)
    | (apply r_l; apply ld_set; assumption; rfl)
    | (apply r_l; apply ld_node; assumption; rfl)
    | (apply r_l; apply ld_kind'; assumption; rfl)
    | (apply r_l; apply ld_mn'; assumption; rfl)
    | (apply r_l; apply ld_mx'; assumption; rfl)
    | (apply r_l; apply ld_subs'; assumption; rfl)
    | (apply r_l; apply ld_node'; assumption; rfl)
    | (apply r_p; apply ix_sub; rfl; rfl; omega)
    | (apply r_l; apply ld_node'; exact hsu; rfl)
    | (apply r_callA (ags := [nodeA q]); rfl; exact hna; exact hg)
    | (apply r_ldL (v := .agg [.i k, .d (.val (.int .u64 a)), .d (.val (.int .u64 b)), .d (.val (.int .u64 c)), .d (.val (.int .u64 d)), .i mn, .i mx, .d (.sl (encL subs) subs.length)]); rfl; rfl; rfl)
    | (apply r_callA (ags := [.agg [.i k, .d (.val (.int .u64 a)), .d (.val (.int .u64 b)), .d (.val (.int .u64 c)), .d (.val (.int .u64 d)), .i mn, .i mx, .d (.sl (encL subs) subs.length)], nodeA q]); rfl; exact hna2; exact hr)
    | (apply r_ldL; rfl; rfl; rfl)
    | (apply r_eql; rfl; rfl; (first | (apply decide_eq_true; omega) | (apply decide_eq_false; omega) | rfl))
    | (apply r_lss; rfl; rfl; (first | (apply decide_eq_true; omega) | (apply decide_eq_false; omega) | rfl))
    | (apply r_gtr; rfl; rfl; (first | (apply decide_eq_true; omega) | (apply decide_eq_false; omega) | rfl))
    | (apply r_add; rfl; rfl; rfl; omega)
    | (apply r_pickT; rfl)
    | (apply r_pickF; rfl)
    | (apply r_lenD; rfl)
    | (apply r_lenL; rfl)
    | (apply r_len0; rfl)
    | (apply r_gT; rfl)
    | (apply r_gF'; rfl; rfl)
    | (apply r_gN'; rfl)
    | ((apply r_gS (o := default); rfl) <;> (intro h; try simp only [decide_eq_true_eq, decide_eq_false_iff_not, Bool.not_eq_true, Bool.not_eq_false] at h))
    | (apply r_box; ((conv => lhs; simp only [Nat.reduceAdd]) <;> rfl); rfl; rfl; rfl)
    | (apply r_p; rfl)
    | (apply r_nilK)
    | (apply r_nil)
    | (apply k_V; rfl)
    | (apply k_P; rfl)
    | (apply k_PL; rfl)
    | (apply k_S; rfl)
    | (apply k_SL; rfl)
    | (apply k_A; rfl)
    | (apply k_T; rfl)
    | (apply k_F; rfl)
    | (apply k_D; rfl; rotate_left; rfl)
    | (apply k_nil)
    | (apply e_ret (vs := [.d (.val _)]); rfl)
    | (apply e_ret; rfl)
    | (apply e_ret' (vs := [.d (.val _)]); rfl)
    | (apply e_ret'; rfl)
    | (apply w_seq)
    | (apply w_ops; ((conv => lhs; simp only [Nat.reduceAdd]) <;> rfl))
    | (apply w_condT; rfl)
    | (apply w_condF; rfl)
    | ((apply w_condS; rfl) <;> (intro h; try simp only [decide_eq_true_eq, decide_eq_false_iff_not, Bool.not_eq_true, Bool.not_eq_false] at h))
    | (apply e_thenN)
    | (apply w_block)
    | (apply e_thenR)
    | (apply e_thenX)
    | (apply e_blkN)
    | (apply e_blkR)
    | (apply e_blkE)
    | (apply w_exit)
    | (apply w_ret)
    | (apply w_skip)
    | (apply e_blkE'; rfl))
          apply e_thenK
          apply hK (i + 1)
          · omega
          · omega
          · rw [hst]
            refine wkRs (by omega) ?_ ?_
            · intro p hp
              simp only [List.mem_cons, List.not_mem_nil, or_false] at hp
              rcases hp with rfl
              exact ⟨by omega, rfl, rfl⟩
            · repeat' (first
    | exact FWk.nil
    | (apply FWk.i; rfl; (first | rfl | omega | (simp; done)))
    | (apply FWk.sl; rfl; rfl; rfl; rfl; omega; rfl)
    | (apply FWk.ptr; rfl; rfl; rfl; omega; rfl)
    | (apply FWk.d; rfl; rfl)
    | (apply FWk.a; rfl; rfl; rfl)
    | (apply FWk.slN; rfl; omega; rfl))
    · have ei : i = subs.length := by omega
      subst ei
      have hpi := hpb subs.length (by omega)
      clear hK hround hf hpb hfb
      generalize preS k subs f subs.length = u at hQ5 hQ hpi
      by_cases h5 : k = 5
      · obtain ⟨w, hw, h102, rfl⟩ := hQ5 h5
        repeat' (first
    | (apply r_mvV; rfl)
    | (apply r_mvP; rfl)
    | (apply r_mvPL; rfl)
    | (apply r_mvS; rfl)
    | (apply r_mvSL; rfl)
    | (apply r_mvA; rfl)
    | (apply r_mvT; rfl)
    | (apply r_mvF; rfl)
    | (apply r_mvD; rfl)
    | (apply r_faddD; rfl)
    | (apply r_faddL; rfl)
    | (apply r_l; apply ld_kind; assumption; rfl)
    | (apply r_l; apply ld_mn; assumption; rfl)
    | (apply r_l; apply ld_mx; assumption; rfl)
    | (apply r_l; apply ld_subs; assumption; rfl)
    | (apply r_l; apply ld_set; assumption; rfl)
    | (apply r_l; apply ld_node; assumption; rfl)
    | (apply r_l; apply ld_kind'; assumption; rfl)
    | (apply r_l; apply ld_mn'; assumption; rfl)
    | (apply r_l; apply ld_mx'; assumption; rfl)
    | (apply r_l; apply ld_subs'; assumption; rfl)
    | (apply r_l; apply ld_node'; assumption; rfl)
    | (apply r_callA (ags := [.i mn, .i mx]); rfl; rfl; exact h102)
    | (apply r_cat; rfl; rfl; rfl; omega)
    | (apply r_ldL; rfl; rfl; rfl)
    | (apply r_eql; rfl; rfl; (first | (apply decide_eq_true; omega) | (apply decide_eq_false; omega) | rfl))
    | (apply r_lss; rfl; rfl; (first | (apply decide_eq_true; omega) | (apply decide_eq_false; omega) | rfl))
    | (apply r_gtr; rfl; rfl; (first | (apply decide_eq_true; omega) | (apply decide_eq_false; omega) | rfl))
    | (apply r_add; rfl; rfl; rfl; omega)
    | (apply r_pickT; rfl)
    | (apply r_pickF; rfl)
    | (apply r_lenD; rfl)
    | (apply r_lenL; rfl)
    | (apply r_len0; rfl)
    | (apply r_gT; rfl)
    | (apply r_gF'; rfl; rfl)
    | (apply r_gN'; rfl)
    | ((apply r_gS (o := default); rfl) <;> (intro h; try simp only [decide_eq_true_eq, decide_eq_false_iff_not, Bool.not_eq_true, Bool.not_eq_false] at h))
    | (apply r_box; ((conv => lhs; simp only [Nat.reduceAdd]) <;> rfl); rfl; rfl; rfl)
    | (apply r_p; rfl)
    | (apply r_nilK)
    | (apply r_nil)
    | (apply k_V; rfl)
    | (apply k_P; rfl)
    | (apply k_PL; rfl)
    | (apply k_S; rfl)
    | (apply k_SL; rfl)
    | (apply k_A; rfl)
    | (apply k_T; rfl)
    | (apply k_F; rfl)
    | (apply k_D; rfl; rotate_left; rfl)
    | (apply k_nil)
    | (apply e_ret (vs := [.d (.val _)]); rfl)
    | (apply e_ret; rfl)
    | (apply e_ret' (vs := [.d (.val _)]); rfl)
    | (apply e_ret'; rfl)
    | (apply w_seq)
    | (apply w_ops; ((conv => lhs; simp only [Nat.reduceAdd]) <;> rfl))
    | (apply w_condT; rfl)
    | (apply w_condF; rfl)
    | ((apply w_condS; rfl) <;> (intro h; try simp only [decide_eq_true_eq, decide_eq_false_iff_not, Bool.not_eq_true, Bool.not_eq_false] at h))
    | (apply e_thenN)
    | (apply w_block)
    | (apply e_thenR)
    | (apply e_thenX)
    | (apply e_blkN)
    | (apply e_blkR)
    | (apply e_blkE)
    | (apply w_exit)
    | (apply w_ret)
    | (apply w_skip)
    | (apply e_blkE'; rfl))
        exact .data _ rfl
      · have := hQ h5
        subst this
        repeat' (first
    | (apply r_mvV; rfl)
    | (apply r_mvP; rfl)
    | (apply r_mvPL; rfl)
    | (apply r_mvS; rfl)
    | (apply r_mvSL; rfl)
    | (apply r_mvA; rfl)
    | (apply r_mvT; rfl)
    | (apply r_mvF; rfl)
    | (apply r_mvD; rfl)
    | (apply r_faddD; rfl)
    | (apply r_faddL; rfl)
    | (apply r_l; apply ld_kind; assumption; rfl)
    | (apply r_l; apply ld_mn; assumption; rfl)
    | (apply r_l; apply ld_mx; assumption; rfl)
    | (apply r_l; apply ld_subs; assumption; rfl)
    | (apply r_l; apply ld_set; assumption; rfl)
    | (apply r_l; apply ld_node; assumption; rfl)
    | (apply r_l; apply ld_kind'; assumption; rfl)
    | (apply r_l; apply ld_mn'; assumption; rfl)
    | (apply r_l; apply ld_mx'; assumption; rfl)
    | (apply r_l; apply ld_subs'; assumption; rfl)
    | (apply r_l; apply ld_node'; assumption; rfl)
    | (apply r_ldL; rfl; rfl; rfl)
    | (apply r_eql; rfl; rfl; (first | (apply decide_eq_true; omega) | (apply decide_eq_false; omega) | rfl))
    | (apply r_lss; rfl; rfl; (first | (apply decide_eq_true; omega) | (apply decide_eq_false; omega) | rfl))
    | (apply r_gtr; rfl; rfl; (first | (apply decide_eq_true; omega) | (apply decide_eq_false; omega) | rfl))
    | (apply r_add; rfl; rfl; rfl; omega)
    | (apply r_pickT; rfl)
    | (apply r_pickF; rfl)
    | (apply r_lenD; rfl)
    | (apply r_lenL; rfl)
    | (apply r_len0; rfl)
    | (apply r_gT; rfl)
    | (apply r_gF'; rfl; rfl)
    | (apply r_gN'; rfl)
    | ((apply r_gS (o := default); rfl) <;> (intro h; try simp only [decide_eq_true_eq, decide_eq_false_iff_not, Bool.not_eq_true, Bool.not_eq_false] at h))
    | (apply r_box; ((conv => lhs; simp only [Nat.reduceAdd]) <;> rfl); rfl; rfl; rfl)
    | (apply r_p; rfl)
    | (apply r_nilK)
    | (apply r_nil)
    | (apply k_V; rfl)
    | (apply k_P; rfl)
    | (apply k_PL; rfl)
    | (apply k_S; rfl)
    | (apply k_SL; rfl)
    | (apply k_A; rfl)
    | (apply k_T; rfl)
    | (apply k_F; rfl)
    | (apply k_D; rfl; rotate_left; rfl)
    | (apply k_nil)
    | (apply e_ret (vs := [.d (.val _)]); rfl)
    | (apply e_ret; rfl)
    | (apply e_ret' (vs := [.d (.val _)]); rfl)
    | (apply e_ret'; rfl)
    | (apply w_seq)
    | (apply w_ops; ((conv => lhs; simp only [Nat.reduceAdd]) <;> rfl))
    | (apply w_condT; rfl)
    | (apply w_condF; rfl)
    | ((apply w_condS; rfl) <;> (intro h; try simp only [decide_eq_true_eq, decide_eq_false_iff_not, Bool.not_eq_true, Bool.not_eq_false] at h))
    | (apply e_thenN)
    | (apply w_block)
    | (apply e_thenR)
    | (apply e_thenX)
    | (apply e_blkN)
    | (apply e_blkR)
    | (apply e_blkE)
    | (apply w_exit)
    | (apply w_ret)
    | (apply w_skip)
    | (apply e_blkE'; rfl))
        exact .data _ rfl
  by_cases h5 : k = 5
  · have h6 := hR h5
    obtain ⟨m, rfl⟩ : ∃ m : Nat, mn = m := ⟨mn.toNat, by omega⟩
    have h102 := tim102 (x := m) (y := mx) (by omega) (by omega) (by omega)
    have hl := tim_len (x := m) (y := mx) (by omega) (by omega) (by omega)
    refine ⟨preS k subs f subs.length ++ timS m mx, by rw [ByteArray.size_append]; omega, key _ (fun _ => ⟨_, hl, h102, rfl⟩) (fun h => absurd h5 h)⟩
  · exact ⟨preS k subs f subs.length, by omega, key _ (fun h => absurd h h5) (fun _ => rfl)⟩
theorem law12 (t : T) (ht : inT t) : Good Try.prog 12 [nodeA t] none (.b true) none none := by
  have haw := awake10_good
  have h45 := few_good t
  by_cases hf : sizeT t 601 ≤ 200
  case neg =>
    rw [show decide (sizeT t 601 ≤ 200) = false by simp [hf]] at h45
    clear ht hf
    obtain ⟨k, a, b, c, d, mn, mx, subs⟩ := t
    have e0 : nodeA (.node k a b c d mn mx subs) = .agg [.i k, .d (.val (.int .u64 a)), .d (.val (.int .u64 b)), .d (.val (.int .u64 c)), .d (.val (.int .u64 d)), .i mn, .i mx, .d (.sl (encL subs) subs.length)] := rfl
    rw [e0] at h45 ⊢
    refine b12 (by simp) (by simp) (w_init ?_)
    unfold x12
    repeat' (first
    | (apply r_mvV; rfl)
    | (apply r_mvP; rfl)
    | (apply r_mvPL; rfl)
    | (apply r_mvS; rfl)
    | (apply r_mvSL; rfl)
    | (apply r_mvA; rfl)
    | (apply r_mvT; rfl)
    | (apply r_mvF; rfl)
    | (apply r_mvD; rfl)
    | (apply r_l; apply ld_kind; assumption; rfl)
    | (apply r_l; apply ld_mn; assumption; rfl)
    | (apply r_l; apply ld_mx; assumption; rfl)
    | (apply r_l; apply ld_subs; assumption; rfl)
    | (apply r_l; apply ld_set; assumption; rfl)
    | (apply r_l; apply ld_node; assumption; rfl)
    | (apply r_l; apply ld_kind'; assumption; rfl)
    | (apply r_l; apply ld_mn'; assumption; rfl)
    | (apply r_l; apply ld_mx'; assumption; rfl)
    | (apply r_l; apply ld_subs'; assumption; rfl)
    | (apply r_l; apply ld_node'; assumption; rfl)
    | (apply r_callA (ags := []); rfl; rfl; exact haw)
    | (apply r_callA; rfl; rfl; exact h45)
    | (apply r_ldL; rfl; rfl; rfl)
    | (apply r_eql; rfl; rfl; (first | (apply decide_eq_true; omega) | (apply decide_eq_false; omega) | rfl))
    | (apply r_not; rfl; rfl)
    | (apply r_pickT; rfl)
    | (apply r_pickF; rfl)
    | (apply r_gT; rfl)
    | (apply r_gF'; rfl; rfl)
    | (apply r_gN'; rfl)
    | ((apply r_gS (o := default); rfl) <;> (intro h; try simp only [decide_eq_true_eq, decide_eq_false_iff_not, Bool.not_eq_true, Bool.not_eq_false] at h))
    | (apply r_box; ((conv => lhs; simp only [Nat.reduceAdd]) <;> rfl); rfl; rfl; rfl)
    | (apply r_nilK)
    | (apply r_nil)
    | (apply k_V; rfl)
    | (apply k_P; rfl)
    | (apply k_PL; rfl)
    | (apply k_S; rfl)
    | (apply k_SL; rfl)
    | (apply k_A; rfl)
    | (apply k_T; rfl)
    | (apply k_F; rfl)
    | (apply k_D; rfl; rotate_left; rfl)
    | (apply k_nil)
    | (apply e_ret (vs := [.d (.val _)]); rfl)
    | (apply e_ret; rfl)
    | (apply e_ret' (vs := [.d (.val _)]); rfl)
    | (apply e_ret'; rfl)
    | (apply w_seq)
    | (apply w_ops; ((conv => lhs; simp only [Nat.reduceAdd]) <;> rfl))
    | (apply w_condT; rfl)
    | (apply w_condF; rfl)
    | ((apply w_condS; rfl) <;> (intro h; try simp only [decide_eq_true_eq, decide_eq_false_iff_not, Bool.not_eq_true, Bool.not_eq_false] at h))
    | (apply e_thenN)
    | (apply w_block)
    | (apply e_thenR)
    | (apply e_thenX)
    | (apply e_blkN)
    | (apply e_blkR)
    | (apply e_blkE)
    | (apply w_exit)
    | (apply w_ret)
    | (apply w_skip)
    | (apply e_blkE'; rfl))
    exact retB rfl
  have hc := few_cnt hf
  have h32 := right8_good t (by omega)
  rw [show decide (sizeT t 601 ≤ 200) = true by simp [hf]] at h45
  by_cases hr : rightT t = true
  case neg =>
    have hr : rightT t = false := by simpa using hr
    rw [hr] at h32
    clear ht hf hc hr
    obtain ⟨k, a, b, c, d, mn, mx, subs⟩ := t
    have e0 : nodeA (.node k a b c d mn mx subs) = .agg [.i k, .d (.val (.int .u64 a)), .d (.val (.int .u64 b)), .d (.val (.int .u64 c)), .d (.val (.int .u64 d)), .i mn, .i mx, .d (.sl (encL subs) subs.length)] := rfl
    rw [e0] at h45 h32 ⊢
    refine b12 (by simp) (by simp) (w_init ?_)
    unfold x12
    repeat' (first
    | (apply r_mvV; rfl)
    | (apply r_mvP; rfl)
    | (apply r_mvPL; rfl)
    | (apply r_mvS; rfl)
    | (apply r_mvSL; rfl)
    | (apply r_mvA; rfl)
    | (apply r_mvT; rfl)
    | (apply r_mvF; rfl)
    | (apply r_mvD; rfl)
    | (apply r_l; apply ld_kind; assumption; rfl)
    | (apply r_l; apply ld_mn; assumption; rfl)
    | (apply r_l; apply ld_mx; assumption; rfl)
    | (apply r_l; apply ld_subs; assumption; rfl)
    | (apply r_l; apply ld_set; assumption; rfl)
    | (apply r_l; apply ld_node; assumption; rfl)
    | (apply r_l; apply ld_kind'; assumption; rfl)
    | (apply r_l; apply ld_mn'; assumption; rfl)
    | (apply r_l; apply ld_mx'; assumption; rfl)
    | (apply r_l; apply ld_subs'; assumption; rfl)
    | (apply r_l; apply ld_node'; assumption; rfl)
    | (apply r_callA (ags := []); rfl; rfl; exact haw)
    | (apply r_callA; rfl; rfl; exact h45)
    | (apply r_callA; rfl; rfl; exact h32)
    | (apply r_ldL; rfl; rfl; rfl)
    | (apply r_eql; rfl; rfl; (first | (apply decide_eq_true; omega) | (apply decide_eq_false; omega) | rfl))
    | (apply r_not; rfl; rfl)
    | (apply r_pickT; rfl)
    | (apply r_pickF; rfl)
    | (apply r_gT; rfl)
    | (apply r_gF'; rfl; rfl)
    | (apply r_gN'; rfl)
    | ((apply r_gS (o := default); rfl) <;> (intro h; try simp only [decide_eq_true_eq, decide_eq_false_iff_not, Bool.not_eq_true, Bool.not_eq_false] at h))
    | (apply r_box; ((conv => lhs; simp only [Nat.reduceAdd]) <;> rfl); rfl; rfl; rfl)
    | (apply r_nilK)
    | (apply r_nil)
    | (apply k_V; rfl)
    | (apply k_P; rfl)
    | (apply k_PL; rfl)
    | (apply k_S; rfl)
    | (apply k_SL; rfl)
    | (apply k_A; rfl)
    | (apply k_T; rfl)
    | (apply k_F; rfl)
    | (apply k_D; rfl; rotate_left; rfl)
    | (apply k_nil)
    | (apply e_ret (vs := [.d (.val _)]); rfl)
    | (apply e_ret; rfl)
    | (apply e_ret' (vs := [.d (.val _)]); rfl)
    | (apply e_ret'; rfl)
    | (apply w_seq)
    | (apply w_ops; ((conv => lhs; simp only [Nat.reduceAdd]) <;> rfl))
    | (apply w_condT; rfl)
    | (apply w_condF; rfl)
    | ((apply w_condS; rfl) <;> (intro h; try simp only [decide_eq_true_eq, decide_eq_false_iff_not, Bool.not_eq_true, Bool.not_eq_false] at h))
    | (apply e_thenN)
    | (apply w_block)
    | (apply e_thenR)
    | (apply e_thenX)
    | (apply e_blkN)
    | (apply e_blkR)
    | (apply e_blkE)
    | (apply w_exit)
    | (apply w_ret)
    | (apply w_skip)
    | (apply e_blkE'; rfl))
    exact retB rfl
  rw [hr] at h32
  have hok : okT t := ok_of_right ht hr
  have hp := Simple46_good t (by omega) (fun _ => hok)
  obtain ⟨s, _, h52⟩ := text52_good 1000000 t (by omega) (by omega) hok
  have g1 := cat53_good [t, t] (by simp [cntL]; omega)
  have g2 := alt54_good [t, t] (by simp [cntL]; omega) (fun u hu => okT_S ((okL_iff _).1 (okL_flat 4 (l := [t, t]) ⟨hok, hok, trivial⟩) u hu))
  generalize sN t = u1 at hp
  generalize sE t = r1 at hp
  generalize catS [t, t] = u2 at g1
  generalize altS [t, t] = u3 at g2
  clear ht hf hc hr hok
  obtain ⟨k, a, b, c, d, mn, mx, subs⟩ := t
  obtain ⟨k1, a1, b1, c1, d1, mn1, mx1, subs1⟩ := u1
  obtain ⟨k2, a2, b2, c2, d2, mn2, mx2, subs2⟩ := u2
  obtain ⟨k3, a3, b3, c3, d3, mn3, mx3, subs3⟩ := u3
  have e0 : nodeA (.node k a b c d mn mx subs) = .agg [.i k, .d (.val (.int .u64 a)), .d (.val (.int .u64 b)), .d (.val (.int .u64 c)), .d (.val (.int .u64 d)), .i mn, .i mx, .d (.sl (encL subs) subs.length)] := rfl
  rw [e0] at h45 h32 hp h52 ⊢
  simp only [List.length_cons, List.length_nil, Nat.zero_add, Nat.reduceAdd] at g1 g2
  refine b12 (by simp) (by simp) (w_init ?_)
  unfold x12
  repeat' (first
    | (apply r_mvV; rfl)
    | (apply r_mvP; rfl)
    | (apply r_mvPL; rfl)
    | (apply r_mvS; rfl)
    | (apply r_mvSL; rfl)
    | (apply r_mvA; rfl)
    | (apply r_mvT; rfl)
    | (apply r_mvF; rfl)
    | (apply r_mvD; rfl)
    | (apply r_eqS; rfl; rfl)
    | (apply r_l; apply ld_kind; assumption; rfl)
    | (apply r_l; apply ld_mn; assumption; rfl)
    | (apply r_l; apply ld_mx; assumption; rfl)
    | (apply r_l; apply ld_subs; assumption; rfl)
    | (apply r_l; apply ld_set; assumption; rfl)
    | (apply r_l; apply ld_node; assumption; rfl)
    | (apply r_l; apply ld_kind'; assumption; rfl)
    | (apply r_l; apply ld_mn'; assumption; rfl)
    | (apply r_l; apply ld_mx'; assumption; rfl)
    | (apply r_l; apply ld_subs'; assumption; rfl)
    | (apply r_l; apply ld_node'; assumption; rfl)
    | (apply r_callA (ags := []); rfl; rfl; exact haw)
    | (apply r_callA; rfl; rfl; exact h45)
    | (apply r_callA; rfl; rfl; exact h32)
    | (apply r_callA; rfl; rfl; exact h52)
    | (apply r_callA; rfl; rfl; exact hp)
    | (apply r_ldL (v := .agg [.i k, .d (.val (.int .u64 a)), .d (.val (.int .u64 b)), .d (.val (.int .u64 c)), .d (.val (.int .u64 d)), .i mn, .i mx, .d (.sl (encL subs) subs.length)]); rfl; rfl; rfl)
    | (apply r_n (v := .slL 22 0 2 8) (r := [.i k, .d (.val (.int .u64 a)), .d (.val (.int .u64 b)), .d (.val (.int .u64 c)), .d (.val (.int .u64 d)), .i mn, .i mx, .d (.sl (encL subs) subs.length), .i k, .d (.val (.int .u64 a)), .d (.val (.int .u64 b)), .d (.val (.int .u64 c)), .d (.val (.int .u64 d)), .i mn, .i mx, .d (.sl (encL subs) subs.length)]); rfl)
    | (apply r_n (v := .slL 26 0 2 8) (r := [.i k, .d (.val (.int .u64 a)), .d (.val (.int .u64 b)), .d (.val (.int .u64 c)), .d (.val (.int .u64 d)), .i mn, .i mx, .d (.sl (encL subs) subs.length), .i k, .d (.val (.int .u64 a)), .d (.val (.int .u64 b)), .d (.val (.int .u64 c)), .d (.val (.int .u64 d)), .i mn, .i mx, .d (.sl (encL subs) subs.length)]); rfl)
    | (apply r_callS3 (pre := []) (pre' := []) (post := []) (post' := []) (b := 22) (L := [(T.node k a b c d mn mx subs), (T.node k a b c d mn mx subs)]) (us := [22]) (us' := []); rfl; rfl; rfl; rfl; rfl; omega; rfl; exact g1; rfl)
    | (apply r_callS3 (pre := []) (pre' := []) (post := []) (post' := []) (b := 26) (L := [(T.node k a b c d mn mx subs), (T.node k a b c d mn mx subs)]) (us := [26]) (us' := []); rfl; rfl; rfl; rfl; rfl; omega; rfl; exact g2; rfl)
    | (apply r_ldL; rfl; rfl; rfl)
    | (apply r_eql; rfl; rfl; (first | (apply decide_eq_true; omega) | (apply decide_eq_false; omega) | rfl))
    | (apply r_not; rfl; rfl)
    | (apply r_pickT; rfl)
    | (apply r_pickF; rfl)
    | (apply r_gT; rfl)
    | (apply r_gF'; rfl; rfl)
    | (apply r_gN'; rfl)
    | ((apply r_gS (o := default); rfl) <;> (intro h; try simp only [decide_eq_true_eq, decide_eq_false_iff_not, Bool.not_eq_true, Bool.not_eq_false] at h))
    | (apply r_box; ((conv => lhs; simp only [Nat.reduceAdd]) <;> rfl); rfl; rfl; rfl)
    | (apply r_nilK)
    | (apply r_nil)
    | (apply k_V; rfl)
    | (apply k_P; rfl)
    | (apply k_PL; rfl)
    | (apply k_S; rfl)
    | (apply k_SL; rfl)
    | (apply k_A; rfl)
    | (apply k_T; rfl)
    | (apply k_F; rfl)
    | (apply k_D; rfl; rotate_left; rfl)
    | (apply k_nil)
    | (apply e_ret (vs := [.d (.val _)]); rfl)
    | (apply e_ret; rfl)
    | (apply e_ret' (vs := [.d (.val _)]); rfl)
    | (apply e_ret'; rfl)
    | (apply w_seq)
    | (apply w_ops; ((conv => lhs; simp only [Nat.reduceAdd]) <;> rfl))
    | (apply w_condT; rfl)
    | (apply w_condF; rfl)
    | ((apply w_condS; rfl) <;> (intro h; try simp only [decide_eq_true_eq, decide_eq_false_iff_not, Bool.not_eq_true, Bool.not_eq_false] at h))
    | (apply e_thenN)
    | (apply w_block)
    | (apply e_thenR)
    | (apply e_thenX)
    | (apply e_blkN)
    | (apply e_blkR)
    | (apply e_blkE)
    | (apply w_exit)
    | (apply w_ret)
    | (apply w_skip)
    | (apply e_blkE'; rfl))
  exact retB rfl
end Go.Sv
namespace Go.Sv
open Go Go.Proofs Go.Proofs.Ytcnlgmajkclgjaa Go.ChangeShapes Go.WideShapes Go.ChangeAt Go.RowKit
set_option linter.unusedVariables false
set_option maxRecDepth 100000

theorem try_own : ownKnob Try.prog.godebug = none := by kernel_rfl
theorem try_laidOut : laidOutB Try.prog = true := by kernel_rfl
theorem rowed : ∀ t ∈ [27, 9, 3, 5, 41], Try.prog.readableRec t = true ∧ t < Try.prog.types.size := by
  intro t ht
  simp only [List.mem_cons, List.not_mem_nil, or_false] at ht
  rcases ht with rfl | rfl | rfl | rfl | rfl
  all_goals exact ⟨by kernel_rfl, of_decide_eq_true (by kernel_rfl)⟩

section
variable {H : Type} {enc : TypeId × Value → H}
theorem stays_all {W W' : World} {sp : Nat → Bool} (hsame : ∀ p : MemPlace, p.block < W.heap.size → W.sameAt W' p) : ∀ {ts : List TypeId} {vs : List Value} {ds : List (DataW H)} {ps : List MemPlace}, (∀ t ∈ ts, Try.prog.readableRec t = true ∧ t < Try.prog.types.size) →
    DataW.TrodAll enc Try.prog W 0 (fun _ => true) true ts vs ds ps → (∀ p ∈ ps, p.block < W.heap.size) → (∀ p ∈ ps, sp p.block = true) → DataW.TrodAll enc Try.prog W' 0 sp true ts vs ds ps
  | [], [], [], ps, _, h, _, _ => h
  | t :: ts, v :: vs, d :: ds, ps, hr, h, hl, hs => by
    obtain ⟨p, q, h1, h2, rfl⟩ := h
    refine ⟨p, q, WideElems.Trod_stays try_laidOut (hr t (by simp)).1 (hr t (by simp)).2 h1 (fun x hx => hsame x (hl x (by simp [hx]))) (fun x hx => hs x (by simp [hx])), ?_, rfl⟩
    exact stays_all hsame (fun t ht => hr t (by simp [ht])) h2 (fun x hx => hl x (by simp [hx])) (fun x hx => hs x (by simp [hx]))

theorem law_post {s : ChangeSpec} {f : Func} {W W' : World} {args : Array Value} {ds gs : List (DataW H)} {before : List MemPlace} (hW : DataW.Whole enc Try.prog f.params.toList s.vars false W args.toList ds gs before) (hsv : s.vars = [])
    (h1 : (s.fn H (ds ++ gs)).results = [.lit (.bool true)]) (h2 : (s.fn H (ds ++ gs)).args = ds) (h3 : (s.fn H (ds ++ gs)).vars = []) (hrt : f.resultTypes = #[4]) (hb : Below W.heap.size W W')
    (hr : ∀ t ∈ f.params.toList, Try.prog.readableRec t = true ∧ t < Try.prog.types.size) : s.post enc Try.prog f false true false false W args (.bool true) W' := by
  have hlt := hW.lt
  have hW0 := hW
  obtain ⟨p, q, hA, hV, rfl, _, _⟩ := hW
  rw [hsv] at hV
  obtain ⟨rfl, rfl⟩ := trodVars_none hV
  have hlt' : ∀ x ∈ p, x.block < W.heap.size := fun x hx => by simpa using hlt x (by simp [hx])
  refine ⟨ds, [], p ++ [], [], p, [], hW0, ?_, ?_, ?_, hb.frame _, fun h => by cases h⟩
  · rw [hrt, h1]
    exact trodAll_mk1 (shut_bool Try.underlying4 true)
  · rw [h2]
    exact stays_all (fun x hx => hb.same hx) hr hA hlt' (fun x hx => by simpa using hlt' x hx)
  · rw [hsv, h3]; rfl

theorem Kept.below {w w' : World} (h : Kept w w' (fun k => (none : Option (List DV)).isSome = true ∧ (none : Option Nat) = some k)) : Below w.heap.size w w' :=
  ⟨h.os, h.tape, h.output, h.size, fun k hk => h.keep k hk (by simp)⟩

theorem law_calls {f : FuncId} {ags : List AV} (hg : Good Try.prog f ags none (.b true) none none) {W : World} {args : Array Value} (ha : RAs W NoA (fun _ => none) NoA args ags) : Calls Try.prog f args W fun e W' => e = .returned (.bool true) ∧ Below W.heap.size W W' := by
  have hNo : (fun k => NoA k ∨ ((none : Option (List DV)).isSome = true ∧ (none : Option Nat) = some k)) = NoA := by
    funext k; simp [NoA]
  have hU : (fun b : Nat => (none : Option (List DV)).isSome = true ∧ b = 0) = NoA := by
    funext k; simp [NoA]
  have := hg.2.2 W NoA none args (fun k h => h.elim) (fun k h => by simp at h) (fun ds h => by cases h) (by rw [hNo, hU]; exact ha)
  refine this.mono fun e W' ⟨v, nm, he, hk, _, _, _, hv⟩ => ?_
  have := hv.val_eq
  subst this
  exact ⟨he, hk.below⟩
theorem RAs.nil {W : World} : RAs W NoA (fun _ => none) NoA #[] [] := ⟨rfl, fun j h => by simp at h⟩
theorem RAs.mk : ∀ {W : World} {vs : List Value} {ags : List AV}, vs.length = ags.length → (∀ (j : Nat) v a, vs[j]? = some v → ags[j]? = some a → RA W NoA (fun _ => none) NoA v a) → RAs W NoA (fun _ => none) NoA vs.toArray ags := by
  intro W vs ags hl h
  refine ⟨by simpa using hl, fun j hj => ?_⟩
  have hj2 : j < vs.length := by omega
  have : vs.toArray.getD j undef = vs[j] := by simp [Array.getD, hj2]
  rw [this]
  exact h j _ _ (List.getElem?_eq_getElem hj2) (List.getElem?_eq_getElem hj)
theorem RDs.toA {W : World} {vs : List Value} {ds : List DV} (h : RDs W vs ds) : RA W NoA (fun _ => none) NoA (.agg vs.toArray) (.agg (ds.map AV.d)) := by
  refine .agg _ _ (by simpa using h.1) fun j hj => ?_
  have hj1 : j < ds.length := by simpa using hj
  have hj2 : j < vs.length := by rw [h.1]; exact hj1
  have : vs.toArray.getD j undef = vs[j] := by simp [Array.getD, hj2]
  rw [this, List.getElem_map]
  exact .d _ _ (h.2 j _ _ (List.getElem?_eq_getElem hj2) (List.getElem?_eq_getElem hj1))
theorem arg_node {W : World} {base : Nat} {v : Value} {d : DataW H} {p : List MemPlace} (hok : Value.okWide Try.prog W .any base 27 v) (h : DataW.Trod enc Try.prog W 0 (fun _ => true) true 27 v d p) : ∃ t : T, inT t ∧ RA W NoA (fun _ => none) NoA v (nodeA t) := by
  obtain ⟨n, hn⟩ := h
  obtain ⟨t, h1, h2⟩ := node_open n _ _ hn
  have hs : ∃ cs, v = .agg cs := by
    unfold Value.okWide at hok
    rw [Try.underlying27] at hok
    obtain ⟨cs, h, _⟩ := hok
    exact ⟨cs, h⟩
  obtain ⟨cs, rfl⟩ := hs
  exact ⟨t, h1, h2.toA⟩
end
theorem joined_of {P : Program} {f : FuncId} {fn : Func} {s : ChangeSpec} {c : OpenClaim}
    (k1 : (c.wf (OpenSpec.ofChange s) && laidOutB P && mapsRowed P && fn.params.all (P.readableRec ·) && namedTie P c.named s.vars && (c.stops == []) && (P.stops == []) && (c.knobs == []) && (P.stopKnobs == [])) = true)
    (k2 : (c.inPlace == P.inPlace f) = true) (k3 : (c.unfollowed == P.unfollowed f) = true) (k4 : (c.recurses == P.recurses f) = true) (k5 : (c.named == P.varsNamed f) = true)
    (k6 : ((c.maps == (fn.params.toList ++ s.plain.varTypes P).any (P.mapsRec ·)) && (c.ifaces == (fn.params.toList ++ s.plain.varTypes P).any (P.ifacesRec ·)) && (c.mapsOut == P.mapsAmong fn.resultTypes.toList) &&
  (c.loops == (fn.params.toList ++ s.plain.varTypes P).any (P.loopsFrom ·)) && (c.wideKeys == (fn.params.toList ++ s.plain.varTypes P ++ fn.resultTypes.toList).any (P.wideKeysFrom ·)) &&
  s.vars.all (P.varReadable ·) && fn.resultTypes.all (fun t => P.readableRec t && decide (t < P.types.size)) && (c.ifacesOut == fn.resultTypes.toList.any (P.ifacesRec ·)) && (c.loopsOut == fn.resultTypes.toList.any (P.loopsFrom ·))) = true)
    (hm : P.mayEnter = true) (hl : P.liftsFinal = c.lifted) (hk : P.make = some c.make) (k7 : ((c.plainKeys == P.plainKeys) && c.shortTexts.isNone && P.stopsHeard && (c.kinds == (if c.domain.isEmpty then [] else fn.params.toList.map fun t => match P.underlying t with | some (.int k) => some k | _ => none)) && (c.pinned == c.pinnedBy) &&
  (c.veiled == (fn.params.toList ++ s.plain.varTypes P ++ fn.resultTypes.toList).any (P.veiledRec ·)) && c.veiledFits P fn.params.toList (fn.params.toList ++ s.plain.varTypes P ++ fn.resultTypes.toList)) = true) : joinedFacts P f fn s c = true := by
  unfold joinedFacts
  simp only [Bool.and_eq_true] at k1 k6 k7 ⊢
  obtain ⟨⟨⟨⟨⟨⟨⟨⟨a1, a2⟩, a3⟩, a4⟩, a5⟩, a6⟩, a7⟩, a8⟩, a9⟩ := k1
  obtain ⟨⟨⟨⟨⟨⟨⟨⟨b1, b2⟩, b3⟩, b4⟩, b5⟩, b6⟩, b7⟩, b8⟩, b9⟩ := k6
  obtain ⟨⟨⟨⟨⟨⟨c1, c2⟩, c3⟩, c4⟩, c5⟩, c6⟩, c7⟩ := k7
  have d1 : (c.lifted == P.liftsFinal) = true := by rw [hl]; exact beq_self_eq_true _
  have d2 : (P.make == some c.make) = true := by rw [hk]; exact beq_self_eq_true _
  repeat' apply And.intro
  all_goals assumption
end Go.Sv
namespace Go.Sv
open Go Go.Proofs Go.Proofs.Ytcnlgmajkclgjaa
set_option maxRecDepth 100000
def orderN : List Nat := [104, 97, 114, 110, 101, 115, 115, 32, 52, 100, 99, 102, 50, 98, 101, 99, 57, 54, 53, 101, 49, 53, 55, 56, 102, 100, 97, 52, 56, 101, 99, 52, 97, 101, 57, 98, 98, 50, 100, 98, 101, 100, 51, 97, 52, 98, 99, 100, 100, 51, 97, 57, 56, 98, 50, 102, 51, 57, 102, 50, 50, 101, 97, 100, 48, 54, 49, 51, 100, 51, 56, 56, 32, 99, 117, 116, 32, 97, 116, 32, 115, 105, 101, 118, 101, 47, 115, 105, 101, 118, 101, 108, 97, 119, 49, 49, 46, 69, 110, 100, 115, 84, 101, 108, 108, 32, 115, 105, 101, 118, 101, 47, 115, 105, 101, 118, 101, 108, 97, 119, 49, 49, 46, 69, 110, 100, 115, 77, 97, 116, 99, 104, 32, 115, 105, 101, 118, 101, 47, 115, 105, 101, 118, 101, 108, 97, 119, 49, 49, 46, 69, 110, 100, 115, 83, 105, 109, 112, 108, 101, 32, 115, 105, 101, 118, 101, 47, 115, 105, 101, 118, 101, 108, 97, 119, 49, 49, 46, 69, 110, 100, 115, 66, 101, 115, 116, 32, 115, 105, 101, 118, 101, 47, 115, 105, 101, 118, 101, 108, 97, 119, 49, 49, 46, 69, 110, 100, 115, 76, 111, 110, 103, 101, 114, 32, 115, 105, 101, 118, 101, 47, 115, 105, 101, 118, 101, 108, 97, 119, 49, 49, 46, 69, 110, 100, 115, 80, 97, 114, 116, 115, 32, 115, 105, 101, 118, 101, 47, 115, 105, 101, 118, 101, 108, 97, 119, 49, 49, 46, 69, 110, 100, 115, 83, 116, 97, 114, 32, 115, 105, 101, 118, 101, 47, 115, 105, 101, 118, 101, 108, 97, 119, 49, 48, 46, 83, 105, 109, 112, 108, 105, 102, 121, 84, 101, 108, 108, 115, 32, 115, 105, 101, 118, 101, 47, 115, 105, 101, 118, 101, 108, 97, 119, 49, 48, 46, 83, 105, 109, 112, 108, 105, 102, 121, 65, 103, 97, 105, 110, 32, 115, 105, 101, 118, 101, 47, 115, 105, 101, 118, 101, 108, 97, 119, 49, 48, 46, 83, 105, 109, 112, 108, 105, 102, 121, 75, 101, 101, 112, 115, 32, 115, 105, 101, 118, 101, 47, 115, 105, 101, 118, 101, 108, 97, 119, 49, 48, 46, 83, 105, 109, 112, 108, 105, 102, 121, 79, 110, 101, 32, 115, 105, 101, 118, 101, 47, 115, 105, 101, 118, 101, 108, 97, 119, 49, 51, 46, 69, 120, 112, 97, 110, 100, 84, 101, 108, 108, 115, 32, 115, 105, 101, 118, 101, 47, 115, 105, 101, 118, 101, 108, 97, 119, 49, 51, 46, 69, 120, 112, 97, 110, 100, 83, 97, 109, 101, 32, 115, 105, 101, 118, 101, 47, 115, 105, 101, 118, 101, 108, 97, 119, 49, 51, 46, 69, 120, 112, 97, 110, 100, 80, 108, 97, 105, 110, 32, 115, 105, 101, 118, 101, 47, 115, 105, 101, 118, 101, 108, 97, 119, 49, 51, 46, 69, 120, 112, 97, 110, 100, 66, 117, 100, 103, 101, 116, 32, 115, 105, 101, 118, 101, 47, 115, 105, 101, 118, 101, 108, 97, 119, 49, 51, 46, 69, 120, 112, 97, 110, 100, 70, 105, 114, 115, 116, 32, 115, 105, 101, 118, 101, 47, 115, 105, 101, 118, 101, 108, 97, 119, 48, 57, 46, 77, 101, 97, 115, 117, 114, 101, 84, 101, 108, 108, 115, 32, 115, 105, 101, 118, 101, 47, 115, 105, 101, 118, 101, 108, 97, 119, 48, 57, 46, 77, 101, 97, 115, 117, 114, 101, 75, 110, 111, 119, 115, 32, 115, 105, 101, 118, 101, 47, 115, 105, 101, 118, 101, 108, 97, 119, 48, 57, 46, 77, 101, 97, 115, 117, 114, 101, 76, 101, 110, 103, 116, 104, 115, 32, 115, 105, 101, 118, 101, 47, 115, 105, 101, 118, 101, 108, 97, 119, 48, 57, 46, 77, 101, 97, 115, 117, 114, 101, 80, 97, 114, 116, 115, 32, 115, 105, 101, 118, 101, 47, 115, 105, 101, 118, 101, 108, 97, 119, 48, 57, 46, 77, 101, 97, 115, 117, 114, 101, 82, 101, 112, 32, 115, 105, 101, 118, 101, 47, 115, 105, 101, 118, 101, 108, 97, 119, 49, 50, 46, 68, 101, 114, 105, 118, 101, 84, 101, 108, 108, 115, 32, 115, 105, 101, 118, 101, 47, 115, 105, 101, 118, 101, 108, 97, 119, 49, 50, 46, 68, 101, 114, 105, 118, 101, 76, 111, 110, 103, 101, 115, 116, 32, 115, 105, 101, 118, 101, 47, 115, 105, 101, 118, 101, 108, 97, 119, 49, 50, 46, 68, 101, 114, 105, 118, 101, 87, 111, 114, 100, 115, 32, 115, 105, 101, 118, 101, 47, 115, 105, 101, 118, 101, 108, 97, 119, 49, 50, 46, 68, 101, 114, 105, 118, 101, 70, 105, 114, 115, 116, 32, 115, 105, 101, 118, 101, 47, 115, 105, 101, 118, 101, 108, 97, 119, 49, 50, 46, 68, 101, 114, 105, 118, 101, 83, 105, 109, 112, 108, 101]
theorem order_eq : Try.prog.initOrder = String.ofList (orderN.map Char.ofNat) := by kernel_rfl
theorem order_list : Try.prog.initOrder.toList = orderN.map Char.ofNat := by rw [order_eq, String.toList_ofList]
theorem ow1 : (stripLifts liftWords (behindMainWord (wordsSigns (orderN.map Char.ofNat)))).1 = [] := by kernel_rfl
theorem ow2 : ((stripLifts liftWords (behindMainWord (wordsSigns (orderN.map Char.ofNat)))).2.head? == some "cut".toList) = true := by kernel_rfl
theorem ow3 : ((behindMainWord (wordsSigns (orderN.map Char.ofNat))).isEmpty = false) := by kernel_rfl
theorem ow4 : ((behindMainWord (wordsSigns (orderN.map Char.ofNat))).head? == some "cut".toList) = true := by kernel_rfl
theorem ow5 : ((behindMainWord (wordsSigns (orderN.map Char.ofNat))).head? == some "carried".toList) = false := by kernel_rfl
theorem ow6 : ((behindMainWord (wordsSigns (orderN.map Char.ofNat))).head? == some "gc".toList) = false := by kernel_rfl
theorem ow7 : ((behindMainWord (wordsSigns (orderN.map Char.ofNat))).head? == some "spec".toList) = false := by kernel_rfl
theorem try_lays : Try.prog.laysLater = false := by kernel_rfl
theorem try_refl : Try.prog.bearsReflect = false := by kernel_rfl
theorem try_door : Try.prog.doorFits [] = true := by kernel_rfl
theorem headLifts_of {P : Program} {l : List Char} (h : P.initOrder.toList = l) (h1 : (stripLifts liftWords (behindMainWord (wordsSigns l))).1 = []) (h2 : ((stripLifts liftWords (behindMainWord (wordsSigns l))).2.head? == some "cut".toList) = true) : P.headLifts = [] := by
  subst h
  unfold Program.headLifts
  simp only [h2, if_true, h1]
theorem try_headLifts : Try.prog.headLifts = [] := headLifts_of order_list ow1 ow2
theorem mayEnter_of {P : Program} {l : List Char} (h : P.initOrder.toList = l) (h1 : (stripLifts liftWords (behindMainWord (wordsSigns l))).1 = []) (h2 : ((stripLifts liftWords (behindMainWord (wordsSigns l))).2.head? == some "cut".toList) = true)
    (h3 : (behindMainWord (wordsSigns l)).isEmpty = false) (k1 : P.laysLater = false) (k2 : P.bearsReflect = false) (k3 : P.doorFits [] = true) : P.mayEnter = true := by
  subst h
  unfold Program.mayEnter
  generalize behindMainWord (wordsSigns P.initOrder.toList) = q at h1 h2 h3 ⊢
  cases q with
  | nil => cases h3
  | cons c rest =>
    have e1 : ([] : List String).contains "finals" = false := rfl
    have e2 : ([] : List String).contains "reflectrows" = false := rfl
    have e3 : ([] : List String).contains "leanrows" = false := rfl
    simp only [h1, h2, k1, k2, k3, e1, e2, e3, Bool.not_false, Bool.or_true, Bool.and_true, Bool.or_self, Bool.and_self]
theorem try_mayEnter : Try.prog.mayEnter = true := mayEnter_of order_list ow1 ow2 ow3 try_lays try_refl try_door
theorem lifts_of {P : Program} {l : List Char} (h : P.initOrder.toList = l) (h5 : ((behindMainWord (wordsSigns l)).head? == some "carried".toList) = false) (k : P.headLifts = []) : P.liftsFinal = false := by
  subst h
  unfold Program.liftsFinal
  rw [k]
  have e1 : ([] : List String).contains "finals" = false := rfl
  simp only [h5, e1, Bool.false_and, Bool.or_self]
theorem try_lifts : Try.prog.liftsFinal = false := lifts_of order_list ow5 try_headLifts
theorem make_of {P : Program} {l : List Char} (h : P.initOrder.toList = l) (h3 : (behindMainWord (wordsSigns l)).isEmpty = false) (h4 : ((behindMainWord (wordsSigns l)).head? == some "cut".toList) = true)
    (h6 : ((behindMainWord (wordsSigns l)).head? == some "gc".toList) = false) (h7 : ((behindMainWord (wordsSigns l)).head? == some "spec".toList) = false) : P.make = some .cut := by
  subst h
  unfold Program.make
  generalize behindMainWord (wordsSigns P.initOrder.toList) = q at h3 h4 h6 h7 ⊢
  cases q with
  | nil => cases h3
  | cons c rest =>
    simp only [List.head?_cons] at h4 h6 h7
    have g : ∀ x : List Char, (some c == some x) = (c == x) := fun x => rfl
    rw [g] at h4 h6 h7
    simp only [h4, h6, h7, Bool.or_self, Bool.false_eq_true, if_false, Bool.true_or, if_true]
theorem try_make : Try.prog.make = some .cut := make_of order_list ow3 ow4 ow6 ow7
end Go.Sv
