/- A part of the proof of the law SimplifyKeeps: that it answers true for every input, and that the input reads behind the call as before (no condition). -/
import Derived.Test.YtcnlgmajkclgjaaSimplifyKeepsG6
set_option linter.all false
set_option linter.unusedSectionVars false
set_option linter.unusedVariables false
set_option linter.unusedSimpArgs false
namespace Go.Sv
open Go Go.Proofs
def x54 : XC := (.seq (.ops 1 [
    (0, ⟨(some 2), none, .alloc [(.int .i64 0), (.int .u64 0), (.int .u64 0), (.int .u64 0), (.int .u64 0), (.int .i64 0), (.int .i64 0), (.slice none 0 0)]⟩)] (some [0, 2])) (.seq (.ops 1 [
    (0, ⟨(some 3), none, .mv (.k (.d (.val (.slice none 0 0))))⟩)] (some [0, 2, 3])) (.seq (.ops 1 [
    (0, ⟨(some 4), none, .mv (.k (.d (.val (.int .i64 (-1)))))⟩)] (some [0, 2, 3, 4])) (.seq (.seq (.ops 4 [
    (0, ⟨(some 7), none, .mv (.t 0)⟩),
    (1, ⟨(some 8), none, .call 103 [(.k (.d (.val (.int .i64 4)))), (.t 7)] none true⟩),
    (2, ⟨(some 9), none, .lenS (.t 8)⟩),
    (3, ⟨(some 10), none, .mv (.k (.d (.val (.int .i64 0))))⟩)] (some [2, 3, 4, 8, 9, 10])) (.block 0 (.loop (.seq (.ops 1 [
    (0, ⟨(some 11), none, .arith .lss (.t 10) (.t 9)⟩)] (some [2, 3, 4, 8, 9, 10, 11])) (.seq (.cond (.t 11) .skip (.exit 0)) (.seq (.block 1 (.seq (.ops 4 [
    (0, ⟨(some 12), none, .idxS 8 (.t 8) (.t 10)⟩),
    (1, ⟨(some 13), none, .load (some 8) (.t 12)⟩),
    (2, ⟨(some 6), none, .alloc [(.int .i64 0), (.int .u64 0), (.int .u64 0), (.int .u64 0), (.int .u64 0), (.int .i64 0), (.int .i64 0), (.slice none 0 0)]⟩),
    (3, ⟨none, none, .store 8 (.t 6) (.t 13)⟩)] (some [2, 3, 4, 6, 8, 9, 10])) (.block 2 (.seq (.ops 3 [
    (0, ⟨(some 15), none, .load (some 8) (.t 6)⟩),
    (1, ⟨(some 16), none, .call 105 [(.t 15)] none false⟩),
    (2, ⟨(some 14), none, .mv (.t 16)⟩)] (some [2, 3, 4, 6, 8, 9, 10, 14])) (.cond (.t 14) .skip (.seq (.ops 8 [
    (0, ⟨(some 18), none, .fadd 0 (.t 6)⟩),
    (1, ⟨(some 19), none, .load none (.t 18)⟩),
    (2, ⟨(some 20), none, .arith .eql (.t 19) (.k (.d (.val (.int .i64 2))))⟩),
    (3, ⟨(some 21), none, .mv (.t 20)⟩),
    (4, ⟨(some 22), (some (21, true)), .mv (.t 4)⟩),
    (5, ⟨(some 23), (some (21, true)), .arith .geq (.t 22) (.k (.d (.val (.int .i64 0))))⟩),
    (6, ⟨(some 24), none, .pick (.t 21) (.t 23) (.k (.d (.val (.bool false))))⟩),
    (7, ⟨(some 17), none, .mv (.t 24)⟩)] (some [2, 3, 4, 6, 8, 9, 10, 17])) (.cond (.t 17) (.ops 13 [
    (0, ⟨(some 25), none, .mv (.t 3)⟩),
    (1, ⟨(some 26), none, .mv (.t 4)⟩),
    (2, ⟨(some 27), none, .mv (.t 3)⟩),
    (3, ⟨(some 28), none, .mv (.t 4)⟩),
    (4, ⟨(some 29), none, .idxS 8 (.t 27) (.t 28)⟩),
    (5, ⟨(some 30), none, .fadd 1 (.t 29)⟩),
    (6, ⟨(some 31), none, .load (some 4) (.t 30)⟩),
    (7, ⟨(some 32), none, .fadd 1 (.t 6)⟩),
    (8, ⟨(some 33), none, .load (some 4) (.t 32)⟩),
    (9, ⟨(some 34), none, .call 73 [(.t 31), (.t 33)] none false⟩),
    (10, ⟨(some 35), none, .idxS 8 (.t 25) (.t 26)⟩),
    (11, ⟨(some 36), none, .fadd 1 (.t 35)⟩),
    (12, ⟨none, none, .store 4 (.t 36) (.t 34)⟩)] (some [2, 3, 4, 8, 9, 10])) (.seq (.ops 4 [
    (0, ⟨(some 38), none, .fadd 0 (.t 6)⟩),
    (1, ⟨(some 39), none, .load none (.t 38)⟩),
    (2, ⟨(some 40), none, .arith .eql (.t 39) (.k (.d (.val (.int .i64 2))))⟩),
    (3, ⟨(some 37), none, .mv (.t 40)⟩)] (some [2, 3, 4, 6, 8, 9, 10, 37])) (.cond (.t 37) (.seq (.ops 3 [
    (0, ⟨(some 41), none, .mv (.t 3)⟩),
    (1, ⟨(some 42), none, .lenS (.t 41)⟩),
    (2, ⟨(some 4), none, .mv (.t 42)⟩)] (some [2, 3, 4, 6, 8, 9, 10])) (.ops 7 [
    (0, ⟨(some 43), none, .mv (.t 3)⟩),
    (1, ⟨(some 44), none, .fadd 1 (.t 6)⟩),
    (2, ⟨(some 45), none, .load (some 4) (.t 44)⟩),
    (3, ⟨(some 46), none, .build [(.int .i64 0), (.int .u64 0), (.int .u64 0), (.int .u64 0), (.int .u64 0), (.int .i64 0), (.int .i64 0), (.slice none 0 0)] [(0, 1, (.k (.d (.val (.int .i64 2))))), (1, 4, (.t 45))]⟩),
    (4, ⟨(some 47), none, .mkrow [(.int .i64 0), (.int .u64 0), (.int .u64 0), (.int .u64 0), (.int .u64 0), (.int .i64 0), (.int .i64 0), (.slice none 0 0)] 1 8 [(0, 8, (.t 46))]⟩),
    (5, ⟨(some 48), none, .app [(.int .i64 0), (.int .u64 0), (.int .u64 0), (.int .u64 0), (.int .u64 0), (.int .i64 0), (.int .i64 0), (.slice none 0 0)] 80 (.t 43) (.t 47)⟩),
    (6, ⟨(some 3), none, .mv (.t 48)⟩)] (some [2, 3, 4, 8, 9, 10]))) (.seq (.ops 5 [
    (0, ⟨(some 50), none, .mv (.t 3)⟩),
    (1, ⟨(some 51), none, .mkfn 111 [(.t 6)]⟩),
    (2, ⟨(some 52), none, .call 104 [(.t 50), (.t 51)] none false⟩),
    (3, ⟨(some 53), none, .un .not (.t 52)⟩),
    (4, ⟨(some 49), none, .mv (.t 53)⟩)] (some [2, 3, 4, 6, 8, 9, 10, 49])) (.cond (.t 49) (.ops 5 [
    (0, ⟨(some 54), none, .mv (.t 3)⟩),
    (1, ⟨(some 55), none, .load (some 8) (.t 6)⟩),
    (2, ⟨(some 56), none, .mkrow [(.int .i64 0), (.int .u64 0), (.int .u64 0), (.int .u64 0), (.int .u64 0), (.int .i64 0), (.int .i64 0), (.slice none 0 0)] 1 8 [(0, 8, (.t 55))]⟩),
    (3, ⟨(some 57), none, .app [(.int .i64 0), (.int .u64 0), (.int .u64 0), (.int .u64 0), (.int .u64 0), (.int .i64 0), (.int .i64 0), (.slice none 0 0)] 80 (.t 54) (.t 56)⟩),
    (4, ⟨(some 3), none, .mv (.t 57)⟩)] (some [2, 3, 4, 8, 9, 10])) .skip))))))))))) (.ops 2 [
    (0, ⟨(some 58), none, .arith .add (.t 10) (.k (.d (.val (.int .i64 1))))⟩),
    (1, ⟨(some 10), none, .mv (.t 58)⟩)] (some [2, 3, 4, 8, 9, 10])))))))) (.seq (.ops 4 [
    (0, ⟨(some 59), none, .mv (.t 3)⟩),
    (1, ⟨(some 60), none, .call 106 [] none false⟩),
    (2, ⟨(some 61), none, .call 109 [(.k (.d (.val (.int .i64 4)))), (.t 59), (.t 60)] none false⟩),
    (3, ⟨none, none, .store 8 (.t 2) (.t 61)⟩)] (some [2])) .ret)))))
def md54 : FuncId → Option Nat × Bool
  | 103 => (none, true)
  | _ => (none, false)
def od54 : Nat → List (List Nat) × List Nat × Option (List Nat)
  | 0 => ([], [], some [0, 2])
  | 1 => ([], [], some [0, 2, 3])
  | 2 => ([], [], some [0, 2, 3, 4])
  | 3 => ([], [], some [2, 3, 4, 8, 9, 10])
  | 4 => ([], [], some [2, 3, 4, 8, 9, 10, 11])
  | 5 => ([], [], some [2, 3, 4, 6, 8, 9, 10])
  | 6 => ([], [], some [2, 3, 4, 6, 8, 9, 10, 14])
  | 7 => ([], [], some [2, 3, 4, 6, 8, 9, 10, 17])
  | 8 => ([[], [], [], [], [2, 3], [2, 3, 4], [2, 3, 4, 5], [], [7], [2, 3, 4, 5, 6, 7, 8], [0, 1, 2, 3, 4, 5, 6, 7, 8, 9], [0, 1, 2, 3, 4, 5, 6, 7, 8, 9, 10], [0, 1, 2, 3, 4, 5, 6, 7, 8, 9, 10, 11]], [0, 1, 2, 3, 4, 5, 6, 7, 8, 9, 10, 11, 12], some [2, 3, 4, 8, 9, 10])
  | 9 => ([], [], some [2, 3, 4, 6, 8, 9, 10, 37])
  | 10 => ([], [], some [2, 3, 4, 6, 8, 9, 10])
  | 11 => ([], [], some [2, 3, 4, 8, 9, 10])
  | 12 => ([], [], some [2, 3, 4, 6, 8, 9, 10, 49])
  | 13 => ([], [], some [2, 3, 4, 8, 9, 10])
  | 14 => ([], [], some [2, 3, 4, 8, 9, 10])
  | 15 => ([], [], some [2])
  | _ => ([], [], none)
theorem b54 {ags : List AV} {row : Option (List DV)} {r : AV} {row' nw : Option (List DV)} (hal : ags.length ≤ 62) (hrow : row'.isSome = true → row.isSome = true) (h : xwp Try.prog x54 (retK [.cell 2 (some 8)] row.isSome r row' nw) (St.init ags row)) : Good Try.prog 54 ags row r row' nw :=
  good_of_body' (md := md54) (od := od54) Try.f54 (by kernel_rfl) (by kernel_rfl) (by kernel_rfl) (by kernel_rfl) (by kernel_rfl) hal hrow h

set_option maxRecDepth 100000
set_option maxHeartbeats 4000000
attribute [local irreducible] W E R KP thenK blockK retK Good xwp aRun
theorem encL_end (l : List T) (t : T) : encL (l ++ [t]) = encL l ++ encN t := by rw [encL_app, encL, encL, List.append_nil]
theorem altP_cnt : ∀ (l : List T) (s : List T × Option Nat), (∀ u ∈ s.1, u.cnt ≤ 1000000) → (∀ u ∈ l, u.cnt ≤ 1000000) → ∀ u ∈ (l.foldl altStep s).1, u.cnt ≤ 1000000
  | [], s, h, _ => h
  | t :: l, s, h, ht => altP_cnt l _ (altStep_mem (P := fun u => u.cnt ≤ 1000000) (fun t _ => by rw [cnt_cls]; omega) (fun t u => by rw [cnt_or]; omega) h (ht t (by simp))) fun u hu => ht u (by simp [hu])
theorem altP_I : ∀ (l : List T) (s : List T × Option Nat), AltI s → (∀ t ∈ l, okS t) → AltI (l.foldl altStep s)
  | [], s, h, _ => h
  | t :: l, s, h, ht => altP_I l _ (altStep_I h (ht t (by simp))) fun u hu => ht u (by simp [hu])
theorem altStep_len (s : List T × Option Nat) (t : T) : (altStep s t).1.length ≤ s.1.length + 1 := by
  unfold altStep
  split
  · omega
  split
  · split
    · simp
    · simp
  · split
    · omega
    · simp
theorem altP_len (l : List T) : ∀ i, i ≤ l.length → ((l.take i).foldl altStep ([], none)).1.length ≤ i
  | 0, _ => by simp
  | i + 1, h => by
    have ih := altP_len l i (by omega)
    have h2 := altStep_len ((l.take i).foldl altStep ([], none)) (l[i]'(by omega))
    rw [List.take_succ_eq_append_getElem (by omega), List.foldl_append]
    simp only [List.foldl_cons, List.foldl_nil]
    omega
theorem alt54_good (l : List T) (hc : cntL l ≤ 500000) (hok : ∀ t ∈ flatL 4 l, okS t) : Good Try.prog 54 [.d (.sl (encL l) l.length)] none (nodeA (altS l)) none none := by
  have hll := cntL_len l
  have hfl := flatL_len 4 l
  have hfc := cntL_flat 4 l
  have h103 := flat103_good 4 l hc
  have h106 := no106_good
  have hN : nodeA noneT = .agg [.i 2, .d (.val (.int .u64 0)), .d (.val (.int .u64 0)), .d (.val (.int .u64 0)), .d (.val (.int .u64 0)), .i 0, .i 0, .d (.sl [] 0)] := rfl
  rw [hN] at h106
  have hcnt : ∀ t ∈ flatL 4 l, t.cnt ≤ 1000000 := fun t ht => by
    obtain ⟨j, hj, rfl⟩ := List.getElem_of_mem ht
    have := cntL_get (flatL 4 l) j hj
    omega
  have hfin : altS l = ofT 4 ((flatL 4 l).foldl altStep ([], none)).1 noneT := rfl
  rw [hfin]
  clear hfin hfc
  generalize flatL 4 l = F at h103 hfl hok hcnt ⊢
  refine b54 (by simp) (by simp) (w_init ?_)
  unfold x54
  repeat' (first
    | (apply r_mvV; rfl)
    | (apply r_mvP; rfl)
    | (apply r_mvPL; rfl)
    | (apply r_mvS; rfl)
    | (apply r_mvSL; rfl)
    | (apply r_mvA; rfl)
    | (apply r_mvT; rfl)
    | (apply r_mvF; rfl)
    | (apply r_mvD; rfl)
    | (apply r_faddD; rfl)
    | (apply r_faddL; rfl)
    | (apply r_callMN (id := 5) (us := []); rfl; rfl; rfl; exact h103; rfl)
    | (apply r_ldL; rfl; rfl; rfl)
    | (apply r_eql; rfl; rfl; (first | (apply decide_eq_true; omega) | (apply decide_eq_false; omega) | rfl))
    | (apply r_lss; rfl; rfl; (first | (apply decide_eq_true; omega) | (apply decide_eq_false; omega) | rfl))
    | (apply r_geq; rfl; rfl; (first | (apply decide_eq_true; omega) | (apply decide_eq_false; omega) | rfl))
    | (apply r_add; rfl; rfl; rfl; omega)
    | (apply r_not; rfl; rfl)
    | (apply r_pickT; rfl)
    | (apply r_pickF; rfl)
    | (apply r_lenD; rfl)
    | (apply r_lenL; rfl)
    | (apply r_len0; rfl)
    | (apply r_gT; rfl)
    | (apply r_gF'; rfl; rfl)
    | (apply r_gN'; rfl)
    | ((apply r_gS (o := default); rfl) <;> (intro h; try simp only [decide_eq_true_eq, decide_eq_false_iff_not, Bool.not_eq_true, Bool.not_eq_false] at h))
    | (apply r_alloc; ((conv => lhs; simp only [Nat.reduceAdd]) <;> rfl); rfl)
    | (apply r_stL; rfl; rfl; rfl; rfl; (first | rfl | (simp only [z_nil, z_add] <;> rfl)); rfl; rfl)
    | (apply r_p; rfl)
    | (apply r_nilK)
    | (apply r_nil)
    | (apply k_V; rfl)
    | (apply k_P; rfl)
    | (apply k_PL; rfl)
    | (apply k_S; rfl)
    | (apply k_SL; rfl)
    | (apply k_A; rfl)
    | (apply k_T; rfl)
    | (apply k_F; rfl)
    | (apply k_D; rfl; rotate_left; rfl)
    | (apply k_nil)
    | (apply e_ret (vs := [.d (.val _)]); rfl)
    | (apply e_ret; rfl)
    | (apply e_ret' (vs := [.d (.val _)]); rfl)
    | (apply e_ret'; rfl)
    | (apply w_seq)
    | (apply w_ops; ((conv => lhs; simp only [Nat.reduceAdd]) <;> rfl))
    | (apply w_condT; rfl)
    | (apply w_condF; rfl)
    | ((apply w_condS; rfl) <;> (intro h; try simp only [decide_eq_true_eq, decide_eq_false_iff_not, Bool.not_eq_true, Bool.not_eq_false] at h))
    | (apply e_thenN)
    | (apply w_block)
    | (apply e_thenR)
    | (apply e_thenX)
    | (apply e_blkN)
    | (apply e_blkR)
    | (apply e_blkE)
    | (apply w_exit)
    | (apply w_ret)
    | (apply w_skip)
    | (apply e_blkE'; rfl))
  apply w_loopF (ι := Nat × (List T × Option Nat)) (S := fun p => (fun (i : Nat) (s : List T × Option Nat) => (⟨(((((Fr.nil.put 2 (.ptrL 1 0)).put 3 (.slL 51 0 s.1.length 8)).put 4 (.i (atI s.2))).put 8 (.slL 50 0 F.length 8)).put 9 (.i F.length)).put 10 (.i i), rowsOf [(1, zeroA zsN), (50, (encL F).map AV.d), (51, (encL s.1).map AV.d)], Frz.buts 100 [1, 51], 100⟩ : St)) p.1 p.2) (m := fun p => F.length - p.1) (I := fun p => p.1 ≤ F.length ∧ p.2 = (F.take p.1).foldl altStep ([], none)) (i0 := (0, ([], none)))
  · exact ⟨Nat.zero_le _, rfl⟩
  · refine Wk.f (wkM [(50, 5), (51, 1000000)] [51] rfl ?_ ?_ rfl ?_)
    · intro p hp
      simp only [List.mem_cons, List.not_mem_nil, or_false] at hp
      rcases hp with rfl | rfl | rfl
      · exact ⟨by omega, .inr ⟨rfl, _, rfl, .data rfl⟩⟩
      · exact ⟨by omega, .inr ⟨rfl, _, rfl, .data (isD_encL _)⟩⟩
      · exact ⟨by omega, .inl ⟨rfl, rfl⟩⟩
    · intro q hq; simp only [List.mem_cons, List.not_mem_nil, or_false] at hq; rcases hq with rfl | rfl <;> rfl
    · dsimp only
      repeat' (first
    | exact FWk.nil
    | (apply FWk.i; rfl; (first | rfl | omega | (simp; done)))
    | (apply FWk.sl; rfl; rfl; rfl; rfl; omega; rfl)
    | (apply FWk.ptr; rfl; rfl; rfl; omega; rfl)
    | (apply FWk.d; rfl; rfl)
    | (apply FWk.a; rfl; rfl; rfl)
    | (apply FWk.slN; rfl; omega; rfl))
  rintro ⟨i, s⟩ K ⟨hi, hs0⟩ hK
  dsimp only at hi hs0 hK ⊢
  have hlen := altP_len F i hi
  rw [← hs0] at hlen
  rcases Nat.lt_or_ge i F.length with hlt | hge
  · have hs := NodeAt.sub hlt
    have hn := no105_good F[i]
    have hov := hok F[i] (List.getElem_mem hlt)
    have hI : AltI s := by rw [hs0]; exact altP_I _ _ (fun i hi => by cases hi) fun t ht => hok t (List.mem_of_mem_take ht)
    have hcs : ∀ u ∈ s.1, u.cnt ≤ 1000000 := by rw [hs0]; exact altP_cnt _ _ (by simp) fun t ht => hcnt t (List.mem_of_mem_take ht)
    have hstep : (F.take (i + 1)).foldl altStep ([], none) = altStep s F[i] := by rw [List.take_succ_eq_append_getElem hlt, List.foldl_append, ← hs0]; rfl
    have fin : ∀ s' fr C Z nx, altStep s F[i] = s' → Wkf ⟨fr, C, Z, nx⟩ ((fun (i : Nat) (s : List T × Option Nat) => (⟨(((((Fr.nil.put 2 (.ptrL 1 0)).put 3 (.slL 51 0 s.1.length 8)).put 4 (.i (atI s.2))).put 8 (.slL 50 0 F.length 8)).put 9 (.i F.length)).put 10 (.i i), rowsOf [(1, zeroA zsN), (50, (encL F).map AV.d), (51, (encL s.1).map AV.d)], Frz.buts 100 [1, 51], 100⟩ : St)) (i + 1) s') → K ⟨fr, C, Z, nx⟩ := by
      intro s' fr C Z nx h1 h2
      exact hK (i + 1, s') fr C Z nx ⟨by dsimp only; omega, by rw [hstep, h1]⟩ (by dsimp only; omega) h2
    clear hK hs0 hstep hok hcnt
    generalize F[i] = v at hs hn hov fin
    obtain ⟨k, a, b, c, d, mn, mx, subs⟩ := v
    have e0 : nodeA (T.node k a b c d mn mx subs) = .agg [.i k, .d (.val (.int .u64 a)), .d (.val (.int .u64 b)), .d (.val (.int .u64 c)), .d (.val (.int .u64 d)), .i mn, .i mx, .d (.sl (encL subs) subs.length)] := rfl
    rw [e0] at hn
    rcases Bool.eq_false_or_eq_true (isNo (T.node k a b c d mn mx subs)) with hq | hq
    · rw [hq] at hn
      have fin := fun fr C Z nx => fin s fr C Z nx (by unfold altStep; rw [if_pos hq])
      repeat' (first
    | (apply r_mvV; rfl)
    | (apply r_mvP; rfl)
    | (apply r_mvPL; rfl)
    | (apply r_mvS; rfl)
    | (apply r_mvSL; rfl)
    | (apply r_mvA; rfl)
    | (apply r_mvT; rfl)
    | (apply r_mvF; rfl)
    | (apply r_mvD; rfl)
    | (apply r_faddD; rfl)
    | (apply r_faddL; rfl)
    | (apply r_ixN (j := i) (b := 50); rfl; rfl; rfl; omega)
    | (apply r_ldN (t := (T.node k a b c d mn mx subs)); rfl; rfl; exact hs)
    | (apply r_ldL (v := .agg [.i k, .d (.val (.int .u64 a)), .d (.val (.int .u64 b)), .d (.val (.int .u64 c)), .d (.val (.int .u64 d)), .i mn, .i mx, .d (.sl (encL subs) subs.length)]); rfl; rfl; rfl)
    | (apply r_callA (ags := [.agg [.i k, .d (.val (.int .u64 a)), .d (.val (.int .u64 b)), .d (.val (.int .u64 c)), .d (.val (.int .u64 d)), .i mn, .i mx, .d (.sl (encL subs) subs.length)]]); rfl; rfl; exact hn)
    | (apply r_ldL; rfl; rfl; rfl)
    | (apply r_eql; rfl; rfl; (first | (apply decide_eq_true; omega) | (apply decide_eq_false; omega) | rfl))
    | (apply r_lss; rfl; rfl; (first | (apply decide_eq_true; omega) | (apply decide_eq_false; omega) | rfl))
    | (apply r_geq; rfl; rfl; (first | (apply decide_eq_true; omega) | (apply decide_eq_false; omega) | rfl))
    | (apply r_add; rfl; rfl; rfl; omega)
    | (apply r_not; rfl; rfl)
    | (apply r_pickT; rfl)
    | (apply r_pickF; rfl)
    | (apply r_lenD; rfl)
    | (apply r_lenL; rfl)
    | (apply r_len0; rfl)
    | (apply r_gT; rfl)
    | (apply r_gF'; rfl; rfl)
    | (apply r_gN'; rfl)
    | ((apply r_gS (o := default); rfl) <;> (intro h; try simp only [decide_eq_true_eq, decide_eq_false_iff_not, Bool.not_eq_true, Bool.not_eq_false] at h))
    | (apply r_alloc; ((conv => lhs; simp only [Nat.reduceAdd]) <;> rfl); rfl)
    | (apply r_stL; rfl; rfl; rfl; rfl; (first | rfl | (simp only [z_nil, z_add] <;> rfl)); rfl; rfl)
    | (apply r_p; rfl)
    | (apply r_nilK)
    | (apply r_nil)
    | (apply k_V; rfl)
    | (apply k_P; rfl)
    | (apply k_PL; rfl)
    | (apply k_S; rfl)
    | (apply k_SL; rfl)
    | (apply k_A; rfl)
    | (apply k_T; rfl)
    | (apply k_F; rfl)
    | (apply k_D; rfl; rotate_left; rfl)
    | (apply k_nil)
    | (apply e_ret (vs := [.d (.val _)]); rfl)
    | (apply e_ret; rfl)
    | (apply e_ret' (vs := [.d (.val _)]); rfl)
    | (apply e_ret'; rfl)
    | (apply w_seq)
    | (apply w_ops; ((conv => lhs; simp only [Nat.reduceAdd]) <;> rfl))
    | (apply w_condT; rfl)
    | (apply w_condF; rfl)
    | ((apply w_condS; rfl) <;> (intro h; try simp only [decide_eq_true_eq, decide_eq_false_iff_not, Bool.not_eq_true, Bool.not_eq_false] at h))
    | (apply e_thenN)
    | (apply w_block)
    | (apply e_thenR)
    | (apply e_thenX)
    | (apply e_blkN)
    | (apply e_blkR)
    | (apply e_blkE)
    | (apply w_exit)
    | (apply w_ret)
    | (apply w_skip)
    | (apply e_blkE'; rfl))
      apply e_thenK; apply fin
      dsimp only
      refine Wk.f (wkM [] [] rfl ?_ ?_ rfl ?_)
      · intro p hp; simp only [List.mem_cons, List.not_mem_nil, or_false] at hp; rcases hp with rfl | rfl | rfl <;> first | exact ⟨by omega, .inr ⟨rfl, _, rfl, .data rfl⟩⟩ | exact ⟨by omega, .inr ⟨rfl, _, rfl, .data (isD_encL _)⟩⟩
      · intro q hq; simp only [List.mem_cons, List.not_mem_nil, or_false] at hq; rcases hq with rfl | rfl <;> rfl
      · repeat' (first
    | exact FWk.nil
    | (apply FWk.i; rfl; (first | rfl | omega | (simp; done)))
    | (apply FWk.sl; rfl; rfl; rfl; rfl; omega; rfl)
    | (apply FWk.ptr; rfl; rfl; rfl; omega; rfl)
    | (apply FWk.d; rfl; rfl)
    | (apply FWk.a; rfl; rfl; rfl)
    | (apply FWk.slN; rfl; omega; rfl))
    rw [hq] at hn
    by_cases hk : k = 2
    · obtain ⟨P, at'⟩ := s
      dsimp only at hlen hI hcs fin ⊢
      cases at' with
      | some q =>
        obtain ⟨ac, bc, cc, dc, hP, hac, hbc, hcc, hdc⟩ := hI q rfl
        simp only at hP
        have hql := (List.getElem?_eq_some_iff.1 hP).1
        have hPd : P.getD q noneT = .node 2 ac bc cc dc 0 0 [] := by rw [List.getD_eq_getElem?_getD, hP]; rfl
        have fin := fun fr C Z nx => fin (P.set q (.node 2 (orW ac a) (orW bc b) (orW cc c) (orW dc d) 0 0 []), some q) fr C Z nx (by
          unfold altStep
          rw [if_neg (by simp [hq]), if_pos (by simpa [T.kind] using hk)]
          simp only [hPd, orN])
        have hor := or73_good hac hbc hcc hdc hov.1 hov.2.1 hov.2.2.1 hov.2.2.2
        unfold setA at hor
        have hsq : NodeAt (encL P) (q * 8) (.node 2 ac bc cc dc 0 0 []) := by
          have := NodeAt.sub hql
          rwa [show P[q] = .node 2 ac bc cc dc 0 0 [] from (List.getElem?_eq_some_iff.1 hP).2] at this
        have hspl := encL_setW P q ac bc cc dc (orW ac a) (orW bc b) (orW cc c) (orW dc d) hP
        have hst : (([.d (.val (.int .u64 (orW ac a))), .d (.val (.int .u64 (orW bc b))), .d (.val (.int .u64 (orW cc c))), .d (.val (.int .u64 (orW dc d)))] : List AV).length == 4 && Nat.ble (q * 8 + 1 + 4) ((encL P).map AV.d).length && ([.d (.val (.int .u64 (orW ac a))), .d (.val (.int .u64 (orW bc b))), .d (.val (.int .u64 (orW cc c))), .d (.val (.int .u64 (orW dc d)))] : List AV).all AV.one) = true := by
          have : Nat.ble (q * 8 + 1 + 4) ((encL P).map AV.d).length = true := by
            rw [List.length_map, encL_length]
            exact Eq.mpr Nat.ble_eq (by omega)
          rw [this]; rfl
        simp only [atI]
        repeat' (first
    | (apply r_mvV; rfl)
    | (apply r_mvP; rfl)
    | (apply r_mvPL; rfl)
    | (apply r_mvS; rfl)
    | (apply r_mvSL; rfl)
    | (apply r_mvA; rfl)
    | (apply r_mvT; rfl)
    | (apply r_mvF; rfl)
    | (apply r_mvD; rfl)
    | (apply r_faddD; rfl)
    | (apply r_faddL; rfl)
    | (apply r_ixN (j := i) (b := 50); rfl; rfl; rfl; omega)
    | (apply r_ldN (t := (T.node k a b c d mn mx subs)); rfl; rfl; exact hs)
    | (apply r_ixN (j := q) (b := 51); rfl; rfl; rfl; exact hql)
    | (apply r_ldNw; rfl; rfl; exact hsq)
    | (apply r_ldL (v := .agg [.d (.val (.int .u64 a)), .d (.val (.int .u64 b)), .d (.val (.int .u64 c)), .d (.val (.int .u64 d))]); rfl; rfl; rfl)
    | (apply r_ldL (v := .agg [.i k, .d (.val (.int .u64 a)), .d (.val (.int .u64 b)), .d (.val (.int .u64 c)), .d (.val (.int .u64 d)), .i mn, .i mx, .d (.sl (encL subs) subs.length)]); rfl; rfl; rfl)
    | (apply r_callA (ags := [.agg [.i k, .d (.val (.int .u64 a)), .d (.val (.int .u64 b)), .d (.val (.int .u64 c)), .d (.val (.int .u64 d)), .i mn, .i mx, .d (.sl (encL subs) subs.length)]]); rfl; rfl; exact hn)
    | (apply r_callA (ags := [.agg [.d (.val (.int .u64 ac)), .d (.val (.int .u64 bc)), .d (.val (.int .u64 cc)), .d (.val (.int .u64 dc))], .agg [.d (.val (.int .u64 a)), .d (.val (.int .u64 b)), .d (.val (.int .u64 c)), .d (.val (.int .u64 d))]]); rfl; rfl; exact hor)
    | (apply r_stL (b := 51) (off := q * 8 + 1) (cs := [.d (.val (.int .u64 (orW ac a))), .d (.val (.int .u64 (orW bc b))), .d (.val (.int .u64 (orW cc c))), .d (.val (.int .u64 (orW dc d)))]); rfl; rfl; rfl; rfl; rfl; exact hst; exact hspl)
    | (apply r_ldL; rfl; rfl; rfl)
    | (apply r_eql; rfl; rfl; (first | (apply decide_eq_true; omega) | (apply decide_eq_false; omega) | rfl))
    | (apply r_lss; rfl; rfl; (first | (apply decide_eq_true; omega) | (apply decide_eq_false; omega) | rfl))
    | (apply r_geq; rfl; rfl; (first | (apply decide_eq_true; omega) | (apply decide_eq_false; omega) | rfl))
    | (apply r_add; rfl; rfl; rfl; omega)
    | (apply r_not; rfl; rfl)
    | (apply r_pickT; rfl)
    | (apply r_pickF; rfl)
    | (apply r_lenD; rfl)
    | (apply r_lenL; rfl)
    | (apply r_len0; rfl)
    | (apply r_gT; rfl)
    | (apply r_gF'; rfl; rfl)
    | (apply r_gN'; rfl)
    | ((apply r_gS (o := default); rfl) <;> (intro h; try simp only [decide_eq_true_eq, decide_eq_false_iff_not, Bool.not_eq_true, Bool.not_eq_false] at h))
    | (apply r_alloc; ((conv => lhs; simp only [Nat.reduceAdd]) <;> rfl); rfl)
    | (apply r_stL; rfl; rfl; rfl; rfl; (first | rfl | (simp only [z_nil, z_add] <;> rfl)); rfl; rfl)
    | (apply r_p; rfl)
    | (apply r_nilK)
    | (apply r_nil)
    | (apply k_V; rfl)
    | (apply k_P; rfl)
    | (apply k_PL; rfl)
    | (apply k_S; rfl)
    | (apply k_SL; rfl)
    | (apply k_A; rfl)
    | (apply k_T; rfl)
    | (apply k_F; rfl)
    | (apply k_D; rfl; rotate_left; rfl)
    | (apply k_nil)
    | (apply e_ret (vs := [.d (.val _)]); rfl)
    | (apply e_ret; rfl)
    | (apply e_ret' (vs := [.d (.val _)]); rfl)
    | (apply e_ret'; rfl)
    | (apply w_seq)
    | (apply w_ops; ((conv => lhs; simp only [Nat.reduceAdd]) <;> rfl))
    | (apply w_condT; rfl)
    | (apply w_condF; rfl)
    | ((apply w_condS; rfl) <;> (intro h; try simp only [decide_eq_true_eq, decide_eq_false_iff_not, Bool.not_eq_true, Bool.not_eq_false] at h))
    | (apply e_thenN)
    | (apply w_block)
    | (apply e_thenR)
    | (apply e_thenX)
    | (apply e_blkN)
    | (apply e_blkR)
    | (apply e_blkE)
    | (apply w_exit)
    | (apply w_ret)
    | (apply w_skip)
    | (apply e_blkE'; rfl))
        apply e_thenK; apply fin
        dsimp only
        refine Wk.f (wkM [] [] rfl ?_ ?_ rfl ?_)
        · intro p hp; simp only [List.mem_cons, List.not_mem_nil, or_false] at hp; rcases hp with rfl | rfl | rfl <;> first | exact ⟨by omega, .inr ⟨rfl, _, rfl, .data rfl⟩⟩ | exact ⟨by omega, .inr ⟨rfl, _, rfl, .data (isD_encL _)⟩⟩
        · intro q hq; simp only [List.mem_cons, List.not_mem_nil, or_false] at hq; rcases hq with rfl | rfl <;> rfl
        · simp only [List.length_set, atI]
          repeat' (first
    | exact FWk.nil
    | (apply FWk.i; rfl; (first | rfl | omega | (simp; done)))
    | (apply FWk.sl; rfl; rfl; rfl; rfl; omega; rfl)
    | (apply FWk.ptr; rfl; rfl; rfl; omega; rfl)
    | (apply FWk.d; rfl; rfl)
    | (apply FWk.a; rfl; rfl; rfl)
    | (apply FWk.slN; rfl; omega; rfl))
      | none =>
        have fin := fun fr C Z nx => fin (P ++ [.node 2 a b c d 0 0 []], some P.length) fr C Z nx (by
          unfold altStep
          rw [if_neg (by simp [hq]), if_pos (by simpa [T.kind] using hk)]
          rfl)
        have hPl : ((encL P).map AV.d).length = P.length * 8 := by rw [List.length_map, encL_length]
        simp only [atI]
        repeat' (first
    | (apply r_mvV; rfl)
    | (apply r_mvP; rfl)
    | (apply r_mvPL; rfl)
    | (apply r_mvS; rfl)
    | (apply r_mvSL; rfl)
    | (apply r_mvA; rfl)
    | (apply r_mvT; rfl)
    | (apply r_mvF; rfl)
    | (apply r_mvD; rfl)
    | (apply r_faddD; rfl)
    | (apply r_faddL; rfl)
    | (apply r_ixN (j := i) (b := 50); rfl; rfl; rfl; omega)
    | (apply r_ldN (t := (T.node k a b c d mn mx subs)); rfl; rfl; exact hs)
    | (apply r_ldL (v := .agg [.d (.val (.int .u64 a)), .d (.val (.int .u64 b)), .d (.val (.int .u64 c)), .d (.val (.int .u64 d))]); rfl; rfl; rfl)
    | (apply r_ldL (v := .agg [.i k, .d (.val (.int .u64 a)), .d (.val (.int .u64 b)), .d (.val (.int .u64 c)), .d (.val (.int .u64 d)), .i mn, .i mx, .d (.sl (encL subs) subs.length)]); rfl; rfl; rfl)
    | (apply r_callA (ags := [.agg [.i k, .d (.val (.int .u64 a)), .d (.val (.int .u64 b)), .d (.val (.int .u64 c)), .d (.val (.int .u64 d)), .i mn, .i mx, .d (.sl (encL subs) subs.length)]]); rfl; rfl; exact hn)
    | (apply r_p (v := .agg [.i 2, .d (.val (.int .u64 a)), .d (.val (.int .u64 b)), .d (.val (.int .u64 c)), .d (.val (.int .u64 d)), .i 0, .i 0, .d (.val (.slice none 0 0))]); rfl)
    | (apply r_n (v := .slL 127 0 1 8) (r := [.i 2, .d (.val (.int .u64 a)), .d (.val (.int .u64 b)), .d (.val (.int .u64 c)), .d (.val (.int .u64 d)), .i 0, .i 0, .d (.val (.slice none 0 0))]); rfl)
    | (apply r_appN (b := 51) (c := 127) (id := 128) (m := P.length) (j := 1) (r := (encL P).map AV.d) (src := [.i 2, .d (.val (.int .u64 a)), .d (.val (.int .u64 b)), .d (.val (.int .u64 c)), .d (.val (.int .u64 d)), .i 0, .i 0, .d (.val (.slice none 0 0))]); rfl; rfl; rfl; rfl; exact hPl; rfl; rfl; rfl; rfl; omega)
    | (apply r_ldL; rfl; rfl; rfl)
    | (apply r_eql; rfl; rfl; (first | (apply decide_eq_true; omega) | (apply decide_eq_false; omega) | rfl))
    | (apply r_lss; rfl; rfl; (first | (apply decide_eq_true; omega) | (apply decide_eq_false; omega) | rfl))
    | (apply r_geq; rfl; rfl; (first | (apply decide_eq_true; omega) | (apply decide_eq_false; omega) | rfl))
    | (apply r_add; rfl; rfl; rfl; omega)
    | (apply r_not; rfl; rfl)
    | (apply r_pickT; rfl)
    | (apply r_pickF; rfl)
    | (apply r_lenD; rfl)
    | (apply r_lenL; rfl)
    | (apply r_len0; rfl)
    | (apply r_gT; rfl)
    | (apply r_gF'; rfl; rfl)
    | (apply r_gN'; rfl)
    | ((apply r_gS (o := default); rfl) <;> (intro h; try simp only [decide_eq_true_eq, decide_eq_false_iff_not, Bool.not_eq_true, Bool.not_eq_false] at h))
    | (apply r_alloc; ((conv => lhs; simp only [Nat.reduceAdd]) <;> rfl); rfl)
    | (apply r_stL; rfl; rfl; rfl; rfl; (first | rfl | (simp only [z_nil, z_add] <;> rfl)); rfl; rfl)
    | (apply r_p; rfl)
    | (apply r_nilK)
    | (apply r_nil)
    | (apply k_V; rfl)
    | (apply k_P; rfl)
    | (apply k_PL; rfl)
    | (apply k_S; rfl)
    | (apply k_SL; rfl)
    | (apply k_A; rfl)
    | (apply k_T; rfl)
    | (apply k_F; rfl)
    | (apply k_D; rfl; rotate_left; rfl)
    | (apply k_nil)
    | (apply e_ret (vs := [.d (.val _)]); rfl)
    | (apply e_ret; rfl)
    | (apply e_ret' (vs := [.d (.val _)]); rfl)
    | (apply e_ret'; rfl)
    | (apply w_seq)
    | (apply w_ops; ((conv => lhs; simp only [Nat.reduceAdd]) <;> rfl))
    | (apply w_condT; rfl)
    | (apply w_condF; rfl)
    | ((apply w_condS; rfl) <;> (intro h; try simp only [decide_eq_true_eq, decide_eq_false_iff_not, Bool.not_eq_true, Bool.not_eq_false] at h))
    | (apply e_thenN)
    | (apply w_block)
    | (apply e_thenR)
    | (apply e_thenX)
    | (apply e_blkN)
    | (apply e_blkR)
    | (apply e_blkE)
    | (apply w_exit)
    | (apply w_ret)
    | (apply w_skip)
    | (apply e_blkE'; rfl))
        apply e_thenK; apply fin
        dsimp only
        have erow : (encL (P ++ [.node 2 a b c d 0 0 []])).map AV.d = (encL P).map AV.d ++ (encN (.node 2 a b c d 0 0 [])).map AV.d := by rw [encL_end, List.map_append]
        refine fzRow (b := 128) (r' := (encL (P ++ [.node 2 a b c d 0 0 []])).map AV.d) (u := [] ++ []) rfl (by rw [erow]; exact convAs_app (convAs_encL _) rfl) (Wk.f ?_)
        refine wkM [(51, 128)] [] rfl ?_ ?_ rfl ?_
        · intro p hp; simp only [List.mem_cons, List.not_mem_nil, or_false] at hp; rcases hp with rfl | rfl | rfl <;> first | exact ⟨by omega, .inr ⟨rfl, _, rfl, .data rfl⟩⟩ | exact ⟨by omega, .inr ⟨rfl, _, rfl, .data (isD_encL _)⟩⟩
        · intro q hq; simp only [List.mem_cons, List.not_mem_nil, or_false] at hq; rcases hq with rfl | rfl <;> rfl
        · simp only [atI, List.length_append, List.length_cons, List.length_nil]
          repeat' (first
    | exact FWk.nil
    | (apply FWk.i; rfl; (first | rfl | omega | (simp; done)))
    | (apply FWk.sl; rfl; rfl; rfl; rfl; omega; rfl)
    | (apply FWk.ptr; rfl; rfl; rfl; omega; rfl)
    | (apply FWk.d; rfl; rfl)
    | (apply FWk.a; rfl; rfl; rfl)
    | (apply FWk.slN; rfl; omega; rfl))
    · have fin : ∀ s' fr C Z nx, (if (s.1.any fun u => sameT u (T.node k a b c d mn mx subs)) = true then s else (s.1 ++ [(T.node k a b c d mn mx subs)], s.2)) = s' → Wkf ⟨fr, C, Z, nx⟩ ((fun (i : Nat) (s : List T × Option Nat) => (⟨(((((Fr.nil.put 2 (.ptrL 1 0)).put 3 (.slL 51 0 s.1.length 8)).put 4 (.i (atI s.2))).put 8 (.slL 50 0 F.length 8)).put 9 (.i F.length)).put 10 (.i i), rowsOf [(1, zeroA zsN), (50, (encL F).map AV.d), (51, (encL s.1).map AV.d)], Frz.buts 100 [1, 51], 100⟩ : St)) (i + 1) s') → K ⟨fr, C, Z, nx⟩ := by
        intro s' fr C Z nx h1 h2
        refine fin s' fr C Z nx ?_ h2
        unfold altStep
        rw [if_neg (by simp [hq]), if_neg (by simpa [T.kind] using hk)]
        exact h1
      obtain ⟨P, at'⟩ := s
      dsimp only at hlen hI hcs fin ⊢
      have hpo : PredOK 111 [.ptr (encN (T.node k a b c d mn mx subs)) 0] (fun u => sameT u (T.node k a b c d mn mx subs)) P := ⟨rfl, fun j hj => clo111_good _ _ (hcs _ (List.getElem_mem hj))⟩
      have h104 := contains104_good hpo (by omega)
      clear hpo
      generalize hany : (P.any fun u => sameT u (T.node k a b c d mn mx subs)) = q at h104 fin
      cases q
      · have fin := fun fr C Z nx => fin _ fr C Z nx (if_neg (by simp))
        match P, hlen, h104, fin with
        | [], hlen, h104, fin =>
          simp only [List.length_nil] at h104 ⊢
          repeat' (first
    | (apply r_mvV; rfl)
    | (apply r_mvP; rfl)
    | (apply r_mvPL; rfl)
    | (apply r_mvS; rfl)
    | (apply r_mvSL; rfl)
    | (apply r_mvA; rfl)
    | (apply r_mvT; rfl)
    | (apply r_mvF; rfl)
    | (apply r_mvD; rfl)
    | (apply r_faddD; rfl)
    | (apply r_faddL; rfl)
    | (apply r_ixN (j := i) (b := 50); rfl; rfl; rfl; omega)
    | (apply r_ldN (t := (T.node k a b c d mn mx subs)); rfl; rfl; exact hs)
    | (apply r_ldL (v := .agg [.i k, .d (.val (.int .u64 a)), .d (.val (.int .u64 b)), .d (.val (.int .u64 c)), .d (.val (.int .u64 d)), .i mn, .i mx, .d (.sl (encL subs) subs.length)]); rfl; rfl; rfl)
    | (apply r_callA (ags := [.agg [.i k, .d (.val (.int .u64 a)), .d (.val (.int .u64 b)), .d (.val (.int .u64 c)), .d (.val (.int .u64 d)), .i mn, .i mx, .d (.sl (encL subs) subs.length)]]); rfl; rfl; exact hn)
    | (apply r_p (v := .fnL 111 [.ptrL 103 0]); rfl)
    | (apply r_call (bs := [.d (.sl (encL []) 0), .d (.fn 111 [.ptr (encN (T.node k a b c d mn mx subs)) 0])]) (us := [103]); rfl; rfl; exact h104; rfl)
    | (apply r_ldL (v := nodeA (T.node k a b c d mn mx subs)); rfl; rfl; rfl)
    | (apply r_mkN (t := (T.node k a b c d mn mx subs)) (id := 127); rfl; rfl)
    | (apply r_appE (b := 51) (c := 127) (id := 128) (K := []) (L := [(T.node k a b c d mn mx subs)]) (m := 0) (j := 1); rfl; rfl; rfl; rfl; rfl; rfl; rfl; rfl; omega)
    | (apply r_ldL; rfl; rfl; rfl)
    | (apply r_eql; rfl; rfl; (first | (apply decide_eq_true; omega) | (apply decide_eq_false; omega) | rfl))
    | (apply r_lss; rfl; rfl; (first | (apply decide_eq_true; omega) | (apply decide_eq_false; omega) | rfl))
    | (apply r_geq; rfl; rfl; (first | (apply decide_eq_true; omega) | (apply decide_eq_false; omega) | rfl))
    | (apply r_add; rfl; rfl; rfl; omega)
    | (apply r_not; rfl; rfl)
    | (apply r_pickT; rfl)
    | (apply r_pickF; rfl)
    | (apply r_lenD; rfl)
    | (apply r_lenL; rfl)
    | (apply r_len0; rfl)
    | (apply r_gT; rfl)
    | (apply r_gF'; rfl; rfl)
    | (apply r_gN'; rfl)
    | ((apply r_gS (o := default); rfl) <;> (intro h; try simp only [decide_eq_true_eq, decide_eq_false_iff_not, Bool.not_eq_true, Bool.not_eq_false] at h))
    | (apply r_alloc; ((conv => lhs; simp only [Nat.reduceAdd]) <;> rfl); rfl)
    | (apply r_stL; rfl; rfl; rfl; rfl; (first | rfl | (simp only [z_nil, z_add] <;> rfl)); rfl; rfl)
    | (apply r_p; rfl)
    | (apply r_nilK)
    | (apply r_nil)
    | (apply k_V; rfl)
    | (apply k_P; rfl)
    | (apply k_PL; rfl)
    | (apply k_S; rfl)
    | (apply k_SL; rfl)
    | (apply k_A; rfl)
    | (apply k_T; rfl)
    | (apply k_F; rfl)
    | (apply k_D; rfl; rotate_left; rfl)
    | (apply k_nil)
    | (apply e_ret (vs := [.d (.val _)]); rfl)
    | (apply e_ret; rfl)
    | (apply e_ret' (vs := [.d (.val _)]); rfl)
    | (apply e_ret'; rfl)
    | (apply w_seq)
    | (apply w_ops; ((conv => lhs; simp only [Nat.reduceAdd]) <;> rfl))
    | (apply w_condT; rfl)
    | (apply w_condF; rfl)
    | ((apply w_condS; rfl) <;> (intro h; try simp only [decide_eq_true_eq, decide_eq_false_iff_not, Bool.not_eq_true, Bool.not_eq_false] at h))
    | (apply e_thenN)
    | (apply w_block)
    | (apply e_thenR)
    | (apply e_thenX)
    | (apply e_blkN)
    | (apply e_blkR)
    | (apply e_blkE)
    | (apply w_exit)
    | (apply w_ret)
    | (apply w_skip)
    | (apply e_blkE'; rfl))
          apply e_thenK; apply fin
          dsimp only
          refine Wk.f (wkM [(51, 128)] [] rfl ?_ ?_ rfl ?_)
          · intro p hp; simp only [List.mem_cons, List.not_mem_nil, or_false] at hp; rcases hp with rfl | rfl | rfl <;> first | exact ⟨by omega, .inr ⟨rfl, _, rfl, .data rfl⟩⟩ | exact ⟨by omega, .inr ⟨rfl, _, rfl, .data (isD_encL _)⟩⟩
          · intro q hq; simp only [List.mem_cons, List.not_mem_nil, or_false] at hq; rcases hq with rfl | rfl <;> rfl
          · simp only [List.length_append, List.length_cons, List.length_nil]
            repeat' (first
    | exact FWk.nil
    | (apply FWk.i; rfl; (first | rfl | omega | (simp; done)))
    | (apply FWk.sl; rfl; rfl; rfl; rfl; omega; rfl)
    | (apply FWk.ptr; rfl; rfl; rfl; omega; rfl)
    | (apply FWk.d; rfl; rfl)
    | (apply FWk.a; rfl; rfl; rfl)
    | (apply FWk.slN; rfl; omega; rfl))
        | x :: r, hlen, h104, fin =>
          simp only [List.length_cons] at h104 hlen ⊢
          have hcr : ∀ C : Heap, C 51 = some ((encL (x :: r)).map AV.d) → C 103 = some ((encN (T.node k a b c d mn mx subs)).map AV.d) → convAs C (fun _ => false) [.slL 51 0 (r.length + 1) 8, .fnL 111 [.ptrL 103 0]] = some ([.d (.sl (encL (x :: r)) (r.length + 1)), .d (.fn 111 [.ptr (encN (T.node k a b c d mn mx subs)) 0])], [51] ++ ([103] ++ [])) := by
            intro C h1 h2
            have h3 := conv_rowA (ex := fun _ => false) h1 (by simp) rfl (m := r.length + 1)
            have h4 : convA C (fun _ => false) (.fnL 111 [.ptrL 103 0]) = some (.d (.fn 111 [.ptr (encN (T.node k a b c d mn mx subs)) 0]), [103]) := by
              have h5 : mapO (convC C (fun _ => false) 7) ((encN (T.node k a b c d mn mx subs)).map AV.d) = some (encN (T.node k a b c d mn mx subs), []) := rfl
              simp only [convA, convC, mapO, h2, Option.bind_some, h5, Option.map_some]
              rfl
            rw [if_neg (by omega)] at h3
            simp only [convAs, h3, h4, Option.bind_some, Option.map_some]
          repeat' (first
    | (apply r_mvV; rfl)
    | (apply r_mvP; rfl)
    | (apply r_mvPL; rfl)
    | (apply r_mvS; rfl)
    | (apply r_mvSL; rfl)
    | (apply r_mvA; rfl)
    | (apply r_mvT; rfl)
    | (apply r_mvF; rfl)
    | (apply r_mvD; rfl)
    | (apply r_faddD; rfl)
    | (apply r_faddL; rfl)
    | (apply r_ixN (j := i) (b := 50); rfl; rfl; rfl; omega)
    | (apply r_ldN (t := (T.node k a b c d mn mx subs)); rfl; rfl; exact hs)
    | (apply r_ldL (v := .agg [.i k, .d (.val (.int .u64 a)), .d (.val (.int .u64 b)), .d (.val (.int .u64 c)), .d (.val (.int .u64 d)), .i mn, .i mx, .d (.sl (encL subs) subs.length)]); rfl; rfl; rfl)
    | (apply r_callA (ags := [.agg [.i k, .d (.val (.int .u64 a)), .d (.val (.int .u64 b)), .d (.val (.int .u64 c)), .d (.val (.int .u64 d)), .i mn, .i mx, .d (.sl (encL subs) subs.length)]]); rfl; rfl; exact hn)
    | (apply r_p (v := .fnL 111 [.ptrL 103 0]); rfl)
    | (apply r_call (bs := [.d (.sl (encL (x :: r)) (r.length + 1)), .d (.fn 111 [.ptr (encN (T.node k a b c d mn mx subs)) 0])]) (us := [51] ++ ([103] ++ [])); rfl; exact hcr _ rfl rfl; exact h104; rfl)
    | (apply r_ldL (v := nodeA (T.node k a b c d mn mx subs)); rfl; rfl; rfl)
    | (apply r_mkN (t := (T.node k a b c d mn mx subs)) (id := 127); rfl; rfl)
    | (apply r_appE (b := 51) (c := 127) (id := 128) (K := x :: r) (L := [(T.node k a b c d mn mx subs)]) (m := r.length + 1) (j := 1); rfl; rfl; rfl; rfl; rfl; rfl; rfl; rfl; omega)
    | (apply r_ldL; rfl; rfl; rfl)
    | (apply r_eql; rfl; rfl; (first | (apply decide_eq_true; omega) | (apply decide_eq_false; omega) | rfl))
    | (apply r_lss; rfl; rfl; (first | (apply decide_eq_true; omega) | (apply decide_eq_false; omega) | rfl))
    | (apply r_geq; rfl; rfl; (first | (apply decide_eq_true; omega) | (apply decide_eq_false; omega) | rfl))
    | (apply r_add; rfl; rfl; rfl; omega)
    | (apply r_not; rfl; rfl)
    | (apply r_pickT; rfl)
    | (apply r_pickF; rfl)
    | (apply r_lenD; rfl)
    | (apply r_lenL; rfl)
    | (apply r_len0; rfl)
    | (apply r_gT; rfl)
    | (apply r_gF'; rfl; rfl)
    | (apply r_gN'; rfl)
    | ((apply r_gS (o := default); rfl) <;> (intro h; try simp only [decide_eq_true_eq, decide_eq_false_iff_not, Bool.not_eq_true, Bool.not_eq_false] at h))
    | (apply r_alloc; ((conv => lhs; simp only [Nat.reduceAdd]) <;> rfl); rfl)
    | (apply r_stL; rfl; rfl; rfl; rfl; (first | rfl | (simp only [z_nil, z_add] <;> rfl)); rfl; rfl)
    | (apply r_p; rfl)
    | (apply r_nilK)
    | (apply r_nil)
    | (apply k_V; rfl)
    | (apply k_P; rfl)
    | (apply k_PL; rfl)
    | (apply k_S; rfl)
    | (apply k_SL; rfl)
    | (apply k_A; rfl)
    | (apply k_T; rfl)
    | (apply k_F; rfl)
    | (apply k_D; rfl; rotate_left; rfl)
    | (apply k_nil)
    | (apply e_ret (vs := [.d (.val _)]); rfl)
    | (apply e_ret; rfl)
    | (apply e_ret' (vs := [.d (.val _)]); rfl)
    | (apply e_ret'; rfl)
    | (apply w_seq)
    | (apply w_ops; ((conv => lhs; simp only [Nat.reduceAdd]) <;> rfl))
    | (apply w_condT; rfl)
    | (apply w_condF; rfl)
    | ((apply w_condS; rfl) <;> (intro h; try simp only [decide_eq_true_eq, decide_eq_false_iff_not, Bool.not_eq_true, Bool.not_eq_false] at h))
    | (apply e_thenN)
    | (apply w_block)
    | (apply e_thenR)
    | (apply e_thenX)
    | (apply e_blkN)
    | (apply e_blkR)
    | (apply e_blkE)
    | (apply w_exit)
    | (apply w_ret)
    | (apply w_skip)
    | (apply e_blkE'; rfl))
          apply e_thenK; apply fin
          dsimp only
          refine Wk.f (wkM [(51, 128)] [] rfl ?_ ?_ rfl ?_)
          · intro p hp; simp only [List.mem_cons, List.not_mem_nil, or_false] at hp; rcases hp with rfl | rfl | rfl <;> first | exact ⟨by omega, .inr ⟨rfl, _, rfl, .data rfl⟩⟩ | exact ⟨by omega, .inr ⟨rfl, _, rfl, .data (isD_encL _)⟩⟩
          · intro q hq; simp only [List.mem_cons, List.not_mem_nil, or_false] at hq; rcases hq with rfl | rfl <;> rfl
          · simp only [List.length_append, List.length_cons, List.length_nil]
            repeat' (first
    | exact FWk.nil
    | (apply FWk.i; rfl; (first | rfl | omega | (simp; done)))
    | (apply FWk.sl; rfl; rfl; rfl; rfl; omega; rfl)
    | (apply FWk.ptr; rfl; rfl; rfl; omega; rfl)
    | (apply FWk.d; rfl; rfl)
    | (apply FWk.a; rfl; rfl; rfl)
    | (apply FWk.slN; rfl; omega; rfl))
      · have fin := fun fr C Z nx => fin _ fr C Z nx (if_pos rfl)
        match P, hlen, h104, fin, hany with
        | [], _, _, _, hany => simp at hany
        | x :: r, hlen, h104, fin, _ =>
          simp only [List.length_cons] at h104 hlen ⊢
          have hcr : ∀ C : Heap, C 51 = some ((encL (x :: r)).map AV.d) → C 103 = some ((encN (T.node k a b c d mn mx subs)).map AV.d) → convAs C (fun _ => false) [.slL 51 0 (r.length + 1) 8, .fnL 111 [.ptrL 103 0]] = some ([.d (.sl (encL (x :: r)) (r.length + 1)), .d (.fn 111 [.ptr (encN (T.node k a b c d mn mx subs)) 0])], [51] ++ ([103] ++ [])) := by
            intro C h1 h2
            have h3 := conv_rowA (ex := fun _ => false) h1 (by simp) rfl (m := r.length + 1)
            have h4 : convA C (fun _ => false) (.fnL 111 [.ptrL 103 0]) = some (.d (.fn 111 [.ptr (encN (T.node k a b c d mn mx subs)) 0]), [103]) := by
              have h5 : mapO (convC C (fun _ => false) 7) ((encN (T.node k a b c d mn mx subs)).map AV.d) = some (encN (T.node k a b c d mn mx subs), []) := rfl
              simp only [convA, convC, mapO, h2, Option.bind_some, h5, Option.map_some]
              rfl
            rw [if_neg (by omega)] at h3
            simp only [convAs, h3, h4, Option.bind_some, Option.map_some]
          repeat' (first
    | (apply r_mvV; rfl)
    | (apply r_mvP; rfl)
    | (apply r_mvPL; rfl)
    | (apply r_mvS; rfl)
    | (apply r_mvSL; rfl)
    | (apply r_mvA; rfl)
    | (apply r_mvT; rfl)
    | (apply r_mvF; rfl)
    | (apply r_mvD; rfl)
    | (apply r_faddD; rfl)
    | (apply r_faddL; rfl)
    | (apply r_ixN (j := i) (b := 50); rfl; rfl; rfl; omega)
    | (apply r_ldN (t := (T.node k a b c d mn mx subs)); rfl; rfl; exact hs)
    | (apply r_ldL (v := .agg [.i k, .d (.val (.int .u64 a)), .d (.val (.int .u64 b)), .d (.val (.int .u64 c)), .d (.val (.int .u64 d)), .i mn, .i mx, .d (.sl (encL subs) subs.length)]); rfl; rfl; rfl)
    | (apply r_callA (ags := [.agg [.i k, .d (.val (.int .u64 a)), .d (.val (.int .u64 b)), .d (.val (.int .u64 c)), .d (.val (.int .u64 d)), .i mn, .i mx, .d (.sl (encL subs) subs.length)]]); rfl; rfl; exact hn)
    | (apply r_p (v := .fnL 111 [.ptrL 103 0]); rfl)
    | (apply r_call (bs := [.d (.sl (encL (x :: r)) (r.length + 1)), .d (.fn 111 [.ptr (encN (T.node k a b c d mn mx subs)) 0])]) (us := [51] ++ ([103] ++ [])); rfl; exact hcr _ rfl rfl; exact h104; rfl)
    | (apply r_ldL; rfl; rfl; rfl)
    | (apply r_eql; rfl; rfl; (first | (apply decide_eq_true; omega) | (apply decide_eq_false; omega) | rfl))
    | (apply r_lss; rfl; rfl; (first | (apply decide_eq_true; omega) | (apply decide_eq_false; omega) | rfl))
    | (apply r_geq; rfl; rfl; (first | (apply decide_eq_true; omega) | (apply decide_eq_false; omega) | rfl))
    | (apply r_add; rfl; rfl; rfl; omega)
    | (apply r_not; rfl; rfl)
    | (apply r_pickT; rfl)
    | (apply r_pickF; rfl)
    | (apply r_lenD; rfl)
    | (apply r_lenL; rfl)
    | (apply r_len0; rfl)
    | (apply r_gT; rfl)
    | (apply r_gF'; rfl; rfl)
    | (apply r_gN'; rfl)
    | ((apply r_gS (o := default); rfl) <;> (intro h; try simp only [decide_eq_true_eq, decide_eq_false_iff_not, Bool.not_eq_true, Bool.not_eq_false] at h))
    | (apply r_alloc; ((conv => lhs; simp only [Nat.reduceAdd]) <;> rfl); rfl)
    | (apply r_stL; rfl; rfl; rfl; rfl; (first | rfl | (simp only [z_nil, z_add] <;> rfl)); rfl; rfl)
    | (apply r_p; rfl)
    | (apply r_nilK)
    | (apply r_nil)
    | (apply k_V; rfl)
    | (apply k_P; rfl)
    | (apply k_PL; rfl)
    | (apply k_S; rfl)
    | (apply k_SL; rfl)
    | (apply k_A; rfl)
    | (apply k_T; rfl)
    | (apply k_F; rfl)
    | (apply k_D; rfl; rotate_left; rfl)
    | (apply k_nil)
    | (apply e_ret (vs := [.d (.val _)]); rfl)
    | (apply e_ret; rfl)
    | (apply e_ret' (vs := [.d (.val _)]); rfl)
    | (apply e_ret'; rfl)
    | (apply w_seq)
    | (apply w_ops; ((conv => lhs; simp only [Nat.reduceAdd]) <;> rfl))
    | (apply w_condT; rfl)
    | (apply w_condF; rfl)
    | ((apply w_condS; rfl) <;> (intro h; try simp only [decide_eq_true_eq, decide_eq_false_iff_not, Bool.not_eq_true, Bool.not_eq_false] at h))
    | (apply e_thenN)
    | (apply w_block)
    | (apply e_thenR)
    | (apply e_thenX)
    | (apply e_blkN)
    | (apply e_blkR)
    | (apply e_blkE)
    | (apply w_exit)
    | (apply w_ret)
    | (apply w_skip)
    | (apply e_blkE'; rfl))
          apply e_thenK; apply fin
          dsimp only
          refine Wk.f (wkM [] [] rfl ?_ ?_ rfl ?_)
          · intro p hp; simp only [List.mem_cons, List.not_mem_nil, or_false] at hp; rcases hp with rfl | rfl | rfl <;> first | exact ⟨by omega, .inr ⟨rfl, _, rfl, .data rfl⟩⟩ | exact ⟨by omega, .inr ⟨rfl, _, rfl, .data (isD_encL _)⟩⟩
          · intro q hq; simp only [List.mem_cons, List.not_mem_nil, or_false] at hq; rcases hq with rfl | rfl <;> rfl
          · simp only [List.length_cons]
            repeat' (first
    | exact FWk.nil
    | (apply FWk.i; rfl; (first | rfl | omega | (simp; done)))
    | (apply FWk.sl; rfl; rfl; rfl; rfl; omega; rfl)
    | (apply FWk.ptr; rfl; rfl; rfl; omega; rfl)
    | (apply FWk.d; rfl; rfl)
    | (apply FWk.a; rfl; rfl; rfl)
    | (apply FWk.slN; rfl; omega; rfl))
  · have ei : i = F.length := by omega
    subst ei
    rw [List.take_length] at hs0
    rw [← hs0]
    clear hK hge hi hs0 hok hcnt
    have hof := put109_good 4 s.1 noneT (by omega)
    obtain ⟨P, at'⟩ := s
    dsimp only at hof hlen ⊢
    rw [hN] at hof
    generalize ofT 4 P noneT = u at hof
    obtain ⟨k2, a2, b2, c2, d2, mn2, mx2, subs2⟩ := u
    match P, hof with
    | [], hof =>
      simp only [List.length_nil] at hof ⊢
      repeat' (first
    | (apply r_mvV; rfl)
    | (apply r_mvP; rfl)
    | (apply r_mvPL; rfl)
    | (apply r_mvS; rfl)
    | (apply r_mvSL; rfl)
    | (apply r_mvA; rfl)
    | (apply r_mvT; rfl)
    | (apply r_mvF; rfl)
    | (apply r_mvD; rfl)
    | (apply r_faddD; rfl)
    | (apply r_faddL; rfl)
    | (apply r_callA (ags := []); rfl; rfl; exact h106)
    | (apply r_callS2 (pre := [.i 4]) (pre' := [.i 4]) (post := [.agg [.i 2, .d (.val (.int .u64 0)), .d (.val (.int .u64 0)), .d (.val (.int .u64 0)), .d (.val (.int .u64 0)), .i 0, .i 0, .d (.sl [] 0)]]) (post' := [.agg [.i 2, .d (.val (.int .u64 0)), .d (.val (.int .u64 0)), .d (.val (.int .u64 0)), .d (.val (.int .u64 0)), .i 0, .i 0, .d (.sl [] 0)]]) (b := 51) (L := []) (us := []); rfl; rfl; rfl; rfl; rfl; exact hof; rfl)
    | (apply r_ldL (v := .agg [.i k2, .d (.val (.int .u64 a2)), .d (.val (.int .u64 b2)), .d (.val (.int .u64 c2)), .d (.val (.int .u64 d2)), .i mn2, .i mx2, .d (.sl (encL subs2) subs2.length)]); rfl; rfl; rfl)
    | (apply r_ldL; rfl; rfl; rfl)
    | (apply r_eql; rfl; rfl; (first | (apply decide_eq_true; omega) | (apply decide_eq_false; omega) | rfl))
    | (apply r_lss; rfl; rfl; (first | (apply decide_eq_true; omega) | (apply decide_eq_false; omega) | rfl))
    | (apply r_geq; rfl; rfl; (first | (apply decide_eq_true; omega) | (apply decide_eq_false; omega) | rfl))
    | (apply r_add; rfl; rfl; rfl; omega)
    | (apply r_not; rfl; rfl)
    | (apply r_pickT; rfl)
    | (apply r_pickF; rfl)
    | (apply r_lenD; rfl)
    | (apply r_lenL; rfl)
    | (apply r_len0; rfl)
    | (apply r_gT; rfl)
    | (apply r_gF'; rfl; rfl)
    | (apply r_gN'; rfl)
    | ((apply r_gS (o := default); rfl) <;> (intro h; try simp only [decide_eq_true_eq, decide_eq_false_iff_not, Bool.not_eq_true, Bool.not_eq_false] at h))
    | (apply r_alloc; ((conv => lhs; simp only [Nat.reduceAdd]) <;> rfl); rfl)
    | (apply r_stL; rfl; rfl; rfl; rfl; (first | rfl | (simp only [z_nil, z_add] <;> rfl)); rfl; rfl)
    | (apply r_p; rfl)
    | (apply r_nilK)
    | (apply r_nil)
    | (apply k_V; rfl)
    | (apply k_P; rfl)
    | (apply k_PL; rfl)
    | (apply k_S; rfl)
    | (apply k_SL; rfl)
    | (apply k_A; rfl)
    | (apply k_T; rfl)
    | (apply k_F; rfl)
    | (apply k_D; rfl; rotate_left; rfl)
    | (apply k_nil)
    | (apply e_ret (vs := [.d (.val _)]); rfl)
    | (apply e_ret; rfl)
    | (apply e_ret' (vs := [.d (.val _)]); rfl)
    | (apply e_ret'; rfl)
    | (apply w_seq)
    | (apply w_ops; ((conv => lhs; simp only [Nat.reduceAdd]) <;> rfl))
    | (apply w_condT; rfl)
    | (apply w_condF; rfl)
    | ((apply w_condS; rfl) <;> (intro h; try simp only [decide_eq_true_eq, decide_eq_false_iff_not, Bool.not_eq_true, Bool.not_eq_false] at h))
    | (apply e_thenN)
    | (apply w_block)
    | (apply e_thenR)
    | (apply e_thenX)
    | (apply e_blkN)
    | (apply e_blkR)
    | (apply e_blkE)
    | (apply w_exit)
    | (apply w_ret)
    | (apply w_skip)
    | (apply e_blkE'; rfl))
      exact .data _ rfl
    | x :: r, hof =>
      simp only [List.length_cons] at hof ⊢
      repeat' (first
    | (apply r_mvV; rfl)
    | (apply r_mvP; rfl)
    | (apply r_mvPL; rfl)
    | (apply r_mvS; rfl)
    | (apply r_mvSL; rfl)
    | (apply r_mvA; rfl)
    | (apply r_mvT; rfl)
    | (apply r_mvF; rfl)
    | (apply r_mvD; rfl)
    | (apply r_faddD; rfl)
    | (apply r_faddL; rfl)
    | (apply r_callA (ags := []); rfl; rfl; exact h106)
    | (apply r_callS2 (pre := [.i 4]) (pre' := [.i 4]) (post := [.agg [.i 2, .d (.val (.int .u64 0)), .d (.val (.int .u64 0)), .d (.val (.int .u64 0)), .d (.val (.int .u64 0)), .i 0, .i 0, .d (.sl [] 0)]]) (post' := [.agg [.i 2, .d (.val (.int .u64 0)), .d (.val (.int .u64 0)), .d (.val (.int .u64 0)), .d (.val (.int .u64 0)), .i 0, .i 0, .d (.sl [] 0)]]) (b := 51) (L := x :: r) (us := [51]); rfl; rfl; rfl; rfl; rfl; exact hof; rfl)
    | (apply r_ldL (v := .agg [.i k2, .d (.val (.int .u64 a2)), .d (.val (.int .u64 b2)), .d (.val (.int .u64 c2)), .d (.val (.int .u64 d2)), .i mn2, .i mx2, .d (.sl (encL subs2) subs2.length)]); rfl; rfl; rfl)
    | (apply r_ldL; rfl; rfl; rfl)
    | (apply r_eql; rfl; rfl; (first | (apply decide_eq_true; omega) | (apply decide_eq_false; omega) | rfl))
    | (apply r_lss; rfl; rfl; (first | (apply decide_eq_true; omega) | (apply decide_eq_false; omega) | rfl))
    | (apply r_geq; rfl; rfl; (first | (apply decide_eq_true; omega) | (apply decide_eq_false; omega) | rfl))
    | (apply r_add; rfl; rfl; rfl; omega)
    | (apply r_not; rfl; rfl)
    | (apply r_pickT; rfl)
    | (apply r_pickF; rfl)
    | (apply r_lenD; rfl)
    | (apply r_lenL; rfl)
    | (apply r_len0; rfl)
    | (apply r_gT; rfl)
    | (apply r_gF'; rfl; rfl)
    | (apply r_gN'; rfl)
    | ((apply r_gS (o := default); rfl) <;> (intro h; try simp only [decide_eq_true_eq, decide_eq_false_iff_not, Bool.not_eq_true, Bool.not_eq_false] at h))
    | (apply r_alloc; ((conv => lhs; simp only [Nat.reduceAdd]) <;> rfl); rfl)
    | (apply r_stL; rfl; rfl; rfl; rfl; (first | rfl | (simp only [z_nil, z_add] <;> rfl)); rfl; rfl)
    | (apply r_p; rfl)
    | (apply r_nilK)
    | (apply r_nil)
    | (apply k_V; rfl)
    | (apply k_P; rfl)
    | (apply k_PL; rfl)
    | (apply k_S; rfl)
    | (apply k_SL; rfl)
    | (apply k_A; rfl)
    | (apply k_T; rfl)
    | (apply k_F; rfl)
    | (apply k_D; rfl; rotate_left; rfl)
    | (apply k_nil)
    | (apply e_ret (vs := [.d (.val _)]); rfl)
    | (apply e_ret; rfl)
    | (apply e_ret' (vs := [.d (.val _)]); rfl)
    | (apply e_ret'; rfl)
    | (apply w_seq)
    | (apply w_ops; ((conv => lhs; simp only [Nat.reduceAdd]) <;> rfl))
    | (apply w_condT; rfl)
    | (apply w_condF; rfl)
    | ((apply w_condS; rfl) <;> (intro h; try simp only [decide_eq_true_eq, decide_eq_false_iff_not, Bool.not_eq_true, Bool.not_eq_false] at h))
    | (apply e_thenN)
    | (apply w_block)
    | (apply e_thenR)
    | (apply e_thenX)
    | (apply e_blkN)
    | (apply e_blkR)
    | (apply e_blkE)
    | (apply w_exit)
    | (apply w_ret)
    | (apply w_skip)
    | (apply e_blkE'; rfl))
      exact .data _ rfl
end Go.Sv
namespace Go.Sv
open Go Go.Proofs
def x55 : XC := (.seq (.ops 2 [
    (0, ⟨(some 3), none, .box (.t 0)⟩),
    (1, ⟨(some 6), none, .alloc [(.int .i64 0), (.int .u64 0), (.int .u64 0), (.int .u64 0), (.int .u64 0), (.int .i64 0), (.int .i64 0), (.slice none 0 0)]⟩)] (some [1, 2, 3, 6])) (.seq (.block 0 (.seq (.ops 16 [
    (0, ⟨(some 8), none, .mv (.t 2)⟩),
    (1, ⟨(some 9), none, .arith .eql (.t 8) (.k (.d (.val (.int .i64 0))))⟩),
    (2, ⟨(some 10), none, .mv (.t 9)⟩),
    (3, ⟨(some 11), (some (10, false)), .fadd 0 (.t 3)⟩),
    (4, ⟨(some 12), (some (10, false)), .load none (.t 11)⟩),
    (5, ⟨(some 13), (some (10, false)), .arith .eql (.t 12) (.k (.d (.val (.int .i64 1))))⟩),
    (6, ⟨(some 14), none, .pick (.t 10) (.k (.d (.val (.bool true)))) (.t 13)⟩),
    (7, ⟨(some 15), none, .mv (.t 14)⟩),
    (8, ⟨(some 16), (some (15, false)), .load (some 8) (.t 3)⟩),
    (9, ⟨(some 17), (some (15, false)), .call 105 [(.t 16)] none false⟩),
    (10, ⟨(some 18), (some (15, false)), .mv (.t 17)⟩),
    (11, ⟨(some 19), (some (18, true)), .mv (.t 1)⟩),
    (12, ⟨(some 20), (some (18, true)), .arith .eql (.t 19) (.k (.d (.val (.int .i64 0))))⟩),
    (13, ⟨(some 21), (some (15, false)), .pick (.t 18) (.t 20) (.k (.d (.val (.bool false))))⟩),
    (14, ⟨(some 22), none, .pick (.t 15) (.k (.d (.val (.bool true)))) (.t 21)⟩),
    (15, ⟨(some 7), none, .mv (.t 22)⟩)] (some [1, 2, 3, 6, 7])) (.cond (.t 7) (.seq (.ops 2 [
    (0, ⟨(some 23), none, .call 110 [] none false⟩),
    (1, ⟨none, none, .store 8 (.t 6) (.t 23)⟩)] (some [6])) .ret) (.seq (.ops 15 [
    (0, ⟨(some 25), none, .load (some 8) (.t 3)⟩),
    (1, ⟨(some 26), none, .call 105 [(.t 25)] none false⟩),
    (2, ⟨(some 27), none, .mv (.t 26)⟩),
    (3, ⟨(some 28), (some (27, false)), .mv (.t 1)⟩),
    (4, ⟨(some 29), (some (27, false)), .arith .eql (.t 28) (.k (.d (.val (.int .i64 1))))⟩),
    (5, ⟨(some 30), (some (27, false)), .mv (.t 29)⟩),
    (6, ⟨(some 31), (some (30, true)), .mv (.t 2)⟩),
    (7, ⟨(some 32), (some (30, true)), .arith .eql (.t 31) (.k (.d (.val (.int .i64 1))))⟩),
    (8, ⟨(some 33), (some (27, false)), .pick (.t 30) (.t 32) (.k (.d (.val (.bool false))))⟩),
    (9, ⟨(some 34), none, .pick (.t 27) (.k (.d (.val (.bool true)))) (.t 33)⟩),
    (10, ⟨(some 35), none, .mv (.t 34)⟩),
    (11, ⟨(some 36), (some (35, false)), .load (some 8) (.t 3)⟩),
    (12, ⟨(some 37), (some (35, false)), .call 113 [(.t 36)] none false⟩),
    (13, ⟨(some 38), none, .pick (.t 35) (.k (.d (.val (.bool true)))) (.t 37)⟩),
    (14, ⟨(some 24), none, .mv (.t 38)⟩)] (some [1, 2, 3, 6, 24])) (.cond (.t 24) (.seq (.ops 2 [
    (0, ⟨(some 39), none, .load (some 8) (.t 3)⟩),
    (1, ⟨none, none, .store 8 (.t 6) (.t 39)⟩)] (some [6])) .ret) (.seq (.ops 28 [
    (0, ⟨(some 41), none, .mv (.t 1)⟩),
    (1, ⟨(some 42), none, .arith .eql (.t 41) (.k (.d (.val (.int .i64 0))))⟩),
    (2, ⟨(some 43), none, .mv (.t 42)⟩),
    (3, ⟨(some 44), (some (43, true)), .mv (.t 2)⟩),
    (4, ⟨(some 45), (some (43, true)), .arith .eql (.t 44) (.k (.d (.val (.int .i64 (-1)))))⟩),
    (5, ⟨(some 46), none, .pick (.t 43) (.t 45) (.k (.d (.val (.bool false))))⟩),
    (6, ⟨(some 47), none, .mv (.t 46)⟩),
    (7, ⟨(some 48), (some (47, true)), .fadd 0 (.t 3)⟩),
    (8, ⟨(some 49), (some (47, true)), .load none (.t 48)⟩),
    (9, ⟨(some 50), (some (47, true)), .arith .eql (.t 49) (.k (.d (.val (.int .i64 5))))⟩),
    (10, ⟨(some 51), none, .pick (.t 47) (.t 50) (.k (.d (.val (.bool false))))⟩),
    (11, ⟨(some 52), none, .mv (.t 51)⟩),
    (12, ⟨(some 53), (some (52, true)), .fadd 5 (.t 3)⟩),
    (13, ⟨(some 54), (some (52, true)), .load none (.t 53)⟩),
    (14, ⟨(some 55), (some (52, true)), .arith .geq (.t 54) (.k (.d (.val (.int .i64 0))))⟩),
    (15, ⟨(some 56), none, .pick (.t 52) (.t 55) (.k (.d (.val (.bool false))))⟩),
    (16, ⟨(some 57), none, .mv (.t 56)⟩),
    (17, ⟨(some 58), (some (57, true)), .fadd 5 (.t 3)⟩),
    (18, ⟨(some 59), (some (57, true)), .load none (.t 58)⟩),
    (19, ⟨(some 60), (some (57, true)), .arith .leq (.t 59) (.k (.d (.val (.int .i64 1))))⟩),
    (20, ⟨(some 61), none, .pick (.t 57) (.t 60) (.k (.d (.val (.bool false))))⟩),
    (21, ⟨(some 62), none, .mv (.t 61)⟩),
    (22, ⟨(some 63), (some (62, true)), .fadd 7 (.t 3)⟩),
    (23, ⟨(some 64), (some (62, true)), .load none (.t 63)⟩),
    (24, ⟨(some 65), (some (62, true)), .lenS (.t 64)⟩),
    (25, ⟨(some 66), (some (62, true)), .arith .eql (.t 65) (.k (.d (.val (.int .i64 1))))⟩),
    (26, ⟨(some 67), none, .pick (.t 62) (.t 66) (.k (.d (.val (.bool false))))⟩),
    (27, ⟨(some 40), none, .mv (.t 67)⟩)] (some [1, 2, 3, 6, 40])) (.cond (.t 40) (.seq (.ops 8 [
    (0, ⟨(some 68), none, .fadd 7 (.t 3)⟩),
    (1, ⟨(some 69), none, .load none (.t 68)⟩),
    (2, ⟨(some 70), none, .idxS 8 (.t 69) (.k (.d (.val (.int .i64 0))))⟩),
    (3, ⟨(some 71), none, .load (some 8) (.t 70)⟩),
    (4, ⟨(some 72), none, .mv (.t 1)⟩),
    (5, ⟨(some 73), none, .mv (.t 2)⟩),
    (6, ⟨(some 74), none, .call 55 [(.t 71), (.t 72), (.t 73)] none false⟩),
    (7, ⟨none, none, .store 8 (.t 6) (.t 74)⟩)] (some [6])) .ret) .skip))))))) (.seq (.ops 6 [
    (0, ⟨(some 75), none, .mv (.t 1)⟩),
    (1, ⟨(some 76), none, .mv (.t 2)⟩),
    (2, ⟨(some 77), none, .load (some 8) (.t 3)⟩),
    (3, ⟨(some 78), none, .mkrow [(.int .i64 0), (.int .u64 0), (.int .u64 0), (.int .u64 0), (.int .u64 0), (.int .i64 0), (.int .i64 0), (.slice none 0 0)] 1 8 [(0, 8, (.t 77))]⟩),
    (4, ⟨(some 79), none, .build [(.int .i64 0), (.int .u64 0), (.int .u64 0), (.int .u64 0), (.int .u64 0), (.int .i64 0), (.int .i64 0), (.slice none 0 0)] [(0, 1, (.k (.d (.val (.int .i64 5))))), (5, 1, (.t 75)), (6, 1, (.t 76)), (7, 1, (.t 78))]⟩),
    (5, ⟨none, none, .store 8 (.t 6) (.t 79)⟩)] (some [6])) .ret)))
def md55 : FuncId → Option Nat × Bool
  | _ => (none, false)
def od55 : Nat → List (List Nat) × List Nat × Option (List Nat)
  | 0 => ([], [], some [1, 2, 3, 6])
  | 1 => ([], [], some [1, 2, 3, 6, 7])
  | 2 => ([], [], some [6])
  | 3 => ([], [], some [1, 2, 3, 6, 24])
  | 4 => ([], [], some [6])
  | 5 => ([], [], some [1, 2, 3, 6, 40])
  | 6 => ([], [], some [6])
  | 7 => ([], [], some [6])
  | _ => ([], [], none)
theorem b55 {ags : List AV} {row : Option (List DV)} {r : AV} {row' nw : Option (List DV)} (hal : ags.length ≤ 80) (hrow : row'.isSome = true → row.isSome = true) (h : xwp Try.prog x55 (retK [.cell 6 (some 8)] row.isSome r row' nw) (St.init ags row)) : Good Try.prog 55 ags row r row' nw :=
  good_of_body' (md := md55) (od := od55) Try.f55 (by kernel_rfl) (by kernel_rfl) (by kernel_rfl) (by kernel_rfl) (by kernel_rfl) hal hrow h

set_option maxRecDepth 100000
set_option maxHeartbeats 4000000
attribute [local irreducible] W E R KP thenK blockK retK Good xwp aRun
theorem rep55_good : ∀ (n : Nat) (t : T), t.cnt ≤ n → n ≤ 1000000 → ∀ lo hi : Int, inW lo → inW hi → Good Try.prog 55 [nodeA t, .i lo, .i hi] none (nodeA (repS t lo hi)) none none := by
  intro n
  induction n with
  | zero => intro t ht; have := cnt_pos t; omega
  | succ n ih =>
  intro t ht hc lo hi hlo hhi
  have hno := no105_good t
  have hst := star113_good t
  have h110 := empty110_good
  obtain ⟨k, a, b, c, d, mn, mx, subs⟩ := t
  have hsub : ∀ u, subs = [u] → Good Try.prog 55 [nodeA u, .i 0, .i (-1)] none (nodeA (repS u 0 (-1))) none none := by
    rintro u rfl
    refine ih u ?_ (by omega) 0 (-1) (by unfold inW; omega) (by unfold inW; omega)
    simp only [T.cnt, cntL] at ht; omega
  have hlen : subs.length ≤ 1000000 := by
    have := cntL_len subs
    simp only [T.cnt] at ht
    omega
  have e0 : nodeA (.node k a b c d mn mx subs) = .agg [.i k, .d (.val (.int .u64 a)), .d (.val (.int .u64 b)), .d (.val (.int .u64 c)), .d (.val (.int .u64 d)), .i mn, .i mx, .d (.sl (encL subs) subs.length)] := rfl
  clear ih ht
  rw [repS]
  rw [e0] at hno hst ⊢
  have hE : nodeA emptyT = .agg [.i 1, .d (.val (.int .u64 0)), .d (.val (.int .u64 0)), .d (.val (.int .u64 0)), .d (.val (.int .u64 0)), .i 0, .i 0, .d (.sl [] 0)] := rfl
  rw [hE] at h110
  have hS : isStar (.node k a b c d mn mx subs) = (decide (k = 5) && decide (mn = 0) && decide (mx = -1)) := by
    simp only [isStar, T.kind, T.mn, T.mx]; rfl
  generalize isStar (.node k a b c d mn mx subs) = st at hst hS
  generalize hN : isNo (.node k a b c d mn mx subs) = no at hno ⊢
  by_cases h1 : hi = 0 ∨ k = 1 ∨ (no = true ∧ lo = 0)
  · rw [if_pos h1]
    by_cases q1 : hi = 0
    · refine b55 (by simp) (by simp) (w_init ?_)
      unfold x55
      repeat' (first
    | (apply r_mvV; rfl)
    | (apply r_mvP; rfl)
    | (apply r_mvPL; rfl)
    | (apply r_mvS; rfl)
    | (apply r_mvSL; rfl)
    | (apply r_mvA; rfl)
    | (apply r_mvT; rfl)
    | (apply r_mvF; rfl)
    | (apply r_mvD; rfl)
    | (apply r_faddD; rfl)
    | (apply r_faddL; rfl)
    | (apply r_l; apply ld_kind; assumption; rfl)
    | (apply r_l; apply ld_mn; assumption; rfl)
    | (apply r_l; apply ld_mx; assumption; rfl)
    | (apply r_l; apply ld_subs; assumption; rfl)
    | (apply r_l; apply ld_set; assumption; rfl)
    | (apply r_l; apply ld_node; assumption; rfl)
    | (apply r_l; apply ld_kind'; assumption; rfl)
    | (apply r_l; apply ld_mn'; assumption; rfl)
    | (apply r_l; apply ld_mx'; assumption; rfl)
    | (apply r_l; apply ld_subs'; assumption; rfl)
    | (apply r_l; apply ld_node'; assumption; rfl)
    | (apply r_ldL (v := .agg [.i k, .d (.val (.int .u64 a)), .d (.val (.int .u64 b)), .d (.val (.int .u64 c)), .d (.val (.int .u64 d)), .i mn, .i mx, .d (.sl (encL subs) subs.length)]); rfl; rfl; rfl)
    | (apply r_callA (ags := [.agg [.i k, .d (.val (.int .u64 a)), .d (.val (.int .u64 b)), .d (.val (.int .u64 c)), .d (.val (.int .u64 d)), .i mn, .i mx, .d (.sl (encL subs) subs.length)]]); rfl; rfl; exact hno)
    | (apply r_callA (ags := [.agg [.i k, .d (.val (.int .u64 a)), .d (.val (.int .u64 b)), .d (.val (.int .u64 c)), .d (.val (.int .u64 d)), .i mn, .i mx, .d (.sl (encL subs) subs.length)]]); rfl; rfl; exact hst)
    | (apply r_callA (ags := []); rfl; rfl; exact h110)
    | (apply r_ldL (v := .agg [.i 1, .d (.val (.int .u64 0)), .d (.val (.int .u64 0)), .d (.val (.int .u64 0)), .d (.val (.int .u64 0)), .i 0, .i 0, .d (.sl [] 0)]); rfl; rfl; rfl)
    | (apply r_ldL; rfl; rfl; rfl)
    | (apply r_eql; rfl; rfl; (first | (apply decide_eq_true; omega) | (apply decide_eq_false; omega) | rfl))
    | (apply r_leq; rfl; rfl; (first | (apply decide_eq_true; omega) | (apply decide_eq_false; omega) | rfl))
    | (apply r_geq; rfl; rfl; (first | (apply decide_eq_true; omega) | (apply decide_eq_false; omega) | rfl))
    | (apply r_pickT; rfl)
    | (apply r_pickF; rfl)
    | (apply r_lenD; rfl)
    | (apply r_lenL; rfl)
    | (apply r_len0; rfl)
    | (apply r_gT; rfl)
    | (apply r_gF'; rfl; rfl)
    | (apply r_gN'; rfl)
    | ((apply r_gS (o := default); rfl) <;> (intro h; try simp only [decide_eq_true_eq, decide_eq_false_iff_not, Bool.not_eq_true, Bool.not_eq_false] at h))
    | (apply r_alloc; ((conv => lhs; simp only [Nat.reduceAdd]) <;> rfl); rfl)
    | (apply r_box; ((conv => lhs; simp only [Nat.reduceAdd]) <;> rfl); rfl; rfl; rfl)
    | (apply r_stL; rfl; rfl; rfl; rfl; (first | rfl | (simp only [z_nil, z_add] <;> rfl)); rfl; rfl)
    | (apply r_p; rfl)
    | (apply r_nilK)
    | (apply r_nil)
    | (apply k_V; rfl)
    | (apply k_P; rfl)
    | (apply k_PL; rfl)
    | (apply k_S; rfl)
    | (apply k_SL; rfl)
    | (apply k_A; rfl)
    | (apply k_T; rfl)
    | (apply k_F; rfl)
    | (apply k_D; rfl; rotate_left; rfl)
    | (apply k_nil)
    | (apply e_ret (vs := [.d (.val _)]); rfl)
    | (apply e_ret; rfl)
    | (apply e_ret' (vs := [.d (.val _)]); rfl)
    | (apply e_ret'; rfl)
    | (apply w_seq)
    | (apply w_ops; ((conv => lhs; simp only [Nat.reduceAdd]) <;> rfl))
    | (apply w_condT; rfl)
    | (apply w_condF; rfl)
    | ((apply w_condS; rfl) <;> (intro h; try simp only [decide_eq_true_eq, decide_eq_false_iff_not, Bool.not_eq_true, Bool.not_eq_false] at h))
    | (apply e_thenN)
    | (apply w_block)
    | (apply e_thenR)
    | (apply e_thenX)
    | (apply e_blkN)
    | (apply e_blkR)
    | (apply e_blkE)
    | (apply w_exit)
    | (apply w_ret)
    | (apply w_skip)
    | (apply e_blkE'; rfl))
      exact .data _ rfl
    by_cases q2 : k = 1
    · refine b55 (by simp) (by simp) (w_init ?_)
      unfold x55
      repeat' (first
    | (apply r_mvV; rfl)
    | (apply r_mvP; rfl)
    | (apply r_mvPL; rfl)
    | (apply r_mvS; rfl)
    | (apply r_mvSL; rfl)
    | (apply r_mvA; rfl)
    | (apply r_mvT; rfl)
    | (apply r_mvF; rfl)
    | (apply r_mvD; rfl)
    | (apply r_faddD; rfl)
    | (apply r_faddL; rfl)
    | (apply r_l; apply ld_kind; assumption; rfl)
    | (apply r_l; apply ld_mn; assumption; rfl)
    | (apply r_l; apply ld_mx; assumption; rfl)
    | (apply r_l; apply ld_subs; assumption; rfl)
    | (apply r_l; apply ld_set; assumption; rfl)
    | (apply r_l; apply ld_node; assumption; rfl)
    | (apply r_l; apply ld_kind'; assumption; rfl)
    | (apply r_l; apply ld_mn'; assumption; rfl)
    | (apply r_l; apply ld_mx'; assumption; rfl)
    | (apply r_l; apply ld_subs'; assumption; rfl)
    | (apply r_l; apply ld_node'; assumption; rfl)
    | (apply r_ldL (v := .agg [.i k, .d (.val (.int .u64 a)), .d (.val (.int .u64 b)), .d (.val (.int .u64 c)), .d (.val (.int .u64 d)), .i mn, .i mx, .d (.sl (encL subs) subs.length)]); rfl; rfl; rfl)
    | (apply r_callA (ags := [.agg [.i k, .d (.val (.int .u64 a)), .d (.val (.int .u64 b)), .d (.val (.int .u64 c)), .d (.val (.int .u64 d)), .i mn, .i mx, .d (.sl (encL subs) subs.length)]]); rfl; rfl; exact hno)
    | (apply r_callA (ags := [.agg [.i k, .d (.val (.int .u64 a)), .d (.val (.int .u64 b)), .d (.val (.int .u64 c)), .d (.val (.int .u64 d)), .i mn, .i mx, .d (.sl (encL subs) subs.length)]]); rfl; rfl; exact hst)
    | (apply r_callA (ags := []); rfl; rfl; exact h110)
    | (apply r_ldL (v := .agg [.i 1, .d (.val (.int .u64 0)), .d (.val (.int .u64 0)), .d (.val (.int .u64 0)), .d (.val (.int .u64 0)), .i 0, .i 0, .d (.sl [] 0)]); rfl; rfl; rfl)
    | (apply r_ldL; rfl; rfl; rfl)
    | (apply r_eql; rfl; rfl; (first | (apply decide_eq_true; omega) | (apply decide_eq_false; omega) | rfl))
    | (apply r_leq; rfl; rfl; (first | (apply decide_eq_true; omega) | (apply decide_eq_false; omega) | rfl))
    | (apply r_geq; rfl; rfl; (first | (apply decide_eq_true; omega) | (apply decide_eq_false; omega) | rfl))
    | (apply r_pickT; rfl)
    | (apply r_pickF; rfl)
    | (apply r_lenD; rfl)
    | (apply r_lenL; rfl)
    | (apply r_len0; rfl)
    | (apply r_gT; rfl)
    | (apply r_gF'; rfl; rfl)
    | (apply r_gN'; rfl)
    | ((apply r_gS (o := default); rfl) <;> (intro h; try simp only [decide_eq_true_eq, decide_eq_false_iff_not, Bool.not_eq_true, Bool.not_eq_false] at h))
    | (apply r_alloc; ((conv => lhs; simp only [Nat.reduceAdd]) <;> rfl); rfl)
    | (apply r_box; ((conv => lhs; simp only [Nat.reduceAdd]) <;> rfl); rfl; rfl; rfl)
    | (apply r_stL; rfl; rfl; rfl; rfl; (first | rfl | (simp only [z_nil, z_add] <;> rfl)); rfl; rfl)
    | (apply r_p; rfl)
    | (apply r_nilK)
    | (apply r_nil)
    | (apply k_V; rfl)
    | (apply k_P; rfl)
    | (apply k_PL; rfl)
    | (apply k_S; rfl)
    | (apply k_SL; rfl)
    | (apply k_A; rfl)
    | (apply k_T; rfl)
    | (apply k_F; rfl)
    | (apply k_D; rfl; rotate_left; rfl)
    | (apply k_nil)
    | (apply e_ret (vs := [.d (.val _)]); rfl)
    | (apply e_ret; rfl)
    | (apply e_ret' (vs := [.d (.val _)]); rfl)
    | (apply e_ret'; rfl)
    | (apply w_seq)
    | (apply w_ops; ((conv => lhs; simp only [Nat.reduceAdd]) <;> rfl))
    | (apply w_condT; rfl)
    | (apply w_condF; rfl)
    | ((apply w_condS; rfl) <;> (intro h; try simp only [decide_eq_true_eq, decide_eq_false_iff_not, Bool.not_eq_true, Bool.not_eq_false] at h))
    | (apply e_thenN)
    | (apply w_block)
    | (apply e_thenR)
    | (apply e_thenX)
    | (apply e_blkN)
    | (apply e_blkR)
    | (apply e_blkE)
    | (apply w_exit)
    | (apply w_ret)
    | (apply w_skip)
    | (apply e_blkE'; rfl))
      exact .data _ rfl
    have q3 : no = true ∧ lo = 0 := by rcases h1 with h | h | h; exact absurd h q1; exact absurd h q2; exact h
    obtain ⟨rfl, q4⟩ := q3
    refine b55 (by simp) (by simp) (w_init ?_)
    unfold x55
    repeat' (first
    | (apply r_mvV; rfl)
    | (apply r_mvP; rfl)
    | (apply r_mvPL; rfl)
    | (apply r_mvS; rfl)
    | (apply r_mvSL; rfl)
    | (apply r_mvA; rfl)
    | (apply r_mvT; rfl)
    | (apply r_mvF; rfl)
    | (apply r_mvD; rfl)
    | (apply r_faddD; rfl)
    | (apply r_faddL; rfl)
    | (apply r_l; apply ld_kind; assumption; rfl)
    | (apply r_l; apply ld_mn; assumption; rfl)
    | (apply r_l; apply ld_mx; assumption; rfl)
    | (apply r_l; apply ld_subs; assumption; rfl)
    | (apply r_l; apply ld_set; assumption; rfl)
    | (apply r_l; apply ld_node; assumption; rfl)
    | (apply r_l; apply ld_kind'; assumption; rfl)
    | (apply r_l; apply ld_mn'; assumption; rfl)
    | (apply r_l; apply ld_mx'; assumption; rfl)
    | (apply r_l; apply ld_subs'; assumption; rfl)
    | (apply r_l; apply ld_node'; assumption; rfl)
    | (apply r_ldL (v := .agg [.i k, .d (.val (.int .u64 a)), .d (.val (.int .u64 b)), .d (.val (.int .u64 c)), .d (.val (.int .u64 d)), .i mn, .i mx, .d (.sl (encL subs) subs.length)]); rfl; rfl; rfl)
    | (apply r_callA (ags := [.agg [.i k, .d (.val (.int .u64 a)), .d (.val (.int .u64 b)), .d (.val (.int .u64 c)), .d (.val (.int .u64 d)), .i mn, .i mx, .d (.sl (encL subs) subs.length)]]); rfl; rfl; exact hno)
    | (apply r_callA (ags := [.agg [.i k, .d (.val (.int .u64 a)), .d (.val (.int .u64 b)), .d (.val (.int .u64 c)), .d (.val (.int .u64 d)), .i mn, .i mx, .d (.sl (encL subs) subs.length)]]); rfl; rfl; exact hst)
    | (apply r_callA (ags := []); rfl; rfl; exact h110)
    | (apply r_ldL (v := .agg [.i 1, .d (.val (.int .u64 0)), .d (.val (.int .u64 0)), .d (.val (.int .u64 0)), .d (.val (.int .u64 0)), .i 0, .i 0, .d (.sl [] 0)]); rfl; rfl; rfl)
    | (apply r_ldL; rfl; rfl; rfl)
    | (apply r_eql; rfl; rfl; (first | (apply decide_eq_true; omega) | (apply decide_eq_false; omega) | rfl))
    | (apply r_leq; rfl; rfl; (first | (apply decide_eq_true; omega) | (apply decide_eq_false; omega) | rfl))
    | (apply r_geq; rfl; rfl; (first | (apply decide_eq_true; omega) | (apply decide_eq_false; omega) | rfl))
    | (apply r_pickT; rfl)
    | (apply r_pickF; rfl)
    | (apply r_lenD; rfl)
    | (apply r_lenL; rfl)
    | (apply r_len0; rfl)
    | (apply r_gT; rfl)
    | (apply r_gF'; rfl; rfl)
    | (apply r_gN'; rfl)
    | ((apply r_gS (o := default); rfl) <;> (intro h; try simp only [decide_eq_true_eq, decide_eq_false_iff_not, Bool.not_eq_true, Bool.not_eq_false] at h))
    | (apply r_alloc; ((conv => lhs; simp only [Nat.reduceAdd]) <;> rfl); rfl)
    | (apply r_box; ((conv => lhs; simp only [Nat.reduceAdd]) <;> rfl); rfl; rfl; rfl)
    | (apply r_stL; rfl; rfl; rfl; rfl; (first | rfl | (simp only [z_nil, z_add] <;> rfl)); rfl; rfl)
    | (apply r_p; rfl)
    | (apply r_nilK)
    | (apply r_nil)
    | (apply k_V; rfl)
    | (apply k_P; rfl)
    | (apply k_PL; rfl)
    | (apply k_S; rfl)
    | (apply k_SL; rfl)
    | (apply k_A; rfl)
    | (apply k_T; rfl)
    | (apply k_F; rfl)
    | (apply k_D; rfl; rotate_left; rfl)
    | (apply k_nil)
    | (apply e_ret (vs := [.d (.val _)]); rfl)
    | (apply e_ret; rfl)
    | (apply e_ret' (vs := [.d (.val _)]); rfl)
    | (apply e_ret'; rfl)
    | (apply w_seq)
    | (apply w_ops; ((conv => lhs; simp only [Nat.reduceAdd]) <;> rfl))
    | (apply w_condT; rfl)
    | (apply w_condF; rfl)
    | ((apply w_condS; rfl) <;> (intro h; try simp only [decide_eq_true_eq, decide_eq_false_iff_not, Bool.not_eq_true, Bool.not_eq_false] at h))
    | (apply e_thenN)
    | (apply w_block)
    | (apply e_thenR)
    | (apply e_thenX)
    | (apply e_blkN)
    | (apply e_blkR)
    | (apply e_blkE)
    | (apply w_exit)
    | (apply w_ret)
    | (apply w_skip)
    | (apply e_blkE'; rfl))
    exact .data _ rfl
  rw [if_neg h1]
  have q1 : ¬ hi = 0 := fun h => h1 (.inl h)
  have q2 : ¬ k = 1 := fun h => h1 (.inr (.inl h))
  by_cases h2 : no = true ∨ (lo = 1 ∧ hi = 1) ∨ (k = 5 ∧ mn = 0 ∧ mx = -1)
  · rw [if_pos h2, e0]
    rcases Bool.eq_false_or_eq_true no with hq | hq
    · have q3 : ¬ lo = 0 := fun h => h1 (.inr (.inr ⟨hq, h⟩))
      subst hq
      refine b55 (by simp) (by simp) (w_init ?_)
      unfold x55
      repeat' (first
    | (apply r_mvV; rfl)
    | (apply r_mvP; rfl)
    | (apply r_mvPL; rfl)
    | (apply r_mvS; rfl)
    | (apply r_mvSL; rfl)
    | (apply r_mvA; rfl)
    | (apply r_mvT; rfl)
    | (apply r_mvF; rfl)
    | (apply r_mvD; rfl)
    | (apply r_faddD; rfl)
    | (apply r_faddL; rfl)
    | (apply r_l; apply ld_kind; assumption; rfl)
    | (apply r_l; apply ld_mn; assumption; rfl)
    | (apply r_l; apply ld_mx; assumption; rfl)
    | (apply r_l; apply ld_subs; assumption; rfl)
    | (apply r_l; apply ld_set; assumption; rfl)
    | (apply r_l; apply ld_node; assumption; rfl)
    | (apply r_l; apply ld_kind'; assumption; rfl)
    | (apply r_l; apply ld_mn'; assumption; rfl)
    | (apply r_l; apply ld_mx'; assumption; rfl)
    | (apply r_l; apply ld_subs'; assumption; rfl)
    | (apply r_l; apply ld_node'; assumption; rfl)
    | (apply r_ldL (v := .agg [.i k, .d (.val (.int .u64 a)), .d (.val (.int .u64 b)), .d (.val (.int .u64 c)), .d (.val (.int .u64 d)), .i mn, .i mx, .d (.sl (encL subs) subs.length)]); rfl; rfl; rfl)
    | (apply r_callA (ags := [.agg [.i k, .d (.val (.int .u64 a)), .d (.val (.int .u64 b)), .d (.val (.int .u64 c)), .d (.val (.int .u64 d)), .i mn, .i mx, .d (.sl (encL subs) subs.length)]]); rfl; rfl; exact hno)
    | (apply r_callA (ags := [.agg [.i k, .d (.val (.int .u64 a)), .d (.val (.int .u64 b)), .d (.val (.int .u64 c)), .d (.val (.int .u64 d)), .i mn, .i mx, .d (.sl (encL subs) subs.length)]]); rfl; rfl; exact hst)
    | (apply r_callA (ags := []); rfl; rfl; exact h110)
    | (apply r_ldL; rfl; rfl; rfl)
    | (apply r_eql; rfl; rfl; (first | (apply decide_eq_true; omega) | (apply decide_eq_false; omega) | rfl))
    | (apply r_leq; rfl; rfl; (first | (apply decide_eq_true; omega) | (apply decide_eq_false; omega) | rfl))
    | (apply r_geq; rfl; rfl; (first | (apply decide_eq_true; omega) | (apply decide_eq_false; omega) | rfl))
    | (apply r_pickT; rfl)
    | (apply r_pickF; rfl)
    | (apply r_lenD; rfl)
    | (apply r_lenL; rfl)
    | (apply r_len0; rfl)
    | (apply r_gT; rfl)
    | (apply r_gF'; rfl; rfl)
    | (apply r_gN'; rfl)
    | ((apply r_gS (o := default); rfl) <;> (intro h; try simp only [decide_eq_true_eq, decide_eq_false_iff_not, Bool.not_eq_true, Bool.not_eq_false] at h))
    | (apply r_alloc; ((conv => lhs; simp only [Nat.reduceAdd]) <;> rfl); rfl)
    | (apply r_box; ((conv => lhs; simp only [Nat.reduceAdd]) <;> rfl); rfl; rfl; rfl)
    | (apply r_stL; rfl; rfl; rfl; rfl; (first | rfl | (simp only [z_nil, z_add] <;> rfl)); rfl; rfl)
    | (apply r_p; rfl)
    | (apply r_nilK)
    | (apply r_nil)
    | (apply k_V; rfl)
    | (apply k_P; rfl)
    | (apply k_PL; rfl)
    | (apply k_S; rfl)
    | (apply k_SL; rfl)
    | (apply k_A; rfl)
    | (apply k_T; rfl)
    | (apply k_F; rfl)
    | (apply k_D; rfl; rotate_left; rfl)
    | (apply k_nil)
    | (apply e_ret (vs := [.d (.val _)]); rfl)
    | (apply e_ret; rfl)
    | (apply e_ret' (vs := [.d (.val _)]); rfl)
    | (apply e_ret'; rfl)
    | (apply w_seq)
    | (apply w_ops; ((conv => lhs; simp only [Nat.reduceAdd]) <;> rfl))
    | (apply w_condT; rfl)
    | (apply w_condF; rfl)
    | ((apply w_condS; rfl) <;> (intro h; try simp only [decide_eq_true_eq, decide_eq_false_iff_not, Bool.not_eq_true, Bool.not_eq_false] at h))
    | (apply e_thenN)
    | (apply w_block)
    | (apply e_thenR)
    | (apply e_thenX)
    | (apply e_blkN)
    | (apply e_blkR)
    | (apply e_blkE)
    | (apply w_exit)
    | (apply w_ret)
    | (apply w_skip)
    | (apply e_blkE'; rfl))
      exact .data _ rfl
    subst hq
    by_cases h3 : lo = 1 ∧ hi = 1
    · obtain ⟨h4, h5⟩ := h3
      refine b55 (by simp) (by simp) (w_init ?_)
      unfold x55
      repeat' (first
    | (apply r_mvV; rfl)
    | (apply r_mvP; rfl)
    | (apply r_mvPL; rfl)
    | (apply r_mvS; rfl)
    | (apply r_mvSL; rfl)
    | (apply r_mvA; rfl)
    | (apply r_mvT; rfl)
    | (apply r_mvF; rfl)
    | (apply r_mvD; rfl)
    | (apply r_faddD; rfl)
    | (apply r_faddL; rfl)
    | (apply r_l; apply ld_kind; assumption; rfl)
    | (apply r_l; apply ld_mn; assumption; rfl)
    | (apply r_l; apply ld_mx; assumption; rfl)
    | (apply r_l; apply ld_subs; assumption; rfl)
    | (apply r_l; apply ld_set; assumption; rfl)
    | (apply r_l; apply ld_node; assumption; rfl)
    | (apply r_l; apply ld_kind'; assumption; rfl)
    | (apply r_l; apply ld_mn'; assumption; rfl)
    | (apply r_l; apply ld_mx'; assumption; rfl)
    | (apply r_l; apply ld_subs'; assumption; rfl)
    | (apply r_l; apply ld_node'; assumption; rfl)
    | (apply r_ldL (v := .agg [.i k, .d (.val (.int .u64 a)), .d (.val (.int .u64 b)), .d (.val (.int .u64 c)), .d (.val (.int .u64 d)), .i mn, .i mx, .d (.sl (encL subs) subs.length)]); rfl; rfl; rfl)
    | (apply r_callA (ags := [.agg [.i k, .d (.val (.int .u64 a)), .d (.val (.int .u64 b)), .d (.val (.int .u64 c)), .d (.val (.int .u64 d)), .i mn, .i mx, .d (.sl (encL subs) subs.length)]]); rfl; rfl; exact hno)
    | (apply r_callA (ags := [.agg [.i k, .d (.val (.int .u64 a)), .d (.val (.int .u64 b)), .d (.val (.int .u64 c)), .d (.val (.int .u64 d)), .i mn, .i mx, .d (.sl (encL subs) subs.length)]]); rfl; rfl; exact hst)
    | (apply r_callA (ags := []); rfl; rfl; exact h110)
    | (apply r_ldL; rfl; rfl; rfl)
    | (apply r_eql; rfl; rfl; (first | (apply decide_eq_true; omega) | (apply decide_eq_false; omega) | rfl))
    | (apply r_leq; rfl; rfl; (first | (apply decide_eq_true; omega) | (apply decide_eq_false; omega) | rfl))
    | (apply r_geq; rfl; rfl; (first | (apply decide_eq_true; omega) | (apply decide_eq_false; omega) | rfl))
    | (apply r_pickT; rfl)
    | (apply r_pickF; rfl)
    | (apply r_lenD; rfl)
    | (apply r_lenL; rfl)
    | (apply r_len0; rfl)
    | (apply r_gT; rfl)
    | (apply r_gF'; rfl; rfl)
    | (apply r_gN'; rfl)
    | ((apply r_gS (o := default); rfl) <;> (intro h; try simp only [decide_eq_true_eq, decide_eq_false_iff_not, Bool.not_eq_true, Bool.not_eq_false] at h))
    | (apply r_alloc; ((conv => lhs; simp only [Nat.reduceAdd]) <;> rfl); rfl)
    | (apply r_box; ((conv => lhs; simp only [Nat.reduceAdd]) <;> rfl); rfl; rfl; rfl)
    | (apply r_stL; rfl; rfl; rfl; rfl; (first | rfl | (simp only [z_nil, z_add] <;> rfl)); rfl; rfl)
    | (apply r_p; rfl)
    | (apply r_nilK)
    | (apply r_nil)
    | (apply k_V; rfl)
    | (apply k_P; rfl)
    | (apply k_PL; rfl)
    | (apply k_S; rfl)
    | (apply k_SL; rfl)
    | (apply k_A; rfl)
    | (apply k_T; rfl)
    | (apply k_F; rfl)
    | (apply k_D; rfl; rotate_left; rfl)
    | (apply k_nil)
    | (apply e_ret (vs := [.d (.val _)]); rfl)
    | (apply e_ret; rfl)
    | (apply e_ret' (vs := [.d (.val _)]); rfl)
    | (apply e_ret'; rfl)
    | (apply w_seq)
    | (apply w_ops; ((conv => lhs; simp only [Nat.reduceAdd]) <;> rfl))
    | (apply w_condT; rfl)
    | (apply w_condF; rfl)
    | ((apply w_condS; rfl) <;> (intro h; try simp only [decide_eq_true_eq, decide_eq_false_iff_not, Bool.not_eq_true, Bool.not_eq_false] at h))
    | (apply e_thenN)
    | (apply w_block)
    | (apply e_thenR)
    | (apply e_thenX)
    | (apply e_blkN)
    | (apply e_blkR)
    | (apply e_blkE)
    | (apply w_exit)
    | (apply w_ret)
    | (apply w_skip)
    | (apply e_blkE'; rfl))
      exact .data _ rfl
    obtain ⟨h4, h5, h6⟩ : k = 5 ∧ mn = 0 ∧ mx = -1 := by rcases h2 with h | h | h; cases h; exact absurd h h3; exact h
    have hs1 : st = true := by rw [hS]; simp [h4, h5, h6]
    subst hs1
    by_cases h7 : lo = 1
    · have h8 : ¬ hi = 1 := fun h => h3 ⟨h7, h⟩
      refine b55 (by simp) (by simp) (w_init ?_)
      unfold x55
      repeat' (first
    | (apply r_mvV; rfl)
    | (apply r_mvP; rfl)
    | (apply r_mvPL; rfl)
    | (apply r_mvS; rfl)
    | (apply r_mvSL; rfl)
    | (apply r_mvA; rfl)
    | (apply r_mvT; rfl)
    | (apply r_mvF; rfl)
    | (apply r_mvD; rfl)
    | (apply r_faddD; rfl)
    | (apply r_faddL; rfl)
    | (apply r_l; apply ld_kind; assumption; rfl)
    | (apply r_l; apply ld_mn; assumption; rfl)
    | (apply r_l; apply ld_mx; assumption; rfl)
    | (apply r_l; apply ld_subs; assumption; rfl)
    | (apply r_l; apply ld_set; assumption; rfl)
    | (apply r_l; apply ld_node; assumption; rfl)
    | (apply r_l; apply ld_kind'; assumption; rfl)
    | (apply r_l; apply ld_mn'; assumption; rfl)
    | (apply r_l; apply ld_mx'; assumption; rfl)
    | (apply r_l; apply ld_subs'; assumption; rfl)
    | (apply r_l; apply ld_node'; assumption; rfl)
    | (apply r_ldL (v := .agg [.i k, .d (.val (.int .u64 a)), .d (.val (.int .u64 b)), .d (.val (.int .u64 c)), .d (.val (.int .u64 d)), .i mn, .i mx, .d (.sl (encL subs) subs.length)]); rfl; rfl; rfl)
    | (apply r_callA (ags := [.agg [.i k, .d (.val (.int .u64 a)), .d (.val (.int .u64 b)), .d (.val (.int .u64 c)), .d (.val (.int .u64 d)), .i mn, .i mx, .d (.sl (encL subs) subs.length)]]); rfl; rfl; exact hno)
    | (apply r_callA (ags := [.agg [.i k, .d (.val (.int .u64 a)), .d (.val (.int .u64 b)), .d (.val (.int .u64 c)), .d (.val (.int .u64 d)), .i mn, .i mx, .d (.sl (encL subs) subs.length)]]); rfl; rfl; exact hst)
    | (apply r_callA (ags := []); rfl; rfl; exact h110)
    | (apply r_ldL; rfl; rfl; rfl)
    | (apply r_eql; rfl; rfl; (first | (apply decide_eq_true; omega) | (apply decide_eq_false; omega) | rfl))
    | (apply r_leq; rfl; rfl; (first | (apply decide_eq_true; omega) | (apply decide_eq_false; omega) | rfl))
    | (apply r_geq; rfl; rfl; (first | (apply decide_eq_true; omega) | (apply decide_eq_false; omega) | rfl))
    | (apply r_pickT; rfl)
    | (apply r_pickF; rfl)
    | (apply r_lenD; rfl)
    | (apply r_lenL; rfl)
    | (apply r_len0; rfl)
    | (apply r_gT; rfl)
    | (apply r_gF'; rfl; rfl)
    | (apply r_gN'; rfl)
    | ((apply r_gS (o := default); rfl) <;> (intro h; try simp only [decide_eq_true_eq, decide_eq_false_iff_not, Bool.not_eq_true, Bool.not_eq_false] at h))
    | (apply r_alloc; ((conv => lhs; simp only [Nat.reduceAdd]) <;> rfl); rfl)
    | (apply r_box; ((conv => lhs; simp only [Nat.reduceAdd]) <;> rfl); rfl; rfl; rfl)
    | (apply r_stL; rfl; rfl; rfl; rfl; (first | rfl | (simp only [z_nil, z_add] <;> rfl)); rfl; rfl)
    | (apply r_p; rfl)
    | (apply r_nilK)
    | (apply r_nil)
    | (apply k_V; rfl)
    | (apply k_P; rfl)
    | (apply k_PL; rfl)
    | (apply k_S; rfl)
    | (apply k_SL; rfl)
    | (apply k_A; rfl)
    | (apply k_T; rfl)
    | (apply k_F; rfl)
    | (apply k_D; rfl; rotate_left; rfl)
    | (apply k_nil)
    | (apply e_ret (vs := [.d (.val _)]); rfl)
    | (apply e_ret; rfl)
    | (apply e_ret' (vs := [.d (.val _)]); rfl)
    | (apply e_ret'; rfl)
    | (apply w_seq)
    | (apply w_ops; ((conv => lhs; simp only [Nat.reduceAdd]) <;> rfl))
    | (apply w_condT; rfl)
    | (apply w_condF; rfl)
    | ((apply w_condS; rfl) <;> (intro h; try simp only [decide_eq_true_eq, decide_eq_false_iff_not, Bool.not_eq_true, Bool.not_eq_false] at h))
    | (apply e_thenN)
    | (apply w_block)
    | (apply e_thenR)
    | (apply e_thenX)
    | (apply e_blkN)
    | (apply e_blkR)
    | (apply e_blkE)
    | (apply w_exit)
    | (apply w_ret)
    | (apply w_skip)
    | (apply e_blkE'; rfl))
      exact .data _ rfl
    · refine b55 (by simp) (by simp) (w_init ?_)
      unfold x55
      repeat' (first
    | (apply r_mvV; rfl)
    | (apply r_mvP; rfl)
    | (apply r_mvPL; rfl)
    | (apply r_mvS; rfl)
    | (apply r_mvSL; rfl)
    | (apply r_mvA; rfl)
    | (apply r_mvT; rfl)
    | (apply r_mvF; rfl)
    | (apply r_mvD; rfl)
    | (apply r_faddD; rfl)
    | (apply r_faddL; rfl)
    | (apply r_l; apply ld_kind; assumption; rfl)
    | (apply r_l; apply ld_mn; assumption; rfl)
    | (apply r_l; apply ld_mx; assumption; rfl)
    | (apply r_l; apply ld_subs; assumption; rfl)
    | (apply r_l; apply ld_set; assumption; rfl)
    | (apply r_l; apply ld_node; assumption; rfl)
    | (apply r_l; apply ld_kind'; assumption; rfl)
    | (apply r_l; apply ld_mn'; assumption; rfl)
    | (apply r_l; apply ld_mx'; assumption; rfl)
    | (apply r_l; apply ld_subs'; assumption; rfl)
    | (apply r_l; apply ld_node'; assumption; rfl)
    | (apply r_ldL (v := .agg [.i k, .d (.val (.int .u64 a)), .d (.val (.int .u64 b)), .d (.val (.int .u64 c)), .d (.val (.int .u64 d)), .i mn, .i mx, .d (.sl (encL subs) subs.length)]); rfl; rfl; rfl)
    | (apply r_callA (ags := [.agg [.i k, .d (.val (.int .u64 a)), .d (.val (.int .u64 b)), .d (.val (.int .u64 c)), .d (.val (.int .u64 d)), .i mn, .i mx, .d (.sl (encL subs) subs.length)]]); rfl; rfl; exact hno)
    | (apply r_callA (ags := [.agg [.i k, .d (.val (.int .u64 a)), .d (.val (.int .u64 b)), .d (.val (.int .u64 c)), .d (.val (.int .u64 d)), .i mn, .i mx, .d (.sl (encL subs) subs.length)]]); rfl; rfl; exact hst)
    | (apply r_callA (ags := []); rfl; rfl; exact h110)
    | (apply r_ldL; rfl; rfl; rfl)
    | (apply r_eql; rfl; rfl; (first | (apply decide_eq_true; omega) | (apply decide_eq_false; omega) | rfl))
    | (apply r_leq; rfl; rfl; (first | (apply decide_eq_true; omega) | (apply decide_eq_false; omega) | rfl))
    | (apply r_geq; rfl; rfl; (first | (apply decide_eq_true; omega) | (apply decide_eq_false; omega) | rfl))
    | (apply r_pickT; rfl)
    | (apply r_pickF; rfl)
    | (apply r_lenD; rfl)
    | (apply r_lenL; rfl)
    | (apply r_len0; rfl)
    | (apply r_gT; rfl)
    | (apply r_gF'; rfl; rfl)
    | (apply r_gN'; rfl)
    | ((apply r_gS (o := default); rfl) <;> (intro h; try simp only [decide_eq_true_eq, decide_eq_false_iff_not, Bool.not_eq_true, Bool.not_eq_false] at h))
    | (apply r_alloc; ((conv => lhs; simp only [Nat.reduceAdd]) <;> rfl); rfl)
    | (apply r_box; ((conv => lhs; simp only [Nat.reduceAdd]) <;> rfl); rfl; rfl; rfl)
    | (apply r_stL; rfl; rfl; rfl; rfl; (first | rfl | (simp only [z_nil, z_add] <;> rfl)); rfl; rfl)
    | (apply r_p; rfl)
    | (apply r_nilK)
    | (apply r_nil)
    | (apply k_V; rfl)
    | (apply k_P; rfl)
    | (apply k_PL; rfl)
    | (apply k_S; rfl)
    | (apply k_SL; rfl)
    | (apply k_A; rfl)
    | (apply k_T; rfl)
    | (apply k_F; rfl)
    | (apply k_D; rfl; rotate_left; rfl)
    | (apply k_nil)
    | (apply e_ret (vs := [.d (.val _)]); rfl)
    | (apply e_ret; rfl)
    | (apply e_ret' (vs := [.d (.val _)]); rfl)
    | (apply e_ret'; rfl)
    | (apply w_seq)
    | (apply w_ops; ((conv => lhs; simp only [Nat.reduceAdd]) <;> rfl))
    | (apply w_condT; rfl)
    | (apply w_condF; rfl)
    | ((apply w_condS; rfl) <;> (intro h; try simp only [decide_eq_true_eq, decide_eq_false_iff_not, Bool.not_eq_true, Bool.not_eq_false] at h))
    | (apply e_thenN)
    | (apply w_block)
    | (apply e_thenR)
    | (apply e_thenX)
    | (apply e_blkN)
    | (apply e_blkR)
    | (apply e_blkE)
    | (apply w_exit)
    | (apply w_ret)
    | (apply w_skip)
    | (apply e_blkE'; rfl))
      exact .data _ rfl
  rw [if_neg h2]
  have hq : no = false := by
    cases no with
    | false => rfl
    | true => exact absurd (.inl rfl) h2
  subst hq
  have h4 : ¬ (lo = 1 ∧ hi = 1) := fun h => h2 (.inr (.inl h))
  have h5 : ¬ (k = 5 ∧ mn = 0 ∧ mx = -1) := fun h => h2 (.inr (.inr h))
  clear h1 h2
  have hs0 : st = false := by
    rw [hS]
    by_cases g1 : k = 5
    · by_cases g2 : mn = 0
      · have g3 : ¬ mx = -1 := fun h => h5 ⟨g1, g2, h⟩
        simp [g3]
      · simp [g2]
    · simp [g1]
  subst hs0
  by_cases h3 : lo = 0 ∧ hi = -1 ∧ k = 5 ∧ mn ≤ 1 ∧ 0 ≤ mn ∧ subs.length = 1
  · obtain ⟨g1, g2, g3, g4, g5, hl⟩ := h3
    rw [if_pos ⟨g1, g2, g3, g4, g5⟩]
    obtain ⟨u, hu⟩ : ∃ u, subs = [u] := by
      match subs, hl with
      | [u], _ => exact ⟨u, rfl⟩
    have hsu : Good Try.prog 55 [nodeA u, .i lo, .i hi] none (nodeA (repS u 0 (-1))) none none := by rw [g1, g2]; exact hsub u hu
    have er : repF subs (.node k a b c d mn mx subs) = repS u 0 (-1) := by rw [hu, repF_one]
    rw [er]
    have hs : NodeAt (encL subs) 0 u := by rw [hu]; exact NodeAt.sub (l := [u]) (i := 0) (by simp)
    have hna : [nodeA u, .i lo, .i hi].all AV.nrm = true := by rw [List.all_cons, nodeA_nrm]; rfl
    generalize repS u 0 (-1) = v at hsu
    clear er hu hsub
    obtain ⟨k2, a2, b2, c2, d2, mn2, mx2, subs2⟩ := v
    by_cases h7 : mn = 0
    · have h8 : ¬ mx = -1 := fun h => h5 ⟨g3, h7, h⟩
      refine b55 (by simp) (by simp) (w_init ?_)
      unfold x55
      repeat' (first
    | (apply r_mvV; rfl)
    | (apply r_mvP; rfl)
    | (apply r_mvPL; rfl)
    | (apply r_mvS; rfl)
    | (apply r_mvSL; rfl)
    | (apply r_mvA; rfl)
    | (apply r_mvT; rfl)
    | (apply r_mvF; rfl)
    | (apply r_mvD; rfl)
    | (apply r_faddD; rfl)
    | (apply r_faddL; rfl)
    | (apply r_l; apply ld_kind; assumption; rfl)
    | (apply r_l; apply ld_mn; assumption; rfl)
    | (apply r_l; apply ld_mx; assumption; rfl)
    | (apply r_l; apply ld_subs; assumption; rfl)
    | (apply r_l; apply ld_set; assumption; rfl)
    | (apply r_l; apply ld_node; assumption; rfl)
    | (apply r_l; apply ld_kind'; assumption; rfl)
    | (apply r_l; apply ld_mn'; assumption; rfl)
    | (apply r_l; apply ld_mx'; assumption; rfl)
    | (apply r_l; apply ld_subs'; assumption; rfl)
    | (apply r_l; apply ld_node'; assumption; rfl)
    | (apply r_ldL (v := .agg [.i k, .d (.val (.int .u64 a)), .d (.val (.int .u64 b)), .d (.val (.int .u64 c)), .d (.val (.int .u64 d)), .i mn, .i mx, .d (.sl (encL subs) subs.length)]); rfl; rfl; rfl)
    | (apply r_callA (ags := [.agg [.i k, .d (.val (.int .u64 a)), .d (.val (.int .u64 b)), .d (.val (.int .u64 c)), .d (.val (.int .u64 d)), .i mn, .i mx, .d (.sl (encL subs) subs.length)]]); rfl; rfl; exact hno)
    | (apply r_callA (ags := [.agg [.i k, .d (.val (.int .u64 a)), .d (.val (.int .u64 b)), .d (.val (.int .u64 c)), .d (.val (.int .u64 d)), .i mn, .i mx, .d (.sl (encL subs) subs.length)]]); rfl; rfl; exact hst)
    | (apply r_callA (ags := []); rfl; rfl; exact h110)
    | (apply r_p (v := .d (.ptr (encL subs) 0)); exact ix_sub0 rfl rfl (by omega))
    | (apply r_l; apply ld_node'; exact hs; rfl)
    | (apply r_callA (ags := [nodeA u, .i lo, .i hi]); rfl; exact hna; exact hsu)
    | (apply r_ldL (v := .agg [.i k2, .d (.val (.int .u64 a2)), .d (.val (.int .u64 b2)), .d (.val (.int .u64 c2)), .d (.val (.int .u64 d2)), .i mn2, .i mx2, .d (.sl (encL subs2) subs2.length)]); rfl; rfl; rfl)
    | (apply r_ldL; rfl; rfl; rfl)
    | (apply r_eql; rfl; rfl; (first | (apply decide_eq_true; omega) | (apply decide_eq_false; omega) | rfl))
    | (apply r_leq; rfl; rfl; (first | (apply decide_eq_true; omega) | (apply decide_eq_false; omega) | rfl))
    | (apply r_geq; rfl; rfl; (first | (apply decide_eq_true; omega) | (apply decide_eq_false; omega) | rfl))
    | (apply r_pickT; rfl)
    | (apply r_pickF; rfl)
    | (apply r_lenD; rfl)
    | (apply r_lenL; rfl)
    | (apply r_len0; rfl)
    | (apply r_gT; rfl)
    | (apply r_gF'; rfl; rfl)
    | (apply r_gN'; rfl)
    | ((apply r_gS (o := default); rfl) <;> (intro h; try simp only [decide_eq_true_eq, decide_eq_false_iff_not, Bool.not_eq_true, Bool.not_eq_false] at h))
    | (apply r_alloc; ((conv => lhs; simp only [Nat.reduceAdd]) <;> rfl); rfl)
    | (apply r_box; ((conv => lhs; simp only [Nat.reduceAdd]) <;> rfl); rfl; rfl; rfl)
    | (apply r_stL; rfl; rfl; rfl; rfl; (first | rfl | (simp only [z_nil, z_add] <;> rfl)); rfl; rfl)
    | (apply r_p; rfl)
    | (apply r_nilK)
    | (apply r_nil)
    | (apply k_V; rfl)
    | (apply k_P; rfl)
    | (apply k_PL; rfl)
    | (apply k_S; rfl)
    | (apply k_SL; rfl)
    | (apply k_A; rfl)
    | (apply k_T; rfl)
    | (apply k_F; rfl)
    | (apply k_D; rfl; rotate_left; rfl)
    | (apply k_nil)
    | (apply e_ret (vs := [.d (.val _)]); rfl)
    | (apply e_ret; rfl)
    | (apply e_ret' (vs := [.d (.val _)]); rfl)
    | (apply e_ret'; rfl)
    | (apply w_seq)
    | (apply w_ops; ((conv => lhs; simp only [Nat.reduceAdd]) <;> rfl))
    | (apply w_condT; rfl)
    | (apply w_condF; rfl)
    | ((apply w_condS; rfl) <;> (intro h; try simp only [decide_eq_true_eq, decide_eq_false_iff_not, Bool.not_eq_true, Bool.not_eq_false] at h))
    | (apply e_thenN)
    | (apply w_block)
    | (apply e_thenR)
    | (apply e_thenX)
    | (apply e_blkN)
    | (apply e_blkR)
    | (apply e_blkE)
    | (apply w_exit)
    | (apply w_ret)
    | (apply w_skip)
    | (apply e_blkE'; rfl))
      exact .data _ rfl
    · refine b55 (by simp) (by simp) (w_init ?_)
      unfold x55
      repeat' (first
    | (apply r_mvV; rfl)
    | (apply r_mvP; rfl)
    | (apply r_mvPL; rfl)
    | (apply r_mvS; rfl)
    | (apply r_mvSL; rfl)
    | (apply r_mvA; rfl)
    | (apply r_mvT; rfl)
    | (apply r_mvF; rfl)
    | (apply r_mvD; rfl)
    | (apply r_faddD; rfl)
    | (apply r_faddL; rfl)
    | (apply r_l; apply ld_kind; assumption; rfl)
    | (apply r_l; apply ld_mn; assumption; rfl)
    | (apply r_l; apply ld_mx; assumption; rfl)
    | (apply r_l; apply ld_subs; assumption; rfl)
    | (apply r_l; apply ld_set; assumption; rfl)
    | (apply r_l; apply ld_node; assumption; rfl)
    | (apply r_l; apply ld_kind'; assumption; rfl)
    | (apply r_l; apply ld_mn'; assumption; rfl)
    | (apply r_l; apply ld_mx'; assumption; rfl)
    | (apply r_l; apply ld_subs'; assumption; rfl)
    | (apply r_l; apply ld_node'; assumption; rfl)
    | (apply r_ldL (v := .agg [.i k, .d (.val (.int .u64 a)), .d (.val (.int .u64 b)), .d (.val (.int .u64 c)), .d (.val (.int .u64 d)), .i mn, .i mx, .d (.sl (encL subs) subs.length)]); rfl; rfl; rfl)
    | (apply r_callA (ags := [.agg [.i k, .d (.val (.int .u64 a)), .d (.val (.int .u64 b)), .d (.val (.int .u64 c)), .d (.val (.int .u64 d)), .i mn, .i mx, .d (.sl (encL subs) subs.length)]]); rfl; rfl; exact hno)
    | (apply r_callA (ags := [.agg [.i k, .d (.val (.int .u64 a)), .d (.val (.int .u64 b)), .d (.val (.int .u64 c)), .d (.val (.int .u64 d)), .i mn, .i mx, .d (.sl (encL subs) subs.length)]]); rfl; rfl; exact hst)
    | (apply r_callA (ags := []); rfl; rfl; exact h110)
    | (apply r_p (v := .d (.ptr (encL subs) 0)); exact ix_sub0 rfl rfl (by omega))
    | (apply r_l; apply ld_node'; exact hs; rfl)
    | (apply r_callA (ags := [nodeA u, .i lo, .i hi]); rfl; exact hna; exact hsu)
    | (apply r_ldL (v := .agg [.i k2, .d (.val (.int .u64 a2)), .d (.val (.int .u64 b2)), .d (.val (.int .u64 c2)), .d (.val (.int .u64 d2)), .i mn2, .i mx2, .d (.sl (encL subs2) subs2.length)]); rfl; rfl; rfl)
    | (apply r_ldL; rfl; rfl; rfl)
    | (apply r_eql; rfl; rfl; (first | (apply decide_eq_true; omega) | (apply decide_eq_false; omega) | rfl))
    | (apply r_leq; rfl; rfl; (first | (apply decide_eq_true; omega) | (apply decide_eq_false; omega) | rfl))
    | (apply r_geq; rfl; rfl; (first | (apply decide_eq_true; omega) | (apply decide_eq_false; omega) | rfl))
    | (apply r_pickT; rfl)
    | (apply r_pickF; rfl)
    | (apply r_lenD; rfl)
    | (apply r_lenL; rfl)
    | (apply r_len0; rfl)
    | (apply r_gT; rfl)
    | (apply r_gF'; rfl; rfl)
    | (apply r_gN'; rfl)
    | ((apply r_gS (o := default); rfl) <;> (intro h; try simp only [decide_eq_true_eq, decide_eq_false_iff_not, Bool.not_eq_true, Bool.not_eq_false] at h))
    | (apply r_alloc; ((conv => lhs; simp only [Nat.reduceAdd]) <;> rfl); rfl)
    | (apply r_box; ((conv => lhs; simp only [Nat.reduceAdd]) <;> rfl); rfl; rfl; rfl)
    | (apply r_stL; rfl; rfl; rfl; rfl; (first | rfl | (simp only [z_nil, z_add] <;> rfl)); rfl; rfl)
    | (apply r_p; rfl)
    | (apply r_nilK)
    | (apply r_nil)
    | (apply k_V; rfl)
    | (apply k_P; rfl)
    | (apply k_PL; rfl)
    | (apply k_S; rfl)
    | (apply k_SL; rfl)
    | (apply k_A; rfl)
    | (apply k_T; rfl)
    | (apply k_F; rfl)
    | (apply k_D; rfl; rotate_left; rfl)
    | (apply k_nil)
    | (apply e_ret (vs := [.d (.val _)]); rfl)
    | (apply e_ret; rfl)
    | (apply e_ret' (vs := [.d (.val _)]); rfl)
    | (apply e_ret'; rfl)
    | (apply w_seq)
    | (apply w_ops; ((conv => lhs; simp only [Nat.reduceAdd]) <;> rfl))
    | (apply w_condT; rfl)
    | (apply w_condF; rfl)
    | ((apply w_condS; rfl) <;> (intro h; try simp only [decide_eq_true_eq, decide_eq_false_iff_not, Bool.not_eq_true, Bool.not_eq_false] at h))
    | (apply e_thenN)
    | (apply w_block)
    | (apply e_thenR)
    | (apply e_thenX)
    | (apply e_blkN)
    | (apply e_blkR)
    | (apply e_blkE)
    | (apply w_exit)
    | (apply w_ret)
    | (apply w_skip)
    | (apply e_blkE'; rfl))
      exact .data _ rfl
  · have er : (if lo = 0 ∧ hi = -1 ∧ k = 5 ∧ mn ≤ 1 ∧ 0 ≤ mn then repF subs (.node k a b c d mn mx subs) else .node 5 0 0 0 0 lo hi [.node k a b c d mn mx subs]) = repN (.node k a b c d mn mx subs) lo hi := by
      split
      · rename_i g
        rw [repF_two (fun hl => h3 ⟨g.1, g.2.1, g.2.2.1, g.2.2.2.1, g.2.2.2.2, hl⟩), g.1, g.2.1]
      · rfl
    rw [er]
    clear er hsub
    refine b55 (by simp) (by simp) (w_init ?_)
    unfold x55
    repeat' (first
    | (apply r_mvV; rfl)
    | (apply r_mvP; rfl)
    | (apply r_mvPL; rfl)
    | (apply r_mvS; rfl)
    | (apply r_mvSL; rfl)
    | (apply r_mvA; rfl)
    | (apply r_mvT; rfl)
    | (apply r_mvF; rfl)
    | (apply r_mvD; rfl)
    | (apply r_faddD; rfl)
    | (apply r_faddL; rfl)
    | (apply r_l; apply ld_kind; assumption; rfl)
    | (apply r_l; apply ld_mn; assumption; rfl)
    | (apply r_l; apply ld_mx; assumption; rfl)
    | (apply r_l; apply ld_subs; assumption; rfl)
    | (apply r_l; apply ld_set; assumption; rfl)
    | (apply r_l; apply ld_node; assumption; rfl)
    | (apply r_l; apply ld_kind'; assumption; rfl)
    | (apply r_l; apply ld_mn'; assumption; rfl)
    | (apply r_l; apply ld_mx'; assumption; rfl)
    | (apply r_l; apply ld_subs'; assumption; rfl)
    | (apply r_l; apply ld_node'; assumption; rfl)
    | (apply r_ldL (v := .agg [.i k, .d (.val (.int .u64 a)), .d (.val (.int .u64 b)), .d (.val (.int .u64 c)), .d (.val (.int .u64 d)), .i mn, .i mx, .d (.sl (encL subs) subs.length)]); rfl; rfl; rfl)
    | (apply r_callA (ags := [.agg [.i k, .d (.val (.int .u64 a)), .d (.val (.int .u64 b)), .d (.val (.int .u64 c)), .d (.val (.int .u64 d)), .i mn, .i mx, .d (.sl (encL subs) subs.length)]]); rfl; rfl; exact hno)
    | (apply r_callA (ags := [.agg [.i k, .d (.val (.int .u64 a)), .d (.val (.int .u64 b)), .d (.val (.int .u64 c)), .d (.val (.int .u64 d)), .i mn, .i mx, .d (.sl (encL subs) subs.length)]]); rfl; rfl; exact hst)
    | (apply r_callA (ags := []); rfl; rfl; exact h110)
    | (apply r_n (v := .slL 65 0 1 8) (r := [.i k, .d (.val (.int .u64 a)), .d (.val (.int .u64 b)), .d (.val (.int .u64 c)), .d (.val (.int .u64 d)), .i mn, .i mx, .d (.sl (encL subs) subs.length)]); rfl)
    | (apply r_p (v := .agg [.i 5, .d (.val (.int .u64 0)), .d (.val (.int .u64 0)), .d (.val (.int .u64 0)), .d (.val (.int .u64 0)), .i lo, .i hi, .slL 65 0 1 8]); rfl)
    | (apply r_ldL (v := .agg [.i 5, .d (.val (.int .u64 0)), .d (.val (.int .u64 0)), .d (.val (.int .u64 0)), .d (.val (.int .u64 0)), .i lo, .i hi, .slL 65 0 1 8]); rfl; rfl; rfl)
    | (apply r_ldL; rfl; rfl; rfl)
    | (apply r_eql; rfl; rfl; (first | (apply decide_eq_true; omega) | (apply decide_eq_false; omega) | rfl))
    | (apply r_leq; rfl; rfl; (first | (apply decide_eq_true; omega) | (apply decide_eq_false; omega) | rfl))
    | (apply r_geq; rfl; rfl; (first | (apply decide_eq_true; omega) | (apply decide_eq_false; omega) | rfl))
    | (apply r_pickT; rfl)
    | (apply r_pickF; rfl)
    | (apply r_lenD; rfl)
    | (apply r_lenL; rfl)
    | (apply r_len0; rfl)
    | (apply r_gT; rfl)
    | (apply r_gF'; rfl; rfl)
    | (apply r_gN'; rfl)
    | ((apply r_gS (o := default); rfl) <;> (intro h; try simp only [decide_eq_true_eq, decide_eq_false_iff_not, Bool.not_eq_true, Bool.not_eq_false] at h))
    | (apply r_alloc; ((conv => lhs; simp only [Nat.reduceAdd]) <;> rfl); rfl)
    | (apply r_box; ((conv => lhs; simp only [Nat.reduceAdd]) <;> rfl); rfl; rfl; rfl)
    | (apply r_stL; rfl; rfl; rfl; rfl; (first | rfl | (simp only [z_nil, z_add] <;> rfl)); rfl; rfl)
    | (apply r_p; rfl)
    | (apply r_nilK)
    | (apply r_nil)
    | (apply k_V; rfl)
    | (apply k_P; rfl)
    | (apply k_PL; rfl)
    | (apply k_S; rfl)
    | (apply k_SL; rfl)
    | (apply k_A; rfl)
    | (apply k_T; rfl)
    | (apply k_F; rfl)
    | (apply k_D; rfl; rotate_left; rfl)
    | (apply k_nil)
    | (apply e_ret (vs := [.d (.val _)]); rfl)
    | (apply e_ret; rfl)
    | (apply e_ret' (vs := [.d (.val _)]); rfl)
    | (apply e_ret'; rfl)
    | (apply w_seq)
    | (apply w_ops; ((conv => lhs; simp only [Nat.reduceAdd]) <;> rfl))
    | (apply w_condT; rfl)
    | (apply w_condF; rfl)
    | ((apply w_condS; rfl) <;> (intro h; try simp only [decide_eq_true_eq, decide_eq_false_iff_not, Bool.not_eq_true, Bool.not_eq_false] at h))
    | (apply e_thenN)
    | (apply w_block)
    | (apply e_thenR)
    | (apply e_thenX)
    | (apply e_blkN)
    | (apply e_blkR)
    | (apply e_blkE)
    | (apply w_exit)
    | (apply w_ret)
    | (apply w_skip)
    | (apply e_blkE'; rfl))
    all_goals first
      | (exfalso; omega)
      | exact .data _ rfl
end Go.Sv
namespace Go.Sv
open Go Go.Proofs
theorem simL_take (l : List T) (i : Nat) (h : i < l.length) : (simL l).take (i + 1) = (simL l).take i ++ [simT l[i]] := by
  have h2 : i < (simL l).length := by rw [simL_len]; exact h
  rw [List.take_succ_eq_append_getElem h2, simL_get l i h h2]
set_option maxRecDepth 100000
set_option maxHeartbeats 4000000
attribute [local irreducible] W E R KP thenK blockK retK Good xwp aRun
end Go.Sv
namespace Go.Sv
open Go Go.Proofs
def x97 : XC := (.seq (.ops 2 [
    (0, ⟨(some 1), none, .box (.t 0)⟩),
    (1, ⟨(some 2), none, .alloc [(.int .i64 0), (.int .u64 0), (.int .u64 0), (.int .u64 0), (.int .u64 0), (.int .i64 0), (.int .i64 0), (.slice none 0 0)]⟩)] (some [1, 2])) (.seq (.ops 1 [
    (0, ⟨(some 3), none, .mv (.k (.d (.val (.slice none 0 0))))⟩)] (some [1, 2, 3])) (.seq (.seq (.ops 4 [
    (0, ⟨(some 6), none, .fadd 7 (.t 1)⟩),
    (1, ⟨(some 7), none, .load none (.t 6)⟩),
    (2, ⟨(some 8), none, .lenS (.t 7)⟩),
    (3, ⟨(some 9), none, .mv (.k (.d (.val (.int .i64 0))))⟩)] (some [1, 2, 3, 7, 8, 9])) (.block 0 (.loop (.seq (.ops 1 [
    (0, ⟨(some 10), none, .arith .lss (.t 9) (.t 8)⟩)] (some [1, 2, 3, 7, 8, 9, 10])) (.seq (.cond (.t 10) .skip (.exit 0)) (.seq (.block 1 (.seq (.ops 4 [
    (0, ⟨(some 11), none, .idxS 8 (.t 7) (.t 9)⟩),
    (1, ⟨(some 12), none, .load (some 8) (.t 11)⟩),
    (2, ⟨(some 5), none, .alloc [(.int .i64 0), (.int .u64 0), (.int .u64 0), (.int .u64 0), (.int .u64 0), (.int .i64 0), (.int .i64 0), (.slice none 0 0)]⟩),
    (3, ⟨none, none, .store 8 (.t 5) (.t 12)⟩)] (some [1, 2, 3, 5, 7, 8, 9])) (.ops 6 [
    (0, ⟨(some 13), none, .mv (.t 3)⟩),
    (1, ⟨(some 14), none, .load (some 8) (.t 5)⟩),
    (2, ⟨(some 15), none, .call 97 [(.t 14)] none false⟩),
    (3, ⟨(some 16), none, .mkrow [(.int .i64 0), (.int .u64 0), (.int .u64 0), (.int .u64 0), (.int .u64 0), (.int .i64 0), (.int .i64 0), (.slice none 0 0)] 1 8 [(0, 8, (.t 15))]⟩),
    (4, ⟨(some 17), none, .app [(.int .i64 0), (.int .u64 0), (.int .u64 0), (.int .u64 0), (.int .u64 0), (.int .i64 0), (.int .i64 0), (.slice none 0 0)] 80 (.t 13) (.t 16)⟩),
    (5, ⟨(some 3), none, .mv (.t 17)⟩)] (some [1, 2, 3, 7, 8, 9])))) (.ops 2 [
    (0, ⟨(some 18), none, .arith .add (.t 9) (.k (.d (.val (.int .i64 1))))⟩),
    (1, ⟨(some 9), none, .mv (.t 18)⟩)] (some [1, 2, 3, 7, 8, 9])))))))) (.seq (.seq (.ops 2 [
    (0, ⟨(some 19), none, .fadd 0 (.t 1)⟩),
    (1, ⟨(some 20), none, .load none (.t 19)⟩)] (some [1, 2, 3, 20])) (.block 2 (.seq (.ops 2 [
    (0, ⟨(some 22), none, .arith .eql (.t 20) (.k (.d (.val (.int .i64 3))))⟩),
    (1, ⟨(some 21), none, .mv (.t 22)⟩)] (some [1, 2, 3, 20, 21])) (.cond (.t 21) (.seq (.ops 3 [
    (0, ⟨(some 23), none, .mv (.t 3)⟩),
    (1, ⟨(some 24), none, .call 53 [(.t 23)] none false⟩),
    (2, ⟨none, none, .store 8 (.t 2) (.t 24)⟩)] (some [2])) .ret) (.seq (.ops 2 [
    (0, ⟨(some 26), none, .arith .eql (.t 20) (.k (.d (.val (.int .i64 4))))⟩),
    (1, ⟨(some 25), none, .mv (.t 26)⟩)] (some [1, 2, 3, 20, 25])) (.cond (.t 25) (.seq (.ops 3 [
    (0, ⟨(some 27), none, .mv (.t 3)⟩),
    (1, ⟨(some 28), none, .call 54 [(.t 27)] none false⟩),
    (2, ⟨none, none, .store 8 (.t 2) (.t 28)⟩)] (some [2])) .ret) (.seq (.ops 2 [
    (0, ⟨(some 30), none, .arith .eql (.t 20) (.k (.d (.val (.int .i64 5))))⟩),
    (1, ⟨(some 29), none, .mv (.t 30)⟩)] (some [1, 2, 3, 29])) (.cond (.t 29) (.seq (.ops 9 [
    (0, ⟨(some 31), none, .mv (.t 3)⟩),
    (1, ⟨(some 32), none, .idxS 8 (.t 31) (.k (.d (.val (.int .i64 0))))⟩),
    (2, ⟨(some 33), none, .load (some 8) (.t 32)⟩),
    (3, ⟨(some 34), none, .fadd 5 (.t 1)⟩),
    (4, ⟨(some 35), none, .load none (.t 34)⟩),
    (5, ⟨(some 36), none, .fadd 6 (.t 1)⟩),
    (6, ⟨(some 37), none, .load none (.t 36)⟩),
    (7, ⟨(some 38), none, .call 55 [(.t 33), (.t 35), (.t 37)] none false⟩),
    (8, ⟨none, none, .store 8 (.t 2) (.t 38)⟩)] (some [2])) .ret) .skip)))))))) (.seq (.ops 2 [
    (0, ⟨(some 39), none, .load (some 8) (.t 1)⟩),
    (1, ⟨none, none, .store 8 (.t 2) (.t 39)⟩)] (some [2])) .ret)))))
def md97 : FuncId → Option Nat × Bool
  | _ => (none, false)
def od97 : Nat → List (List Nat) × List Nat × Option (List Nat)
  | 0 => ([], [], some [1, 2])
  | 1 => ([], [], some [1, 2, 3])
  | 2 => ([], [], some [1, 2, 3, 7, 8, 9])
  | 3 => ([], [], some [1, 2, 3, 7, 8, 9, 10])
  | 4 => ([], [], some [1, 2, 3, 5, 7, 8, 9])
  | 5 => ([], [], some [1, 2, 3, 7, 8, 9])
  | 6 => ([], [], some [1, 2, 3, 7, 8, 9])
  | 7 => ([], [], some [1, 2, 3, 20])
  | 8 => ([], [], some [1, 2, 3, 20, 21])
  | 9 => ([], [], some [2])
  | 10 => ([], [], some [1, 2, 3, 20, 25])
  | 11 => ([], [], some [2])
  | 12 => ([], [], some [1, 2, 3, 29])
  | 13 => ([[], [0], [0, 1], [], [3], [], [5], [0, 1, 2, 3, 4, 5, 6], [0, 1, 2, 3, 4, 5, 6, 7]], [0, 1, 2, 3, 4, 5, 6, 7, 8], some [2])
  | 14 => ([], [], some [2])
  | _ => ([], [], none)
theorem b97 {ags : List AV} {row : Option (List DV)} {r : AV} {row' nw : Option (List DV)} (hal : ags.length ≤ 40) (hrow : row'.isSome = true → row.isSome = true) (h : xwp Try.prog x97 (retK [.cell 2 (some 8)] row.isSome r row' nw) (St.init ags row)) : Good Try.prog 97 ags row r row' nw :=
  good_of_body' (md := md97) (od := od97) Try.f97 (by kernel_rfl) (by kernel_rfl) (by kernel_rfl) (by kernel_rfl) (by kernel_rfl) hal hrow h

def x46 : XC := (.seq (.ops 3 [
    (0, ⟨(some 1), none, .box (.t 0)⟩),
    (1, ⟨(some 2), none, .alloc [(.int .i64 0), (.int .u64 0), (.int .u64 0), (.int .u64 0), (.int .u64 0), (.int .i64 0), (.int .i64 0), (.slice none 0 0)]⟩),
    (2, ⟨(some 3), none, .mv (.k (.d (.val (.int .i64 0))))⟩)] (some [1, 2])) (.seq (.seq (.ops 3 [
    (0, ⟨(some 4), none, .load (some 8) (.t 1)⟩),
    (1, ⟨(some 5), none, .call 84 [(.t 4)] none false⟩),
    (2, ⟨(some 6), none, .un .not (.t 5)⟩)] (some [1, 2, 6])) (.cond (.t 6) (.seq (.ops 3 [
    (0, ⟨(some 7), none, .build [(.int .i64 0), (.int .u64 0), (.int .u64 0), (.int .u64 0), (.int .u64 0), (.int .i64 0), (.int .i64 0), (.slice none 0 0)] []⟩),
    (1, ⟨none, none, .store 8 (.t 2) (.t 7)⟩),
    (2, ⟨(some 3), none, .mv (.k (.d (.val (.int .i64 1))))⟩)] (some [2, 3])) .ret) .skip)) (.seq (.ops 4 [
    (0, ⟨(some 8), none, .load (some 8) (.t 1)⟩),
    (1, ⟨(some 9), none, .call 97 [(.t 8)] none false⟩),
    (2, ⟨none, none, .store 8 (.t 2) (.t 9)⟩),
    (3, ⟨(some 3), none, .mv (.k (.d (.val (.int .i64 0))))⟩)] (some [2, 3])) .ret)))
def md46 : FuncId → Option Nat × Bool
  | _ => (none, false)
def od46 : Nat → List (List Nat) × List Nat × Option (List Nat)
  | 0 => ([], [], some [1, 2])
  | 1 => ([], [], some [1, 2, 6])
  | 2 => ([], [], some [2, 3])
  | 3 => ([], [], some [2, 3])
  | _ => ([], [], none)
theorem b46 {ags : List AV} {row : Option (List DV)} {r : AV} {row' nw : Option (List DV)} (hal : ags.length ≤ 10) (hrow : row'.isSome = true → row.isSome = true) (h : xwp Try.prog x46 (retK [.cell 2 (some 8), .tmp 3] row.isSome r row' nw) (St.init ags row)) : Good Try.prog 46 ags row r row' nw :=
  good_of_body' (md := md46) (od := od46) Try.f46 (by kernel_rfl) (by kernel_rfl) (by kernel_rfl) (by kernel_rfl) (by kernel_rfl) hal hrow h

set_option maxRecDepth 100000
set_option maxHeartbeats 4000000
attribute [local irreducible] W E R KP thenK blockK retK Good xwp aRun
theorem simple97_good : ∀ (n : Nat) (t : T), t.cnt ≤ n → n ≤ 300000 → okT t → Good Try.prog 97 [nodeA t] none (nodeA (simT t)) none none := by
  intro n
  induction n with
  | zero => intro t ht; have := cnt_pos t; omega
  | succ n ih =>
  intro t ht hc hok
  obtain ⟨k, a, b, c, d, mn, mx, subs⟩ := t
  have hR := okT_R hok
  have hoks := okT_subs hok
  have hpl := okT_plain hok
  have ih' : ∀ i (h : i < subs.length), Good Try.prog 97 [nodeA subs[i]] none (nodeA (simT subs[i])) none none := by
    intro i h
    refine ih _ ?_ (by omega) (okL_get subs i h hoks)
    have := cntL_get subs i h
    simp only [T.cnt] at ht
    omega
  have hlen : subs.length ≤ 300000 := by
    have := cntL_len subs
    simp only [T.cnt] at ht
    omega
  have hcs := simL_cnt subs hoks
  have hso := simL_ok subs hoks
  have hsl := simL_len subs
  have hcc : cntL (simL subs) ≤ 300000 := by simp only [T.cnt] at ht; omega
  have h92 := cat53_good (simL subs) (by omega)
  have h93 := alt54_good (simL subs) (by omega) (fun u hu => okT_S ((okL_iff _).1 (okL_flat 4 hso) u hu))
  have e0 : nodeA (.node k a b c d mn mx subs) = .agg [.i k, .d (.val (.int .u64 a)), .d (.val (.int .u64 b)), .d (.val (.int .u64 c)), .d (.val (.int .u64 d)), .i mn, .i mx, .d (.sl (encL subs) subs.length)] := rfl
  have h94 : ∀ x r, simL subs = x :: r → k = 5 → Good Try.prog 55 [nodeA x, .i mn, .i mx] none (nodeA (repS x mn mx)) none none := by
    intro x r e h5
    have := hR h5
    refine rep55_good 1000000 x ?_ (by omega) mn mx (by unfold inW; omega) (by unfold inW; omega)
    rw [e, cntL] at hcc; omega
  have hk5 : k = 5 → 0 < subs.length := fun h5 => by
    subst h5
    obtain ⟨u, rfl⟩ := plainT_5 hpl
    simp
  clear ih ht hcs hso hok hoks hpl hcc hR
  rw [e0, simT]
  refine b97 (by simp) (by simp) (w_init ?_)
  unfold x97
  repeat' (first
    | (apply r_mvV; rfl)
    | (apply r_mvP; rfl)
    | (apply r_mvPL; rfl)
    | (apply r_mvS; rfl)
    | (apply r_mvSL; rfl)
    | (apply r_mvA; rfl)
    | (apply r_mvT; rfl)
    | (apply r_mvF; rfl)
    | (apply r_mvD; rfl)
    | (apply r_faddD; rfl)
    | (apply r_faddL; rfl)
    | (apply r_ldL; rfl; rfl; rfl)
    | (apply r_eql; rfl; rfl; (first | (apply decide_eq_true; omega) | (apply decide_eq_false; omega) | rfl))
    | (apply r_lss; rfl; rfl; (first | (apply decide_eq_true; omega) | (apply decide_eq_false; omega) | rfl))
    | (apply r_add; rfl; rfl; rfl; omega)
    | (apply r_lenD; rfl)
    | (apply r_lenL; rfl)
    | (apply r_len0; rfl)
    | (apply r_alloc; ((conv => lhs; simp only [Nat.reduceAdd]) <;> rfl); rfl)
    | (apply r_box; ((conv => lhs; simp only [Nat.reduceAdd]) <;> rfl); rfl; rfl; rfl)
    | (apply r_stL; rfl; rfl; rfl; rfl; (first | rfl | (simp only [z_nil, z_add] <;> rfl)); rfl; rfl)
    | (apply r_p; rfl)
    | (apply r_nilK)
    | (apply r_nil)
    | (apply k_V; rfl)
    | (apply k_P; rfl)
    | (apply k_PL; rfl)
    | (apply k_S; rfl)
    | (apply k_SL; rfl)
    | (apply k_A; rfl)
    | (apply k_T; rfl)
    | (apply k_F; rfl)
    | (apply k_D; rfl; rotate_left; rfl)
    | (apply k_nil)
    | (apply e_ret (vs := [.d (.val _)]); rfl)
    | (apply e_ret; rfl)
    | (apply e_ret' (vs := [.d (.val _)]); rfl)
    | (apply e_ret'; rfl)
    | (apply w_seq)
    | (apply w_ops; ((conv => lhs; simp only [Nat.reduceAdd]) <;> rfl))
    | (apply w_condT; rfl)
    | (apply w_condF; rfl)
    | ((apply w_condS; rfl) <;> (intro h; try simp only [decide_eq_true_eq, decide_eq_false_iff_not, Bool.not_eq_true, Bool.not_eq_false] at h))
    | (apply e_thenN)
    | (apply w_block)
    | (apply e_thenR)
    | (apply e_thenX)
    | (apply e_blkN)
    | (apply e_blkR)
    | (apply e_blkE)
    | (apply w_exit)
    | (apply w_ret)
    | (apply w_skip)
    | (apply e_blkE'; rfl))
  apply w_loopI (S := fun i : Nat => ⟨(((((Fr.nil.put 1 (.ptrL 1 0)).put 2 (.ptrL 2 0)).put 3 (.slL 50 0 i 8)).put 7 (.d (.sl (encL subs) subs.length))).put 8 (.i subs.length)).put 9 (.i i), rowsOf [(1, [.i k, .d (.val (.int .u64 a)), .d (.val (.int .u64 b)), .d (.val (.int .u64 c)), .d (.val (.int .u64 d)), .i mn, .i mx, .d (.sl (encL subs) subs.length)]), (2, zeroA zsN), (50, (encL ((simL subs).take i)).map AV.d)], Frz.buts 100 [2, 50], 100⟩) (m := fun i => subs.length - i) (I := fun i => i ≤ subs.length) (i0 := 0)
  · exact Nat.zero_le _
  · refine wkM [] [50] rfl ?_ ?_ rfl ?_
    · intro p hp
      simp only [List.mem_cons, List.not_mem_nil, or_false] at hp
      rcases hp with rfl | rfl | rfl
      · exact ⟨by omega, .inr ⟨rfl, _, rfl, .data rfl⟩⟩
      · exact ⟨by omega, .inr ⟨rfl, _, rfl, .data rfl⟩⟩
      · exact ⟨by omega, .inl ⟨rfl, rfl⟩⟩
    · intro q hq; simp only [List.mem_cons, List.not_mem_nil, or_false] at hq; rcases hq with rfl | rfl <;> rfl
    · repeat' (first
    | exact FWk.nil
    | (apply FWk.i; rfl; (first | rfl | omega | (simp; done)))
    | (apply FWk.sl; rfl; rfl; rfl; rfl; omega; rfl)
    | (apply FWk.ptr; rfl; rfl; rfl; omega; rfl)
    | (apply FWk.d; rfl; rfl)
    | (apply FWk.a; rfl; rfl; rfl)
    | (apply FWk.slN; rfl; omega; rfl))
  intro i K hi hK
  dsimp only
  rcases Nat.lt_or_ge i subs.length with hlt | hge
  · have hs := NodeAt.sub hlt
    have hg := ih' i hlt
    have htk := simL_take subs i hlt
    have hna : [nodeA subs[i]].all AV.nrm = true := by rw [List.all_cons, nodeA_nrm]; rfl
    generalize simT subs[i] = u at hg htk
    generalize subs[i] = v at hs hg hna
    obtain ⟨k2, a2, b2, c2, d2, mn2, mx2, subs2⟩ := v
    have e2 : nodeA (.node k2 a2 b2 c2 d2 mn2 mx2 subs2) = .agg [.i k2, .d (.val (.int .u64 a2)), .d (.val (.int .u64 b2)), .d (.val (.int .u64 c2)), .d (.val (.int .u64 d2)), .i mn2, .i mx2, .d (.sl (encL subs2) subs2.length)] := rfl
    rw [e2] at hg hna
    repeat' (first
    | (apply r_mvV; rfl)
    | (apply r_mvP; rfl)
    | (apply r_mvPL; rfl)
    | (apply r_mvS; rfl)
    | (apply r_mvSL; rfl)
    | (apply r_mvA; rfl)
    | (apply r_mvT; rfl)
    | (apply r_mvF; rfl)
    | (apply r_mvD; rfl)
    | (apply r_faddD; rfl)
    | (apply r_faddL; rfl)
    | (apply r_p; apply ix_sub; rfl; rfl; omega)
    | (apply r_l (v := .agg [.i k2, .d (.val (.int .u64 a2)), .d (.val (.int .u64 b2)), .d (.val (.int .u64 c2)), .d (.val (.int .u64 d2)), .i mn2, .i mx2, .d (.sl (encL subs2) subs2.length)]); exact ld_node hs rfl)
    | (apply r_ldL (v := .agg [.i k2, .d (.val (.int .u64 a2)), .d (.val (.int .u64 b2)), .d (.val (.int .u64 c2)), .d (.val (.int .u64 d2)), .i mn2, .i mx2, .d (.sl (encL subs2) subs2.length)]); rfl; rfl; rfl)
    | (apply r_callA (ags := [.agg [.i k2, .d (.val (.int .u64 a2)), .d (.val (.int .u64 b2)), .d (.val (.int .u64 c2)), .d (.val (.int .u64 d2)), .i mn2, .i mx2, .d (.sl (encL subs2) subs2.length)]]); rfl; exact hna; exact hg)
    | (apply r_mkN (t := u) (id := 108); rfl; rfl)
    | (apply r_appE (b := 50) (c := 108) (id := 109) (K := (simL subs).take i) (L := [u]) (m := i) (j := 1); rfl; rfl; rfl; rfl; (rw [List.length_take]; omega); rfl; rfl; rfl; omega)
    | (apply r_ldL; rfl; rfl; rfl)
    | (apply r_eql; rfl; rfl; (first | (apply decide_eq_true; omega) | (apply decide_eq_false; omega) | rfl))
    | (apply r_lss; rfl; rfl; (first | (apply decide_eq_true; omega) | (apply decide_eq_false; omega) | rfl))
    | (apply r_add; rfl; rfl; rfl; omega)
    | (apply r_lenD; rfl)
    | (apply r_lenL; rfl)
    | (apply r_len0; rfl)
    | (apply r_alloc; ((conv => lhs; simp only [Nat.reduceAdd]) <;> rfl); rfl)
    | (apply r_box; ((conv => lhs; simp only [Nat.reduceAdd]) <;> rfl); rfl; rfl; rfl)
    | (apply r_stL; rfl; rfl; rfl; rfl; (first | rfl | (simp only [z_nil, z_add] <;> rfl)); rfl; rfl)
    | (apply r_p; rfl)
    | (apply r_nilK)
    | (apply r_nil)
    | (apply k_V; rfl)
    | (apply k_P; rfl)
    | (apply k_PL; rfl)
    | (apply k_S; rfl)
    | (apply k_SL; rfl)
    | (apply k_A; rfl)
    | (apply k_T; rfl)
    | (apply k_F; rfl)
    | (apply k_D; rfl; rotate_left; rfl)
    | (apply k_nil)
    | (apply e_ret (vs := [.d (.val _)]); rfl)
    | (apply e_ret; rfl)
    | (apply e_ret' (vs := [.d (.val _)]); rfl)
    | (apply e_ret'; rfl)
    | (apply w_seq)
    | (apply w_ops; ((conv => lhs; simp only [Nat.reduceAdd]) <;> rfl))
    | (apply w_condT; rfl)
    | (apply w_condF; rfl)
    | ((apply w_condS; rfl) <;> (intro h; try simp only [decide_eq_true_eq, decide_eq_false_iff_not, Bool.not_eq_true, Bool.not_eq_false] at h))
    | (apply e_thenN)
    | (apply w_block)
    | (apply e_thenR)
    | (apply e_thenX)
    | (apply e_blkN)
    | (apply e_blkR)
    | (apply e_blkE)
    | (apply w_exit)
    | (apply w_ret)
    | (apply w_skip)
    | (apply e_blkE'; rfl))
    apply e_thenK
    apply hK (i + 1)
    · omega
    · omega
    · rw [htk]
      refine wkM [(50, 109)] [] rfl ?_ ?_ rfl ?_
      · intro p hp
        simp only [List.mem_cons, List.not_mem_nil, or_false] at hp
        rcases hp with rfl | rfl | rfl
        · exact ⟨by omega, .inr ⟨rfl, _, rfl, .data rfl⟩⟩
        · exact ⟨by omega, .inr ⟨rfl, _, rfl, .data rfl⟩⟩
        · exact ⟨by omega, .inr ⟨rfl, _, rfl, .data (isD_encL _)⟩⟩
      · intro q hq; simp only [List.mem_cons, List.not_mem_nil, or_false] at hq; rcases hq with rfl | rfl <;> rfl
      · repeat' (first
    | exact FWk.nil
    | (apply FWk.i; rfl; (first | rfl | omega | (simp; done)))
    | (apply FWk.sl; rfl; rfl; rfl; rfl; omega; rfl)
    | (apply FWk.ptr; rfl; rfl; rfl; omega; rfl)
    | (apply FWk.d; rfl; rfl)
    | (apply FWk.a; rfl; rfl; rfl)
    | (apply FWk.slN; rfl; omega; rfl))
  have ei : i = subs.length := by omega
  subst ei
  rw [List.take_of_length_le (by omega)]
  clear hK hge ih' hi
  generalize simL subs = L at hsl h92 h93 h94 ⊢
  rw [hsl] at h92 h93
  by_cases h3 : k = 3
  · rw [if_pos h3]
    generalize catS L = u at h92
    obtain ⟨k2, a2, b2, c2, d2, mn2, mx2, subs2⟩ := u
    match L, hsl with
    | [], hsl =>
      simp only [List.length_nil] at hsl
      rw [← hsl] at h92 ⊢
      repeat' (first
    | (apply r_mvV; rfl)
    | (apply r_mvP; rfl)
    | (apply r_mvPL; rfl)
    | (apply r_mvS; rfl)
    | (apply r_mvSL; rfl)
    | (apply r_mvA; rfl)
    | (apply r_mvT; rfl)
    | (apply r_mvF; rfl)
    | (apply r_mvD; rfl)
    | (apply r_faddD; rfl)
    | (apply r_faddL; rfl)
    | (apply r_l; apply ld_kind; assumption; rfl)
    | (apply r_l; apply ld_mn; assumption; rfl)
    | (apply r_l; apply ld_mx; assumption; rfl)
    | (apply r_l; apply ld_subs; assumption; rfl)
    | (apply r_l; apply ld_set; assumption; rfl)
    | (apply r_l; apply ld_node; assumption; rfl)
    | (apply r_l; apply ld_kind'; assumption; rfl)
    | (apply r_l; apply ld_mn'; assumption; rfl)
    | (apply r_l; apply ld_mx'; assumption; rfl)
    | (apply r_l; apply ld_subs'; assumption; rfl)
    | (apply r_l; apply ld_node'; assumption; rfl)
    | (apply r_callS2 (pre := []) (pre' := []) (post := []) (post' := []) (b := 50) (L := []) (us := []); rfl; rfl; rfl; rfl; rfl; exact h92; rfl)
    | (apply r_ldL (v := .agg [.i k2, .d (.val (.int .u64 a2)), .d (.val (.int .u64 b2)), .d (.val (.int .u64 c2)), .d (.val (.int .u64 d2)), .i mn2, .i mx2, .d (.sl (encL subs2) subs2.length)]); rfl; rfl; rfl)
    | (apply r_ldL; rfl; rfl; rfl)
    | (apply r_eql; rfl; rfl; (first | (apply decide_eq_true; omega) | (apply decide_eq_false; omega) | rfl))
    | (apply r_lss; rfl; rfl; (first | (apply decide_eq_true; omega) | (apply decide_eq_false; omega) | rfl))
    | (apply r_add; rfl; rfl; rfl; omega)
    | (apply r_lenD; rfl)
    | (apply r_lenL; rfl)
    | (apply r_len0; rfl)
    | (apply r_alloc; ((conv => lhs; simp only [Nat.reduceAdd]) <;> rfl); rfl)
    | (apply r_box; ((conv => lhs; simp only [Nat.reduceAdd]) <;> rfl); rfl; rfl; rfl)
    | (apply r_stL; rfl; rfl; rfl; rfl; (first | rfl | (simp only [z_nil, z_add] <;> rfl)); rfl; rfl)
    | (apply r_p; rfl)
    | (apply r_nilK)
    | (apply r_nil)
    | (apply k_V; rfl)
    | (apply k_P; rfl)
    | (apply k_PL; rfl)
    | (apply k_S; rfl)
    | (apply k_SL; rfl)
    | (apply k_A; rfl)
    | (apply k_T; rfl)
    | (apply k_F; rfl)
    | (apply k_D; rfl; rotate_left; rfl)
    | (apply k_nil)
    | (apply e_ret (vs := [.d (.val _)]); rfl)
    | (apply e_ret; rfl)
    | (apply e_ret' (vs := [.d (.val _)]); rfl)
    | (apply e_ret'; rfl)
    | (apply w_seq)
    | (apply w_ops; ((conv => lhs; simp only [Nat.reduceAdd]) <;> rfl))
    | (apply w_condT; rfl)
    | (apply w_condF; rfl)
    | ((apply w_condS; rfl) <;> (intro h; try simp only [decide_eq_true_eq, decide_eq_false_iff_not, Bool.not_eq_true, Bool.not_eq_false] at h))
    | (apply e_thenN)
    | (apply w_block)
    | (apply e_thenR)
    | (apply e_thenX)
    | (apply e_blkN)
    | (apply e_blkR)
    | (apply e_blkE)
    | (apply w_exit)
    | (apply w_ret)
    | (apply w_skip)
    | (apply e_blkE'; rfl))
      exact .data _ rfl
    | x :: r, hsl =>
      simp only [List.length_cons] at hsl
      rw [← hsl] at h92 ⊢
      repeat' (first
    | (apply r_mvV; rfl)
    | (apply r_mvP; rfl)
    | (apply r_mvPL; rfl)
    | (apply r_mvS; rfl)
    | (apply r_mvSL; rfl)
    | (apply r_mvA; rfl)
    | (apply r_mvT; rfl)
    | (apply r_mvF; rfl)
    | (apply r_mvD; rfl)
    | (apply r_faddD; rfl)
    | (apply r_faddL; rfl)
    | (apply r_l; apply ld_kind; assumption; rfl)
    | (apply r_l; apply ld_mn; assumption; rfl)
    | (apply r_l; apply ld_mx; assumption; rfl)
    | (apply r_l; apply ld_subs; assumption; rfl)
    | (apply r_l; apply ld_set; assumption; rfl)
    | (apply r_l; apply ld_node; assumption; rfl)
    | (apply r_l; apply ld_kind'; assumption; rfl)
    | (apply r_l; apply ld_mn'; assumption; rfl)
    | (apply r_l; apply ld_mx'; assumption; rfl)
    | (apply r_l; apply ld_subs'; assumption; rfl)
    | (apply r_l; apply ld_node'; assumption; rfl)
    | (apply r_callS2 (pre := []) (pre' := []) (post := []) (post' := []) (b := 50) (L := x :: r) (us := [50]); rfl; rfl; rfl; rfl; rfl; exact h92; rfl)
    | (apply r_ldL (v := .agg [.i k2, .d (.val (.int .u64 a2)), .d (.val (.int .u64 b2)), .d (.val (.int .u64 c2)), .d (.val (.int .u64 d2)), .i mn2, .i mx2, .d (.sl (encL subs2) subs2.length)]); rfl; rfl; rfl)
    | (apply r_ldL; rfl; rfl; rfl)
    | (apply r_eql; rfl; rfl; (first | (apply decide_eq_true; omega) | (apply decide_eq_false; omega) | rfl))
    | (apply r_lss; rfl; rfl; (first | (apply decide_eq_true; omega) | (apply decide_eq_false; omega) | rfl))
    | (apply r_add; rfl; rfl; rfl; omega)
    | (apply r_lenD; rfl)
    | (apply r_lenL; rfl)
    | (apply r_len0; rfl)
    | (apply r_alloc; ((conv => lhs; simp only [Nat.reduceAdd]) <;> rfl); rfl)
    | (apply r_box; ((conv => lhs; simp only [Nat.reduceAdd]) <;> rfl); rfl; rfl; rfl)
    | (apply r_stL; rfl; rfl; rfl; rfl; (first | rfl | (simp only [z_nil, z_add] <;> rfl)); rfl; rfl)
    | (apply r_p; rfl)
    | (apply r_nilK)
    | (apply r_nil)
    | (apply k_V; rfl)
    | (apply k_P; rfl)
    | (apply k_PL; rfl)
    | (apply k_S; rfl)
    | (apply k_SL; rfl)
    | (apply k_A; rfl)
    | (apply k_T; rfl)
    | (apply k_F; rfl)
    | (apply k_D; rfl; rotate_left; rfl)
    | (apply k_nil)
    | (apply e_ret (vs := [.d (.val _)]); rfl)
    | (apply e_ret; rfl)
    | (apply e_ret' (vs := [.d (.val _)]); rfl)
    | (apply e_ret'; rfl)
    | (apply w_seq)
    | (apply w_ops; ((conv => lhs; simp only [Nat.reduceAdd]) <;> rfl))
    | (apply w_condT; rfl)
    | (apply w_condF; rfl)
    | ((apply w_condS; rfl) <;> (intro h; try simp only [decide_eq_true_eq, decide_eq_false_iff_not, Bool.not_eq_true, Bool.not_eq_false] at h))
    | (apply e_thenN)
    | (apply w_block)
    | (apply e_thenR)
    | (apply e_thenX)
    | (apply e_blkN)
    | (apply e_blkR)
    | (apply e_blkE)
    | (apply w_exit)
    | (apply w_ret)
    | (apply w_skip)
    | (apply e_blkE'; rfl))
      exact .data _ rfl
  rw [if_neg h3]
  by_cases h4 : k = 4
  · rw [if_pos h4]
    generalize altS L = u at h93
    obtain ⟨k2, a2, b2, c2, d2, mn2, mx2, subs2⟩ := u
    match L, hsl with
    | [], hsl =>
      simp only [List.length_nil] at hsl
      rw [← hsl] at h93 ⊢
      repeat' (first
    | (apply r_mvV; rfl)
    | (apply r_mvP; rfl)
    | (apply r_mvPL; rfl)
    | (apply r_mvS; rfl)
    | (apply r_mvSL; rfl)
    | (apply r_mvA; rfl)
    | (apply r_mvT; rfl)
    | (apply r_mvF; rfl)
    | (apply r_mvD; rfl)
    | (apply r_faddD; rfl)
    | (apply r_faddL; rfl)
    | (apply r_l; apply ld_kind; assumption; rfl)
    | (apply r_l; apply ld_mn; assumption; rfl)
    | (apply r_l; apply ld_mx; assumption; rfl)
    | (apply r_l; apply ld_subs; assumption; rfl)
    | (apply r_l; apply ld_set; assumption; rfl)
    | (apply r_l; apply ld_node; assumption; rfl)
    | (apply r_l; apply ld_kind'; assumption; rfl)
    | (apply r_l; apply ld_mn'; assumption; rfl)
    | (apply r_l; apply ld_mx'; assumption; rfl)
    | (apply r_l; apply ld_subs'; assumption; rfl)
    | (apply r_l; apply ld_node'; assumption; rfl)
    | (apply r_callS2 (pre := []) (pre' := []) (post := []) (post' := []) (b := 50) (L := []) (us := []); rfl; rfl; rfl; rfl; rfl; exact h93; rfl)
    | (apply r_ldL (v := .agg [.i k2, .d (.val (.int .u64 a2)), .d (.val (.int .u64 b2)), .d (.val (.int .u64 c2)), .d (.val (.int .u64 d2)), .i mn2, .i mx2, .d (.sl (encL subs2) subs2.length)]); rfl; rfl; rfl)
    | (apply r_ldL; rfl; rfl; rfl)
    | (apply r_eql; rfl; rfl; (first | (apply decide_eq_true; omega) | (apply decide_eq_false; omega) | rfl))
    | (apply r_lss; rfl; rfl; (first | (apply decide_eq_true; omega) | (apply decide_eq_false; omega) | rfl))
    | (apply r_add; rfl; rfl; rfl; omega)
    | (apply r_lenD; rfl)
    | (apply r_lenL; rfl)
    | (apply r_len0; rfl)
    | (apply r_alloc; ((conv => lhs; simp only [Nat.reduceAdd]) <;> rfl); rfl)
    | (apply r_box; ((conv => lhs; simp only [Nat.reduceAdd]) <;> rfl); rfl; rfl; rfl)
    | (apply r_stL; rfl; rfl; rfl; rfl; (first | rfl | (simp only [z_nil, z_add] <;> rfl)); rfl; rfl)
    | (apply r_p; rfl)
    | (apply r_nilK)
    | (apply r_nil)
    | (apply k_V; rfl)
    | (apply k_P; rfl)
    | (apply k_PL; rfl)
    | (apply k_S; rfl)
    | (apply k_SL; rfl)
    | (apply k_A; rfl)
    | (apply k_T; rfl)
    | (apply k_F; rfl)
    | (apply k_D; rfl; rotate_left; rfl)
    | (apply k_nil)
    | (apply e_ret (vs := [.d (.val _)]); rfl)
    | (apply e_ret; rfl)
    | (apply e_ret' (vs := [.d (.val _)]); rfl)
    | (apply e_ret'; rfl)
    | (apply w_seq)
    | (apply w_ops; ((conv => lhs; simp only [Nat.reduceAdd]) <;> rfl))
    | (apply w_condT; rfl)
    | (apply w_condF; rfl)
    | ((apply w_condS; rfl) <;> (intro h; try simp only [decide_eq_true_eq, decide_eq_false_iff_not, Bool.not_eq_true, Bool.not_eq_false] at h))
    | (apply e_thenN)
    | (apply w_block)
    | (apply e_thenR)
    | (apply e_thenX)
    | (apply e_blkN)
    | (apply e_blkR)
    | (apply e_blkE)
    | (apply w_exit)
    | (apply w_ret)
    | (apply w_skip)
    | (apply e_blkE'; rfl))
      exact .data _ rfl
    | x :: r, hsl =>
      simp only [List.length_cons] at hsl
      rw [← hsl] at h93 ⊢
      repeat' (first
    | (apply r_mvV; rfl)
    | (apply r_mvP; rfl)
    | (apply r_mvPL; rfl)
    | (apply r_mvS; rfl)
    | (apply r_mvSL; rfl)
    | (apply r_mvA; rfl)
    | (apply r_mvT; rfl)
    | (apply r_mvF; rfl)
    | (apply r_mvD; rfl)
    | (apply r_faddD; rfl)
    | (apply r_faddL; rfl)
    | (apply r_l; apply ld_kind; assumption; rfl)
    | (apply r_l; apply ld_mn; assumption; rfl)
    | (apply r_l; apply ld_mx; assumption; rfl)
    | (apply r_l; apply ld_subs; assumption; rfl)
    | (apply r_l; apply ld_set; assumption; rfl)
    | (apply r_l; apply ld_node; assumption; rfl)
    | (apply r_l; apply ld_kind'; assumption; rfl)
    | (apply r_l; apply ld_mn'; assumption; rfl)
    | (apply r_l; apply ld_mx'; assumption; rfl)
    | (apply r_l; apply ld_subs'; assumption; rfl)
    | (apply r_l; apply ld_node'; assumption; rfl)
    | (apply r_callS2 (pre := []) (pre' := []) (post := []) (post' := []) (b := 50) (L := x :: r) (us := [50]); rfl; rfl; rfl; rfl; rfl; exact h93; rfl)
    | (apply r_ldL (v := .agg [.i k2, .d (.val (.int .u64 a2)), .d (.val (.int .u64 b2)), .d (.val (.int .u64 c2)), .d (.val (.int .u64 d2)), .i mn2, .i mx2, .d (.sl (encL subs2) subs2.length)]); rfl; rfl; rfl)
    | (apply r_ldL; rfl; rfl; rfl)
    | (apply r_eql; rfl; rfl; (first | (apply decide_eq_true; omega) | (apply decide_eq_false; omega) | rfl))
    | (apply r_lss; rfl; rfl; (first | (apply decide_eq_true; omega) | (apply decide_eq_false; omega) | rfl))
    | (apply r_add; rfl; rfl; rfl; omega)
    | (apply r_lenD; rfl)
    | (apply r_lenL; rfl)
    | (apply r_len0; rfl)
    | (apply r_alloc; ((conv => lhs; simp only [Nat.reduceAdd]) <;> rfl); rfl)
    | (apply r_box; ((conv => lhs; simp only [Nat.reduceAdd]) <;> rfl); rfl; rfl; rfl)
    | (apply r_stL; rfl; rfl; rfl; rfl; (first | rfl | (simp only [z_nil, z_add] <;> rfl)); rfl; rfl)
    | (apply r_p; rfl)
    | (apply r_nilK)
    | (apply r_nil)
    | (apply k_V; rfl)
    | (apply k_P; rfl)
    | (apply k_PL; rfl)
    | (apply k_S; rfl)
    | (apply k_SL; rfl)
    | (apply k_A; rfl)
    | (apply k_T; rfl)
    | (apply k_F; rfl)
    | (apply k_D; rfl; rotate_left; rfl)
    | (apply k_nil)
    | (apply e_ret (vs := [.d (.val _)]); rfl)
    | (apply e_ret; rfl)
    | (apply e_ret' (vs := [.d (.val _)]); rfl)
    | (apply e_ret'; rfl)
    | (apply w_seq)
    | (apply w_ops; ((conv => lhs; simp only [Nat.reduceAdd]) <;> rfl))
    | (apply w_condT; rfl)
    | (apply w_condF; rfl)
    | ((apply w_condS; rfl) <;> (intro h; try simp only [decide_eq_true_eq, decide_eq_false_iff_not, Bool.not_eq_true, Bool.not_eq_false] at h))
    | (apply e_thenN)
    | (apply w_block)
    | (apply e_thenR)
    | (apply e_thenX)
    | (apply e_blkN)
    | (apply e_blkR)
    | (apply e_blkE)
    | (apply w_exit)
    | (apply w_ret)
    | (apply w_skip)
    | (apply e_blkE'; rfl))
      exact .data _ rfl
  rw [if_neg h4]
  by_cases h5 : k = 5
  · rw [if_pos h5]
    have := hk5 h5
    match L, hsl, h94 with
    | [], hsl, _ => simp only [List.length_nil] at hsl; omega
    | x :: r, hsl, h94 =>
      have h94 := h94 x r rfl h5
      rw [List.headD_cons]
      have hna : [nodeA x, .i mn, .i mx].all AV.nrm = true := by rw [List.all_cons, nodeA_nrm]; rfl
      generalize repS x mn mx = u at h94
      obtain ⟨k2, a2, b2, c2, d2, mn2, mx2, subs2⟩ := u
      have hs : NodeAt (encL (x :: r)) (0 * 8) x := NodeAt.sub (l := x :: r) (i := 0) (by simp)
      repeat' (first
    | (apply r_mvV; rfl)
    | (apply r_mvP; rfl)
    | (apply r_mvPL; rfl)
    | (apply r_mvS; rfl)
    | (apply r_mvSL; rfl)
    | (apply r_mvA; rfl)
    | (apply r_mvT; rfl)
    | (apply r_mvF; rfl)
    | (apply r_mvD; rfl)
    | (apply r_faddD; rfl)
    | (apply r_faddL; rfl)
    | (apply r_l; apply ld_kind; assumption; rfl)
    | (apply r_l; apply ld_mn; assumption; rfl)
    | (apply r_l; apply ld_mx; assumption; rfl)
    | (apply r_l; apply ld_subs; assumption; rfl)
    | (apply r_l; apply ld_set; assumption; rfl)
    | (apply r_l; apply ld_node; assumption; rfl)
    | (apply r_l; apply ld_kind'; assumption; rfl)
    | (apply r_l; apply ld_mn'; assumption; rfl)
    | (apply r_l; apply ld_mx'; assumption; rfl)
    | (apply r_l; apply ld_subs'; assumption; rfl)
    | (apply r_l; apply ld_node'; assumption; rfl)
    | (apply r_ixN (j := 0); rfl; rfl; rfl; omega)
    | (apply r_ldN (t := x); rfl; rfl; exact hs)
    | (apply r_callA (ags := [nodeA x, .i mn, .i mx]); rfl; exact hna; exact h94)
    | (apply r_ldL (v := .agg [.i k2, .d (.val (.int .u64 a2)), .d (.val (.int .u64 b2)), .d (.val (.int .u64 c2)), .d (.val (.int .u64 d2)), .i mn2, .i mx2, .d (.sl (encL subs2) subs2.length)]); rfl; rfl; rfl)
    | (apply r_ldL; rfl; rfl; rfl)
    | (apply r_eql; rfl; rfl; (first | (apply decide_eq_true; omega) | (apply decide_eq_false; omega) | rfl))
    | (apply r_lss; rfl; rfl; (first | (apply decide_eq_true; omega) | (apply decide_eq_false; omega) | rfl))
    | (apply r_add; rfl; rfl; rfl; omega)
    | (apply r_lenD; rfl)
    | (apply r_lenL; rfl)
    | (apply r_len0; rfl)
    | (apply r_alloc; ((conv => lhs; simp only [Nat.reduceAdd]) <;> rfl); rfl)
    | (apply r_box; ((conv => lhs; simp only [Nat.reduceAdd]) <;> rfl); rfl; rfl; rfl)
    | (apply r_stL; rfl; rfl; rfl; rfl; (first | rfl | (simp only [z_nil, z_add] <;> rfl)); rfl; rfl)
    | (apply r_p; rfl)
    | (apply r_nilK)
    | (apply r_nil)
    | (apply k_V; rfl)
    | (apply k_P; rfl)
    | (apply k_PL; rfl)
    | (apply k_S; rfl)
    | (apply k_SL; rfl)
    | (apply k_A; rfl)
    | (apply k_T; rfl)
    | (apply k_F; rfl)
    | (apply k_D; rfl; rotate_left; rfl)
    | (apply k_nil)
    | (apply e_ret (vs := [.d (.val _)]); rfl)
    | (apply e_ret; rfl)
    | (apply e_ret' (vs := [.d (.val _)]); rfl)
    | (apply e_ret'; rfl)
    | (apply w_seq)
    | (apply w_ops; ((conv => lhs; simp only [Nat.reduceAdd]) <;> rfl))
    | (apply w_condT; rfl)
    | (apply w_condF; rfl)
    | ((apply w_condS; rfl) <;> (intro h; try simp only [decide_eq_true_eq, decide_eq_false_iff_not, Bool.not_eq_true, Bool.not_eq_false] at h))
    | (apply e_thenN)
    | (apply w_block)
    | (apply e_thenR)
    | (apply e_thenX)
    | (apply e_blkN)
    | (apply e_blkR)
    | (apply e_blkE)
    | (apply w_exit)
    | (apply w_ret)
    | (apply w_skip)
    | (apply e_blkE'; rfl))
      exact .data _ rfl
  · rw [if_neg h5]
    repeat' (first
    | (apply r_mvV; rfl)
    | (apply r_mvP; rfl)
    | (apply r_mvPL; rfl)
    | (apply r_mvS; rfl)
    | (apply r_mvSL; rfl)
    | (apply r_mvA; rfl)
    | (apply r_mvT; rfl)
    | (apply r_mvF; rfl)
    | (apply r_mvD; rfl)
    | (apply r_faddD; rfl)
    | (apply r_faddL; rfl)
    | (apply r_l; apply ld_kind; assumption; rfl)
    | (apply r_l; apply ld_mn; assumption; rfl)
    | (apply r_l; apply ld_mx; assumption; rfl)
    | (apply r_l; apply ld_subs; assumption; rfl)
    | (apply r_l; apply ld_set; assumption; rfl)
    | (apply r_l; apply ld_node; assumption; rfl)
    | (apply r_l; apply ld_kind'; assumption; rfl)
    | (apply r_l; apply ld_mn'; assumption; rfl)
    | (apply r_l; apply ld_mx'; assumption; rfl)
    | (apply r_l; apply ld_subs'; assumption; rfl)
    | (apply r_l; apply ld_node'; assumption; rfl)
    | (apply r_ldL (v := .agg [.i k, .d (.val (.int .u64 a)), .d (.val (.int .u64 b)), .d (.val (.int .u64 c)), .d (.val (.int .u64 d)), .i mn, .i mx, .d (.sl (encL subs) subs.length)]); rfl; rfl; rfl)
    | (apply r_ldL; rfl; rfl; rfl)
    | (apply r_eql; rfl; rfl; (first | (apply decide_eq_true; omega) | (apply decide_eq_false; omega) | rfl))
    | (apply r_lss; rfl; rfl; (first | (apply decide_eq_true; omega) | (apply decide_eq_false; omega) | rfl))
    | (apply r_add; rfl; rfl; rfl; omega)
    | (apply r_lenD; rfl)
    | (apply r_lenL; rfl)
    | (apply r_len0; rfl)
    | (apply r_alloc; ((conv => lhs; simp only [Nat.reduceAdd]) <;> rfl); rfl)
    | (apply r_box; ((conv => lhs; simp only [Nat.reduceAdd]) <;> rfl); rfl; rfl; rfl)
    | (apply r_stL; rfl; rfl; rfl; rfl; (first | rfl | (simp only [z_nil, z_add] <;> rfl)); rfl; rfl)
    | (apply r_p; rfl)
    | (apply r_nilK)
    | (apply r_nil)
    | (apply k_V; rfl)
    | (apply k_P; rfl)
    | (apply k_PL; rfl)
    | (apply k_S; rfl)
    | (apply k_SL; rfl)
    | (apply k_A; rfl)
    | (apply k_T; rfl)
    | (apply k_F; rfl)
    | (apply k_D; rfl; rotate_left; rfl)
    | (apply k_nil)
    | (apply e_ret (vs := [.d (.val _)]); rfl)
    | (apply e_ret; rfl)
    | (apply e_ret' (vs := [.d (.val _)]); rfl)
    | (apply e_ret'; rfl)
    | (apply w_seq)
    | (apply w_ops; ((conv => lhs; simp only [Nat.reduceAdd]) <;> rfl))
    | (apply w_condT; rfl)
    | (apply w_condF; rfl)
    | ((apply w_condS; rfl) <;> (intro h; try simp only [decide_eq_true_eq, decide_eq_false_iff_not, Bool.not_eq_true, Bool.not_eq_false] at h))
    | (apply e_thenN)
    | (apply w_block)
    | (apply e_thenR)
    | (apply e_thenX)
    | (apply e_blkN)
    | (apply e_blkR)
    | (apply e_blkE)
    | (apply w_exit)
    | (apply w_ret)
    | (apply w_skip)
    | (apply e_blkE'; rfl))
    exact .data _ rfl
def sN (t : T) : T := if fitsT t 12 = true then simT t else zT
def sE (t : T) : Int := if fitsT t 12 = true then 0 else 1
theorem Simple46_good (t : T) (hc : t.cnt ≤ 300000) (hok : fitsT t 12 = true → okT t) : Good Try.prog 46 [nodeA t] none (.tup [nodeA (sN t), .i (sE t)]) none none := by
  have hright := right_good t (by omega)
  rcases Bool.eq_false_or_eq_true (fitsT t 12) with hR | hR
  case inr =>
    have e1 : sE t = 1 := by simp [sE, hR]
    have e2 : sN t = zT := by simp [sN, hR]
    rw [e1, e2]
    rw [hR] at hright
    clear e1 e2 hok hc hR
    obtain ⟨k, a, b, c, d, mn, mx, subs⟩ := t
    have e0 : nodeA (.node k a b c d mn mx subs) = .agg [.i k, .d (.val (.int .u64 a)), .d (.val (.int .u64 b)), .d (.val (.int .u64 c)), .d (.val (.int .u64 d)), .i mn, .i mx, .d (.sl (encL subs) subs.length)] := rfl
    rw [e0] at hright ⊢
    refine b46 (by simp) (by simp) (w_init ?_)
    unfold x46
    repeat' (first
    | (apply r_mvV; rfl)
    | (apply r_mvP; rfl)
    | (apply r_mvPL; rfl)
    | (apply r_mvS; rfl)
    | (apply r_mvSL; rfl)
    | (apply r_mvA; rfl)
    | (apply r_mvT; rfl)
    | (apply r_mvF; rfl)
    | (apply r_mvD; rfl)
    | (apply r_l; apply ld_kind; assumption; rfl)
    | (apply r_l; apply ld_mn; assumption; rfl)
    | (apply r_l; apply ld_mx; assumption; rfl)
    | (apply r_l; apply ld_subs; assumption; rfl)
    | (apply r_l; apply ld_set; assumption; rfl)
    | (apply r_l; apply ld_node; assumption; rfl)
    | (apply r_l; apply ld_kind'; assumption; rfl)
    | (apply r_l; apply ld_mn'; assumption; rfl)
    | (apply r_l; apply ld_mx'; assumption; rfl)
    | (apply r_l; apply ld_subs'; assumption; rfl)
    | (apply r_l; apply ld_node'; assumption; rfl)
    | (apply r_callA; rfl; rfl; exact hright)
    | (apply r_p (v := .agg [.i 0, .d (.val (.int .u64 0)), .d (.val (.int .u64 0)), .d (.val (.int .u64 0)), .d (.val (.int .u64 0)), .i 0, .i 0, .d (.val (.slice none 0 0))]); rfl)
    | (apply r_ldL; rfl; rfl; rfl)
    | (apply r_not; rfl; rfl)
    | (apply r_alloc; ((conv => lhs; simp only [Nat.reduceAdd]) <;> rfl); rfl)
    | (apply r_box; ((conv => lhs; simp only [Nat.reduceAdd]) <;> rfl); rfl; rfl; rfl)
    | (apply r_stL; rfl; rfl; rfl; rfl; (first | rfl | (simp only [z_nil, z_add] <;> rfl)); rfl; rfl)
    | (apply r_p; rfl)
    | (apply r_nilK)
    | (apply r_nil)
    | (apply k_V; rfl)
    | (apply k_P; rfl)
    | (apply k_PL; rfl)
    | (apply k_S; rfl)
    | (apply k_SL; rfl)
    | (apply k_A; rfl)
    | (apply k_T; rfl)
    | (apply k_F; rfl)
    | (apply k_D; rfl; rotate_left; rfl)
    | (apply k_nil)
    | (apply e_ret (vs := [.d (.val _)]); rfl)
    | (apply e_ret; rfl)
    | (apply e_ret' (vs := [.d (.val _)]); rfl)
    | (apply e_ret'; rfl)
    | (apply w_seq)
    | (apply w_ops; ((conv => lhs; simp only [Nat.reduceAdd]) <;> rfl))
    | (apply w_condT; rfl)
    | (apply w_condF; rfl)
    | ((apply w_condS; rfl) <;> (intro h; try simp only [decide_eq_true_eq, decide_eq_false_iff_not, Bool.not_eq_true, Bool.not_eq_false] at h))
    | (apply e_thenN)
    | (apply w_block)
    | (apply e_thenR)
    | (apply e_thenX)
    | (apply e_blkN)
    | (apply e_blkR)
    | (apply e_blkE)
    | (apply w_exit)
    | (apply w_ret)
    | (apply w_skip)
    | (apply e_blkE'; rfl))
    exact .data _ rfl
  have hs := simple97_good 300000 t hc (by omega) (hok hR)
  have e1 : sE t = 0 := by simp [sE, hR]
  have e2 : sN t = simT t := by simp [sN, hR]
  rw [e1, e2]
  rw [hR] at hright
  generalize simT t = u at hs
  clear e1 e2 hok hc hR
  obtain ⟨k2, a2, b2, c2, d2, mn2, mx2, subs2⟩ := u
  obtain ⟨k, a, b, c, d, mn, mx, subs⟩ := t
  have e0 : nodeA (.node k a b c d mn mx subs) = .agg [.i k, .d (.val (.int .u64 a)), .d (.val (.int .u64 b)), .d (.val (.int .u64 c)), .d (.val (.int .u64 d)), .i mn, .i mx, .d (.sl (encL subs) subs.length)] := rfl
  rw [e0] at hright hs ⊢
  refine b46 (by simp) (by simp) (w_init ?_)
  unfold x46
  repeat' (first
    | (apply r_mvV; rfl)
    | (apply r_mvP; rfl)
    | (apply r_mvPL; rfl)
    | (apply r_mvS; rfl)
    | (apply r_mvSL; rfl)
    | (apply r_mvA; rfl)
    | (apply r_mvT; rfl)
    | (apply r_mvF; rfl)
    | (apply r_mvD; rfl)
    | (apply r_l; apply ld_kind; assumption; rfl)
    | (apply r_l; apply ld_mn; assumption; rfl)
    | (apply r_l; apply ld_mx; assumption; rfl)
    | (apply r_l; apply ld_subs; assumption; rfl)
    | (apply r_l; apply ld_set; assumption; rfl)
    | (apply r_l; apply ld_node; assumption; rfl)
    | (apply r_l; apply ld_kind'; assumption; rfl)
    | (apply r_l; apply ld_mn'; assumption; rfl)
    | (apply r_l; apply ld_mx'; assumption; rfl)
    | (apply r_l; apply ld_subs'; assumption; rfl)
    | (apply r_l; apply ld_node'; assumption; rfl)
    | (apply r_callA; rfl; rfl; exact hright)
    | (apply r_callA; rfl; rfl; exact hs)
    | (apply r_ldL; rfl; rfl; rfl)
    | (apply r_not; rfl; rfl)
    | (apply r_alloc; ((conv => lhs; simp only [Nat.reduceAdd]) <;> rfl); rfl)
    | (apply r_box; ((conv => lhs; simp only [Nat.reduceAdd]) <;> rfl); rfl; rfl; rfl)
    | (apply r_stL; rfl; rfl; rfl; rfl; (first | rfl | (simp only [z_nil, z_add] <;> rfl)); rfl; rfl)
    | (apply r_p; rfl)
    | (apply r_nilK)
    | (apply r_nil)
    | (apply k_V; rfl)
    | (apply k_P; rfl)
    | (apply k_PL; rfl)
    | (apply k_S; rfl)
    | (apply k_SL; rfl)
    | (apply k_A; rfl)
    | (apply k_T; rfl)
    | (apply k_F; rfl)
    | (apply k_D; rfl; rotate_left; rfl)
    | (apply k_nil)
    | (apply e_ret (vs := [.d (.val _)]); rfl)
    | (apply e_ret; rfl)
    | (apply e_ret' (vs := [.d (.val _)]); rfl)
    | (apply e_ret'; rfl)
    | (apply w_seq)
    | (apply w_ops; ((conv => lhs; simp only [Nat.reduceAdd]) <;> rfl))
    | (apply w_condT; rfl)
    | (apply w_condF; rfl)
    | ((apply w_condS; rfl) <;> (intro h; try simp only [decide_eq_true_eq, decide_eq_false_iff_not, Bool.not_eq_true, Bool.not_eq_false] at h))
    | (apply e_thenN)
    | (apply w_block)
    | (apply e_thenR)
    | (apply e_thenX)
    | (apply e_blkN)
    | (apply e_blkR)
    | (apply e_blkE)
    | (apply w_exit)
    | (apply w_ret)
    | (apply w_skip)
    | (apply e_blkE'; rfl))
  exact .data _ rfl
end Go.Sv
namespace Go.Sv
open Go Go.Proofs
set_option maxRecDepth 100000
def x44 : XC := (.seq (.ops 1 [
    (0, ⟨(some 0), none, .mv (.k (.d (.val (.bool false))))⟩)] (some [])) (.seq (.ops 8 [
    (0, ⟨(some 10), none, .call 95 [(.k (.d (.val (.string ⟨#[40, 97, 124, 98, 124, 99, 41, 40, 41]⟩))))] none false⟩),
    (1, ⟨(some 11), none, .call 46 [(.t 10)] none false⟩),
    (2, ⟨(some 9), none, .mv (.t 11)⟩),
    (3, ⟨(some 12), none, .ext (.t 9) 0⟩),
    (4, ⟨(some 13), none, .ext (.t 9) 1⟩),
    (5, ⟨(some 1), none, .alloc [(.int .i64 0), (.int .u64 0), (.int .u64 0), (.int .u64 0), (.int .u64 0), (.int .i64 0), (.int .i64 0), (.slice none 0 0)]⟩),
    (6, ⟨none, none, .store 8 (.t 1) (.t 12)⟩),
    (7, ⟨(some 2), none, .mv (.t 13)⟩)] (some [1, 2])) (.seq (.ops 8 [
    (0, ⟨(some 15), none, .call 95 [(.k (.d (.val (.string ⟨#[40, 97, 43, 41, 42]⟩))))] none false⟩),
    (1, ⟨(some 16), none, .call 46 [(.t 15)] none false⟩),
    (2, ⟨(some 14), none, .mv (.t 16)⟩),
    (3, ⟨(some 17), none, .ext (.t 14) 0⟩),
    (4, ⟨(some 18), none, .ext (.t 14) 1⟩),
    (5, ⟨(some 3), none, .alloc [(.int .i64 0), (.int .u64 0), (.int .u64 0), (.int .u64 0), (.int .u64 0), (.int .i64 0), (.int .i64 0), (.slice none 0 0)]⟩),
    (6, ⟨none, none, .store 8 (.t 3) (.t 17)⟩),
    (7, ⟨(some 4), none, .mv (.t 18)⟩)] (some [1, 2, 3])) (.seq (.ops 8 [
    (0, ⟨(some 20), none, .call 95 [(.k (.d (.val (.string ⟨#[97, 91, 93, 124, 98]⟩))))] none false⟩),
    (1, ⟨(some 21), none, .call 46 [(.t 20)] none false⟩),
    (2, ⟨(some 19), none, .mv (.t 21)⟩),
    (3, ⟨(some 22), none, .ext (.t 19) 0⟩),
    (4, ⟨(some 23), none, .ext (.t 19) 1⟩),
    (5, ⟨(some 5), none, .alloc [(.int .i64 0), (.int .u64 0), (.int .u64 0), (.int .u64 0), (.int .u64 0), (.int .i64 0), (.int .i64 0), (.slice none 0 0)]⟩),
    (6, ⟨none, none, .store 8 (.t 5) (.t 22)⟩),
    (7, ⟨(some 6), none, .mv (.t 23)⟩)] (some [1, 2, 3, 5])) (.seq (.ops 8 [
    (0, ⟨(some 25), none, .build [(.int .i64 0), (.int .u64 0), (.int .u64 0), (.int .u64 0), (.int .u64 0), (.int .i64 0), (.int .i64 0), (.slice none 0 0)] []⟩),
    (1, ⟨(some 26), none, .call 46 [(.t 25)] none false⟩),
    (2, ⟨(some 24), none, .mv (.t 26)⟩),
    (3, ⟨(some 27), none, .ext (.t 24) 0⟩),
    (4, ⟨(some 28), none, .ext (.t 24) 1⟩),
    (5, ⟨(some 7), none, .alloc [(.int .i64 0), (.int .u64 0), (.int .u64 0), (.int .u64 0), (.int .u64 0), (.int .i64 0), (.int .i64 0), (.slice none 0 0)]⟩),
    (6, ⟨none, none, .store 8 (.t 7) (.t 27)⟩),
    (7, ⟨(some 8), none, .mv (.t 28)⟩)] (some [1, 2, 3, 5, 8])) (.seq (.ops 38 [
    (0, ⟨(some 29), none, .load (some 8) (.t 1)⟩),
    (1, ⟨(some 30), none, .call 95 [(.k (.d (.val (.string ⟨#[91, 97, 45, 99, 93]⟩))))] none false⟩),
    (2, ⟨(some 31), none, .call 47 [(.t 29), (.t 30)] none false⟩),
    (3, ⟨(some 32), none, .mv (.t 31)⟩),
    (4, ⟨(some 33), (some (32, true)), .mv (.t 2)⟩),
    (5, ⟨(some 34), (some (32, true)), .arith .eql (.t 33) (.k (.d (.val (.int .i64 0))))⟩),
    (6, ⟨(some 35), none, .pick (.t 32) (.t 34) (.k (.d (.val (.bool false))))⟩),
    (7, ⟨(some 36), none, .mv (.t 35)⟩),
    (8, ⟨(some 37), (some (36, true)), .load (some 8) (.t 3)⟩),
    (9, ⟨(some 38), (some (36, true)), .call 95 [(.k (.d (.val (.string ⟨#[97, 42]⟩))))] none false⟩),
    (10, ⟨(some 39), (some (36, true)), .call 47 [(.t 37), (.t 38)] none false⟩),
    (11, ⟨(some 40), none, .pick (.t 36) (.t 39) (.k (.d (.val (.bool false))))⟩),
    (12, ⟨(some 41), none, .mv (.t 40)⟩),
    (13, ⟨(some 42), (some (41, true)), .load (some 8) (.t 5)⟩),
    (14, ⟨(some 43), (some (41, true)), .call 95 [(.k (.d (.val (.string ⟨#[98]⟩))))] none false⟩),
    (15, ⟨(some 44), (some (41, true)), .call 47 [(.t 42), (.t 43)] none false⟩),
    (16, ⟨(some 45), none, .pick (.t 41) (.t 44) (.k (.d (.val (.bool false))))⟩),
    (17, ⟨(some 46), none, .mv (.t 45)⟩),
    (18, ⟨(some 47), (some (46, true)), .mv (.t 8)⟩),
    (19, ⟨(some 48), (some (46, true)), .arith .eql (.t 47) (.k (.d (.val (.int .i64 1))))⟩),
    (20, ⟨(some 49), none, .pick (.t 46) (.t 48) (.k (.d (.val (.bool false))))⟩),
    (21, ⟨(some 50), none, .mv (.t 49)⟩),
    (22, ⟨(some 51), (some (50, true)), .call 53 [(.k (.d (.val (.slice none 0 0))))] none false⟩),
    (23, ⟨(some 52), (some (50, true)), .fsub 0 none (.t 51)⟩),
    (24, ⟨(some 53), (some (50, true)), .arith .eql (.t 52) (.k (.d (.val (.int .i64 1))))⟩),
    (25, ⟨(some 54), none, .pick (.t 50) (.t 53) (.k (.d (.val (.bool false))))⟩),
    (26, ⟨(some 55), none, .mv (.t 54)⟩),
    (27, ⟨(some 56), (some (55, true)), .call 54 [(.k (.d (.val (.slice none 0 0))))] none false⟩),
    (28, ⟨(some 57), (some (55, true)), .fsub 0 none (.t 56)⟩),
    (29, ⟨(some 58), (some (55, true)), .arith .eql (.t 57) (.k (.d (.val (.int .i64 2))))⟩),
    (30, ⟨(some 59), none, .pick (.t 55) (.t 58) (.k (.d (.val (.bool false))))⟩),
    (31, ⟨(some 60), none, .mv (.t 59)⟩),
    (32, ⟨(some 61), (some (60, true)), .call 95 [(.k (.d (.val (.string ⟨#[97]⟩))))] none false⟩),
    (33, ⟨(some 62), (some (60, true)), .call 55 [(.t 61), (.k (.d (.val (.int .i64 2)))), (.k (.d (.val (.int .i64 3))))] none false⟩),
    (34, ⟨(some 63), (some (60, true)), .fsub 6 none (.t 62)⟩),
    (35, ⟨(some 64), (some (60, true)), .arith .eql (.t 63) (.k (.d (.val (.int .i64 3))))⟩),
    (36, ⟨(some 65), none, .pick (.t 60) (.t 64) (.k (.d (.val (.bool false))))⟩),
    (37, ⟨(some 0), none, .mv (.t 65)⟩)] (some [0])) .ret))))))
def md44 : FuncId → Option Nat × Bool
  | _ => (none, false)
def od44 : Nat → List (List Nat) × List Nat × Option (List Nat)
  | 0 => ([], [], some [])
  | 1 => ([], [], some [1, 2])
  | 2 => ([], [], some [1, 2, 3])
  | 3 => ([], [], some [1, 2, 3, 5])
  | 4 => ([], [], some [1, 2, 3, 5, 8])
  | 5 => ([[], [], [0, 1], [0, 1, 2], [0, 1, 2, 3], [0, 1, 2, 3, 4], [0, 1, 2, 3, 4, 5], [0, 1, 2, 3, 4, 5, 6], [0, 1, 2, 3, 4, 5, 6, 7], [0, 1, 2, 3, 4, 5, 6, 7], [0, 1, 2, 3, 4, 5, 6, 7, 8, 9], [0, 1, 2, 3, 4, 5, 6, 7, 8, 9, 10], [0, 1, 2, 3, 4, 5, 6, 7, 8, 9, 10, 11], [0, 1, 2, 3, 4, 5, 6, 7, 8, 9, 10, 11, 12], [0, 1, 2, 3, 4, 5, 6, 7, 8, 9, 10, 11, 12], [0, 1, 2, 3, 4, 5, 6, 7, 8, 9, 10, 11, 12, 13, 14], [0, 1, 2, 3, 4, 5, 6, 7, 8, 9, 10, 11, 12, 13, 14, 15], [0, 1, 2, 3, 4, 5, 6, 7, 8, 9, 10, 11, 12, 13, 14, 15, 16], [0, 1, 2, 3, 4, 5, 6, 7, 8, 9, 10, 11, 12, 13, 14, 15, 16, 17], [0, 1, 2, 3, 4, 5, 6, 7, 8, 9, 10, 11, 12, 13, 14, 15, 16, 17, 18], [0, 1, 2, 3, 4, 5, 6, 7, 8, 9, 10, 11, 12, 13, 14, 15, 16, 17, 18, 19], [0, 1, 2, 3, 4, 5, 6, 7, 8, 9, 10, 11, 12, 13, 14, 15, 16, 17, 18, 19, 20], [0, 1, 2, 3, 4, 5, 6, 7, 8, 9, 10, 11, 12, 13, 14, 15, 16, 17, 18, 19, 20, 21], [0, 1, 2, 3, 4, 5, 6, 7, 8, 9, 10, 11, 12, 13, 14, 15, 16, 17, 18, 19, 20, 21, 22], [0, 1, 2, 3, 4, 5, 6, 7, 8, 9, 10, 11, 12, 13, 14, 15, 16, 17, 18, 19, 20, 21, 22, 23], [0, 1, 2, 3, 4, 5, 6, 7, 8, 9, 10, 11, 12, 13, 14, 15, 16, 17, 18, 19, 20, 21, 22, 23, 24], [0, 1, 2, 3, 4, 5, 6, 7, 8, 9, 10, 11, 12, 13, 14, 15, 16, 17, 18, 19, 20, 21, 22, 23, 24, 25], [0, 1, 2, 3, 4, 5, 6, 7, 8, 9, 10, 11, 12, 13, 14, 15, 16, 17, 18, 19, 20, 21, 22, 23, 24, 25, 26], [0, 1, 2, 3, 4, 5, 6, 7, 8, 9, 10, 11, 12, 13, 14, 15, 16, 17, 18, 19, 20, 21, 22, 23, 24, 25, 26, 27], [0, 1, 2, 3, 4, 5, 6, 7, 8, 9, 10, 11, 12, 13, 14, 15, 16, 17, 18, 19, 20, 21, 22, 23, 24, 25, 26, 27, 28], [0, 1, 2, 3, 4, 5, 6, 7, 8, 9, 10, 11, 12, 13, 14, 15, 16, 17, 18, 19, 20, 21, 22, 23, 24, 25, 26, 27, 28, 29], [0, 1, 2, 3, 4, 5, 6, 7, 8, 9, 10, 11, 12, 13, 14, 15, 16, 17, 18, 19, 20, 21, 22, 23, 24, 25, 26, 27, 28, 29, 30], [0, 1, 2, 3, 4, 5, 6, 7, 8, 9, 10, 11, 12, 13, 14, 15, 16, 17, 18, 19, 20, 21, 22, 23, 24, 25, 26, 27, 28, 29, 30, 31], [0, 1, 2, 3, 4, 5, 6, 7, 8, 9, 10, 11, 12, 13, 14, 15, 16, 17, 18, 19, 20, 21, 22, 23, 24, 25, 26, 27, 28, 29, 30, 31, 32], [0, 1, 2, 3, 4, 5, 6, 7, 8, 9, 10, 11, 12, 13, 14, 15, 16, 17, 18, 19, 20, 21, 22, 23, 24, 25, 26, 27, 28, 29, 30, 31, 32, 33], [0, 1, 2, 3, 4, 5, 6, 7, 8, 9, 10, 11, 12, 13, 14, 15, 16, 17, 18, 19, 20, 21, 22, 23, 24, 25, 26, 27, 28, 29, 30, 31, 32, 33, 34], [0, 1, 2, 3, 4, 5, 6, 7, 8, 9, 10, 11, 12, 13, 14, 15, 16, 17, 18, 19, 20, 21, 22, 23, 24, 25, 26, 27, 28, 29, 30, 31, 32, 33, 34, 35], [0, 1, 2, 3, 4, 5, 6, 7, 8, 9, 10, 11, 12, 13, 14, 15, 16, 17, 18, 19, 20, 21, 22, 23, 24, 25, 26, 27, 28, 29, 30, 31, 32, 33, 34, 35, 36]], [0, 1, 2, 3, 4, 5, 6, 7, 8, 9, 10, 11, 12, 13, 14, 15, 16, 17, 18, 19, 20, 21, 22, 23, 24, 25, 26, 27, 28, 29, 30, 31, 32, 33, 34, 35, 36, 37], some [0])
  | _ => ([], [], none)
theorem b44 {ags : List AV} {row : Option (List DV)} {r : AV} {row' nw : Option (List DV)} (hal : ags.length ≤ 66) (hrow : row'.isSome = true → row.isSome = true) (h : xwp Try.prog x44 (retK [.tmp 0] row.isSome r row' nw) (St.init ags row)) : Good Try.prog 44 ags row r row' nw :=
  good_of_body' (md := md44) (od := od44) Try.f44 (by kernel_rfl) (by kernel_rfl) (by kernel_rfl) (by kernel_rfl) (by kernel_rfl) hal hrow h

def x95 : XC := (.seq (.ops 1 [
    (0, ⟨(some 2), none, .alloc [(.int .i64 0), (.int .u64 0), (.int .u64 0), (.int .u64 0), (.int .u64 0), (.int .i64 0), (.int .i64 0), (.slice none 0 0)]⟩)] (some [0, 2])) (.seq (.ops 10 [
    (0, ⟨(some 7), none, .mv (.t 0)⟩),
    (1, ⟨(some 8), none, .call 118 [(.t 7)] none false⟩),
    (2, ⟨(some 6), none, .mv (.t 8)⟩),
    (3, ⟨(some 9), none, .ext (.t 6) 0⟩),
    (4, ⟨(some 10), none, .ext (.t 6) 1⟩),
    (5, ⟨(some 11), none, .ext (.t 6) 2⟩),
    (6, ⟨(some 3), none, .alloc [(.int .i64 0), (.int .u64 0), (.int .u64 0), (.int .u64 0), (.int .u64 0), (.int .i64 0), (.int .i64 0), (.slice none 0 0)]⟩),
    (7, ⟨none, none, .store 8 (.t 3) (.t 9)⟩),
    (8, ⟨(some 4), none, .mv (.t 10)⟩),
    (9, ⟨(some 5), none, .mv (.t 11)⟩)] (some [2, 3])) (.seq (.ops 2 [
    (0, ⟨(some 12), none, .load (some 8) (.t 3)⟩),
    (1, ⟨none, none, .store 8 (.t 2) (.t 12)⟩)] (some [2])) .ret)))
def md95 : FuncId → Option Nat × Bool
  | _ => (none, false)
def od95 : Nat → List (List Nat) × List Nat × Option (List Nat)
  | 0 => ([], [], some [0, 2])
  | 1 => ([], [], some [2, 3])
  | 2 => ([], [], some [2])
  | _ => ([], [], none)
theorem b95 {ags : List AV} {row : Option (List DV)} {r : AV} {row' nw : Option (List DV)} (hal : ags.length ≤ 13) (hrow : row'.isSome = true → row.isSome = true) (h : xwp Try.prog x95 (retK [.cell 2 (some 8)] row.isSome r row' nw) (St.init ags row)) : Good Try.prog 95 ags row r row' nw :=
  good_of_body' (md := md95) (od := od95) Try.f95 (by kernel_rfl) (by kernel_rfl) (by kernel_rfl) (by kernel_rfl) (by kernel_rfl) hal hrow h

def tabS : Tab
  | 44 => some ⟨x44, [.tmp 0], 66, false, 8⟩
  | 95 => some ⟨x95, [.cell 2 (some 8)], 13, false, 8⟩
  | 46 => some ⟨x46, [.cell 2 (some 8), .tmp 3], 10, false, 8⟩
  | 47 => some ⟨x47, [.tmp 4], 60, false, 8⟩
  | 53 => some ⟨x53, [.cell 2 (some 8)], 13, false, 8⟩
  | 54 => some ⟨x54, [.cell 2 (some 8)], 62, false, 8⟩
  | 55 => some ⟨x55, [.cell 6 (some 8)], 80, false, 8⟩
  | 97 => some ⟨x97, [.cell 2 (some 8)], 40, false, 8⟩
  | 103 => some ⟨x103, [.tmp 4], 27, true, 8⟩
  | 104 => some ⟨x104, [.tmp 4], 9, false, 8⟩
  | 105 => some ⟨x105, [.tmp 2], 12, false, 8⟩
  | 106 => some ⟨x106, [.cell 0 (some 8)], 2, false, 8⟩
  | 107 => some ⟨x107, [.tmp 4], 42, false, 8⟩
  | 108 => some ⟨x108, [.tmp 2], 6, false, 8⟩
  | 109 => some ⟨x109, [.cell 6 (some 8)], 20, false, 8⟩
  | 110 => some ⟨x110, [.cell 0 (some 8)], 2, false, 8⟩
  | 111 => some ⟨x111, [.tmp 3], 7, false, 8⟩
  | 112 => some ⟨x112, [.tmp 4], 38, false, 8⟩
  | 113 => some ⟨x113, [.tmp 2], 16, false, 8⟩
  | 145 => some ⟨x145, [.tmp 4], 19, false, 8⟩
  | 146 => some ⟨x146, [.tmp 6], 32, false, 8⟩
  | 73 => some ⟨x73, [.cell 4 (some 4)], 19, false, 8⟩
  | 84 => some ⟨x84, [.tmp 2], 4, false, 8⟩
  | 132 => some ⟨x132, [.tmp 4], 46, false, 8⟩
  | 156 => some ⟨x156, [.tmp 2], 121, false, 8⟩
  | 157 => some ⟨x157, [.tmp 4], 24, false, 8⟩
  | 83 => some ⟨x83, [.cell 2 (some 8)], 13, false, 8⟩
  | 119 => some ⟨x119, [.cell 4 (some 4)], 24, false, 8⟩
  | 149 => some ⟨x149, [.cell 2 (some 8)], 16, false, 8⟩
  | 150 => some ⟨x150, [], 10, false, 8⟩
  | 162 => some ⟨x162, [.cell 2 (some 8)], 14, false, 8⟩
  | 163 => some ⟨x163, [.tmp 4], 17, false, 8⟩
  | 164 => some ⟨x164, [.cell 4 (some 8)], 20, false, 8⟩
  | 170 => some ⟨x170, [.tmp 2], 16, false, 8⟩
  | 171 => some ⟨x171, [.cell 2 (some 8)], 33, false, 8⟩
  | 172 => some ⟨x172, [.tmp 2], 23, false, 8⟩
  | 176 => some ⟨x176, [.cell 2 (some 8)], 60, false, 8⟩
  | 177 => some ⟨x177, [.tmp 2, .tmp 3], 29, false, 8⟩
  | 178 => some ⟨x178, [], 15, false, 8⟩
  | 179 => some ⟨x179, [.cell 2 (some 4)], 19, false, 8⟩
  | 180 => some ⟨x180, [.cell 2 (some 4)], 10, false, 8⟩
  | 181 => some ⟨x181, [.tmp 2], 34, false, 8⟩
  | 182 => some ⟨x182, [.tmp 2], 54, false, 8⟩
  | 183 => some ⟨x183, [.cell 2 (some 4)], 28, false, 8⟩
  | 184 => some ⟨x184, [.cell 2 (some 4)], 15, false, 8⟩
  | 185 => some ⟨x185, [.tmp 2], 50, false, 8⟩
  | 186 => some ⟨x186, [.tmp 2], 22, false, 8⟩
  | 187 => some ⟨x187, [.tmp 2], 28, false, 8⟩
  | 188 => some ⟨x188, [.tmp 4], 8, false, 8⟩
  | 189 => some ⟨x189, [.tmp 2], 24, false, 8⟩
  | 190 => some ⟨x190, [.tmp 4], 8, false, 8⟩
  | _ => none
theorem tabS_ok : TabOK Try.prog tabS := by
  intro f t h ags row r row' nw hal hrow hx
  unfold tabS at h
  split at h
  · cases h; exact b44 hal hrow hx
  · cases h; exact b95 hal hrow hx
  · cases h; exact b46 hal hrow hx
  · cases h; exact b47 hal hrow hx
  · cases h; exact b53 hal hrow hx
  · cases h; exact b54 hal hrow hx
  · cases h; exact b55 hal hrow hx
  · cases h; exact b97 hal hrow hx
  · cases h; exact b103 hal hrow hx
  · cases h; exact b104 hal hrow hx
  · cases h; exact b105 hal hrow hx
  · cases h; exact b106 hal hrow hx
  · cases h; exact b107 hal hrow hx
  · cases h; exact b108 hal hrow hx
  · cases h; exact b109 hal hrow hx
  · cases h; exact b110 hal hrow hx
  · cases h; exact b111 hal hrow hx
  · cases h; exact b112 hal hrow hx
  · cases h; exact b113 hal hrow hx
  · cases h; exact b145 hal hrow hx
  · cases h; exact b146 hal hrow hx
  · cases h; exact b73 hal hrow hx
  · cases h; exact b84 hal hrow hx
  · cases h; exact b132 hal hrow hx
  · cases h; exact b156 hal hrow hx
  · cases h; exact b157 hal hrow hx
  · cases h; exact b83 hal hrow hx
  · cases h; exact b119 hal hrow hx
  · cases h; exact b149 hal hrow hx
  · cases h; exact b150 hal hrow hx
  · cases h; exact b162 hal hrow hx
  · cases h; exact b163 hal hrow hx
  · cases h; exact b164 hal hrow hx
  · cases h; exact b170 hal hrow hx
  · cases h; exact b171 hal hrow hx
  · cases h; exact b172 hal hrow hx
  · cases h; exact b176 hal hrow hx
  · cases h; exact b177 hal hrow hx
  · cases h; exact b178 hal hrow hx
  · cases h; exact b179 hal hrow hx
  · cases h; exact b180 hal hrow hx
  · cases h; exact b181 hal hrow hx
  · cases h; exact b182 hal hrow hx
  · cases h; exact b183 hal hrow hx
  · cases h; exact b184 hal hrow hx
  · cases h; exact b185 hal hrow hx
  · cases h; exact b186 hal hrow hx
  · cases h; exact b187 hal hrow hx
  · cases h; exact b188 hal hrow hx
  · cases h; exact b189 hal hrow hx
  · cases h; exact b190 hal hrow hx
  · cases h

theorem awake10_ev : evF tabS (spP 100) 100 40 44 [] none = some (.b true, none, none) := by kernel_rfl
theorem awake10_good : Good Try.prog 44 [] none (.b true) none none := evF_sound tabS_ok (spP_ok 100) 40 44 [] none _ _ _ awake10_ev
end Go.Sv
namespace Go.Sv
open Go Go.Proofs
set_option maxRecDepth 100000
set_option maxHeartbeats 4000000
attribute [local irreducible] W E R KP thenK blockK retK Good xwp aRun
end Go.Sv
