/- A part of the proof of the law MeasureTells: that it answers true for every input, and that the input reads behind the call as before (no condition). -/
import Derived.Test.YtcnlgmajkclgjaaMeasureTellsG6
set_option linter.all false
set_option linter.unusedSectionVars false
set_option linter.unusedVariables false
set_option linter.unusedSimpArgs false
namespace Go.Sv
open Go
set_option linter.unusedVariables false
abbrev Q4 := Int × Int × Int × Int
def encQ (q : Q4) : List DV := [.val (.int .u64 q.1), .val (.int .u64 q.2.1), .val (.int .u64 q.2.2.1), .val (.int .u64 q.2.2.2)]
def encK : List Q4 → List DV
  | [] => []
  | q :: l => encQ q ++ encK l
def quadA (q : Q4) : AV := .agg [.d (.val (.int .u64 q.1)), .d (.val (.int .u64 q.2.1)), .d (.val (.int .u64 q.2.2.1)), .d (.val (.int .u64 q.2.2.2))]
theorem encK_len : ∀ l : List Q4, (encK l).length = l.length * 4
  | [] => rfl
  | q :: l => by simp only [encK, encQ, List.length_append, List.length_cons, List.length_nil, encK_len l]; omega
theorem encK_app : ∀ a b : List Q4, encK (a ++ b) = encK a ++ encK b
  | [], b => rfl
  | q :: a, b => by simp only [List.cons_append, encK, encK_app a b, List.append_assoc]
theorem encK_isD (l : List Q4) : ((encK l).map AV.d).all AV.isD = true := by rw [List.all_map]; simp [AV.isD]
theorem encK_one (l : List Q4) : ((encK l).map AV.d).all AV.one = true := by rw [List.all_map]; simp [AV.one]
theorem encK_norm : ∀ l : List Q4, (encK l).map DV.norm = encK l
  | [] => rfl
  | q :: l => by simp only [encK, List.map_append, encK_norm l]; rfl
theorem encK_at : ∀ (l : List Q4) (j : Nat) (q : Q4), l[j]? = some q → ((encK l).drop (j * 4)).take 4 = encQ q
  | [], j, q, h => by simp at h
  | p :: l, 0, q, h => by
    simp at h; subst h
    simp [encK, encQ]
  | p :: l, j + 1, q, h => by
    have := encK_at l j q (by simpa using h)
    rw [encK, List.drop_append, List.drop_of_length_le (by simp [encQ]; omega), List.nil_append, show (j + 1) * 4 - (encQ p).length = j * 4 by simp [encQ]; omega]
    exact this
section
variable {P : Program} {Q : Cont} {fr : Fr} {C : Heap} {Z : Frz} {nx : Nat} {base n d : Nat} {l : List (Nat × XO)} {kp : Option (List Nat)} {x i y s : X}
theorem r_mkK {id : Nat} {q : Q4} (hx : x.ev fr = quadA q) (hid : base + n = id) (k : R P l base kp Q nx (fr.put d (.slL id 0 1 4)) (C.put id ((encK [q]).map AV.d)) Z) : R P ((n, ⟨some d, none, .mkrow [(.int .u64 0), (.int .u64 0), (.int .u64 0), (.int .u64 0)] 1 4 [(0, 4, x)]⟩) :: l) base kp Q nx fr C Z := by
  subst hid
  refine r_n (v := .slL (base + n) 0 1 4) (r := (encK [q]).map AV.d) ?_ k
  simp only [xn, List.map_cons, List.map_nil, hx]
  rfl
theorem r_appK {b c id m : Nat} {K L : List Q4} (hs : s.ev fr = .slL b 0 m 4) (hx : x.ev fr = .slL c 0 1 4) (hC : C b = some ((encK K).map AV.d)) (hCc : C c = some ((encK L).map AV.d)) (hm : K.length = m) (hj : L.length = 1) (hz : Z b = false) (hid : base + n = id) (hb : m ≤ 100000000)
    (k : R P l base kp Q nx (fr.put d (.slL id 0 (m + 1) 4)) ((C.del b).put id ((encK (K ++ L)).map AV.d)) Z) : R P ((n, ⟨some d, none, .app [(.int .u64 0), (.int .u64 0), (.int .u64 0), (.int .u64 0)] 32 s x⟩) :: l) base kp Q nx fr C Z := by
  subst hid hm
  refine r_w (v := .slL (base + n) 0 (K.length + 1) 4) (C' := (C.del b).put (base + n) ((encK (K ++ L)).map AV.d)) ?_ k
  have hl := encK_len K
  have hl2 := encK_len L
  have h2 : srcOf C 4 (.slL c 0 1 4) = some ((encK L).map AV.d, 1) := by
    simp only [srcOf, if_true, hCc, Option.bind_some]
    rw [if_pos (by rw [List.length_map]; omega), List.drop_zero, List.take_of_length_le (by rw [List.length_map]; omega)]
  simp only [xw, List.length_cons, List.length_nil, Nat.zero_add, Nat.reduceAdd, hx, h2, Option.bind_some, hs, hC]
  rw [if_pos (encK_one L), if_pos ⟨trivial, hz, by rw [List.length_map]; omega, by omega⟩, List.take_of_length_le (by rw [List.length_map]; omega), encK_app, List.map_append]
theorem r_appKD {b id m j : Nat} {K L : List Q4} (hs : s.ev fr = .slL b 0 m 4) (hx : x.ev fr = .d (.sl (encK L) j)) (hC : C b = some ((encK K).map AV.d)) (hm : K.length = m) (hj : L.length = j) (hz : Z b = false) (hid : base + n = id) (hb : m + j ≤ 100000000)
    (k : R P l base kp Q nx (fr.put d (.slL id 0 (m + j) 4)) ((C.del b).put id ((encK (K ++ L)).map AV.d)) Z) : R P ((n, ⟨some d, none, .app [(.int .u64 0), (.int .u64 0), (.int .u64 0), (.int .u64 0)] 32 s x⟩) :: l) base kp Q nx fr C Z := by
  subst hid hm hj
  refine r_w (v := .slL (base + n) 0 (K.length + L.length) 4) (C' := (C.del b).put (base + n) ((encK (K ++ L)).map AV.d)) ?_ k
  have hl := encK_len K
  have h2 : srcOf C 4 (.d (.sl (encK L) L.length)) = some ((encK L).map AV.d, L.length) := by
    unfold srcOf
    split
    · rename_i e; cases e
    · rename_i e; cases e; rw [if_pos (encK_len L)]
    · rename_i e; cases e
    · rename_i h1 h2 h3; exact absurd rfl (h2 _ _)
  simp only [xw, List.length_cons, List.length_nil, Nat.zero_add, Nat.reduceAdd, hx, h2, Option.bind_some, hs, hC]
  rw [if_pos (encK_one L), if_pos ⟨trivial, hz, by rw [List.length_map]; omega, by omega⟩, List.take_of_length_le (by rw [List.length_map]; omega), encK_app, List.map_append]
theorem retLK {live : Bool} {b m : Nat} {p : List Q4} (hC : C b = some ((encK p).map AV.d)) (hm : p.length = m) : RetOK C Z (tupOf [.slL b 0 m 4]) live (.d (.sl (encK p) m)) none none := by
  refine .data _ ?_
  subst hm
  have hl := encK_len p
  simp only [tupOf, convT, convA, convC]
  rcases Nat.eq_zero_or_pos p.length with h | h
  · have := List.length_eq_zero_iff.1 h
    subst this
    rfl
  · rw [if_neg (by omega), if_neg (by simp)]
    simp only [hC, Option.bind_some]
    rw [if_pos (by rw [List.length_map]; omega), List.drop_zero, List.take_of_length_le (by rw [List.length_map]; omega), mapO_d, encK_norm]
    rfl
theorem r_ixK {K : List Q4} {j m : Nat} {e : Int} (hx : x.ev fr = .d (.sl (encK K) m)) (hm : K.length = m) (hi : i.ev fr = .i e) (he : e = (j : Nat)) (hj : j < m) (k : R P l base kp Q nx (fr.put d (.d (.ptr (encK K) (j * 4)))) C Z) : R P ((n, ⟨some d, none, .idxS 4 x i⟩) :: l) base kp Q nx fr C Z := by
  subst he
  subst hm
  refine r_p ?_ k
  have hne : encK K ≠ [] := fun h => by
    have := congrArg List.length h
    rw [encK_len, List.length_nil] at this; omega
  have hl := encK_len K
  simp [xp, hx, hi, hne, intIn, hj]
theorem r_ldK {K : List Q4} {j : Nat} {q : Q4} (hx : x.ev fr = .d (.ptr (encK K) (j * 4))) (hp : K[j]? = some q) (k : R P l base kp Q nx (fr.put d (quadA q)) C Z) : R P ((n, ⟨some d, none, .load (some 4) x⟩) :: l) base kp Q nx fr C Z := by
  refine r_l ?_ k
  have h := encK_at K j q hp
  have hl := encK_len K
  have hj : j < K.length := (List.getElem?_eq_some_iff.1 hp).1
  simp only [xl, hx, rowOf, Option.bind_some, subA]
  rw [if_pos (by rw [List.length_map]; omega), ← List.map_drop, ← List.map_take, h]
  rfl
end
mutual
def setsT : T → List Q4
  | .node k a b c d _ _ subs => if k = 2 then [(a, b, c, d)] else setsL subs
def setsL : List T → List Q4
  | [] => []
  | t :: l => setsT t ++ setsL l
end
mutual
theorem setsT_len : ∀ t : T, (setsT t).length ≤ t.cnt
  | .node k a b c d mn mx subs => by
    have := setsL_len subs
    rw [setsT, T.cnt]
    split
    · simp
    · omega
theorem setsL_len : ∀ l : List T, (setsL l).length ≤ cntL l
  | [] => Nat.le_refl _
  | t :: l => by
    have h1 := setsT_len t
    have h2 := setsL_len l
    rw [setsL, cntL, List.length_append]; omega
end
theorem setsL_app : ∀ a b : List T, setsL (a ++ b) = setsL a ++ setsL b
  | [], b => rfl
  | t :: a, b => by rw [List.cons_append, setsL, setsL_app a b, setsL, List.append_assoc]
theorem setsL_take (l : List T) (i : Nat) (h : i < l.length) : setsL (l.take (i + 1)) = setsL (l.take i) ++ setsT l[i] := by
  rw [List.take_succ_eq_append_getElem h, setsL_app]; simp [setsL]
end Go.Sv
namespace Go.Sv
open Go Go.Proofs
def x61 : XC := (.seq (.ops 2 [
    (0, ⟨(some 1), none, .box (.t 0)⟩),
    (1, ⟨(some 2), none, .mv (.k (.d (.val (.slice none 0 0))))⟩)] (some [1])) (.seq (.seq (.ops 3 [
    (0, ⟨(some 5), none, .fadd 0 (.t 1)⟩),
    (1, ⟨(some 6), none, .load none (.t 5)⟩),
    (2, ⟨(some 7), none, .arith .eql (.t 6) (.k (.d (.val (.int .i64 2))))⟩)] (some [1, 7])) (.cond (.t 7) (.seq (.ops 4 [
    (0, ⟨(some 8), none, .fadd 1 (.t 1)⟩),
    (1, ⟨(some 9), none, .load (some 4) (.t 8)⟩),
    (2, ⟨(some 10), none, .mkrow [(.int .u64 0), (.int .u64 0), (.int .u64 0), (.int .u64 0)] 1 4 [(0, 4, (.t 9))]⟩),
    (3, ⟨(some 2), none, .mv (.t 10)⟩)] (some [2])) .ret) .skip)) (.seq (.ops 1 [
    (0, ⟨(some 3), none, .mv (.k (.d (.val (.slice none 0 0))))⟩)] (some [1, 3])) (.seq (.seq (.ops 1 [
    (0, ⟨(some 4), none, .mv (.k (.d (.val (.int .i64 0))))⟩)] (some [1, 3, 4])) (.block 0 (.loop (.seq (.seq (.ops 5 [
    (0, ⟨(some 11), none, .mv (.t 4)⟩),
    (1, ⟨(some 12), none, .fadd 7 (.t 1)⟩),
    (2, ⟨(some 13), none, .load none (.t 12)⟩),
    (3, ⟨(some 14), none, .lenS (.t 13)⟩),
    (4, ⟨(some 15), none, .arith .lss (.t 11) (.t 14)⟩)] (some [1, 3, 4, 15])) (.cond (.t 15) .skip (.exit 0))) (.seq (.block 1 (.ops 9 [
    (0, ⟨(some 18), none, .mv (.t 3)⟩),
    (1, ⟨(some 19), none, .fadd 7 (.t 1)⟩),
    (2, ⟨(some 20), none, .load none (.t 19)⟩),
    (3, ⟨(some 21), none, .mv (.t 4)⟩),
    (4, ⟨(some 22), none, .idxS 8 (.t 20) (.t 21)⟩),
    (5, ⟨(some 23), none, .load (some 8) (.t 22)⟩),
    (6, ⟨(some 24), none, .call 61 [(.t 23)] none false⟩),
    (7, ⟨(some 25), none, .app [(.int .u64 0), (.int .u64 0), (.int .u64 0), (.int .u64 0)] 32 (.t 18) (.t 24)⟩),
    (8, ⟨(some 3), none, .mv (.t 25)⟩)] (some [1, 3, 4]))) (.ops 3 [
    (0, ⟨(some 16), none, .mv (.t 4)⟩),
    (1, ⟨(some 17), none, .arith .add (.t 16) (.k (.d (.val (.int .i64 1))))⟩),
    (2, ⟨(some 4), none, .mv (.t 17)⟩)] (some [1, 3, 4]))))))) (.seq (.ops 2 [
    (0, ⟨(some 26), none, .mv (.t 3)⟩),
    (1, ⟨(some 2), none, .mv (.t 26)⟩)] (some [2])) .ret)))))
def md61 : FuncId → Option Nat × Bool
  | _ => (none, false)
def od61 : Nat → List (List Nat) × List Nat × Option (List Nat)
  | 0 => ([], [], some [1])
  | 1 => ([], [], some [1, 7])
  | 2 => ([], [], some [2])
  | 3 => ([], [], some [1, 3])
  | 4 => ([], [], some [1, 3, 4])
  | 5 => ([], [], some [1, 3, 4, 15])
  | 6 => ([], [], some [1, 3, 4])
  | 7 => ([], [], some [1, 3, 4])
  | 8 => ([], [], some [2])
  | _ => ([], [], none)
theorem b61 {ags : List AV} {row : Option (List DV)} {r : AV} {row' nw : Option (List DV)} (hal : ags.length ≤ 27) (hrow : row'.isSome = true → row.isSome = true) (h : xwp Try.prog x61 (retK [.tmp 2] row.isSome r row' nw) (St.init ags row)) : Good Try.prog 61 ags row r row' nw :=
  good_of_body' (md := md61) (od := od61) Try.f61 (by kernel_rfl) (by kernel_rfl) (by kernel_rfl) (by kernel_rfl) (by kernel_rfl) hal hrow h

section
variable {P : Program} {Q : Cont} {fr : Fr} {C : Heap} {Z : Frz} {nx : Nat} {base n d : Nat} {l : List (Nat × XO)} {kp : Option (List Nat)} {x i y s : X}
theorem r_callK {f : FuncId} {xs : List X} {p : DV} {b id m m' : Nat} {K K' : List Q4} (ha : xs.map (X.ev fr) = [.d p, .slL b 0 m 4]) (hp : p.nrm = true) (hC : C b = some ((encK K).map AV.d)) (hz : Z b = false) (hid : base + n = id) (hg : Good P f [.d p, .slL 0 0 m 4] (some (encK K)) (.slL 1 0 m' 4) none (some (encK K')))
    (k : R P l base kp Q nx (fr.put d (.slL id 0 m' 4)) ((C.del b).put id ((encK K').map AV.d)) Z) : R P ((n, ⟨some d, none, .call f xs (some 1) true⟩) :: l) base kp Q nx fr C Z := by
  subst hid
  have hcv : convAsL C b 1 [.d p, .slL b 0 m 4] = some ([.d p, .slL 0 0 m 4], []) := by
    simp [convAsL, convAs, convA, convC, toZ, DV.nrm_norm hp]
  exact s_callLN (Z' := Z) ha rfl hC hz hcv hg (by simp [Frz.add_nil]) rfl k
theorem r_callKN {f : FuncId} {xs : List X} {as0 bs : List AV} {us : List Nat} {id m' : Nat} {K' : List Q4} (ha : xs.map (X.ev fr) = as0) (hc : convAs C (fun _ => false) as0 = some (bs, us)) (hid : base + n = id) (hg : Good P f (keepN (some 1) as0 bs) none (.slL 1 0 m' 4) none (some (encK K')))
    (k : ∀ Z', R P l base kp Q nx (fr.put d (.slL id 0 m' 4)) (C.put id ((encK K').map AV.d)) Z') : R P ((n, ⟨some d, none, .call f xs (some 1) true⟩) :: l) base kp Q nx fr C Z := by
  subst hid
  exact s_callNN ha hc hg rfl rfl (k _)
end
set_option maxRecDepth 100000
set_option maxHeartbeats 4000000
attribute [local irreducible] W E R KP thenK blockK retK Good xwp aRun
theorem sets120_good : ∀ (n : Nat) (t : T) (cs : List DV) (off : Nat), NodeAt cs off t → t.cnt ≤ n → n ≤ 1000000 → ∀ K : List Q4, K.length + t.cnt ≤ 2000000 → Good Try.prog 120 [.d (.ptr cs off), .slL 0 0 K.length 4] (some (encK K)) (.slL 1 0 (K ++ setsT t).length 4) none (some (encK (K ++ setsT t))) := by
  intro n
  induction n with
  | zero => intro t cs off _ ht; have := cnt_pos t; omega
  | succ n ih =>
  intro t cs off hs ht hc KK hKK
  obtain ⟨k, a, b, c, d, mn, mx, subs⟩ := t
  have hlen : subs.length ≤ 1000000 := by
    have := cntL_len subs
    simp only [T.cnt] at ht
    omega
  by_cases hk : k = 2
  · subst hk
    have e : setsT (.node 2 a b c d mn mx subs) = [(a, b, c, d)] := by rw [setsT, if_pos rfl]
    rw [e]
    refine b120 (by simp) (by simp) (w_init ?_)
    unfold x120
    repeat' (first
    | (apply r_mvV; rfl)
    | (apply r_mvP; rfl)
    | (apply r_mvPL; rfl)
    | (apply r_mvS; rfl)
    | (apply r_mvSL; rfl)
    | (apply r_mvA; rfl)
    | (apply r_mvT; rfl)
    | (apply r_mvF; rfl)
    | (apply r_mvD; rfl)
    | (apply r_nckD; rfl)
    | (apply r_faddD; rfl)
    | (apply r_nckL; rfl)
    | (apply r_faddL; rfl)
    | (apply r_l; apply ld_kind; assumption; rfl)
    | (apply r_l; apply ld_mn; assumption; rfl)
    | (apply r_l; apply ld_mx; assumption; rfl)
    | (apply r_l; apply ld_subs; assumption; rfl)
    | (apply r_l; apply ld_set; assumption; rfl)
    | (apply r_l; apply ld_node; assumption; rfl)
    | (apply r_l; apply ld_kind'; assumption; rfl)
    | (apply r_l; apply ld_mn'; assumption; rfl)
    | (apply r_l; apply ld_mx'; assumption; rfl)
    | (apply r_l; apply ld_subs'; assumption; rfl)
    | (apply r_l; apply ld_node'; assumption; rfl)
    | (apply r_mkK (q := (a, b, c, d)); rfl; ((conv => lhs; simp only [Nat.reduceAdd]) <;> rfl))
    | (apply r_appK (K := KK) (L := [(a, b, c, d)]); rfl; rfl; rfl; rfl; rfl; rfl; rfl; ((conv => lhs; simp only [Nat.reduceAdd]) <;> rfl); omega)
    | (apply r_ldL; rfl; rfl; rfl)
    | (apply r_eql; rfl; rfl; (first | (apply decide_eq_true; omega) | (apply decide_eq_false; omega) | rfl))
    | (apply r_lss; rfl; rfl; (first | (apply decide_eq_true; omega) | (apply decide_eq_false; omega) | rfl))
    | (apply r_add; rfl; rfl; rfl; omega)
    | (apply r_lenD; rfl)
    | (apply r_lenL; rfl)
    | (apply r_len0; rfl)
    | (apply r_p; rfl)
    | (apply r_nilK)
    | (apply r_nil)
    | (apply k_V; rfl)
    | (apply k_P; rfl)
    | (apply k_PL; rfl)
    | (apply k_S; rfl)
    | (apply k_SL; rfl)
    | (apply k_A; rfl)
    | (apply k_T; rfl)
    | (apply k_F; rfl)
    | (apply k_D; rfl; rotate_left; rfl)
    | (apply k_nil)
    | (apply e_ret (vs := [.d (.val _)]); rfl)
    | (apply e_ret; rfl)
    | (apply e_ret' (vs := [.d (.val _)]); rfl)
    | (apply e_ret'; rfl)
    | (apply w_seq)
    | (apply w_ops; ((conv => lhs; simp only [Nat.reduceAdd]) <;> rfl))
    | (apply w_condT; rfl)
    | (apply w_condF; rfl)
    | ((apply w_condS; rfl) <;> (intro h; try simp only [decide_eq_true_eq, decide_eq_false_iff_not, Bool.not_eq_true, Bool.not_eq_false] at h))
    | (apply e_thenN)
    | (apply w_block)
    | (apply e_thenR)
    | (apply e_thenX)
    | (apply e_blkN)
    | (apply e_blkR)
    | (apply e_blkE)
    | (apply w_exit)
    | (apply w_ret)
    | (apply w_skip)
    | (apply e_blkE'; rfl))
    rw [List.length_append, List.length_singleton]
    exact .new _ _ _ _ _ rfl rfl rfl
  have e : setsT (.node k a b c d mn mx subs) = setsL subs := by rw [setsT, if_neg hk]
  rw [e]
  have ih' : ∀ i (h : i < subs.length), Good Try.prog 120 [.d (.ptr (encL subs) (i * 8)), .slL 0 0 (KK ++ setsL (subs.take i)).length 4] (some (encK (KK ++ setsL (subs.take i)))) (.slL 1 0 (KK ++ setsL (subs.take (i + 1))).length 4) none (some (encK (KK ++ setsL (subs.take (i + 1))))) := by
    intro i h
    have h1 := cntL_get subs i h
    have h2 := setsL_len (subs.take i)
    have h3 := cntL_take subs i h
    have h4 := cntL_take_le subs (i + 1)
    simp only [T.cnt] at ht hKK
    rw [setsL_take subs i h, ← List.append_assoc]
    refine ih _ _ _ (NodeAt.sub h) (by omega) (by omega) _ ?_
    rw [List.length_append]; omega
  refine b120 (by simp) (by simp) (w_init ?_)
  unfold x120
  repeat' (first
    | (apply r_mvV; rfl)
    | (apply r_mvP; rfl)
    | (apply r_mvPL; rfl)
    | (apply r_mvS; rfl)
    | (apply r_mvSL; rfl)
    | (apply r_mvA; rfl)
    | (apply r_mvT; rfl)
    | (apply r_mvF; rfl)
    | (apply r_mvD; rfl)
    | (apply r_nckD; rfl)
    | (apply r_faddD; rfl)
    | (apply r_nckL; rfl)
    | (apply r_faddL; rfl)
    | (apply r_l; apply ld_kind; assumption; rfl)
    | (apply r_l; apply ld_mn; assumption; rfl)
    | (apply r_l; apply ld_mx; assumption; rfl)
    | (apply r_l; apply ld_subs; assumption; rfl)
    | (apply r_l; apply ld_set; assumption; rfl)
    | (apply r_l; apply ld_node; assumption; rfl)
    | (apply r_l; apply ld_kind'; assumption; rfl)
    | (apply r_l; apply ld_mn'; assumption; rfl)
    | (apply r_l; apply ld_mx'; assumption; rfl)
    | (apply r_l; apply ld_subs'; assumption; rfl)
    | (apply r_l; apply ld_node'; assumption; rfl)
    | (apply r_ldL; rfl; rfl; rfl)
    | (apply r_eql; rfl; rfl; (first | (apply decide_eq_true; omega) | (apply decide_eq_false; omega) | rfl))
    | (apply r_lss; rfl; rfl; (first | (apply decide_eq_true; omega) | (apply decide_eq_false; omega) | rfl))
    | (apply r_add; rfl; rfl; rfl; omega)
    | (apply r_lenD; rfl)
    | (apply r_lenL; rfl)
    | (apply r_len0; rfl)
    | (apply r_p; rfl)
    | (apply r_nilK)
    | (apply r_nil)
    | (apply k_V; rfl)
    | (apply k_P; rfl)
    | (apply k_PL; rfl)
    | (apply k_S; rfl)
    | (apply k_SL; rfl)
    | (apply k_A; rfl)
    | (apply k_T; rfl)
    | (apply k_F; rfl)
    | (apply k_D; rfl; rotate_left; rfl)
    | (apply k_nil)
    | (apply e_ret (vs := [.d (.val _)]); rfl)
    | (apply e_ret; rfl)
    | (apply e_ret' (vs := [.d (.val _)]); rfl)
    | (apply e_ret'; rfl)
    | (apply w_seq)
    | (apply w_ops; ((conv => lhs; simp only [Nat.reduceAdd]) <;> rfl))
    | (apply w_condT; rfl)
    | (apply w_condF; rfl)
    | ((apply w_condS; rfl) <;> (intro h; try simp only [decide_eq_true_eq, decide_eq_false_iff_not, Bool.not_eq_true, Bool.not_eq_false] at h))
    | (apply e_thenN)
    | (apply w_block)
    | (apply e_thenR)
    | (apply e_thenX)
    | (apply e_blkN)
    | (apply e_blkR)
    | (apply e_blkE)
    | (apply w_exit)
    | (apply w_ret)
    | (apply w_skip)
    | (apply e_blkE'; rfl))
  apply w_loopI (S := fun i : Nat => ⟨((((Fr.nil.put 0 (.d (.ptr cs off))).put 1 (.slL 50 0 (KK ++ setsL (subs.take i)).length 4)).put 22 (.i subs.length)).put 23 (.i i)), rowsOf [(50, (encK (KK ++ setsL (subs.take i))).map AV.d)], Frz.buts 100 [50], 100⟩) (m := fun i => subs.length - i) (I := fun i => i ≤ subs.length) (i0 := 0)
  · exact Nat.zero_le _
  · rw [List.take_zero, setsL, List.append_nil]
    refine wkM [(50, 0)] [] rfl ?_ ?_ rfl ?_
    · intro p hp
      simp only [List.mem_cons, List.not_mem_nil, or_false] at hp
      rcases hp with rfl
      exact ⟨by omega, .inr ⟨rfl, _, rfl, .data (encK_isD _)⟩⟩
    · intro q hq; simp only [List.mem_cons, List.not_mem_nil, or_false] at hq; rcases hq with rfl <;> rfl
    · repeat' (first
    | exact FWk.nil
    | (apply FWk.i; rfl; (first | rfl | omega | (simp; done)))
    | (apply FWk.sl; rfl; rfl; rfl; rfl; omega; rfl)
    | (apply FWk.ptr; rfl; rfl; rfl; omega; rfl)
    | (apply FWk.d; rfl; rfl)
    | (apply FWk.a; rfl; rfl; rfl)
    | (apply FWk.slN; rfl; omega; rfl))
  intro i K hi hK
  dsimp only
  rcases Nat.lt_or_ge i subs.length with hlt | hge
  · have hg := ih' i hlt
    generalize KK ++ setsL (subs.take i) = K1 at hg
    have hK' := hK (i + 1)
    generalize KK ++ setsL (subs.take (i + 1)) = K2 at hg hK'
    repeat' (first
    | (apply r_mvV; rfl)
    | (apply r_mvP; rfl)
    | (apply r_mvPL; rfl)
    | (apply r_mvS; rfl)
    | (apply r_mvSL; rfl)
    | (apply r_mvA; rfl)
    | (apply r_mvT; rfl)
    | (apply r_mvF; rfl)
    | (apply r_mvD; rfl)
    | (apply r_nckD; rfl)
    | (apply r_faddD; rfl)
    | (apply r_nckL; rfl)
    | (apply r_faddL; rfl)
    | (apply r_l; apply ld_kind; assumption; rfl)
    | (apply r_l; apply ld_mn; assumption; rfl)
    | (apply r_l; apply ld_mx; assumption; rfl)
    | (apply r_l; apply ld_subs; assumption; rfl)
    | (apply r_l; apply ld_set; assumption; rfl)
    | (apply r_l; apply ld_node; assumption; rfl)
    | (apply r_l; apply ld_kind'; assumption; rfl)
    | (apply r_l; apply ld_mn'; assumption; rfl)
    | (apply r_l; apply ld_mx'; assumption; rfl)
    | (apply r_l; apply ld_subs'; assumption; rfl)
    | (apply r_l; apply ld_node'; assumption; rfl)
    | (apply r_p; apply ix_sub; rfl; rfl; omega)
    | (apply r_callK (p := .ptr (encL subs) (i * 8)) (K := K1) (K' := K2); rfl; rfl; rfl; rfl; ((conv => lhs; simp only [Nat.reduceAdd]) <;> rfl); exact hg)
    | (apply r_ldL; rfl; rfl; rfl)
    | (apply r_eql; rfl; rfl; (first | (apply decide_eq_true; omega) | (apply decide_eq_false; omega) | rfl))
    | (apply r_lss; rfl; rfl; (first | (apply decide_eq_true; omega) | (apply decide_eq_false; omega) | rfl))
    | (apply r_add; rfl; rfl; rfl; omega)
    | (apply r_lenD; rfl)
    | (apply r_lenL; rfl)
    | (apply r_len0; rfl)
    | (apply r_p; rfl)
    | (apply r_nilK)
    | (apply r_nil)
    | (apply k_V; rfl)
    | (apply k_P; rfl)
    | (apply k_PL; rfl)
    | (apply k_S; rfl)
    | (apply k_SL; rfl)
    | (apply k_A; rfl)
    | (apply k_T; rfl)
    | (apply k_F; rfl)
    | (apply k_D; rfl; rotate_left; rfl)
    | (apply k_nil)
    | (apply e_ret (vs := [.d (.val _)]); rfl)
    | (apply e_ret; rfl)
    | (apply e_ret' (vs := [.d (.val _)]); rfl)
    | (apply e_ret'; rfl)
    | (apply w_seq)
    | (apply w_ops; ((conv => lhs; simp only [Nat.reduceAdd]) <;> rfl))
    | (apply w_condT; rfl)
    | (apply w_condF; rfl)
    | ((apply w_condS; rfl) <;> (intro h; try simp only [decide_eq_true_eq, decide_eq_false_iff_not, Bool.not_eq_true, Bool.not_eq_false] at h))
    | (apply e_thenN)
    | (apply w_block)
    | (apply e_thenR)
    | (apply e_thenX)
    | (apply e_blkN)
    | (apply e_blkR)
    | (apply e_blkE)
    | (apply w_exit)
    | (apply w_ret)
    | (apply w_skip)
    | (apply e_blkE'; rfl))
    apply e_thenK
    apply hK'
    · omega
    · omega
    · refine wkM [(50, 110)] [] rfl ?_ ?_ rfl ?_
      · intro p hp
        simp only [List.mem_cons, List.not_mem_nil, or_false] at hp
        rcases hp with rfl
        exact ⟨by omega, .inr ⟨rfl, _, rfl, .data (encK_isD _)⟩⟩
      · intro q hq; simp only [List.mem_cons, List.not_mem_nil, or_false] at hq; rcases hq with rfl <;> rfl
      · repeat' (first
    | exact FWk.nil
    | (apply FWk.i; rfl; (first | rfl | omega | (simp; done)))
    | (apply FWk.sl; rfl; rfl; rfl; rfl; omega; rfl)
    | (apply FWk.ptr; rfl; rfl; rfl; omega; rfl)
    | (apply FWk.d; rfl; rfl)
    | (apply FWk.a; rfl; rfl; rfl)
    | (apply FWk.slN; rfl; omega; rfl))
  · rw [List.take_of_length_le hge]
    repeat' (first
    | (apply r_mvV; rfl)
    | (apply r_mvP; rfl)
    | (apply r_mvPL; rfl)
    | (apply r_mvS; rfl)
    | (apply r_mvSL; rfl)
    | (apply r_mvA; rfl)
    | (apply r_mvT; rfl)
    | (apply r_mvF; rfl)
    | (apply r_mvD; rfl)
    | (apply r_nckD; rfl)
    | (apply r_faddD; rfl)
    | (apply r_nckL; rfl)
    | (apply r_faddL; rfl)
    | (apply r_l; apply ld_kind; assumption; rfl)
    | (apply r_l; apply ld_mn; assumption; rfl)
    | (apply r_l; apply ld_mx; assumption; rfl)
    | (apply r_l; apply ld_subs; assumption; rfl)
    | (apply r_l; apply ld_set; assumption; rfl)
    | (apply r_l; apply ld_node; assumption; rfl)
    | (apply r_l; apply ld_kind'; assumption; rfl)
    | (apply r_l; apply ld_mn'; assumption; rfl)
    | (apply r_l; apply ld_mx'; assumption; rfl)
    | (apply r_l; apply ld_subs'; assumption; rfl)
    | (apply r_l; apply ld_node'; assumption; rfl)
    | (apply r_ldL; rfl; rfl; rfl)
    | (apply r_eql; rfl; rfl; (first | (apply decide_eq_true; omega) | (apply decide_eq_false; omega) | rfl))
    | (apply r_lss; rfl; rfl; (first | (apply decide_eq_true; omega) | (apply decide_eq_false; omega) | rfl))
    | (apply r_add; rfl; rfl; rfl; omega)
    | (apply r_lenD; rfl)
    | (apply r_lenL; rfl)
    | (apply r_len0; rfl)
    | (apply r_p; rfl)
    | (apply r_nilK)
    | (apply r_nil)
    | (apply k_V; rfl)
    | (apply k_P; rfl)
    | (apply k_PL; rfl)
    | (apply k_S; rfl)
    | (apply k_SL; rfl)
    | (apply k_A; rfl)
    | (apply k_T; rfl)
    | (apply k_F; rfl)
    | (apply k_D; rfl; rotate_left; rfl)
    | (apply k_nil)
    | (apply e_ret (vs := [.d (.val _)]); rfl)
    | (apply e_ret; rfl)
    | (apply e_ret' (vs := [.d (.val _)]); rfl)
    | (apply e_ret'; rfl)
    | (apply w_seq)
    | (apply w_ops; ((conv => lhs; simp only [Nat.reduceAdd]) <;> rfl))
    | (apply w_condT; rfl)
    | (apply w_condF; rfl)
    | ((apply w_condS; rfl) <;> (intro h; try simp only [decide_eq_true_eq, decide_eq_false_iff_not, Bool.not_eq_true, Bool.not_eq_false] at h))
    | (apply e_thenN)
    | (apply w_block)
    | (apply e_thenR)
    | (apply e_thenX)
    | (apply e_blkN)
    | (apply e_blkR)
    | (apply e_blkE)
    | (apply w_exit)
    | (apply w_ret)
    | (apply w_skip)
    | (apply e_blkE'; rfl))
    exact .new _ _ _ _ _ rfl rfl rfl
theorem setsR61_good : ∀ (n : Nat) (t : T), t.cnt ≤ n → n ≤ 1000000 → Good Try.prog 61 [nodeA t] none (.d (.sl (encK (setsT t)) (setsT t).length)) none none := by
  intro n
  induction n with
  | zero => intro t ht; have := cnt_pos t; omega
  | succ n ih =>
  intro t ht hc
  obtain ⟨k, a, b, c, d, mn, mx, subs⟩ := t
  have hlen : subs.length ≤ 1000000 := by
    have := cntL_len subs
    simp only [T.cnt] at ht
    omega
  have e0 : nodeA (.node k a b c d mn mx subs) = .agg [.i k, .d (.val (.int .u64 a)), .d (.val (.int .u64 b)), .d (.val (.int .u64 c)), .d (.val (.int .u64 d)), .i mn, .i mx, .d (.sl (encL subs) subs.length)] := rfl
  rw [e0]
  by_cases hk : k = 2
  · subst hk
    have e : setsT (.node 2 a b c d mn mx subs) = [(a, b, c, d)] := by rw [setsT, if_pos rfl]
    rw [e]
    refine b61 (by simp) (by simp) (w_init ?_)
    unfold x61
    repeat' (first
    | (apply r_mvV; rfl)
    | (apply r_mvP; rfl)
    | (apply r_mvPL; rfl)
    | (apply r_mvS; rfl)
    | (apply r_mvSL; rfl)
    | (apply r_mvA; rfl)
    | (apply r_mvT; rfl)
    | (apply r_mvF; rfl)
    | (apply r_mvD; rfl)
    | (apply r_faddD; rfl)
    | (apply r_faddL; rfl)
    | (apply r_l; apply ld_kind; assumption; rfl)
    | (apply r_l; apply ld_mn; assumption; rfl)
    | (apply r_l; apply ld_mx; assumption; rfl)
    | (apply r_l; apply ld_subs; assumption; rfl)
    | (apply r_l; apply ld_set; assumption; rfl)
    | (apply r_l; apply ld_node; assumption; rfl)
    | (apply r_l; apply ld_kind'; assumption; rfl)
    | (apply r_l; apply ld_mn'; assumption; rfl)
    | (apply r_l; apply ld_mx'; assumption; rfl)
    | (apply r_l; apply ld_subs'; assumption; rfl)
    | (apply r_l; apply ld_node'; assumption; rfl)
    | (apply r_ldL (v := .agg [.d (.val (.int .u64 a)), .d (.val (.int .u64 b)), .d (.val (.int .u64 c)), .d (.val (.int .u64 d))]); rfl; rfl; rfl)
    | (apply r_mkK (q := (a, b, c, d)); rfl; ((conv => lhs; simp only [Nat.reduceAdd]) <;> rfl))
    | (apply r_ldL; rfl; rfl; rfl)
    | (apply r_eql; rfl; rfl; (first | (apply decide_eq_true; omega) | (apply decide_eq_false; omega) | rfl))
    | (apply r_lss; rfl; rfl; (first | (apply decide_eq_true; omega) | (apply decide_eq_false; omega) | rfl))
    | (apply r_add; rfl; rfl; rfl; omega)
    | (apply r_lenD; rfl)
    | (apply r_lenL; rfl)
    | (apply r_len0; rfl)
    | (apply r_box; ((conv => lhs; simp only [Nat.reduceAdd]) <;> rfl); rfl; rfl; rfl)
    | (apply r_p; rfl)
    | (apply r_nilK)
    | (apply r_nil)
    | (apply k_V; rfl)
    | (apply k_P; rfl)
    | (apply k_PL; rfl)
    | (apply k_S; rfl)
    | (apply k_SL; rfl)
    | (apply k_A; rfl)
    | (apply k_T; rfl)
    | (apply k_F; rfl)
    | (apply k_D; rfl; rotate_left; rfl)
    | (apply k_nil)
    | (apply e_ret (vs := [.d (.val _)]); rfl)
    | (apply e_ret; rfl)
    | (apply e_ret' (vs := [.d (.val _)]); rfl)
    | (apply e_ret'; rfl)
    | (apply w_seq)
    | (apply w_ops; ((conv => lhs; simp only [Nat.reduceAdd]) <;> rfl))
    | (apply w_condT; rfl)
    | (apply w_condF; rfl)
    | ((apply w_condS; rfl) <;> (intro h; try simp only [decide_eq_true_eq, decide_eq_false_iff_not, Bool.not_eq_true, Bool.not_eq_false] at h))
    | (apply e_thenN)
    | (apply w_block)
    | (apply e_thenR)
    | (apply e_thenX)
    | (apply e_blkN)
    | (apply e_blkR)
    | (apply e_blkE)
    | (apply w_exit)
    | (apply w_ret)
    | (apply w_skip)
    | (apply e_blkE'; rfl))
    exact retLK rfl rfl
  have e : setsT (.node k a b c d mn mx subs) = setsL subs := by rw [setsT, if_neg hk]
  rw [e]
  have ih' : ∀ i (h : i < subs.length), Good Try.prog 61 [nodeA subs[i]] none (.d (.sl (encK (setsT subs[i])) (setsT subs[i]).length)) none none := by
    intro i h
    have h1 := cntL_get subs i h
    simp only [T.cnt] at ht
    exact ih _ (by omega) (by omega)
  have hstep : ∀ i (h : i < subs.length), setsL (subs.take (i + 1)) = setsL (subs.take i) ++ setsT subs[i] := fun i h => setsL_take subs i h
  have hle : ∀ i, (setsL (subs.take i)).length ≤ 1000000 := fun i => by
    have h2 := setsL_len (subs.take i)
    have h4 := cntL_take_le subs i
    simp only [T.cnt] at ht
    omega
  refine b61 (by simp) (by simp) (w_init ?_)
  unfold x61
  repeat' (first
    | (apply r_mvV; rfl)
    | (apply r_mvP; rfl)
    | (apply r_mvPL; rfl)
    | (apply r_mvS; rfl)
    | (apply r_mvSL; rfl)
    | (apply r_mvA; rfl)
    | (apply r_mvT; rfl)
    | (apply r_mvF; rfl)
    | (apply r_mvD; rfl)
    | (apply r_faddD; rfl)
    | (apply r_faddL; rfl)
    | (apply r_l; apply ld_kind; assumption; rfl)
    | (apply r_l; apply ld_mn; assumption; rfl)
    | (apply r_l; apply ld_mx; assumption; rfl)
    | (apply r_l; apply ld_subs; assumption; rfl)
    | (apply r_l; apply ld_set; assumption; rfl)
    | (apply r_l; apply ld_node; assumption; rfl)
    | (apply r_l; apply ld_kind'; assumption; rfl)
    | (apply r_l; apply ld_mn'; assumption; rfl)
    | (apply r_l; apply ld_mx'; assumption; rfl)
    | (apply r_l; apply ld_subs'; assumption; rfl)
    | (apply r_l; apply ld_node'; assumption; rfl)
    | (apply r_ldL; rfl; rfl; rfl)
    | (apply r_eql; rfl; rfl; (first | (apply decide_eq_true; omega) | (apply decide_eq_false; omega) | rfl))
    | (apply r_lss; rfl; rfl; (first | (apply decide_eq_true; omega) | (apply decide_eq_false; omega) | rfl))
    | (apply r_add; rfl; rfl; rfl; omega)
    | (apply r_lenD; rfl)
    | (apply r_lenL; rfl)
    | (apply r_len0; rfl)
    | (apply r_box; ((conv => lhs; simp only [Nat.reduceAdd]) <;> rfl); rfl; rfl; rfl)
    | (apply r_p; rfl)
    | (apply r_nilK)
    | (apply r_nil)
    | (apply k_V; rfl)
    | (apply k_P; rfl)
    | (apply k_PL; rfl)
    | (apply k_S; rfl)
    | (apply k_SL; rfl)
    | (apply k_A; rfl)
    | (apply k_T; rfl)
    | (apply k_F; rfl)
    | (apply k_D; rfl; rotate_left; rfl)
    | (apply k_nil)
    | (apply e_ret (vs := [.d (.val _)]); rfl)
    | (apply e_ret; rfl)
    | (apply e_ret' (vs := [.d (.val _)]); rfl)
    | (apply e_ret'; rfl)
    | (apply w_seq)
    | (apply w_ops; ((conv => lhs; simp only [Nat.reduceAdd]) <;> rfl))
    | (apply w_condT; rfl)
    | (apply w_condF; rfl)
    | ((apply w_condS; rfl) <;> (intro h; try simp only [decide_eq_true_eq, decide_eq_false_iff_not, Bool.not_eq_true, Bool.not_eq_false] at h))
    | (apply e_thenN)
    | (apply w_block)
    | (apply e_thenR)
    | (apply e_thenX)
    | (apply e_blkN)
    | (apply e_blkR)
    | (apply e_blkE)
    | (apply w_exit)
    | (apply w_ret)
    | (apply w_skip)
    | (apply e_blkE'; rfl))
  apply w_loopI (S := fun i : Nat => ⟨((Fr.nil.put 1 (.ptrL 1 0)).put 3 (.slL 50 0 (setsL (subs.take i)).length 4)).put 4 (.i i), rowsOf [(1, [.i k, .d (.val (.int .u64 a)), .d (.val (.int .u64 b)), .d (.val (.int .u64 c)), .d (.val (.int .u64 d)), .i mn, .i mx, .d (.sl (encL subs) subs.length)]), (50, (encK (setsL (subs.take i))).map AV.d)], Frz.buts 100 [50], 100⟩) (m := fun i => subs.length - i) (I := fun i => i ≤ subs.length) (i0 := 0)
  · exact Nat.zero_le _
  · refine wkM [] [50] rfl ?_ ?_ rfl ?_
    · intro p hp
      simp only [List.mem_cons, List.not_mem_nil, or_false] at hp
      rcases hp with rfl | rfl
      · exact ⟨by omega, .inr ⟨rfl, _, rfl, .data rfl⟩⟩
      · exact ⟨by omega, .inl ⟨rfl, rfl⟩⟩
    · intro q hq; simp only [List.mem_cons, List.not_mem_nil, or_false] at hq; rcases hq with rfl <;> rfl
    · repeat' (first
    | exact FWk.nil
    | (apply FWk.i; rfl; (first | rfl | omega | (simp; done)))
    | (apply FWk.sl; rfl; rfl; rfl; rfl; omega; rfl)
    | (apply FWk.ptr; rfl; rfl; rfl; omega; rfl)
    | (apply FWk.d; rfl; rfl)
    | (apply FWk.a; rfl; rfl; rfl)
    | (apply FWk.slN; rfl; omega; rfl))
  intro i K hi hK
  dsimp only
  rcases Nat.lt_or_ge i subs.length with hlt | hge
  · have hg := ih' i hlt
    have hst := hstep i hlt
    have h1 := hle i
    have h2 := hle (i + 1)
    rw [hst, List.length_append] at h2
    have hs := NodeAt.sub hlt
    have hna : [nodeA subs[i]].all AV.nrm = true := by rw [List.all_cons, nodeA_nrm]; rfl
    have hK' := hK (i + 1)
    rw [hst] at hK'
    clear hst hstep ih' hle
    generalize setsT subs[i] = K2 at hg h2 hK'
    generalize setsL (subs.take i) = K1 at h1 h2 hK'
    repeat' (first
    | (apply r_mvV; rfl)
    | (apply r_mvP; rfl)
    | (apply r_mvPL; rfl)
    | (apply r_mvS; rfl)
    | (apply r_mvSL; rfl)
    | (apply r_mvA; rfl)
    | (apply r_mvT; rfl)
    | (apply r_mvF; rfl)
    | (apply r_mvD; rfl)
    | (apply r_faddD; rfl)
    | (apply r_faddL; rfl)
    | (apply r_p; apply ix_sub; rfl; rfl; omega)
    | (apply r_l; apply ld_node'; exact hs; rfl)
    | (apply r_callA (ags := [nodeA subs[i]]); rfl; exact hna; exact hg)
    | (apply r_appKD (K := K1) (L := K2); rfl; rfl; rfl; rfl; rfl; rfl; ((conv => lhs; simp only [Nat.reduceAdd]) <;> rfl); omega)
    | (apply r_ldL; rfl; rfl; rfl)
    | (apply r_eql; rfl; rfl; (first | (apply decide_eq_true; omega) | (apply decide_eq_false; omega) | rfl))
    | (apply r_lss; rfl; rfl; (first | (apply decide_eq_true; omega) | (apply decide_eq_false; omega) | rfl))
    | (apply r_add; rfl; rfl; rfl; omega)
    | (apply r_lenD; rfl)
    | (apply r_lenL; rfl)
    | (apply r_len0; rfl)
    | (apply r_box; ((conv => lhs; simp only [Nat.reduceAdd]) <;> rfl); rfl; rfl; rfl)
    | (apply r_p; rfl)
    | (apply r_nilK)
    | (apply r_nil)
    | (apply k_V; rfl)
    | (apply k_P; rfl)
    | (apply k_PL; rfl)
    | (apply k_S; rfl)
    | (apply k_SL; rfl)
    | (apply k_A; rfl)
    | (apply k_T; rfl)
    | (apply k_F; rfl)
    | (apply k_D; rfl; rotate_left; rfl)
    | (apply k_nil)
    | (apply e_ret (vs := [.d (.val _)]); rfl)
    | (apply e_ret; rfl)
    | (apply e_ret' (vs := [.d (.val _)]); rfl)
    | (apply e_ret'; rfl)
    | (apply w_seq)
    | (apply w_ops; ((conv => lhs; simp only [Nat.reduceAdd]) <;> rfl))
    | (apply w_condT; rfl)
    | (apply w_condF; rfl)
    | ((apply w_condS; rfl) <;> (intro h; try simp only [decide_eq_true_eq, decide_eq_false_iff_not, Bool.not_eq_true, Bool.not_eq_false] at h))
    | (apply e_thenN)
    | (apply w_block)
    | (apply e_thenR)
    | (apply e_thenX)
    | (apply e_blkN)
    | (apply e_blkR)
    | (apply e_blkE)
    | (apply w_exit)
    | (apply w_ret)
    | (apply w_skip)
    | (apply e_blkE'; rfl))
    apply e_thenK
    apply hK'
    · omega
    · omega
    · refine wkM [(50, 112)] [] rfl ?_ ?_ rfl ?_
      · intro p hp
        simp only [List.mem_cons, List.not_mem_nil, or_false] at hp
        rcases hp with rfl | rfl
        · exact ⟨by omega, .inr ⟨rfl, _, rfl, .data rfl⟩⟩
        · exact ⟨by omega, .inr ⟨rfl, _, rfl, .data (encK_isD _)⟩⟩
      · intro q hq; simp only [List.mem_cons, List.not_mem_nil, or_false] at hq; rcases hq with rfl <;> rfl
      · rw [List.length_append]
        repeat' (first
    | exact FWk.nil
    | (apply FWk.i; rfl; (first | rfl | omega | (simp; done)))
    | (apply FWk.sl; rfl; rfl; rfl; rfl; omega; rfl)
    | (apply FWk.ptr; rfl; rfl; rfl; omega; rfl)
    | (apply FWk.d; rfl; rfl)
    | (apply FWk.a; rfl; rfl; rfl)
    | (apply FWk.slN; rfl; omega; rfl))
  · rw [List.take_of_length_le hge]
    repeat' (first
    | (apply r_mvV; rfl)
    | (apply r_mvP; rfl)
    | (apply r_mvPL; rfl)
    | (apply r_mvS; rfl)
    | (apply r_mvSL; rfl)
    | (apply r_mvA; rfl)
    | (apply r_mvT; rfl)
    | (apply r_mvF; rfl)
    | (apply r_mvD; rfl)
    | (apply r_faddD; rfl)
    | (apply r_faddL; rfl)
    | (apply r_l; apply ld_kind; assumption; rfl)
    | (apply r_l; apply ld_mn; assumption; rfl)
    | (apply r_l; apply ld_mx; assumption; rfl)
    | (apply r_l; apply ld_subs; assumption; rfl)
    | (apply r_l; apply ld_set; assumption; rfl)
    | (apply r_l; apply ld_node; assumption; rfl)
    | (apply r_l; apply ld_kind'; assumption; rfl)
    | (apply r_l; apply ld_mn'; assumption; rfl)
    | (apply r_l; apply ld_mx'; assumption; rfl)
    | (apply r_l; apply ld_subs'; assumption; rfl)
    | (apply r_l; apply ld_node'; assumption; rfl)
    | (apply r_ldL; rfl; rfl; rfl)
    | (apply r_eql; rfl; rfl; (first | (apply decide_eq_true; omega) | (apply decide_eq_false; omega) | rfl))
    | (apply r_lss; rfl; rfl; (first | (apply decide_eq_true; omega) | (apply decide_eq_false; omega) | rfl))
    | (apply r_add; rfl; rfl; rfl; omega)
    | (apply r_lenD; rfl)
    | (apply r_lenL; rfl)
    | (apply r_len0; rfl)
    | (apply r_box; ((conv => lhs; simp only [Nat.reduceAdd]) <;> rfl); rfl; rfl; rfl)
    | (apply r_p; rfl)
    | (apply r_nilK)
    | (apply r_nil)
    | (apply k_V; rfl)
    | (apply k_P; rfl)
    | (apply k_PL; rfl)
    | (apply k_S; rfl)
    | (apply k_SL; rfl)
    | (apply k_A; rfl)
    | (apply k_T; rfl)
    | (apply k_F; rfl)
    | (apply k_D; rfl; rotate_left; rfl)
    | (apply k_nil)
    | (apply e_ret (vs := [.d (.val _)]); rfl)
    | (apply e_ret; rfl)
    | (apply e_ret' (vs := [.d (.val _)]); rfl)
    | (apply e_ret'; rfl)
    | (apply w_seq)
    | (apply w_ops; ((conv => lhs; simp only [Nat.reduceAdd]) <;> rfl))
    | (apply w_condT; rfl)
    | (apply w_condF; rfl)
    | ((apply w_condS; rfl) <;> (intro h; try simp only [decide_eq_true_eq, decide_eq_false_iff_not, Bool.not_eq_true, Bool.not_eq_false] at h))
    | (apply e_thenN)
    | (apply w_block)
    | (apply e_thenR)
    | (apply e_thenX)
    | (apply e_blkN)
    | (apply e_blkR)
    | (apply e_blkE)
    | (apply w_exit)
    | (apply w_ret)
    | (apply w_skip)
    | (apply e_blkE'; rfl))
    exact retLK rfl rfl
theorem sets65_good (t : T) (hc : t.cnt ≤ 1000000) : Good Try.prog 65 [nodeA t] none (.d (.sl (encK (if fitsT t 12 = true then setsT t else [])) (if fitsT t 12 = true then setsT t else []).length)) none none := by
  have hright := right_good t hc
  have hk := good_nil (j := 1) rfl (sets120_good 1000000 t (encN t) 0 (NodeAt.self _) hc (Nat.le_refl _) [] (by simp; omega))
  rw [List.nil_append] at hk
  rcases Bool.eq_false_or_eq_true (fitsT t 12) with hR | hR
  case inr =>
    rw [hR] at hright ⊢
    rw [if_neg (by simp)]
    obtain ⟨k, a, b, c, d, mn, mx, subs⟩ := t
    have e0 : nodeA (.node k a b c d mn mx subs) = .agg [.i k, .d (.val (.int .u64 a)), .d (.val (.int .u64 b)), .d (.val (.int .u64 c)), .d (.val (.int .u64 d)), .i mn, .i mx, .d (.sl (encL subs) subs.length)] := rfl
    rw [e0] at hright ⊢
    refine b65 (by simp) (by simp) (w_init ?_)
    unfold x65
    repeat' (first
    | (apply r_mvV; rfl)
    | (apply r_mvP; rfl)
    | (apply r_mvPL; rfl)
    | (apply r_mvS; rfl)
    | (apply r_mvSL; rfl)
    | (apply r_mvA; rfl)
    | (apply r_mvT; rfl)
    | (apply r_mvF; rfl)
    | (apply r_mvD; rfl)
    | (apply r_l; apply ld_kind; assumption; rfl)
    | (apply r_l; apply ld_mn; assumption; rfl)
    | (apply r_l; apply ld_mx; assumption; rfl)
    | (apply r_l; apply ld_subs; assumption; rfl)
    | (apply r_l; apply ld_set; assumption; rfl)
    | (apply r_l; apply ld_node; assumption; rfl)
    | (apply r_l; apply ld_kind'; assumption; rfl)
    | (apply r_l; apply ld_mn'; assumption; rfl)
    | (apply r_l; apply ld_mx'; assumption; rfl)
    | (apply r_l; apply ld_subs'; assumption; rfl)
    | (apply r_l; apply ld_node'; assumption; rfl)
    | (apply r_callA; rfl; rfl; exact hright)
    | (apply r_ldL; rfl; rfl; rfl)
    | (apply r_not; rfl; rfl)
    | (apply r_box; ((conv => lhs; simp only [Nat.reduceAdd]) <;> rfl); rfl; rfl; rfl)
    | (apply r_nilK)
    | (apply r_nil)
    | (apply k_V; rfl)
    | (apply k_P; rfl)
    | (apply k_PL; rfl)
    | (apply k_S; rfl)
    | (apply k_SL; rfl)
    | (apply k_A; rfl)
    | (apply k_T; rfl)
    | (apply k_F; rfl)
    | (apply k_D; rfl; rotate_left; rfl)
    | (apply k_nil)
    | (apply e_ret (vs := [.d (.val _)]); rfl)
    | (apply e_ret; rfl)
    | (apply e_ret' (vs := [.d (.val _)]); rfl)
    | (apply e_ret'; rfl)
    | (apply w_seq)
    | (apply w_ops; ((conv => lhs; simp only [Nat.reduceAdd]) <;> rfl))
    | (apply w_condT; rfl)
    | (apply w_condF; rfl)
    | ((apply w_condS; rfl) <;> (intro h; try simp only [decide_eq_true_eq, decide_eq_false_iff_not, Bool.not_eq_true, Bool.not_eq_false] at h))
    | (apply e_thenN)
    | (apply w_block)
    | (apply e_thenR)
    | (apply e_thenX)
    | (apply e_blkN)
    | (apply e_blkR)
    | (apply e_blkE)
    | (apply w_exit)
    | (apply w_ret)
    | (apply w_skip)
    | (apply e_blkE'; rfl))
    exact .data _ rfl
  rw [hR] at hright ⊢
  rw [if_pos rfl]
  generalize setsT t = K at hk
  obtain ⟨k, a, b, c, d, mn, mx, subs⟩ := t
  have e0 : nodeA (.node k a b c d mn mx subs) = .agg [.i k, .d (.val (.int .u64 a)), .d (.val (.int .u64 b)), .d (.val (.int .u64 c)), .d (.val (.int .u64 d)), .i mn, .i mx, .d (.sl (encL subs) subs.length)] := rfl
  rw [e0] at hright ⊢
  refine b65 (by simp) (by simp) (w_init ?_)
  unfold x65
  repeat' (first
    | (apply r_mvV; rfl)
    | (apply r_mvP; rfl)
    | (apply r_mvPL; rfl)
    | (apply r_mvS; rfl)
    | (apply r_mvSL; rfl)
    | (apply r_mvA; rfl)
    | (apply r_mvT; rfl)
    | (apply r_mvF; rfl)
    | (apply r_mvD; rfl)
    | (apply r_l; apply ld_kind; assumption; rfl)
    | (apply r_l; apply ld_mn; assumption; rfl)
    | (apply r_l; apply ld_mx; assumption; rfl)
    | (apply r_l; apply ld_subs; assumption; rfl)
    | (apply r_l; apply ld_set; assumption; rfl)
    | (apply r_l; apply ld_node; assumption; rfl)
    | (apply r_l; apply ld_kind'; assumption; rfl)
    | (apply r_l; apply ld_mn'; assumption; rfl)
    | (apply r_l; apply ld_mx'; assumption; rfl)
    | (apply r_l; apply ld_subs'; assumption; rfl)
    | (apply r_l; apply ld_node'; assumption; rfl)
    | (apply r_callA; rfl; rfl; exact hright)
    | (apply r_callKN (bs := [.d (.ptr (encN (.node k a b c d mn mx subs)) 0), .d (.sl [] 0)]) (us := [1]) (K' := K); rfl; rfl; ((conv => lhs; simp only [Nat.reduceAdd]) <;> rfl); exact hk; intro Z')
    | (apply r_ldL; rfl; rfl; rfl)
    | (apply r_not; rfl; rfl)
    | (apply r_box; ((conv => lhs; simp only [Nat.reduceAdd]) <;> rfl); rfl; rfl; rfl)
    | (apply r_nilK)
    | (apply r_nil)
    | (apply k_V; rfl)
    | (apply k_P; rfl)
    | (apply k_PL; rfl)
    | (apply k_S; rfl)
    | (apply k_SL; rfl)
    | (apply k_A; rfl)
    | (apply k_T; rfl)
    | (apply k_F; rfl)
    | (apply k_D; rfl; rotate_left; rfl)
    | (apply k_nil)
    | (apply e_ret (vs := [.d (.val _)]); rfl)
    | (apply e_ret; rfl)
    | (apply e_ret' (vs := [.d (.val _)]); rfl)
    | (apply e_ret'; rfl)
    | (apply w_seq)
    | (apply w_ops; ((conv => lhs; simp only [Nat.reduceAdd]) <;> rfl))
    | (apply w_condT; rfl)
    | (apply w_condF; rfl)
    | ((apply w_condS; rfl) <;> (intro h; try simp only [decide_eq_true_eq, decide_eq_false_iff_not, Bool.not_eq_true, Bool.not_eq_false] at h))
    | (apply e_thenN)
    | (apply w_block)
    | (apply e_thenR)
    | (apply e_thenX)
    | (apply e_blkN)
    | (apply e_blkR)
    | (apply e_blkE)
    | (apply w_exit)
    | (apply w_ret)
    | (apply w_skip)
    | (apply e_blkE'; rfl))
  exact retLK rfl rfl
end Go.Sv
namespace Go.Sv
open Go Go.Proofs
set_option maxRecDepth 100000
set_option maxHeartbeats 4000000
attribute [local irreducible] W E R KP thenK blockK retK Good xwp aRun
end Go.Sv
namespace Go.Sv
open Go Go.Proofs
def Ored (p q p2 : List Bool) (k : Nat) : Prop := p2.length = p.length ∧ ∀ n, At p2 n ↔ At p n ∨ (n < k ∧ At q n)
theorem Ored.zero (p q : List Bool) : Ored p q p 0 := ⟨rfl, fun n => ⟨.inl, fun h => h.elim id fun h => absurd h.1 (by omega)⟩⟩
theorem Ored.step {p q p2 : List Bool} {k : Nat} (h : Ored p q p2 k) (hk : k < p.length) : Ored p q (p2.set k (p2.getD k false || q.getD k false)) (k + 1) := by
  refine ⟨by rw [List.length_set]; exact h.1, fun n => ?_⟩
  rw [at_set n (by rw [h.1]; exact hk), h.2 n]
  have hv : (p2.getD k false || q.getD k false) = true ↔ At p2 k ∨ At q k := by simp [At]
  rw [hv, h.2 k]
  constructor
  · rintro (⟨rfl, (h1 | h1) | h1⟩ | ⟨h1, h2 | h2⟩)
    · exact .inl h1
    · exact .inr ⟨by omega, h1.2⟩
    · exact .inr ⟨by omega, h1⟩
    · exact .inl h2
    · exact .inr ⟨by omega, h2.2⟩
  · rintro (h1 | ⟨h1, h2⟩)
    · by_cases e : n = k
      · subst e; exact .inl ⟨rfl, .inl (.inl h1)⟩
      · exact .inr ⟨e, .inl h1⟩
    · by_cases e : n = k
      · subst e; exact .inl ⟨rfl, .inr h2⟩
      · exact .inr ⟨e, .inr ⟨by omega, h2⟩⟩
set_option maxRecDepth 100000
set_option maxHeartbeats 4000000
attribute [local irreducible] W E R KP thenK blockK retK Good xwp aRun
noncomputable def nullS (t : T) : Bool := @decide (L t []) (Classical.propDecidable _)
end Go.Sv
namespace Go.Sv
open Go
set_option linter.unusedVariables false
structure FOf (P : List Nat → Prop) (f : Fa) : Prop where
  no : f.no = true → ∀ w, ¬ P w
  lo : f.no = false → (∃ w, P w ∧ (w.length : Int) = f.lo) ∧ ∀ w, P w → f.lo ≤ w.length
  hi : f.no = false → 0 ≤ f.hi → ∀ w, P w → (w.length : Int) ≤ f.hi
  fi : ∀ y, y < 256 → (inG f.a f.b f.c f.d y = true ↔ ∃ w, P (y :: w))
theorem FOf.congr {P Q : List Nat → Prop} {f : Fa} (h : FOf P f) (e : ∀ w, Q w ↔ P w) : FOf Q f := by
  have : Q = P := funext fun w => propext (e w)
  rw [this]; exact h
theorem FOf.some {P : List Nat → Prop} {f : Fa} (h : FOf P f) (hn : f.no = false) : ∃ w, P w := by
  obtain ⟨w, hw, _⟩ := (h.lo hn).1
  exact ⟨w, hw⟩
theorem FOf.nil {P : List Nat → Prop} {f : Fa} (h : FOf P f) (hn : f.no = false) (ho : 0 ≤ f.lo) : f.lo = 0 ↔ P [] := by
  obtain ⟨⟨w, hw, hl⟩, h2⟩ := h.lo hn
  constructor
  · intro e
    have : w = [] := List.length_eq_zero_iff.1 (by omega)
    rwa [this] at hw
  · intro hp
    have := h2 [] hp
    simp at this
    omega
end Go.Sv
namespace Go.Sv
open Go Go.Proofs
set_option maxRecDepth 100000
set_option maxHeartbeats 4000000
attribute [local irreducible] W E R KP thenK blockK retK Good xwp aRun
end Go.Sv
namespace Go.Sv
open Go Go.Proofs
set_option maxRecDepth 100000
set_option maxHeartbeats 4000000
attribute [local irreducible] W E R KP thenK blockK retK Good xwp aRun
end Go.Sv
namespace Go.Sv
open Go Go.Proofs
def x48 : XC := (.seq (.ops 2 [
    (0, ⟨(some 1), none, .box (.t 0)⟩),
    (1, ⟨(some 2), none, .mv (.k (.d (.val (.int .i64 0))))⟩)] (some [1])) (.seq (.ops 1 [
    (0, ⟨(some 3), none, .mv (.k (.d (.val (.int .i64 1))))⟩)] (some [1, 3])) (.seq (.seq (.ops 1 [
    (0, ⟨(some 4), none, .mv (.k (.d (.val (.int .i64 0))))⟩)] (some [1, 3, 4])) (.block 0 (.loop (.seq (.seq (.ops 5 [
    (0, ⟨(some 5), none, .mv (.t 4)⟩),
    (1, ⟨(some 6), none, .fadd 7 (.t 1)⟩),
    (2, ⟨(some 7), none, .load none (.t 6)⟩),
    (3, ⟨(some 8), none, .lenS (.t 7)⟩),
    (4, ⟨(some 9), none, .arith .lss (.t 5) (.t 8)⟩)] (some [1, 3, 4, 9])) (.cond (.t 9) .skip (.exit 0))) (.seq (.block 1 (.ops 9 [
    (0, ⟨(some 12), none, .mv (.t 3)⟩),
    (1, ⟨(some 13), none, .fadd 7 (.t 1)⟩),
    (2, ⟨(some 14), none, .load none (.t 13)⟩),
    (3, ⟨(some 15), none, .mv (.t 4)⟩),
    (4, ⟨(some 16), none, .idxS 8 (.t 14) (.t 15)⟩),
    (5, ⟨(some 17), none, .load (some 8) (.t 16)⟩),
    (6, ⟨(some 18), none, .call 48 [(.t 17)] none false⟩),
    (7, ⟨(some 19), none, .arith .add (.t 12) (.t 18)⟩),
    (8, ⟨(some 3), none, .mv (.t 19)⟩)] (some [1, 3, 4]))) (.ops 3 [
    (0, ⟨(some 10), none, .mv (.t 4)⟩),
    (1, ⟨(some 11), none, .arith .add (.t 10) (.k (.d (.val (.int .i64 1))))⟩),
    (2, ⟨(some 4), none, .mv (.t 11)⟩)] (some [1, 3, 4]))))))) (.seq (.ops 2 [
    (0, ⟨(some 20), none, .mv (.t 3)⟩),
    (1, ⟨(some 2), none, .mv (.t 20)⟩)] (some [2])) .ret))))
def md48 : FuncId → Option Nat × Bool
  | _ => (none, false)
def od48 : Nat → List (List Nat) × List Nat × Option (List Nat)
  | 0 => ([], [], some [1])
  | 1 => ([], [], some [1, 3])
  | 2 => ([], [], some [1, 3, 4])
  | 3 => ([], [], some [1, 3, 4, 9])
  | 4 => ([], [], some [1, 3, 4])
  | 5 => ([], [], some [1, 3, 4])
  | 6 => ([], [], some [2])
  | _ => ([], [], none)
theorem b48 {ags : List AV} {row : Option (List DV)} {r : AV} {row' nw : Option (List DV)} (hal : ags.length ≤ 21) (hrow : row'.isSome = true → row.isSome = true) (h : xwp Try.prog x48 (retK [.tmp 2] row.isSome r row' nw) (St.init ags row)) : Good Try.prog 48 ags row r row' nw :=
  good_of_body' (md := md48) (od := od48) Try.f48 (by kernel_rfl) (by kernel_rfl) (by kernel_rfl) (by kernel_rfl) (by kernel_rfl) hal hrow h

set_option maxRecDepth 100000
set_option maxHeartbeats 4000000
attribute [local irreducible] W E R KP thenK blockK retK Good xwp aRun
theorem size48_good : ∀ (n : Nat) (t : T), t.cnt ≤ n → n ≤ 1000000 → Good Try.prog 48 [nodeA t] none (.i (t.cnt : Nat)) none none := by
  intro n
  induction n with
  | zero => intro t ht; have := cnt_pos t; omega
  | succ n ih =>
  intro t ht hc
  obtain ⟨k, a, b, c, d, mn, mx, subs⟩ := t
  have ih' : ∀ i (h : i < subs.length), Good Try.prog 48 [nodeA subs[i]] none (.i (subs[i].cnt : Nat)) none none := by
    intro i h
    refine ih _ ?_ (by omega)
    have := cntL_get subs i h
    simp only [T.cnt] at ht
    omega
  have hlen : subs.length ≤ 1000000 := by
    have := cntL_len subs
    simp only [T.cnt] at ht
    omega
  have e0 : nodeA (.node k a b c d mn mx subs) = .agg [.i k, .d (.val (.int .u64 a)), .d (.val (.int .u64 b)), .d (.val (.int .u64 c)), .d (.val (.int .u64 d)), .i mn, .i mx, .d (.sl (encL subs) subs.length)] := rfl
  rw [e0]
  rw [T.cnt] at ht ⊢
  refine b48 (by simp) (by simp) (w_init ?_)
  unfold x48
  repeat' (first
    | (apply r_mvV; rfl)
    | (apply r_mvP; rfl)
    | (apply r_mvPL; rfl)
    | (apply r_mvS; rfl)
    | (apply r_mvSL; rfl)
    | (apply r_mvA; rfl)
    | (apply r_mvT; rfl)
    | (apply r_mvF; rfl)
    | (apply r_mvD; rfl)
    | (apply r_faddD; rfl)
    | (apply r_faddL; rfl)
    | (apply r_l; apply ld_kind; assumption; rfl)
    | (apply r_l; apply ld_mn; assumption; rfl)
    | (apply r_l; apply ld_mx; assumption; rfl)
    | (apply r_l; apply ld_subs; assumption; rfl)
    | (apply r_l; apply ld_set; assumption; rfl)
    | (apply r_l; apply ld_node; assumption; rfl)
    | (apply r_l; apply ld_kind'; assumption; rfl)
    | (apply r_l; apply ld_mn'; assumption; rfl)
    | (apply r_l; apply ld_mx'; assumption; rfl)
    | (apply r_l; apply ld_subs'; assumption; rfl)
    | (apply r_l; apply ld_node'; assumption; rfl)
    | (apply r_ldL; rfl; rfl; rfl)
    | (apply r_lss; rfl; rfl; (first | (apply decide_eq_true; omega) | (apply decide_eq_false; omega) | rfl))
    | (apply r_add; rfl; rfl; rfl; omega)
    | (apply r_lenD; rfl)
    | (apply r_lenL; rfl)
    | (apply r_len0; rfl)
    | (apply r_box; ((conv => lhs; simp only [Nat.reduceAdd]) <;> rfl); rfl; rfl; rfl)
    | (apply r_p; rfl)
    | (apply r_nilK)
    | (apply r_nil)
    | (apply k_V; rfl)
    | (apply k_P; rfl)
    | (apply k_PL; rfl)
    | (apply k_S; rfl)
    | (apply k_SL; rfl)
    | (apply k_A; rfl)
    | (apply k_T; rfl)
    | (apply k_F; rfl)
    | (apply k_D; rfl; rotate_left; rfl)
    | (apply k_nil)
    | (apply e_ret (vs := [.d (.val _)]); rfl)
    | (apply e_ret; rfl)
    | (apply e_ret' (vs := [.d (.val _)]); rfl)
    | (apply e_ret'; rfl)
    | (apply w_seq)
    | (apply w_ops; ((conv => lhs; simp only [Nat.reduceAdd]) <;> rfl))
    | (apply w_condT; rfl)
    | (apply w_condF; rfl)
    | ((apply w_condS; rfl) <;> (intro h; try simp only [decide_eq_true_eq, decide_eq_false_iff_not, Bool.not_eq_true, Bool.not_eq_false] at h))
    | (apply e_thenN)
    | (apply w_block)
    | (apply e_thenR)
    | (apply e_thenX)
    | (apply e_blkN)
    | (apply e_blkR)
    | (apply e_blkE)
    | (apply w_exit)
    | (apply w_ret)
    | (apply w_skip)
    | (apply e_blkE'; rfl))
  apply w_loopI (S := fun i : Nat => ⟨((Fr.nil.put 1 (.ptrL 1 0)).put 3 (.i ((1 + cntL (subs.take i) : Nat) : Int))).put 4 (.i i), Heap.nil.put 1 [.i k, .d (.val (.int .u64 a)), .d (.val (.int .u64 b)), .d (.val (.int .u64 c)), .d (.val (.int .u64 d)), .i mn, .i mx, .d (.sl (encL subs) subs.length)], Frz.lo 100, 100⟩) (m := fun i => subs.length - i) (I := fun i => i ≤ subs.length) (i0 := 0)
  · exact Nat.zero_le _
  · refine wkR (by omega) rfl rfl ?_
    simp only [List.take_zero, cntL]
    repeat' (first
    | exact FWk.nil
    | (apply FWk.i; rfl; (first | rfl | omega | (simp; done)))
    | (apply FWk.sl; rfl; rfl; rfl; rfl; omega; rfl)
    | (apply FWk.ptr; rfl; rfl; rfl; omega; rfl)
    | (apply FWk.d; rfl; rfl)
    | (apply FWk.a; rfl; rfl; rfl)
    | (apply FWk.slN; rfl; omega; rfl))
  intro i K hi hK
  dsimp only
  rcases Nat.lt_or_ge i subs.length with hlt | hge
  · have hs := NodeAt.sub hlt
    have hg := ih' i hlt
    have hd := cntL_take subs i hlt
    have h2 := cntL_take_le subs (i + 1)
    have hna : [nodeA subs[i]].all AV.nrm = true := by rw [List.all_cons, nodeA_nrm]; rfl
    repeat' (first
    | (apply r_mvV; rfl)
    | (apply r_mvP; rfl)
    | (apply r_mvPL; rfl)
    | (apply r_mvS; rfl)
    | (apply r_mvSL; rfl)
    | (apply r_mvA; rfl)
    | (apply r_mvT; rfl)
    | (apply r_mvF; rfl)
    | (apply r_mvD; rfl)
    | (apply r_faddD; rfl)
    | (apply r_faddL; rfl)
    | (apply r_l; apply ld_kind; assumption; rfl)
    | (apply r_l; apply ld_mn; assumption; rfl)
    | (apply r_l; apply ld_mx; assumption; rfl)
    | (apply r_l; apply ld_subs; assumption; rfl)
    | (apply r_l; apply ld_set; assumption; rfl)
    | (apply r_l; apply ld_node; assumption; rfl)
    | (apply r_l; apply ld_kind'; assumption; rfl)
    | (apply r_l; apply ld_mn'; assumption; rfl)
    | (apply r_l; apply ld_mx'; assumption; rfl)
    | (apply r_l; apply ld_subs'; assumption; rfl)
    | (apply r_l; apply ld_node'; assumption; rfl)
    | (apply r_p; apply ix_sub; rfl; rfl; omega)
    | (apply r_callA (ags := [nodeA subs[i]]); rfl; exact hna; exact hg)
    | (apply r_ldL; rfl; rfl; rfl)
    | (apply r_lss; rfl; rfl; (first | (apply decide_eq_true; omega) | (apply decide_eq_false; omega) | rfl))
    | (apply r_add; rfl; rfl; rfl; omega)
    | (apply r_lenD; rfl)
    | (apply r_lenL; rfl)
    | (apply r_len0; rfl)
    | (apply r_box; ((conv => lhs; simp only [Nat.reduceAdd]) <;> rfl); rfl; rfl; rfl)
    | (apply r_p; rfl)
    | (apply r_nilK)
    | (apply r_nil)
    | (apply k_V; rfl)
    | (apply k_P; rfl)
    | (apply k_PL; rfl)
    | (apply k_S; rfl)
    | (apply k_SL; rfl)
    | (apply k_A; rfl)
    | (apply k_T; rfl)
    | (apply k_F; rfl)
    | (apply k_D; rfl; rotate_left; rfl)
    | (apply k_nil)
    | (apply e_ret (vs := [.d (.val _)]); rfl)
    | (apply e_ret; rfl)
    | (apply e_ret' (vs := [.d (.val _)]); rfl)
    | (apply e_ret'; rfl)
    | (apply w_seq)
    | (apply w_ops; ((conv => lhs; simp only [Nat.reduceAdd]) <;> rfl))
    | (apply w_condT; rfl)
    | (apply w_condF; rfl)
    | ((apply w_condS; rfl) <;> (intro h; try simp only [decide_eq_true_eq, decide_eq_false_iff_not, Bool.not_eq_true, Bool.not_eq_false] at h))
    | (apply e_thenN)
    | (apply w_block)
    | (apply e_thenR)
    | (apply e_thenX)
    | (apply e_blkN)
    | (apply e_blkR)
    | (apply e_blkE)
    | (apply w_exit)
    | (apply w_ret)
    | (apply w_skip)
    | (apply e_blkE'; rfl))
    apply e_thenK
    apply hK (i + 1)
    · omega
    · omega
    · rw [hd]
      refine wkR (by omega) rfl rfl ?_
      repeat' (first
    | exact FWk.nil
    | (apply FWk.i; rfl; (first | rfl | omega | (simp; done)))
    | (apply FWk.sl; rfl; rfl; rfl; rfl; omega; rfl)
    | (apply FWk.ptr; rfl; rfl; rfl; omega; rfl)
    | (apply FWk.d; rfl; rfl)
    | (apply FWk.a; rfl; rfl; rfl)
    | (apply FWk.slN; rfl; omega; rfl))
  · have ei : i = subs.length := by omega
    subst ei
    repeat' (first
    | (apply r_mvV; rfl)
    | (apply r_mvP; rfl)
    | (apply r_mvPL; rfl)
    | (apply r_mvS; rfl)
    | (apply r_mvSL; rfl)
    | (apply r_mvA; rfl)
    | (apply r_mvT; rfl)
    | (apply r_mvF; rfl)
    | (apply r_mvD; rfl)
    | (apply r_faddD; rfl)
    | (apply r_faddL; rfl)
    | (apply r_l; apply ld_kind; assumption; rfl)
    | (apply r_l; apply ld_mn; assumption; rfl)
    | (apply r_l; apply ld_mx; assumption; rfl)
    | (apply r_l; apply ld_subs; assumption; rfl)
    | (apply r_l; apply ld_set; assumption; rfl)
    | (apply r_l; apply ld_node; assumption; rfl)
    | (apply r_l; apply ld_kind'; assumption; rfl)
    | (apply r_l; apply ld_mn'; assumption; rfl)
    | (apply r_l; apply ld_mx'; assumption; rfl)
    | (apply r_l; apply ld_subs'; assumption; rfl)
    | (apply r_l; apply ld_node'; assumption; rfl)
    | (apply r_ldL; rfl; rfl; rfl)
    | (apply r_lss; rfl; rfl; (first | (apply decide_eq_true; omega) | (apply decide_eq_false; omega) | rfl))
    | (apply r_add; rfl; rfl; rfl; omega)
    | (apply r_lenD; rfl)
    | (apply r_lenL; rfl)
    | (apply r_len0; rfl)
    | (apply r_box; ((conv => lhs; simp only [Nat.reduceAdd]) <;> rfl); rfl; rfl; rfl)
    | (apply r_p; rfl)
    | (apply r_nilK)
    | (apply r_nil)
    | (apply k_V; rfl)
    | (apply k_P; rfl)
    | (apply k_PL; rfl)
    | (apply k_S; rfl)
    | (apply k_SL; rfl)
    | (apply k_A; rfl)
    | (apply k_T; rfl)
    | (apply k_F; rfl)
    | (apply k_D; rfl; rotate_left; rfl)
    | (apply k_nil)
    | (apply e_ret (vs := [.d (.val _)]); rfl)
    | (apply e_ret; rfl)
    | (apply e_ret' (vs := [.d (.val _)]); rfl)
    | (apply e_ret'; rfl)
    | (apply w_seq)
    | (apply w_ops; ((conv => lhs; simp only [Nat.reduceAdd]) <;> rfl))
    | (apply w_condT; rfl)
    | (apply w_condF; rfl)
    | ((apply w_condS; rfl) <;> (intro h; try simp only [decide_eq_true_eq, decide_eq_false_iff_not, Bool.not_eq_true, Bool.not_eq_false] at h))
    | (apply e_thenN)
    | (apply w_block)
    | (apply e_thenR)
    | (apply e_thenX)
    | (apply e_blkN)
    | (apply e_blkR)
    | (apply e_blkE)
    | (apply w_exit)
    | (apply w_ret)
    | (apply w_skip)
    | (apply e_blkE'; rfl))
    exact retI (by rw [List.take_length])
end Go.Sv
namespace Go.Sv
open Go Go.Proofs
def x19 : XC := (.seq (.ops 2 [
    (0, ⟨(some 1), none, .box (.t 0)⟩),
    (1, ⟨(some 2), none, .mv (.k (.d (.val (.bool false))))⟩)] (some [1])) (.seq (.seq (.ops 7 [
    (0, ⟨(some 8), none, .call 64 [] none false⟩),
    (1, ⟨(some 9), none, .un .not (.t 8)⟩),
    (2, ⟨(some 10), none, .mv (.t 9)⟩),
    (3, ⟨(some 11), (some (10, false)), .load (some 8) (.t 1)⟩),
    (4, ⟨(some 12), (some (10, false)), .call 45 [(.t 11)] none false⟩),
    (5, ⟨(some 13), (some (10, false)), .un .not (.t 12)⟩),
    (6, ⟨(some 14), none, .pick (.t 10) (.k (.d (.val (.bool true)))) (.t 13)⟩)] (some [1, 14])) (.cond (.t 14) (.seq (.ops 2 [
    (0, ⟨(some 15), none, .call 64 [] none false⟩),
    (1, ⟨(some 2), none, .mv (.t 15)⟩)] (some [2])) .ret) .skip)) (.seq (.ops 3 [
    (0, ⟨(some 16), none, .load (some 8) (.t 1)⟩),
    (1, ⟨(some 17), none, .call 65 [(.t 16)] none false⟩),
    (2, ⟨(some 3), none, .mv (.t 17)⟩)] (some [1, 3])) (.seq (.seq (.ops 3 [
    (0, ⟨(some 18), none, .load (some 8) (.t 1)⟩),
    (1, ⟨(some 19), none, .call 32 [(.t 18)] none false⟩),
    (2, ⟨(some 20), none, .un .not (.t 19)⟩)] (some [1, 3, 20])) (.cond (.t 20) (.seq (.ops 7 [
    (0, ⟨(some 22), none, .load (some 8) (.t 1)⟩),
    (1, ⟨(some 23), none, .call 66 [(.t 22)] none false⟩),
    (2, ⟨(some 21), none, .mv (.t 23)⟩),
    (3, ⟨(some 24), none, .ext (.t 21) 0⟩),
    (4, ⟨(some 25), none, .ext (.t 21) 1⟩),
    (5, ⟨(some 4), none, .mv (.t 24)⟩),
    (6, ⟨(some 5), none, .mv (.t 25)⟩)] (some [1, 3, 4, 5])) (.seq (.ops 38 [
    (0, ⟨(some 26), none, .load (some 8) (.t 1)⟩),
    (1, ⟨(some 27), none, .call 67 [(.t 26)] none false⟩),
    (2, ⟨(some 28), none, .arith .eql (.t 27) (.k (.d (.val (.int .i64 0))))⟩),
    (3, ⟨(some 29), none, .mv (.t 28)⟩),
    (4, ⟨(some 30), (some (29, true)), .load (some 8) (.t 1)⟩),
    (5, ⟨(some 31), (some (29, true)), .call 68 [(.t 30)] none false⟩),
    (6, ⟨(some 32), (some (29, true)), .arith .eql (.t 31) (.k (.d (.val (.int .i64 0))))⟩),
    (7, ⟨(some 33), none, .pick (.t 29) (.t 32) (.k (.d (.val (.bool false))))⟩),
    (8, ⟨(some 34), none, .mv (.t 33)⟩),
    (9, ⟨(some 35), (some (34, true)), .load (some 8) (.t 1)⟩),
    (10, ⟨(some 36), (some (34, true)), .call 69 [(.t 35)] none false⟩),
    (11, ⟨(some 37), (some (34, true)), .un .not (.t 36)⟩),
    (12, ⟨(some 38), none, .pick (.t 34) (.t 37) (.k (.d (.val (.bool false))))⟩),
    (13, ⟨(some 39), none, .mv (.t 38)⟩),
    (14, ⟨(some 40), (some (39, true)), .load (some 8) (.t 1)⟩),
    (15, ⟨(some 41), (some (39, true)), .call 70 [(.t 40)] none false⟩),
    (16, ⟨(some 42), (some (39, true)), .build [(.int .u64 0), (.int .u64 0), (.int .u64 0), (.int .u64 0)] []⟩),
    (17, ⟨(some 43), (some (39, true)), .eqAgg 4 false (.t 41) (.t 42)⟩),
    (18, ⟨(some 44), none, .pick (.t 39) (.t 43) (.k (.d (.val (.bool false))))⟩),
    (19, ⟨(some 45), none, .mv (.t 44)⟩),
    (20, ⟨(some 46), (some (45, true)), .mv (.t 4)⟩),
    (21, ⟨(some 47), (some (45, true)), .arith .eql (.t 46) (.k (.d (.val (.int .i64 0))))⟩),
    (22, ⟨(some 48), none, .pick (.t 45) (.t 47) (.k (.d (.val (.bool false))))⟩),
    (23, ⟨(some 49), none, .mv (.t 48)⟩),
    (24, ⟨(some 50), (some (49, true)), .mv (.t 5)⟩),
    (25, ⟨(some 51), (some (49, true)), .arith .eql (.t 50) (.k (.d (.val (.int .i64 0))))⟩),
    (26, ⟨(some 52), none, .pick (.t 49) (.t 51) (.k (.d (.val (.bool false))))⟩),
    (27, ⟨(some 53), none, .mv (.t 52)⟩),
    (28, ⟨(some 54), (some (53, true)), .load (some 8) (.t 1)⟩),
    (29, ⟨(some 55), (some (53, true)), .call 71 [(.t 54)] none false⟩),
    (30, ⟨(some 56), (some (53, true)), .un .not (.t 55)⟩),
    (31, ⟨(some 57), none, .pick (.t 53) (.t 56) (.k (.d (.val (.bool false))))⟩),
    (32, ⟨(some 58), none, .mv (.t 57)⟩),
    (33, ⟨(some 59), (some (58, true)), .mv (.t 3)⟩),
    (34, ⟨(some 60), (some (58, true)), .lenS (.t 59)⟩),
    (35, ⟨(some 61), (some (58, true)), .arith .eql (.t 60) (.k (.d (.val (.int .i64 0))))⟩),
    (36, ⟨(some 62), none, .pick (.t 58) (.t 61) (.k (.d (.val (.bool false))))⟩),
    (37, ⟨(some 2), none, .mv (.t 62)⟩)] (some [2])) .ret)) .skip)) (.seq (.ops 3 [
    (0, ⟨(some 63), none, .load (some 8) (.t 1)⟩),
    (1, ⟨(some 64), none, .call 61 [(.t 63)] none false⟩),
    (2, ⟨(some 6), none, .mv (.t 64)⟩)] (some [1, 3, 6])) (.seq (.seq (.ops 5 [
    (0, ⟨(some 65), none, .mv (.t 3)⟩),
    (1, ⟨(some 66), none, .lenS (.t 65)⟩),
    (2, ⟨(some 67), none, .mv (.t 6)⟩),
    (3, ⟨(some 68), none, .lenS (.t 67)⟩),
    (4, ⟨(some 69), none, .arith .neq (.t 66) (.t 68)⟩)] (some [1, 3, 6, 69])) (.cond (.t 69) (.seq (.ops 1 [
    (0, ⟨(some 2), none, .mv (.k (.d (.val (.bool false))))⟩)] (some [2])) .ret) .skip)) (.seq (.seq (.ops 3 [
    (0, ⟨(some 70), none, .mv (.t 3)⟩),
    (1, ⟨(some 71), none, .lenS (.t 70)⟩),
    (2, ⟨(some 72), none, .mv (.k (.d (.val (.int .i64 0))))⟩)] (some [1, 3, 6, 71, 72])) (.block 0 (.loop (.seq (.ops 1 [
    (0, ⟨(some 73), none, .arith .lss (.t 72) (.t 71)⟩)] (some [1, 3, 6, 71, 72, 73])) (.seq (.cond (.t 73) .skip (.exit 0)) (.seq (.block 1 (.seq (.ops 2 [
    (0, ⟨(some 74), none, .mv (.t 72)⟩),
    (1, ⟨(some 7), none, .mv (.t 74)⟩)] (some [1, 3, 6, 7, 71, 72])) (.seq (.ops 9 [
    (0, ⟨(some 75), none, .mv (.t 3)⟩),
    (1, ⟨(some 76), none, .mv (.t 7)⟩),
    (2, ⟨(some 77), none, .idxS 4 (.t 75) (.t 76)⟩),
    (3, ⟨(some 78), none, .load (some 4) (.t 77)⟩),
    (4, ⟨(some 79), none, .mv (.t 6)⟩),
    (5, ⟨(some 80), none, .mv (.t 7)⟩),
    (6, ⟨(some 81), none, .idxS 4 (.t 79) (.t 80)⟩),
    (7, ⟨(some 82), none, .load (some 4) (.t 81)⟩),
    (8, ⟨(some 83), none, .eqAgg 4 true (.t 78) (.t 82)⟩)] (some [1, 3, 6, 71, 72, 83])) (.cond (.t 83) (.seq (.ops 1 [
    (0, ⟨(some 2), none, .mv (.k (.d (.val (.bool false))))⟩)] (some [2])) .ret) .skip)))) (.ops 2 [
    (0, ⟨(some 84), none, .arith .add (.t 72) (.k (.d (.val (.int .i64 1))))⟩),
    (1, ⟨(some 72), none, .mv (.t 84)⟩)] (some [1, 3, 6, 71, 72])))))))) (.seq (.ops 13 [
    (0, ⟨(some 85), none, .load (some 8) (.t 1)⟩),
    (1, ⟨(some 86), none, .call 67 [(.t 85)] none false⟩),
    (2, ⟨(some 87), none, .load (some 8) (.t 1)⟩),
    (3, ⟨(some 88), none, .call 48 [(.t 87)] none false⟩),
    (4, ⟨(some 89), none, .arith .eql (.t 86) (.t 88)⟩),
    (5, ⟨(some 90), none, .mv (.t 89)⟩),
    (6, ⟨(some 91), (some (90, true)), .load (some 8) (.t 1)⟩),
    (7, ⟨(some 92), (some (90, true)), .call 68 [(.t 91)] none false⟩),
    (8, ⟨(some 93), (some (90, true)), .load (some 8) (.t 1)⟩),
    (9, ⟨(some 94), (some (90, true)), .call 38 [(.t 93)] none false⟩),
    (10, ⟨(some 95), (some (90, true)), .arith .eql (.t 92) (.t 94)⟩),
    (11, ⟨(some 96), none, .pick (.t 90) (.t 95) (.k (.d (.val (.bool false))))⟩),
    (12, ⟨(some 2), none, .mv (.t 96)⟩)] (some [2])) .ret))))))))
def md19 : FuncId → Option Nat × Bool
  | _ => (none, false)
def od19 : Nat → List (List Nat) × List Nat × Option (List Nat)
  | 0 => ([], [], some [1])
  | 1 => ([], [], some [1, 14])
  | 2 => ([], [], some [2])
  | 3 => ([], [], some [1, 3])
  | 4 => ([], [], some [1, 3, 20])
  | 5 => ([], [], some [1, 3, 4, 5])
  | 6 => ([], [], some [2])
  | 7 => ([], [], some [1, 3, 6])
  | 8 => ([], [], some [1, 3, 6, 69])
  | 9 => ([], [], some [2])
  | 10 => ([], [], some [1, 3, 6, 71, 72])
  | 11 => ([], [], some [1, 3, 6, 71, 72, 73])
  | 12 => ([], [], some [1, 3, 6, 7, 71, 72])
  | 13 => ([[], [], [0, 1], [0, 1, 2], [], [], [4, 5], [4, 5, 6], [0, 1, 2, 3, 4, 5, 6, 7]], [0, 1, 2, 3, 4, 5, 6, 7, 8], some [1, 3, 6, 71, 72, 83])
  | 14 => ([], [], some [2])
  | 15 => ([], [], some [1, 3, 6, 71, 72])
  | 16 => ([[], [0], [], [0, 1, 2], [0, 1, 2, 3], [0, 1, 2, 3, 4], [0, 1, 2, 3, 4, 5], [0, 1, 2, 3, 4, 5, 6], [0, 1, 2, 3, 4, 5], [0, 1, 2, 3, 4, 5, 6, 7, 8], [0, 1, 2, 3, 4, 5, 6, 7, 8, 9], [0, 1, 2, 3, 4, 5, 6, 7, 8, 9, 10], [0, 1, 2, 3, 4, 5, 6, 7, 8, 9, 10, 11]], [0, 1, 2, 3, 4, 5, 6, 7, 8, 9, 10, 11, 12], some [2])
  | _ => ([], [], none)
theorem b19 {ags : List AV} {row : Option (List DV)} {r : AV} {row' nw : Option (List DV)} (hal : ags.length ≤ 97) (hrow : row'.isSome = true → row.isSome = true) (h : xwp Try.prog x19 (retK [.tmp 2] row.isSome r row' nw) (St.init ags row)) : Good Try.prog 19 ags row r row' nw :=
  good_of_body' (md := md19) (od := od19) Try.f19 (by kernel_rfl) (by kernel_rfl) (by kernel_rfl) (by kernel_rfl) (by kernel_rfl) hal hrow h

set_option maxRecDepth 100000
set_option maxHeartbeats 4000000
attribute [local irreducible] W E R KP thenK blockK retK Good xwp aRun
theorem law19 (t : T) (ht : inT t) : Good Try.prog 19 [nodeA t] none (.b true) none none := by
  have haw := awake64_good
  have h45 := few_good t
  by_cases hf : sizeT t 601 ≤ 200
  case neg =>
    rw [show decide (sizeT t 601 ≤ 200) = false by simp [hf]] at h45
    clear ht hf
    obtain ⟨k, a, b, c, d, mn, mx, subs⟩ := t
    have e0 : nodeA (.node k a b c d mn mx subs) = .agg [.i k, .d (.val (.int .u64 a)), .d (.val (.int .u64 b)), .d (.val (.int .u64 c)), .d (.val (.int .u64 d)), .i mn, .i mx, .d (.sl (encL subs) subs.length)] := rfl
    rw [e0] at h45 ⊢
    refine b19 (by simp) (by simp) (w_init ?_)
    unfold x19
    repeat' (first
    | (apply r_mvV; rfl)
    | (apply r_mvP; rfl)
    | (apply r_mvPL; rfl)
    | (apply r_mvS; rfl)
    | (apply r_mvSL; rfl)
    | (apply r_mvA; rfl)
    | (apply r_mvT; rfl)
    | (apply r_mvF; rfl)
    | (apply r_mvD; rfl)
    | (apply r_l; apply ld_kind; assumption; rfl)
    | (apply r_l; apply ld_mn; assumption; rfl)
    | (apply r_l; apply ld_mx; assumption; rfl)
    | (apply r_l; apply ld_subs; assumption; rfl)
    | (apply r_l; apply ld_set; assumption; rfl)
    | (apply r_l; apply ld_node; assumption; rfl)
    | (apply r_l; apply ld_kind'; assumption; rfl)
    | (apply r_l; apply ld_mn'; assumption; rfl)
    | (apply r_l; apply ld_mx'; assumption; rfl)
    | (apply r_l; apply ld_subs'; assumption; rfl)
    | (apply r_l; apply ld_node'; assumption; rfl)
    | (apply r_callA (f := 64) (ags := []); rfl; rfl; exact haw)
    | (apply r_callA (f := 45); rfl; rfl; exact h45)
    | (apply r_ldL; rfl; rfl; rfl)
    | (apply r_eql; rfl; rfl; (first | (apply decide_eq_true; omega) | (apply decide_eq_false; omega) | rfl))
    | (apply r_neq; rfl; rfl; (first | (apply decide_eq_true; omega) | (apply decide_eq_false; omega) | rfl))
    | (apply r_lss; rfl; rfl; (first | (apply decide_eq_true; omega) | (apply decide_eq_false; omega) | rfl))
    | (apply r_add; rfl; rfl; rfl; omega)
    | (apply r_not; rfl; rfl)
    | (apply r_pickT; rfl)
    | (apply r_pickF; rfl)
    | (apply r_lenD; rfl)
    | (apply r_lenL; rfl)
    | (apply r_len0; rfl)
    | (apply r_ext; rfl; rfl)
    | (apply r_gT; rfl)
    | (apply r_gF'; rfl; rfl)
    | (apply r_gN'; rfl)
    | ((apply r_gS (o := default); rfl) <;> (intro h; try simp only [decide_eq_true_eq, decide_eq_false_iff_not, Bool.not_eq_true, Bool.not_eq_false] at h))
    | (apply r_box; ((conv => lhs; simp only [Nat.reduceAdd]) <;> rfl); rfl; rfl; rfl)
    | (apply r_p; rfl)
    | (apply r_nilK)
    | (apply r_nil)
    | (apply k_V; rfl)
    | (apply k_P; rfl)
    | (apply k_PL; rfl)
    | (apply k_S; rfl)
    | (apply k_SL; rfl)
    | (apply k_A; rfl)
    | (apply k_T; rfl)
    | (apply k_F; rfl)
    | (apply k_D; rfl; rotate_left; rfl)
    | (apply k_nil)
    | (apply e_ret (vs := [.d (.val _)]); rfl)
    | (apply e_ret; rfl)
    | (apply e_ret' (vs := [.d (.val _)]); rfl)
    | (apply e_ret'; rfl)
    | (apply w_seq)
    | (apply w_ops; ((conv => lhs; simp only [Nat.reduceAdd]) <;> rfl))
    | (apply w_condT; rfl)
    | (apply w_condF; rfl)
    | ((apply w_condS; rfl) <;> (intro h; try simp only [decide_eq_true_eq, decide_eq_false_iff_not, Bool.not_eq_true, Bool.not_eq_false] at h))
    | (apply e_thenN)
    | (apply w_block)
    | (apply e_thenR)
    | (apply e_thenX)
    | (apply e_blkN)
    | (apply e_blkR)
    | (apply e_blkE)
    | (apply w_exit)
    | (apply w_ret)
    | (apply w_skip)
    | (apply e_blkE'; rfl))
    exact retB rfl
  have hc := few_cnt hf
  have h32 := right8_good t (by omega)
  have h65 := sets65_good t (by omega)
  have h67 := mSize67_good t (by omega)
  have hokt : fitsT t 12 = true → okT t := fun h => ok_of_right ht (by rw [right_fits]; exact h)
  have h68 := mWide_good t (by omega) hokt
  have h66 := len66_good t hc hokt
  have h71 := none71_good t hc hokt
  have h69 := null69_good t hc hokt
  have h70 := first70_good t hc hokt
  rw [show decide (sizeT t 601 ≤ 200) = true by simp [hf]] at h45
  by_cases hr : rightT t = true
  case neg =>
    have hr : rightT t = false := by simpa using hr
    have hfi : fitsT t 12 = false := by rw [← right_fits]; exact hr
    rw [hr] at h32
    rw [hfi, if_neg (by simp)] at h65 h67 h68
    have en : nulF t = false := by simp [nulF, hfi]
    have eo : ofK t = faE := by simp [ofK, hfi]
    rw [en] at h69
    rw [eo] at h66 h70 h71
    clear ht hf hc hr en eo hokt hfi
    obtain ⟨k, a, b, c, d, mn, mx, subs⟩ := t
    have e0 : nodeA (.node k a b c d mn mx subs) = .agg [.i k, .d (.val (.int .u64 a)), .d (.val (.int .u64 b)), .d (.val (.int .u64 c)), .d (.val (.int .u64 d)), .i mn, .i mx, .d (.sl (encL subs) subs.length)] := rfl
    rw [e0] at h45 h32 h65 h66 h67 h68 h69 h70 h71 ⊢
    have h66 : Good Try.prog 66 [.agg [.i k, .d (.val (.int .u64 a)), .d (.val (.int .u64 b)), .d (.val (.int .u64 c)), .d (.val (.int .u64 d)), .i mn, .i mx, .d (.sl (encL subs) subs.length)]] none (.tup [.i 0, .i 0]) none none := h66
    have h70 : Good Try.prog 70 [.agg [.i k, .d (.val (.int .u64 a)), .d (.val (.int .u64 b)), .d (.val (.int .u64 c)), .d (.val (.int .u64 d)), .i mn, .i mx, .d (.sl (encL subs) subs.length)]] none (.agg [.d (.val (.int .u64 0)), .d (.val (.int .u64 0)), .d (.val (.int .u64 0)), .d (.val (.int .u64 0))]) none none := h70
    have h71 : Good Try.prog 71 [.agg [.i k, .d (.val (.int .u64 a)), .d (.val (.int .u64 b)), .d (.val (.int .u64 c)), .d (.val (.int .u64 d)), .i mn, .i mx, .d (.sl (encL subs) subs.length)]] none (.b false) none none := h71
    have h65 : Good Try.prog 65 [.agg [.i k, .d (.val (.int .u64 a)), .d (.val (.int .u64 b)), .d (.val (.int .u64 c)), .d (.val (.int .u64 d)), .i mn, .i mx, .d (.sl (encL subs) subs.length)]] none (.d (.sl [] 0)) none none := h65
    refine b19 (by simp) (by simp) (w_init ?_)
    unfold x19
    repeat' (first
    | (apply r_mvV; rfl)
    | (apply r_mvP; rfl)
    | (apply r_mvPL; rfl)
    | (apply r_mvS; rfl)
    | (apply r_mvSL; rfl)
    | (apply r_mvA; rfl)
    | (apply r_mvT; rfl)
    | (apply r_mvF; rfl)
    | (apply r_mvD; rfl)
    | (apply r_l; apply ld_kind; assumption; rfl)
    | (apply r_l; apply ld_mn; assumption; rfl)
    | (apply r_l; apply ld_mx; assumption; rfl)
    | (apply r_l; apply ld_subs; assumption; rfl)
    | (apply r_l; apply ld_set; assumption; rfl)
    | (apply r_l; apply ld_node; assumption; rfl)
    | (apply r_l; apply ld_kind'; assumption; rfl)
    | (apply r_l; apply ld_mn'; assumption; rfl)
    | (apply r_l; apply ld_mx'; assumption; rfl)
    | (apply r_l; apply ld_subs'; assumption; rfl)
    | (apply r_l; apply ld_node'; assumption; rfl)
    | (apply r_callA (f := 64) (ags := []); rfl; rfl; exact haw)
    | (apply r_callA (f := 45); rfl; rfl; exact h45)
    | (apply r_callA (f := 32); rfl; rfl; exact h32)
    | (apply r_callA (f := 65); rfl; rfl; exact h65)
    | (apply r_callA (f := 66); rfl; rfl; exact h66)
    | (apply r_callA (f := 67); rfl; rfl; exact h67)
    | (apply r_callA (f := 68); rfl; rfl; exact h68)
    | (apply r_callA (f := 69); rfl; rfl; exact h69)
    | (apply r_callA (f := 70); rfl; rfl; exact h70)
    | (apply r_callA (f := 71); rfl; rfl; exact h71)
    | (apply r_p (v := .agg [.d (.val (.int .u64 0)), .d (.val (.int .u64 0)), .d (.val (.int .u64 0)), .d (.val (.int .u64 0))]); rfl)
    | (apply r_eqX (r := true); rfl; rfl; rfl)
    | (apply r_ldL; rfl; rfl; rfl)
    | (apply r_eql; rfl; rfl; (first | (apply decide_eq_true; omega) | (apply decide_eq_false; omega) | rfl))
    | (apply r_neq; rfl; rfl; (first | (apply decide_eq_true; omega) | (apply decide_eq_false; omega) | rfl))
    | (apply r_lss; rfl; rfl; (first | (apply decide_eq_true; omega) | (apply decide_eq_false; omega) | rfl))
    | (apply r_add; rfl; rfl; rfl; omega)
    | (apply r_not; rfl; rfl)
    | (apply r_pickT; rfl)
    | (apply r_pickF; rfl)
    | (apply r_lenD; rfl)
    | (apply r_lenL; rfl)
    | (apply r_len0; rfl)
    | (apply r_ext; rfl; rfl)
    | (apply r_gT; rfl)
    | (apply r_gF'; rfl; rfl)
    | (apply r_gN'; rfl)
    | ((apply r_gS (o := default); rfl) <;> (intro h; try simp only [decide_eq_true_eq, decide_eq_false_iff_not, Bool.not_eq_true, Bool.not_eq_false] at h))
    | (apply r_box; ((conv => lhs; simp only [Nat.reduceAdd]) <;> rfl); rfl; rfl; rfl)
    | (apply r_p; rfl)
    | (apply r_nilK)
    | (apply r_nil)
    | (apply k_V; rfl)
    | (apply k_P; rfl)
    | (apply k_PL; rfl)
    | (apply k_S; rfl)
    | (apply k_SL; rfl)
    | (apply k_A; rfl)
    | (apply k_T; rfl)
    | (apply k_F; rfl)
    | (apply k_D; rfl; rotate_left; rfl)
    | (apply k_nil)
    | (apply e_ret (vs := [.d (.val _)]); rfl)
    | (apply e_ret; rfl)
    | (apply e_ret' (vs := [.d (.val _)]); rfl)
    | (apply e_ret'; rfl)
    | (apply w_seq)
    | (apply w_ops; ((conv => lhs; simp only [Nat.reduceAdd]) <;> rfl))
    | (apply w_condT; rfl)
    | (apply w_condF; rfl)
    | ((apply w_condS; rfl) <;> (intro h; try simp only [decide_eq_true_eq, decide_eq_false_iff_not, Bool.not_eq_true, Bool.not_eq_false] at h))
    | (apply e_thenN)
    | (apply w_block)
    | (apply e_thenR)
    | (apply e_thenX)
    | (apply e_blkN)
    | (apply e_blkR)
    | (apply e_blkE)
    | (apply w_exit)
    | (apply w_ret)
    | (apply w_skip)
    | (apply e_blkE'; rfl))
    exact retB rfl
  have hfi : fitsT t 12 = true := by rw [← right_fits]; exact hr
  have hok : okT t := hokt hfi
  rw [hr] at h32
  rw [hfi, if_pos rfl] at h65 h67 h68
  have h61 := setsR61_good 1000000 t (by omega) (by omega)
  have h48 := size48_good 1000000 t (by omega) (by omega)
  have h38 := wide_good 1000000 t (by omega) (by omega) hok
  have hlen := setsT_len t
  clear hokt hok hfi hr ht hf h66 h69 h70 h71
  generalize setsT t = KK at h65 h61 hlen
  generalize wideT t = wt at h68 h38
  generalize t.cnt = ct at *
  obtain ⟨k, a, b, c, d, mn, mx, subs⟩ := t
  have e0 : nodeA (.node k a b c d mn mx subs) = .agg [.i k, .d (.val (.int .u64 a)), .d (.val (.int .u64 b)), .d (.val (.int .u64 c)), .d (.val (.int .u64 d)), .i mn, .i mx, .d (.sl (encL subs) subs.length)] := rfl
  rw [e0] at h45 h32 h65 h61 h67 h48 h68 h38 ⊢
  refine b19 (by simp) (by simp) (w_init ?_)
  unfold x19
  repeat' (first
    | (apply r_mvV; rfl)
    | (apply r_mvP; rfl)
    | (apply r_mvPL; rfl)
    | (apply r_mvS; rfl)
    | (apply r_mvSL; rfl)
    | (apply r_mvA; rfl)
    | (apply r_mvT; rfl)
    | (apply r_mvF; rfl)
    | (apply r_mvD; rfl)
    | (apply r_l; apply ld_kind; assumption; rfl)
    | (apply r_l; apply ld_mn; assumption; rfl)
    | (apply r_l; apply ld_mx; assumption; rfl)
    | (apply r_l; apply ld_subs; assumption; rfl)
    | (apply r_l; apply ld_set; assumption; rfl)
    | (apply r_l; apply ld_node; assumption; rfl)
    | (apply r_l; apply ld_kind'; assumption; rfl)
    | (apply r_l; apply ld_mn'; assumption; rfl)
    | (apply r_l; apply ld_mx'; assumption; rfl)
    | (apply r_l; apply ld_subs'; assumption; rfl)
    | (apply r_l; apply ld_node'; assumption; rfl)
    | (apply r_callA (f := 64) (ags := []); rfl; rfl; exact haw)
    | (apply r_callA (f := 45); rfl; rfl; exact h45)
    | (apply r_callA (f := 32); rfl; rfl; exact h32)
    | (apply r_callA (f := 65); rfl; rfl; exact h65)
    | (apply r_callA (f := 61); rfl; rfl; exact h61)
    | (apply r_ldL; rfl; rfl; rfl)
    | (apply r_eql; rfl; rfl; (first | (apply decide_eq_true; omega) | (apply decide_eq_false; omega) | rfl))
    | (apply r_neq; rfl; rfl; (first | (apply decide_eq_true; omega) | (apply decide_eq_false; omega) | rfl))
    | (apply r_lss; rfl; rfl; (first | (apply decide_eq_true; omega) | (apply decide_eq_false; omega) | rfl))
    | (apply r_add; rfl; rfl; rfl; omega)
    | (apply r_not; rfl; rfl)
    | (apply r_pickT; rfl)
    | (apply r_pickF; rfl)
    | (apply r_lenD; rfl)
    | (apply r_lenL; rfl)
    | (apply r_len0; rfl)
    | (apply r_ext; rfl; rfl)
    | (apply r_gT; rfl)
    | (apply r_gF'; rfl; rfl)
    | (apply r_gN'; rfl)
    | ((apply r_gS (o := default); rfl) <;> (intro h; try simp only [decide_eq_true_eq, decide_eq_false_iff_not, Bool.not_eq_true, Bool.not_eq_false] at h))
    | (apply r_box; ((conv => lhs; simp only [Nat.reduceAdd]) <;> rfl); rfl; rfl; rfl)
    | (apply r_p; rfl)
    | (apply r_nilK)
    | (apply r_nil)
    | (apply k_V; rfl)
    | (apply k_P; rfl)
    | (apply k_PL; rfl)
    | (apply k_S; rfl)
    | (apply k_SL; rfl)
    | (apply k_A; rfl)
    | (apply k_T; rfl)
    | (apply k_F; rfl)
    | (apply k_D; rfl; rotate_left; rfl)
    | (apply k_nil)
    | (apply e_ret (vs := [.d (.val _)]); rfl)
    | (apply e_ret; rfl)
    | (apply e_ret' (vs := [.d (.val _)]); rfl)
    | (apply e_ret'; rfl)
    | (apply w_seq)
    | (apply w_ops; ((conv => lhs; simp only [Nat.reduceAdd]) <;> rfl))
    | (apply w_condT; rfl)
    | (apply w_condF; rfl)
    | ((apply w_condS; rfl) <;> (intro h; try simp only [decide_eq_true_eq, decide_eq_false_iff_not, Bool.not_eq_true, Bool.not_eq_false] at h))
    | (apply e_thenN)
    | (apply w_block)
    | (apply e_thenR)
    | (apply e_thenX)
    | (apply e_blkN)
    | (apply e_blkR)
    | (apply e_blkE)
    | (apply w_exit)
    | (apply w_ret)
    | (apply w_skip)
    | (apply e_blkE'; rfl))
  apply w_loopI (S := fun i : Nat => ⟨((((Fr.nil.put 1 (.ptrL 1 0)).put 3 (.d (.sl (encK KK) KK.length))).put 6 (.d (.sl (encK KK) KK.length))).put 71 (.i KK.length)).put 72 (.i i), rowsOf [(1, [.i k, .d (.val (.int .u64 a)), .d (.val (.int .u64 b)), .d (.val (.int .u64 c)), .d (.val (.int .u64 d)), .i mn, .i mx, .d (.sl (encL subs) subs.length)])], Frz.lo 100, 100⟩) (m := fun i => KK.length - i) (I := fun i => i ≤ KK.length) (i0 := 0)
  · exact Nat.zero_le _
  · refine wkRs (by omega) ?_ ?_
    · intro p hp
      simp only [List.mem_cons, List.not_mem_nil, or_false] at hp
      rcases hp with rfl <;> exact ⟨by omega, rfl, rfl⟩
    · repeat' (first
    | exact FWk.nil
    | (apply FWk.i; rfl; (first | rfl | omega | (simp; done)))
    | (apply FWk.sl; rfl; rfl; rfl; rfl; omega; rfl)
    | (apply FWk.ptr; rfl; rfl; rfl; omega; rfl)
    | (apply FWk.d; rfl; rfl)
    | (apply FWk.a; rfl; rfl; rfl)
    | (apply FWk.slN; rfl; omega; rfl))
  intro i K hi hK
  dsimp only
  rcases Nat.lt_or_ge i KK.length with hlt | hge
  · have hq : KK[i]? = some KK[i] := List.getElem?_eq_getElem hlt
    generalize KK[i] = q at hq
    obtain ⟨q1, q2, q3, q4⟩ := q
    have he : (if true = true then !(q1 == q1 && (q2 == q2 && (q3 == q3 && (q4 == q4)))) else (q1 == q1 && (q2 == q2 && (q3 == q3 && (q4 == q4))))) = false := by simp
    repeat' (first
    | (apply r_mvV; rfl)
    | (apply r_mvP; rfl)
    | (apply r_mvPL; rfl)
    | (apply r_mvS; rfl)
    | (apply r_mvSL; rfl)
    | (apply r_mvA; rfl)
    | (apply r_mvT; rfl)
    | (apply r_mvF; rfl)
    | (apply r_mvD; rfl)
    | (apply r_ixK (K := KK) (j := i); rfl; rfl; rfl; rfl; exact hlt)
    | (apply r_ldK (K := KK) (j := i) (q := (q1, q2, q3, q4)); rfl; exact hq)
    | (apply r_eqX (r := false); rfl; rfl; exact he)
    | (apply r_ldL; rfl; rfl; rfl)
    | (apply r_eql; rfl; rfl; (first | (apply decide_eq_true; omega) | (apply decide_eq_false; omega) | rfl))
    | (apply r_neq; rfl; rfl; (first | (apply decide_eq_true; omega) | (apply decide_eq_false; omega) | rfl))
    | (apply r_lss; rfl; rfl; (first | (apply decide_eq_true; omega) | (apply decide_eq_false; omega) | rfl))
    | (apply r_add; rfl; rfl; rfl; omega)
    | (apply r_not; rfl; rfl)
    | (apply r_pickT; rfl)
    | (apply r_pickF; rfl)
    | (apply r_lenD; rfl)
    | (apply r_lenL; rfl)
    | (apply r_len0; rfl)
    | (apply r_ext; rfl; rfl)
    | (apply r_gT; rfl)
    | (apply r_gF'; rfl; rfl)
    | (apply r_gN'; rfl)
    | ((apply r_gS (o := default); rfl) <;> (intro h; try simp only [decide_eq_true_eq, decide_eq_false_iff_not, Bool.not_eq_true, Bool.not_eq_false] at h))
    | (apply r_box; ((conv => lhs; simp only [Nat.reduceAdd]) <;> rfl); rfl; rfl; rfl)
    | (apply r_p; rfl)
    | (apply r_nilK)
    | (apply r_nil)
    | (apply k_V; rfl)
    | (apply k_P; rfl)
    | (apply k_PL; rfl)
    | (apply k_S; rfl)
    | (apply k_SL; rfl)
    | (apply k_A; rfl)
    | (apply k_T; rfl)
    | (apply k_F; rfl)
    | (apply k_D; rfl; rotate_left; rfl)
    | (apply k_nil)
    | (apply e_ret (vs := [.d (.val _)]); rfl)
    | (apply e_ret; rfl)
    | (apply e_ret' (vs := [.d (.val _)]); rfl)
    | (apply e_ret'; rfl)
    | (apply w_seq)
    | (apply w_ops; ((conv => lhs; simp only [Nat.reduceAdd]) <;> rfl))
    | (apply w_condT; rfl)
    | (apply w_condF; rfl)
    | ((apply w_condS; rfl) <;> (intro h; try simp only [decide_eq_true_eq, decide_eq_false_iff_not, Bool.not_eq_true, Bool.not_eq_false] at h))
    | (apply e_thenN)
    | (apply w_block)
    | (apply e_thenR)
    | (apply e_thenX)
    | (apply e_blkN)
    | (apply e_blkR)
    | (apply e_blkE)
    | (apply w_exit)
    | (apply w_ret)
    | (apply w_skip)
    | (apply e_blkE'; rfl))
    apply e_thenK
    apply hK (i + 1)
    · omega
    · omega
    · refine wkRs (by omega) ?_ ?_
      · intro p hp
        simp only [List.mem_cons, List.not_mem_nil, or_false] at hp
        rcases hp with rfl <;> exact ⟨by omega, rfl, rfl⟩
      · repeat' (first
    | exact FWk.nil
    | (apply FWk.i; rfl; (first | rfl | omega | (simp; done)))
    | (apply FWk.sl; rfl; rfl; rfl; rfl; omega; rfl)
    | (apply FWk.ptr; rfl; rfl; rfl; omega; rfl)
    | (apply FWk.d; rfl; rfl)
    | (apply FWk.a; rfl; rfl; rfl)
    | (apply FWk.slN; rfl; omega; rfl))
  · repeat' (first
    | (apply r_mvV; rfl)
    | (apply r_mvP; rfl)
    | (apply r_mvPL; rfl)
    | (apply r_mvS; rfl)
    | (apply r_mvSL; rfl)
    | (apply r_mvA; rfl)
    | (apply r_mvT; rfl)
    | (apply r_mvF; rfl)
    | (apply r_mvD; rfl)
    | (apply r_ldL (v := .agg [.i k, .d (.val (.int .u64 a)), .d (.val (.int .u64 b)), .d (.val (.int .u64 c)), .d (.val (.int .u64 d)), .i mn, .i mx, .d (.sl (encL subs) subs.length)]); rfl; rfl; rfl)
    | (apply r_callA (f := 67); rfl; rfl; exact h67)
    | (apply r_callA (f := 48); rfl; rfl; exact h48)
    | (apply r_callA (f := 68); rfl; rfl; exact h68)
    | (apply r_callA (f := 38); rfl; rfl; exact h38)
    | (apply r_ldL; rfl; rfl; rfl)
    | (apply r_eql; rfl; rfl; (first | (apply decide_eq_true; omega) | (apply decide_eq_false; omega) | rfl))
    | (apply r_neq; rfl; rfl; (first | (apply decide_eq_true; omega) | (apply decide_eq_false; omega) | rfl))
    | (apply r_lss; rfl; rfl; (first | (apply decide_eq_true; omega) | (apply decide_eq_false; omega) | rfl))
    | (apply r_add; rfl; rfl; rfl; omega)
    | (apply r_not; rfl; rfl)
    | (apply r_pickT; rfl)
    | (apply r_pickF; rfl)
    | (apply r_lenD; rfl)
    | (apply r_lenL; rfl)
    | (apply r_len0; rfl)
    | (apply r_ext; rfl; rfl)
    | (apply r_gT; rfl)
    | (apply r_gF'; rfl; rfl)
    | (apply r_gN'; rfl)
    | ((apply r_gS (o := default); rfl) <;> (intro h; try simp only [decide_eq_true_eq, decide_eq_false_iff_not, Bool.not_eq_true, Bool.not_eq_false] at h))
    | (apply r_box; ((conv => lhs; simp only [Nat.reduceAdd]) <;> rfl); rfl; rfl; rfl)
    | (apply r_p; rfl)
    | (apply r_nilK)
    | (apply r_nil)
    | (apply k_V; rfl)
    | (apply k_P; rfl)
    | (apply k_PL; rfl)
    | (apply k_S; rfl)
    | (apply k_SL; rfl)
    | (apply k_A; rfl)
    | (apply k_T; rfl)
    | (apply k_F; rfl)
    | (apply k_D; rfl; rotate_left; rfl)
    | (apply k_nil)
    | (apply e_ret (vs := [.d (.val _)]); rfl)
    | (apply e_ret; rfl)
    | (apply e_ret' (vs := [.d (.val _)]); rfl)
    | (apply e_ret'; rfl)
    | (apply w_seq)
    | (apply w_ops; ((conv => lhs; simp only [Nat.reduceAdd]) <;> rfl))
    | (apply w_condT; rfl)
    | (apply w_condF; rfl)
    | ((apply w_condS; rfl) <;> (intro h; try simp only [decide_eq_true_eq, decide_eq_false_iff_not, Bool.not_eq_true, Bool.not_eq_false] at h))
    | (apply e_thenN)
    | (apply w_block)
    | (apply e_thenR)
    | (apply e_thenX)
    | (apply e_blkN)
    | (apply e_blkR)
    | (apply e_blkE)
    | (apply w_exit)
    | (apply w_ret)
    | (apply w_skip)
    | (apply e_blkE'; rfl))
    exact retB rfl
end Go.Sv
namespace Go.Sv
open Go Go.Proofs Go.Proofs.Ytcnlgmajkclgjaa Go.ChangeShapes Go.WideShapes Go.ChangeAt Go.RowKit
set_option linter.unusedVariables false
set_option maxRecDepth 100000

theorem try_own : ownKnob Try.prog.godebug = none := by kernel_rfl
theorem try_laidOut : laidOutB Try.prog = true := by kernel_rfl
theorem rowed : ∀ t ∈ [27, 9, 3, 5, 41], Try.prog.readableRec t = true ∧ t < Try.prog.types.size := by
  intro t ht
  simp only [List.mem_cons, List.not_mem_nil, or_false] at ht
  rcases ht with rfl | rfl | rfl | rfl | rfl
  all_goals exact ⟨by kernel_rfl, of_decide_eq_true (by kernel_rfl)⟩

section
variable {H : Type} {enc : TypeId × Value → H}
theorem stays_all {W W' : World} {sp : Nat → Bool} (hsame : ∀ p : MemPlace, p.block < W.heap.size → W.sameAt W' p) : ∀ {ts : List TypeId} {vs : List Value} {ds : List (DataW H)} {ps : List MemPlace}, (∀ t ∈ ts, Try.prog.readableRec t = true ∧ t < Try.prog.types.size) →
    DataW.TrodAll enc Try.prog W 0 (fun _ => true) true ts vs ds ps → (∀ p ∈ ps, p.block < W.heap.size) → (∀ p ∈ ps, sp p.block = true) → DataW.TrodAll enc Try.prog W' 0 sp true ts vs ds ps
  | [], [], [], ps, _, h, _, _ => h
  | t :: ts, v :: vs, d :: ds, ps, hr, h, hl, hs => by
    obtain ⟨p, q, h1, h2, rfl⟩ := h
    refine ⟨p, q, WideElems.Trod_stays try_laidOut (hr t (by simp)).1 (hr t (by simp)).2 h1 (fun x hx => hsame x (hl x (by simp [hx]))) (fun x hx => hs x (by simp [hx])), ?_, rfl⟩
    exact stays_all hsame (fun t ht => hr t (by simp [ht])) h2 (fun x hx => hl x (by simp [hx])) (fun x hx => hs x (by simp [hx]))

theorem law_post {s : ChangeSpec} {f : Func} {W W' : World} {args : Array Value} {ds gs : List (DataW H)} {before : List MemPlace} (hW : DataW.Whole enc Try.prog f.params.toList s.vars false W args.toList ds gs before) (hsv : s.vars = [])
    (h1 : (s.fn H (ds ++ gs)).results = [.lit (.bool true)]) (h2 : (s.fn H (ds ++ gs)).args = ds) (h3 : (s.fn H (ds ++ gs)).vars = []) (hrt : f.resultTypes = #[4]) (hb : Below W.heap.size W W')
    (hr : ∀ t ∈ f.params.toList, Try.prog.readableRec t = true ∧ t < Try.prog.types.size) : s.post enc Try.prog f false true false false W args (.bool true) W' := by
  have hlt := hW.lt
  have hW0 := hW
  obtain ⟨p, q, hA, hV, rfl, _, _⟩ := hW
  rw [hsv] at hV
  obtain ⟨rfl, rfl⟩ := trodVars_none hV
  have hlt' : ∀ x ∈ p, x.block < W.heap.size := fun x hx => by simpa using hlt x (by simp [hx])
  refine ⟨ds, [], p ++ [], [], p, [], hW0, ?_, ?_, ?_, hb.frame _, fun h => by cases h⟩
  · rw [hrt, h1]
    exact trodAll_mk1 (shut_bool Try.underlying4 true)
  · rw [h2]
    exact stays_all (fun x hx => hb.same hx) hr hA hlt' (fun x hx => by simpa using hlt' x hx)
  · rw [hsv, h3]; rfl

theorem Kept.below {w w' : World} (h : Kept w w' (fun k => (none : Option (List DV)).isSome = true ∧ (none : Option Nat) = some k)) : Below w.heap.size w w' :=
  ⟨h.os, h.tape, h.output, h.size, fun k hk => h.keep k hk (by simp)⟩

theorem law_calls {f : FuncId} {ags : List AV} (hg : Good Try.prog f ags none (.b true) none none) {W : World} {args : Array Value} (ha : RAs W NoA (fun _ => none) NoA args ags) : Calls Try.prog f args W fun e W' => e = .returned (.bool true) ∧ Below W.heap.size W W' := by
  have hNo : (fun k => NoA k ∨ ((none : Option (List DV)).isSome = true ∧ (none : Option Nat) = some k)) = NoA := by
    funext k; simp [NoA]
  have hU : (fun b : Nat => (none : Option (List DV)).isSome = true ∧ b = 0) = NoA := by
    funext k; simp [NoA]
  have := hg.2.2 W NoA none args (fun k h => h.elim) (fun k h => by simp at h) (fun ds h => by cases h) (by rw [hNo, hU]; exact ha)
  refine this.mono fun e W' ⟨v, nm, he, hk, _, _, _, hv⟩ => ?_
  have := hv.val_eq
  subst this
  exact ⟨he, hk.below⟩
theorem RAs.nil {W : World} : RAs W NoA (fun _ => none) NoA #[] [] := ⟨rfl, fun j h => by simp at h⟩
theorem RAs.mk : ∀ {W : World} {vs : List Value} {ags : List AV}, vs.length = ags.length → (∀ (j : Nat) v a, vs[j]? = some v → ags[j]? = some a → RA W NoA (fun _ => none) NoA v a) → RAs W NoA (fun _ => none) NoA vs.toArray ags := by
  intro W vs ags hl h
  refine ⟨by simpa using hl, fun j hj => ?_⟩
  have hj2 : j < vs.length := by omega
  have : vs.toArray.getD j undef = vs[j] := by simp [Array.getD, hj2]
  rw [this]
  exact h j _ _ (List.getElem?_eq_getElem hj2) (List.getElem?_eq_getElem hj)
theorem RDs.toA {W : World} {vs : List Value} {ds : List DV} (h : RDs W vs ds) : RA W NoA (fun _ => none) NoA (.agg vs.toArray) (.agg (ds.map AV.d)) := by
  refine .agg _ _ (by simpa using h.1) fun j hj => ?_
  have hj1 : j < ds.length := by simpa using hj
  have hj2 : j < vs.length := by rw [h.1]; exact hj1
  have : vs.toArray.getD j undef = vs[j] := by simp [Array.getD, hj2]
  rw [this, List.getElem_map]
  exact .d _ _ (h.2 j _ _ (List.getElem?_eq_getElem hj2) (List.getElem?_eq_getElem hj1))
theorem arg_node {W : World} {base : Nat} {v : Value} {d : DataW H} {p : List MemPlace} (hok : Value.okWide Try.prog W .any base 27 v) (h : DataW.Trod enc Try.prog W 0 (fun _ => true) true 27 v d p) : ∃ t : T, inT t ∧ RA W NoA (fun _ => none) NoA v (nodeA t) := by
  obtain ⟨n, hn⟩ := h
  obtain ⟨t, h1, h2⟩ := node_open n _ _ hn
  have hs : ∃ cs, v = .agg cs := by
    unfold Value.okWide at hok
    rw [Try.underlying27] at hok
    obtain ⟨cs, h, _⟩ := hok
    exact ⟨cs, h⟩
  obtain ⟨cs, rfl⟩ := hs
  exact ⟨t, h1, h2.toA⟩
end
theorem joined_of {P : Program} {f : FuncId} {fn : Func} {s : ChangeSpec} {c : OpenClaim}
    (k1 : (c.wf (OpenSpec.ofChange s) && laidOutB P && mapsRowed P && fn.params.all (P.readableRec ·) && namedTie P c.named s.vars && (c.stops == []) && (P.stops == []) && (c.knobs == []) && (P.stopKnobs == [])) = true)
    (k2 : (c.inPlace == P.inPlace f) = true) (k3 : (c.unfollowed == P.unfollowed f) = true) (k4 : (c.recurses == P.recurses f) = true) (k5 : (c.named == P.varsNamed f) = true)
    (k6 : ((c.maps == (fn.params.toList ++ s.plain.varTypes P).any (P.mapsRec ·)) && (c.ifaces == (fn.params.toList ++ s.plain.varTypes P).any (P.ifacesRec ·)) && (c.mapsOut == P.mapsAmong fn.resultTypes.toList) &&
  (c.loops == (fn.params.toList ++ s.plain.varTypes P).any (P.loopsFrom ·)) && (c.wideKeys == (fn.params.toList ++ s.plain.varTypes P ++ fn.resultTypes.toList).any (P.wideKeysFrom ·)) &&
  s.vars.all (P.varReadable ·) && fn.resultTypes.all (fun t => P.readableRec t && decide (t < P.types.size)) && (c.ifacesOut == fn.resultTypes.toList.any (P.ifacesRec ·)) && (c.loopsOut == fn.resultTypes.toList.any (P.loopsFrom ·))) = true)
    (hm : P.mayEnter = true) (hl : P.liftsFinal = c.lifted) (hk : P.make = some c.make) (k7 : ((c.plainKeys == P.plainKeys) && c.shortTexts.isNone && P.stopsHeard && (c.kinds == (if c.domain.isEmpty then [] else fn.params.toList.map fun t => match P.underlying t with | some (.int k) => some k | _ => none)) && (c.pinned == c.pinnedBy) &&
  (c.veiled == (fn.params.toList ++ s.plain.varTypes P ++ fn.resultTypes.toList).any (P.veiledRec ·)) && c.veiledFits P fn.params.toList (fn.params.toList ++ s.plain.varTypes P ++ fn.resultTypes.toList)) = true) : joinedFacts P f fn s c = true := by
  unfold joinedFacts
  simp only [Bool.and_eq_true] at k1 k6 k7 ⊢
  obtain ⟨⟨⟨⟨⟨⟨⟨⟨a1, a2⟩, a3⟩, a4⟩, a5⟩, a6⟩, a7⟩, a8⟩, a9⟩ := k1
  obtain ⟨⟨⟨⟨⟨⟨⟨⟨b1, b2⟩, b3⟩, b4⟩, b5⟩, b6⟩, b7⟩, b8⟩, b9⟩ := k6
  obtain ⟨⟨⟨⟨⟨⟨c1, c2⟩, c3⟩, c4⟩, c5⟩, c6⟩, c7⟩ := k7
  have d1 : (c.lifted == P.liftsFinal) = true := by rw [hl]; exact beq_self_eq_true _
  have d2 : (P.make == some c.make) = true := by rw [hk]; exact beq_self_eq_true _
  repeat' apply And.intro
  all_goals assumption
end Go.Sv
namespace Go.Sv
open Go Go.Proofs Go.Proofs.Ytcnlgmajkclgjaa
set_option maxRecDepth 100000
def orderN : List Nat := [104, 97, 114, 110, 101, 115, 115, 32, 52, 100, 99, 102, 50, 98, 101, 99, 57, 54, 53, 101, 49, 53, 55, 56, 102, 100, 97, 52, 56, 101, 99, 52, 97, 101, 57, 98, 98, 50, 100, 98, 101, 100, 51, 97, 52, 98, 99, 100, 100, 51, 97, 57, 56, 98, 50, 102, 51, 57, 102, 50, 50, 101, 97, 100, 48, 54, 49, 51, 100, 51, 56, 56, 32, 99, 117, 116, 32, 97, 116, 32, 115, 105, 101, 118, 101, 47, 115, 105, 101, 118, 101, 108, 97, 119, 49, 49, 46, 69, 110, 100, 115, 84, 101, 108, 108, 32, 115, 105, 101, 118, 101, 47, 115, 105, 101, 118, 101, 108, 97, 119, 49, 49, 46, 69, 110, 100, 115, 77, 97, 116, 99, 104, 32, 115, 105, 101, 118, 101, 47, 115, 105, 101, 118, 101, 108, 97, 119, 49, 49, 46, 69, 110, 100, 115, 83, 105, 109, 112, 108, 101, 32, 115, 105, 101, 118, 101, 47, 115, 105, 101, 118, 101, 108, 97, 119, 49, 49, 46, 69, 110, 100, 115, 66, 101, 115, 116, 32, 115, 105, 101, 118, 101, 47, 115, 105, 101, 118, 101, 108, 97, 119, 49, 49, 46, 69, 110, 100, 115, 76, 111, 110, 103, 101, 114, 32, 115, 105, 101, 118, 101, 47, 115, 105, 101, 118, 101, 108, 97, 119, 49, 49, 46, 69, 110, 100, 115, 80, 97, 114, 116, 115, 32, 115, 105, 101, 118, 101, 47, 115, 105, 101, 118, 101, 108, 97, 119, 49, 49, 46, 69, 110, 100, 115, 83, 116, 97, 114, 32, 115, 105, 101, 118, 101, 47, 115, 105, 101, 118, 101, 108, 97, 119, 49, 48, 46, 83, 105, 109, 112, 108, 105, 102, 121, 84, 101, 108, 108, 115, 32, 115, 105, 101, 118, 101, 47, 115, 105, 101, 118, 101, 108, 97, 119, 49, 48, 46, 83, 105, 109, 112, 108, 105, 102, 121, 65, 103, 97, 105, 110, 32, 115, 105, 101, 118, 101, 47, 115, 105, 101, 118, 101, 108, 97, 119, 49, 48, 46, 83, 105, 109, 112, 108, 105, 102, 121, 75, 101, 101, 112, 115, 32, 115, 105, 101, 118, 101, 47, 115, 105, 101, 118, 101, 108, 97, 119, 49, 48, 46, 83, 105, 109, 112, 108, 105, 102, 121, 79, 110, 101, 32, 115, 105, 101, 118, 101, 47, 115, 105, 101, 118, 101, 108, 97, 119, 49, 51, 46, 69, 120, 112, 97, 110, 100, 84, 101, 108, 108, 115, 32, 115, 105, 101, 118, 101, 47, 115, 105, 101, 118, 101, 108, 97, 119, 49, 51, 46, 69, 120, 112, 97, 110, 100, 83, 97, 109, 101, 32, 115, 105, 101, 118, 101, 47, 115, 105, 101, 118, 101, 108, 97, 119, 49, 51, 46, 69, 120, 112, 97, 110, 100, 80, 108, 97, 105, 110, 32, 115, 105, 101, 118, 101, 47, 115, 105, 101, 118, 101, 108, 97, 119, 49, 51, 46, 69, 120, 112, 97, 110, 100, 66, 117, 100, 103, 101, 116, 32, 115, 105, 101, 118, 101, 47, 115, 105, 101, 118, 101, 108, 97, 119, 49, 51, 46, 69, 120, 112, 97, 110, 100, 70, 105, 114, 115, 116, 32, 115, 105, 101, 118, 101, 47, 115, 105, 101, 118, 101, 108, 97, 119, 48, 57, 46, 77, 101, 97, 115, 117, 114, 101, 84, 101, 108, 108, 115, 32, 115, 105, 101, 118, 101, 47, 115, 105, 101, 118, 101, 108, 97, 119, 48, 57, 46, 77, 101, 97, 115, 117, 114, 101, 75, 110, 111, 119, 115, 32, 115, 105, 101, 118, 101, 47, 115, 105, 101, 118, 101, 108, 97, 119, 48, 57, 46, 77, 101, 97, 115, 117, 114, 101, 76, 101, 110, 103, 116, 104, 115, 32, 115, 105, 101, 118, 101, 47, 115, 105, 101, 118, 101, 108, 97, 119, 48, 57, 46, 77, 101, 97, 115, 117, 114, 101, 80, 97, 114, 116, 115, 32, 115, 105, 101, 118, 101, 47, 115, 105, 101, 118, 101, 108, 97, 119, 48, 57, 46, 77, 101, 97, 115, 117, 114, 101, 82, 101, 112, 32, 115, 105, 101, 118, 101, 47, 115, 105, 101, 118, 101, 108, 97, 119, 49, 50, 46, 68, 101, 114, 105, 118, 101, 84, 101, 108, 108, 115, 32, 115, 105, 101, 118, 101, 47, 115, 105, 101, 118, 101, 108, 97, 119, 49, 50, 46, 68, 101, 114, 105, 118, 101, 76, 111, 110, 103, 101, 115, 116, 32, 115, 105, 101, 118, 101, 47, 115, 105, 101, 118, 101, 108, 97, 119, 49, 50, 46, 68, 101, 114, 105, 118, 101, 87, 111, 114, 100, 115, 32, 115, 105, 101, 118, 101, 47, 115, 105, 101, 118, 101, 108, 97, 119, 49, 50, 46, 68, 101, 114, 105, 118, 101, 70, 105, 114, 115, 116, 32, 115, 105, 101, 118, 101, 47, 115, 105, 101, 118, 101, 108, 97, 119, 49, 50, 46, 68, 101, 114, 105, 118, 101, 83, 105, 109, 112, 108, 101]
theorem order_eq : Try.prog.initOrder = String.ofList (orderN.map Char.ofNat) := by kernel_rfl
theorem order_list : Try.prog.initOrder.toList = orderN.map Char.ofNat := by rw [order_eq, String.toList_ofList]
theorem ow1 : (stripLifts liftWords (behindMainWord (wordsSigns (orderN.map Char.ofNat)))).1 = [] := by kernel_rfl
theorem ow2 : ((stripLifts liftWords (behindMainWord (wordsSigns (orderN.map Char.ofNat)))).2.head? == some "cut".toList) = true := by kernel_rfl
theorem ow3 : ((behindMainWord (wordsSigns (orderN.map Char.ofNat))).isEmpty = false) := by kernel_rfl
theorem ow4 : ((behindMainWord (wordsSigns (orderN.map Char.ofNat))).head? == some "cut".toList) = true := by kernel_rfl
theorem ow5 : ((behindMainWord (wordsSigns (orderN.map Char.ofNat))).head? == some "carried".toList) = false := by kernel_rfl
theorem ow6 : ((behindMainWord (wordsSigns (orderN.map Char.ofNat))).head? == some "gc".toList) = false := by kernel_rfl
theorem ow7 : ((behindMainWord (wordsSigns (orderN.map Char.ofNat))).head? == some "spec".toList) = false := by kernel_rfl
theorem try_lays : Try.prog.laysLater = false := by kernel_rfl
theorem try_refl : Try.prog.bearsReflect = false := by kernel_rfl
theorem try_door : Try.prog.doorFits [] = true := by kernel_rfl
theorem headLifts_of {P : Program} {l : List Char} (h : P.initOrder.toList = l) (h1 : (stripLifts liftWords (behindMainWord (wordsSigns l))).1 = []) (h2 : ((stripLifts liftWords (behindMainWord (wordsSigns l))).2.head? == some "cut".toList) = true) : P.headLifts = [] := by
  subst h
  unfold Program.headLifts
  simp only [h2, if_true, h1]
theorem try_headLifts : Try.prog.headLifts = [] := headLifts_of order_list ow1 ow2
theorem mayEnter_of {P : Program} {l : List Char} (h : P.initOrder.toList = l) (h1 : (stripLifts liftWords (behindMainWord (wordsSigns l))).1 = []) (h2 : ((stripLifts liftWords (behindMainWord (wordsSigns l))).2.head? == some "cut".toList) = true)
    (h3 : (behindMainWord (wordsSigns l)).isEmpty = false) (k1 : P.laysLater = false) (k2 : P.bearsReflect = false) (k3 : P.doorFits [] = true) : P.mayEnter = true := by
  subst h
  unfold Program.mayEnter
  generalize behindMainWord (wordsSigns P.initOrder.toList) = q at h1 h2 h3 ⊢
  cases q with
  | nil => cases h3
  | cons c rest =>
    have e1 : ([] : List String).contains "finals" = false := rfl
    have e2 : ([] : List String).contains "reflectrows" = false := rfl
    have e3 : ([] : List String).contains "leanrows" = false := rfl
    simp only [h1, h2, k1, k2, k3, e1, e2, e3, Bool.not_false, Bool.or_true, Bool.and_true, Bool.or_self, Bool.and_self]
theorem try_mayEnter : Try.prog.mayEnter = true := mayEnter_of order_list ow1 ow2 ow3 try_lays try_refl try_door
theorem lifts_of {P : Program} {l : List Char} (h : P.initOrder.toList = l) (h5 : ((behindMainWord (wordsSigns l)).head? == some "carried".toList) = false) (k : P.headLifts = []) : P.liftsFinal = false := by
  subst h
  unfold Program.liftsFinal
  rw [k]
  have e1 : ([] : List String).contains "finals" = false := rfl
  simp only [h5, e1, Bool.false_and, Bool.or_self]
theorem try_lifts : Try.prog.liftsFinal = false := lifts_of order_list ow5 try_headLifts
theorem make_of {P : Program} {l : List Char} (h : P.initOrder.toList = l) (h3 : (behindMainWord (wordsSigns l)).isEmpty = false) (h4 : ((behindMainWord (wordsSigns l)).head? == some "cut".toList) = true)
    (h6 : ((behindMainWord (wordsSigns l)).head? == some "gc".toList) = false) (h7 : ((behindMainWord (wordsSigns l)).head? == some "spec".toList) = false) : P.make = some .cut := by
  subst h
  unfold Program.make
  generalize behindMainWord (wordsSigns P.initOrder.toList) = q at h3 h4 h6 h7 ⊢
  cases q with
  | nil => cases h3
  | cons c rest =>
    simp only [List.head?_cons] at h4 h6 h7
    have g : ∀ x : List Char, (some c == some x) = (c == x) := fun x => rfl
    rw [g] at h4 h6 h7
    simp only [h4, h6, h7, Bool.or_self, Bool.false_eq_true, if_false, Bool.true_or, if_true]
theorem try_make : Try.prog.make = some .cut := make_of order_list ow3 ow4 ow6 ow7
end Go.Sv
