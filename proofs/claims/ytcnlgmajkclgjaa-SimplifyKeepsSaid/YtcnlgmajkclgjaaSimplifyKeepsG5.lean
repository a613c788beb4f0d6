/- A part of the proof of the law SimplifyKeeps: that it answers true for every input, and that the input reads behind the call as before (no condition). -/
import Derived.Test.YtcnlgmajkclgjaaSimplifyKeepsG4
import Derived.Test.YtcnlgmajkclgjaaRows
import Derived.ProofKit
import Derived.OpenShut
set_option linter.all false
set_option linter.unusedSectionVars false
set_option linter.unusedVariables false
set_option linter.unusedSimpArgs false
namespace Go.Sv
open Go Go.Proofs
section
variable {P : Program} {Q : Cont} {fr : Fr} {C : Heap} {Z Z' : Frz} {nx : Nat} {base n d : Nat} {l : List (Nat × XO)} {kp : Option (List Nat)} {x i y s : X}
theorem retL1 {live : Bool} {b m : Nat} {p : List Int} (hC : C b = some ((encI p).map AV.d)) (hm : p.length = m) : RetOK C Z (tupOf [.slL b 0 m 1]) live (.d (.sl (encI p) m)) none none := by
  refine .data _ ?_
  simp only [tupOf, convT, convA, conv_slI (ex := fun _ => false) rfl hC hm, Option.map_some]
end
set_option maxRecDepth 100000
set_option maxHeartbeats 4000000
attribute [local irreducible] W E R KP thenK blockK retK Good xwp aRun
end Go.Sv
namespace Go.Sv
open Go Go.Proofs
set_option linter.unusedVariables false
set_option maxRecDepth 100000

theorem cells_27 : Try.prog.cellsOf 27 = 8 := by kernel_rfl
theorem cells_3 : Try.prog.cellsOf 3 = 1 := by kernel_rfl
theorem cells_24 : Try.prog.cellsOf 24 = 4 := by kernel_rfl
theorem cells_22 : Try.prog.cellsOf 22 = 1 := by kernel_rfl
theorem cells_25 : Try.prog.cellsOf 25 = 1 := by kernel_rfl
def inW (k : Int) : Prop := -9223372036854775808 ≤ k ∧ k < 9223372036854775808
mutual
def inT : T → Prop
  | .node k a b c d mn mx subs => inW k ∧ okW a ∧ okW b ∧ okW c ∧ okW d ∧ inW mn ∧ inW mx ∧ inL subs
def inL : List T → Prop
  | [] => True
  | t :: l => inT t ∧ inL l
end
theorem inL_of : ∀ {l : List T}, (∀ t ∈ l, inT t) → inL l
  | [], _ => trivial
  | t :: l, h => ⟨h t (by simp), inL_of fun u hu => h u (by simp [hu])⟩

section
variable {H : Type} {enc : TypeId × Value → H} {W : World} {sp : Nat → Bool}
theorem wf_i64 {n : Int} (h : (Lit.int .i64 n).wf = true) : inW n := by
  simp [Lit.wf, IntKind.min, IntKind.max, IntKind.signed, IntKind.bits] at h
  unfold inW; omega
theorem wf_u64 {n : Int} (h : (Lit.int .u64 n).wf = true) : okW n := by
  simp [Lit.wf, IntKind.min, IntKind.max, IntKind.signed, IntKind.bits] at h
  unfold okW; omega
def NoA : Nat → Prop := fun _ => False
def RDs (W : World) (vs : List Value) (ds : List DV) : Prop := vs.length = ds.length ∧ ∀ (j : Nat) (v : Value) (d : DV), vs[j]? = some v → ds[j]? = some d → RD W NoA v d
theorem RDs.nil : RDs W [] [] := ⟨rfl, fun j v d h => by simp at h⟩
theorem RDs.cons {v : Value} {d : DV} {vs : List Value} {ds : List DV} (h : RD W NoA v d) (hs : RDs W vs ds) : RDs W (v :: vs) (d :: ds) := by
  refine ⟨by simp [hs.1], fun j v' d' h1 h2 => ?_⟩
  cases j with
  | zero => simp at h1 h2; subst h1; subst h2; exact h
  | succ j => exact hs.2 j v' d' (by simpa using h1) (by simpa using h2)

theorem cells_at {a : Addr} {n : Nat} {cs : List Value} (h : W.cells? 0 a n = some cs) : cs.length = n ∧ ∀ j, j < n → cs[j]? = W.cell? (a.add j) := by
  unfold World.cells? at h
  rw [if_pos (Nat.zero_le _)] at h
  refine ⟨by simpa using mapM_some_length h, fun j hj => ?_⟩
  exact (mapM_some_get h j j (by simp [hj])).symm
theorem cell_spot {a : Addr} {v : Value} (h : W.cell? a = some v) : a = ⟨a.block, a.off, none⟩ := by
  obtain ⟨b, o, s⟩ := a
  unfold World.cell? at h
  split at h
  · split at h
    · cases h
    · rename_i hs
      cases s with
      | none => rfl
      | some _ => simp at hs
  · cases h

theorem addr_add2 (b o m k : Nat) : (((⟨b, o, none⟩ : Addr).add m).add k) = ⟨b, o + (m + k), none⟩ := by
  unfold Addr.add
  split <;> split <;> simp_all <;> omega
theorem elems_open {sz : Nat} (hsz : 0 < sz) {a : Addr} {α : Type} {P : α → Prop} {en : α → List DV} (hen : ∀ x, (en x).length = sz) : ∀ (len : Nat), (∀ i, i < len → ∃ cs x, W.cells? 0 (a.add (i * sz)) sz = some cs ∧ P x ∧ RDs W cs (en x)) →
    ∃ l : List α, l.length = len ∧ (∀ x ∈ l, P x) ∧ ∀ j, j < len * sz → ∃ v d, W.cell? ⟨a.block, a.off + j, none⟩ = some v ∧ (l.flatMap en)[j]? = some d ∧ RD W NoA v d
  | 0, _ => ⟨[], rfl, by simp, fun j hj => by omega⟩
  | len + 1, h => by
    obtain ⟨l, h1, h2, h3⟩ := elems_open hsz hen len fun i hi => h i (by omega)
    obtain ⟨cs, x, h4, h5, h6⟩ := h len (by omega)
    obtain ⟨h7, h8⟩ := cells_at h4
    have hspot : a = ⟨a.block, a.off, none⟩ := by
      obtain ⟨cs0, x0, g4, _, _⟩ := h 0 (by omega)
      obtain ⟨g7, g8⟩ := cells_at g4
      have g9 := g8 0 hsz
      rw [List.getElem?_eq_getElem (by omega)] at g9
      have := cell_spot g9.symm
      simpa [Addr.add] using this
    have hfl : ∀ m : List α, (m.flatMap en).length = m.length * sz := by
      intro m
      induction m with
      | nil => simp
      | cons y m ih => simp [ih, hen, Nat.succ_mul]; omega
    refine ⟨l ++ [x], by simp [h1], fun y hy => ?_, fun j hj => ?_⟩
    · rcases List.mem_append.1 hy with hy | hy
      · exact h2 y hy
      · simp at hy; subst hy; exact h5
    · rcases Nat.lt_or_ge j (len * sz) with hlt | hge
      · obtain ⟨v, d, g1, g2, g3⟩ := h3 j hlt
        refine ⟨v, d, g1, ?_, g3⟩
        rw [List.flatMap_append, List.getElem?_append_left (by rw [hfl, h1]; exact hlt)]
        exact g2
      · have hj2 : j - len * sz < sz := by rw [Nat.succ_mul] at hj; omega
        have g1 := h8 (j - len * sz) hj2
        rw [List.getElem?_eq_getElem (by omega)] at g1
        have hl6 := h6.1
        have hx : (en x)[j - len * sz]? = some (en x)[j - len * sz] := List.getElem?_eq_getElem (by rw [hen]; exact hj2)
        refine ⟨cs[j - len * sz], (en x)[j - len * sz], ?_, ?_, h6.2 _ _ _ (List.getElem?_eq_getElem (by omega)) hx⟩
        · rw [g1]
          congr 1
          have e : len * sz + (j - len * sz) = j := by omega
          have h9 := addr_add2 a.block a.off (len * sz) (j - len * sz)
          rw [← hspot, e] at h9
          exact h9.symm
        · rw [List.flatMap_append, List.getElem?_append_right (by rw [hfl, h1]; exact hge), hfl, h1]
          simpa using hx
theorem encL_flat : ∀ l : List T, encL l = l.flatMap encN
  | [] => rfl
  | t :: l => by simp [encL, encL_flat l]

theorem len8 {cs : List Value} (h : cs.length = 8) : ∃ a b c d e f g i, cs = [a, b, c, d, e, f, g, i] := by
  match cs, h with
  | [a, b, c, d, e, f, g, i], _ => exact ⟨a, b, c, d, e, f, g, i, rfl⟩

theorem node_open : ∀ (fuel : Nat) (cs : List Value) (x : DataW H × List MemPlace), DataW.trod enc Try.prog W 0 sp true fuel 27 cs = some x → ∃ t : T, inT t ∧ RDs W cs (encN t) := by
  intro fuel
  induction fuel using Nat.strongRecOn with
  | ind fuel ih =>
  intro cs x h
  obtain ⟨xs, n, rfl, _, hl, hxl, hf⟩ := DataW.trod_struct Try.underlying27 h
  rw [cells_27] at hl
  obtain ⟨c0, c1, c2, c3, c4, c5, c6, c7, rfl⟩ := len8 hl
  have hx : ∀ i, i < 5 → ∃ y, xs[i]? = some y := fun i hi => ⟨_, List.getElem?_eq_getElem (by rw [hxl]; exact hi)⟩
  obtain ⟨y0, e0⟩ := hx 0 (by omega)
  obtain ⟨y1, e1⟩ := hx 1 (by omega)
  obtain ⟨y2, e2⟩ := hx 2 (by omega)
  obtain ⟨y3, e3⟩ := hx 3 (by omega)
  obtain ⟨y4, e4⟩ := hx 4 (by omega)
  have f0 := hf 0 _ rfl
  have f1 := hf 1 _ rfl
  have f2 := hf 2 _ rfl
  have f3 := hf 3 _ rfl
  have f4 := hf 4 _ rfl
  simp only [cells_3, cells_24, cells_25, List.drop_succ_cons, List.drop_zero, List.take_succ_cons, List.take_zero, e0, e1, e2, e3, e4] at f0 f1 f2 f3 f4
  obtain ⟨k, g0, _, w0⟩ := DataW.trod_int Try.underlying3 f0
  obtain ⟨mn, g2, _, w2⟩ := DataW.trod_int Try.underlying3 f2
  obtain ⟨mx, g3, _, w3⟩ := DataW.trod_int Try.underlying3 f3
  obtain ⟨ws, m, rfl, _, hl1, hwl, hw⟩ := DataW.trod_array Try.underlying24 f1
  have hy : ∀ i, i < 4 → ∃ y, ws[i]? = some y := fun i hi => ⟨_, List.getElem?_eq_getElem (by rw [hwl]; exact hi)⟩
  obtain ⟨z0, k0⟩ := hy 0 (by omega)
  obtain ⟨z1, k1⟩ := hy 1 (by omega)
  obtain ⟨z2, k2⟩ := hy 2 (by omega)
  obtain ⟨z3, k3⟩ := hy 3 (by omega)
  have q0 := hw 0 (by omega)
  have q1 := hw 1 (by omega)
  have q2 := hw 2 (by omega)
  have q3 := hw 3 (by omega)
  simp only [cells_22, Nat.zero_mul, Nat.one_mul, Nat.mul_one, List.drop_succ_cons, List.drop_zero, List.take_succ_cons, List.take_zero, k0, k1, k2, k3] at q0 q1 q2 q3
  obtain ⟨a, a0, _, v0⟩ := DataW.trod_int Try.underlying22 q0
  obtain ⟨b, a1, _, v1⟩ := DataW.trod_int Try.underlying22 q1
  obtain ⟨c, a2, _, v2⟩ := DataW.trod_int Try.underlying22 q2
  obtain ⟨d, a3, _, v3⟩ := DataW.trod_int Try.underlying22 q3
  have one : ∀ {u v : Value}, [u] = [v] → u = v := fun h => by cases h; rfl
  have s0 := one g0; have s2 := one g2; have s3 := one g3
  have t0 := one a0; have t1 := one a1; have t2 := one a2; have t3 := one a3
  subst s0 s2 s3 t0 t1 t2 t3
  have fin : ∀ subs : List T, inL subs → RD W NoA c7 (.sl (encL subs) subs.length) → ∃ t : T, inT t ∧ RDs W [.int .i64 k, .int .u64 a, .int .u64 b, .int .u64 c, .int .u64 d, .int .i64 mn, .int .i64 mx, c7] (encN t) := by
    intro subs hs hr
    refine ⟨.node k a b c d mn mx subs, ⟨wf_i64 w0, wf_u64 v0, wf_u64 v1, wf_u64 v2, wf_u64 v3, wf_i64 w2, wf_i64 w3, hs⟩, ?_⟩
    exact .cons (.val _ rfl) (.cons (.val _ rfl) (.cons (.val _ rfl) (.cons (.val _ rfl) (.cons (.val _ rfl) (.cons (.val _ rfl) (.cons (.val _ rfl) (.cons hr .nil)))))))
  rcases DataW.trod_slice Try.underlying25 f4 with ⟨g4, _⟩ | ⟨ad, len, cap, elems, rest, n', hn', g4, _, _, hlc, _, hel, hr, _⟩
  · have := one g4; subst this
    exact fin [] trivial (.sl0 none 0)
  · have := one g4; subst this
    have hall : ∀ i, i < len → ∃ cs t, W.cells? 0 (ad.add (i * 8)) 8 = some cs ∧ inT t ∧ RDs W cs (encN t) := by
      intro i hi
      have h1 := hr i hi
      rw [cells_27, List.getElem?_eq_getElem (by omega)] at h1
      obtain ⟨cs, h2, h3⟩ := Option.bind_eq_some_iff.1 h1
      obtain ⟨t, h4, h5⟩ := ih n' (by omega) cs _ h3
      exact ⟨cs, t, h2, h4, h5⟩
    obtain ⟨l, h1, h2, h3⟩ := elems_open (sz := 8) (by omega) encN_len len hall
    refine fin l (inL_of h2) ?_
    rw [h1]
    by_cases h0 : len = 0
    · subst h0
      rw [List.length_eq_zero_iff.1 h1]
      exact .sl0 _ _
    · have hsp : ad = ⟨ad.block, ad.off, none⟩ := by
        obtain ⟨cs, t, g1, _, g2⟩ := hall 0 (by omega)
        obtain ⟨g7, g8⟩ := cells_at g1
        have g9 := g8 0 (by omega)
        rw [List.getElem?_eq_getElem (by omega)] at g9
        have := cell_spot g9.symm
        simpa [Addr.add] using this
      rw [hsp]
      have hlen : (encL l).length = len * 8 := by rw [encL_len, h1]
      refine .sl ad.block ad.off len cap (encL l) (fun j => (W.cell? ⟨ad.block, ad.off + j, none⟩).getD undef) (fun h => h) (by omega) hlc (fun j hj => ?_) (fun j hj => ?_)
      · obtain ⟨v, _, g1, _⟩ := h3 j (by omega)
        rw [g1]; rfl
      · obtain ⟨v, dd, g1, g2, g3⟩ := h3 j (by omega)
        rw [g1]
        rw [← encL_flat, List.getElem?_eq_getElem hj] at g2
        cases g2
        exact g3
end
end Go.Sv
namespace Go.Sv
open Go
set_option linter.unusedVariables false

mutual
theorem ok_of_open : ∀ (t : T), inT t → 0 ≤ openT t → okT t
  | .node k a b c d mn mx subs, h, ho => by
    simp only [inT] at h
    obtain ⟨_, ha, hb, hc, hd, _, _, hs⟩ := h
    simp only [openT] at ho
    split at ho
    · rename_i hp
      refine ⟨⟨ha, hb, hc, hd, hp⟩, okL_of_open k subs hs 0 ho⟩
    · omega
theorem okL_of_open (k : Int) : ∀ (l : List T), inL l → ∀ m : Int, 0 ≤ openL k l m → okL l
  | [], _, _, _ => trivial
  | t :: l, h, m, ho => by
    simp only [inL] at h
    simp only [openL] at ho
    split at ho
    · omega
    · exact ⟨ok_of_open t h.1 (by omega), okL_of_open k l h.2 _ ho⟩
end
theorem ok_of_right {t : T} (h : inT t) (hr : rightT t = true) : okT t := ok_of_open t h (by simp [rightT] at hr; omega)
end Go.Sv
namespace Go.Sv
open Go Go.Proofs
set_option maxRecDepth 100000
end Go.Sv
namespace Go.Sv
open Go Go.Proofs
def x3 : XC := (.seq (.ops 2 [
    (0, ⟨(some 3), none, .box (.t 0)⟩),
    (1, ⟨(some 6), none, .mv (.k (.d (.val (.bool false))))⟩)] (some [1, 2, 3])) (.seq (.seq (.ops 8 [
    (0, ⟨(some 9), none, .call 29 [] none false⟩),
    (1, ⟨(some 10), none, .un .not (.t 9)⟩),
    (2, ⟨(some 11), none, .mv (.t 10)⟩),
    (3, ⟨(some 12), (some (11, false)), .load (some 8) (.t 3)⟩),
    (4, ⟨(some 13), (some (11, false)), .mv (.t 1)⟩),
    (5, ⟨(some 14), (some (11, false)), .call 30 [(.t 12), (.t 13)] none false⟩),
    (6, ⟨(some 15), (some (11, false)), .un .not (.t 14)⟩),
    (7, ⟨(some 16), none, .pick (.t 11) (.k (.d (.val (.bool true)))) (.t 15)⟩)] (some [1, 2, 3, 16])) (.cond (.t 16) (.seq (.ops 2 [
    (0, ⟨(some 17), none, .call 29 [] none false⟩),
    (1, ⟨(some 6), none, .mv (.t 17)⟩)] (some [6])) .ret) .skip)) (.seq (.ops 9 [
    (0, ⟨(some 19), none, .load (some 8) (.t 3)⟩),
    (1, ⟨(some 20), none, .mv (.t 1)⟩),
    (2, ⟨(some 21), none, .mv (.t 2)⟩),
    (3, ⟨(some 22), none, .call 31 [(.t 19), (.t 20), (.t 21)] none false⟩),
    (4, ⟨(some 18), none, .mv (.t 22)⟩),
    (5, ⟨(some 23), none, .ext (.t 18) 0⟩),
    (6, ⟨(some 24), none, .ext (.t 18) 1⟩),
    (7, ⟨(some 7), none, .mv (.t 23)⟩),
    (8, ⟨(some 8), none, .mv (.t 24)⟩)] (some [1, 2, 3, 7, 8])) (.seq (.block 0 (.seq (.ops 4 [
    (0, ⟨(some 26), none, .load (some 8) (.t 3)⟩),
    (1, ⟨(some 27), none, .call 32 [(.t 26)] none false⟩),
    (2, ⟨(some 28), none, .un .not (.t 27)⟩),
    (3, ⟨(some 25), none, .mv (.t 28)⟩)] (some [1, 2, 3, 7, 8, 25])) (.cond (.t 25) (.seq (.ops 14 [
    (0, ⟨(some 29), none, .mv (.t 7)⟩),
    (1, ⟨(some 30), none, .lenS (.t 29)⟩),
    (2, ⟨(some 31), none, .arith .eql (.t 30) (.k (.d (.val (.int .i64 0))))⟩),
    (3, ⟨(some 32), none, .mv (.t 31)⟩),
    (4, ⟨(some 33), (some (32, true)), .mv (.t 8)⟩),
    (5, ⟨(some 34), (some (32, true)), .arith .eql (.t 33) (.k (.d (.val (.int .i64 1))))⟩),
    (6, ⟨(some 35), none, .pick (.t 32) (.t 34) (.k (.d (.val (.bool false))))⟩),
    (7, ⟨(some 36), none, .mv (.t 35)⟩),
    (8, ⟨(some 37), (some (36, true)), .load (some 8) (.t 3)⟩),
    (9, ⟨(some 38), (some (36, true)), .mv (.t 1)⟩),
    (10, ⟨(some 39), (some (36, true)), .call 33 [(.t 37), (.t 38)] none false⟩),
    (11, ⟨(some 40), (some (36, true)), .un .not (.t 39)⟩),
    (12, ⟨(some 41), none, .pick (.t 36) (.t 40) (.k (.d (.val (.bool false))))⟩),
    (13, ⟨(some 6), none, .mv (.t 41)⟩)] (some [6])) .ret) (.seq (.ops 9 [
    (0, ⟨(some 43), none, .mv (.t 2)⟩),
    (1, ⟨(some 44), none, .arith .lss (.t 43) (.k (.d (.val (.int .i64 0))))⟩),
    (2, ⟨(some 45), none, .mv (.t 44)⟩),
    (3, ⟨(some 46), (some (45, false)), .mv (.t 2)⟩),
    (4, ⟨(some 47), (some (45, false)), .mv (.t 1)⟩),
    (5, ⟨(some 48), (some (45, false)), .lenT (.t 47)⟩),
    (6, ⟨(some 49), (some (45, false)), .arith .gtr (.t 46) (.t 48)⟩),
    (7, ⟨(some 50), none, .pick (.t 45) (.k (.d (.val (.bool true)))) (.t 49)⟩),
    (8, ⟨(some 42), none, .mv (.t 50)⟩)] (some [1, 2, 3, 7, 8, 42])) (.cond (.t 42) (.seq (.ops 15 [
    (0, ⟨(some 51), none, .mv (.t 7)⟩),
    (1, ⟨(some 52), none, .lenS (.t 51)⟩),
    (2, ⟨(some 53), none, .arith .eql (.t 52) (.k (.d (.val (.int .i64 0))))⟩),
    (3, ⟨(some 54), none, .mv (.t 53)⟩),
    (4, ⟨(some 55), (some (54, true)), .mv (.t 8)⟩),
    (5, ⟨(some 56), (some (54, true)), .arith .eql (.t 55) (.k (.d (.val (.int .i64 2))))⟩),
    (6, ⟨(some 57), none, .pick (.t 54) (.t 56) (.k (.d (.val (.bool false))))⟩),
    (7, ⟨(some 58), none, .mv (.t 57)⟩),
    (8, ⟨(some 59), (some (58, true)), .load (some 8) (.t 3)⟩),
    (9, ⟨(some 60), (some (58, true)), .mv (.t 1)⟩),
    (10, ⟨(some 61), (some (58, true)), .mv (.t 2)⟩),
    (11, ⟨(some 62), (some (58, true)), .call 34 [(.t 59), (.t 60), (.t 61)] none false⟩),
    (12, ⟨(some 63), (some (58, true)), .arith .eql (.t 62) (.k (.d (.val (.int .i64 (-1)))))⟩),
    (13, ⟨(some 64), none, .pick (.t 58) (.t 63) (.k (.d (.val (.bool false))))⟩),
    (14, ⟨(some 6), none, .mv (.t 64)⟩)] (some [6])) .ret) .skip))))) (.seq (.ops 22 [
    (0, ⟨(some 65), none, .mv (.t 8)⟩),
    (1, ⟨(some 66), none, .arith .eql (.t 65) (.k (.d (.val (.int .i64 0))))⟩),
    (2, ⟨(some 67), none, .mv (.t 66)⟩),
    (3, ⟨(some 68), (some (67, true)), .mv (.t 7)⟩),
    (4, ⟨(some 69), (some (67, true)), .load (some 8) (.t 3)⟩),
    (5, ⟨(some 70), (some (67, true)), .mv (.t 1)⟩),
    (6, ⟨(some 71), (some (67, true)), .mv (.t 2)⟩),
    (7, ⟨(some 72), (some (67, true)), .call 36 [(.t 69), (.t 70), (.t 71)] none false⟩),
    (8, ⟨(some 73), (some (67, true)), .call 35 [(.t 68), (.t 72)] none false⟩),
    (9, ⟨(some 74), none, .pick (.t 67) (.t 73) (.k (.d (.val (.bool false))))⟩),
    (10, ⟨(some 75), none, .mv (.t 74)⟩),
    (11, ⟨(some 76), (some (75, true)), .load (some 8) (.t 3)⟩),
    (12, ⟨(some 77), (some (75, true)), .mv (.t 1)⟩),
    (13, ⟨(some 78), (some (75, true)), .mv (.t 2)⟩),
    (14, ⟨(some 79), (some (75, true)), .call 34 [(.t 76), (.t 77), (.t 78)] none false⟩),
    (15, ⟨(some 80), (some (75, true)), .load (some 8) (.t 3)⟩),
    (16, ⟨(some 81), (some (75, true)), .mv (.t 1)⟩),
    (17, ⟨(some 82), (some (75, true)), .mv (.t 2)⟩),
    (18, ⟨(some 83), (some (75, true)), .call 37 [(.t 80), (.t 81), (.t 82)] none false⟩),
    (19, ⟨(some 84), (some (75, true)), .arith .eql (.t 79) (.t 83)⟩),
    (20, ⟨(some 85), none, .pick (.t 75) (.t 84) (.k (.d (.val (.bool false))))⟩),
    (21, ⟨(some 6), none, .mv (.t 85)⟩)] (some [6])) .ret)))))
def md3 : FuncId → Option Nat × Bool
  | _ => (none, false)
def od3 : Nat → List (List Nat) × List Nat × Option (List Nat)
  | 0 => ([], [], some [1, 2, 3])
  | 1 => ([], [], some [1, 2, 3, 16])
  | 2 => ([], [], some [6])
  | 3 => ([], [], some [1, 2, 3, 7, 8])
  | 4 => ([], [], some [1, 2, 3, 7, 8, 25])
  | 5 => ([], [], some [6])
  | 6 => ([], [], some [1, 2, 3, 7, 8, 42])
  | 7 => ([], [], some [6])
  | 8 => ([[], [0], [0, 1], [0, 1, 2], [0, 1, 2], [0, 1, 2], [0, 1, 2], [0, 1, 2, 4, 5, 6], [0, 1, 2, 3, 4, 5, 6, 7], [0, 1, 2, 3, 4, 5, 6, 7, 8], [0, 1, 2, 3, 4, 5, 6, 7, 8, 9], [0, 1, 2, 3, 4, 5, 6, 7, 8, 9, 10], [0, 1, 2, 3, 4, 5, 6, 7, 8, 9, 10], [0, 1, 2, 3, 4, 5, 6, 7, 8, 9, 10], [0, 1, 2, 3, 4, 5, 6, 7, 8, 9, 10, 11, 12, 13], [0, 1, 2, 3, 4, 5, 6, 7, 8, 9, 10], [0, 1, 2, 3, 4, 5, 6, 7, 8, 9, 10], [0, 1, 2, 3, 4, 5, 6, 7, 8, 9, 10], [0, 1, 2, 3, 4, 5, 6, 7, 8, 9, 10, 11, 12, 13, 14, 15, 16, 17], [0, 1, 2, 3, 4, 5, 6, 7, 8, 9, 10, 11, 12, 13, 14, 15, 16, 17, 18], [0, 1, 2, 3, 4, 5, 6, 7, 8, 9, 10, 11, 12, 13, 14, 15, 16, 17, 18, 19], [0, 1, 2, 3, 4, 5, 6, 7, 8, 9, 10, 11, 12, 13, 14, 15, 16, 17, 18, 19, 20]], [0, 1, 2, 3, 4, 5, 6, 7, 8, 9, 10, 11, 12, 13, 14, 15, 16, 17, 18, 19, 20, 21], some [6])
  | _ => ([], [], none)
theorem b3 {ags : List AV} {row : Option (List DV)} {r : AV} {row' nw : Option (List DV)} (hal : ags.length ≤ 86) (hrow : row'.isSome = true → row.isSome = true) (h : xwp Try.prog x3 (retK [.tmp 6] row.isSome r row' nw) (St.init ags row)) : Good Try.prog 3 ags row r row' nw :=
  good_of_body' (md := md3) (od := od3) Try.f3 (by kernel_rfl) (by kernel_rfl) (by kernel_rfl) (by kernel_rfl) (by kernel_rfl) hal hrow h

set_option maxRecDepth 100000
set_option maxHeartbeats 4000000
attribute [local irreducible] W E R KP thenK blockK retK Good xwp aRun
theorem few_cnt {t : T} (h : sizeT t 601 ≤ 200) : t.cnt ≤ 200 := by
  have := sizeT_cnt t 601 (by omega)
  omega
end Go.Sv
namespace Go.Sv
open Go Go.Proofs
set_option maxRecDepth 100000
set_option maxHeartbeats 4000000
attribute [local irreducible] W E R KP thenK blockK retK Good xwp aRun
def zT : T := .node 0 0 0 0 0 0 0 []
end Go.Sv
namespace Go.Sv
open Go Go.Proofs
section
variable {P : Program} {Q : Cont} {fr : Fr} {C : Heap} {Z : Frz} {nx : Nat} {base n d0 : Nat} {l : List (Nat × XO)} {kp : Option (List Nat)} {x y : X}
theorem r_callv {f : FuncId} {g : X} {xs : List X} {ags : List AV} {r : AV} (hf : g.ev fr = .d (.fn f [])) (ha : xs.map (X.ev fr) = ags) (hn : ags.all AV.nrm = true) (hg : Good P f ags none r none none)
    (k : R P l base kp Q nx (fr.put d0 r) C Z) : R P ((n, ⟨some d0, none, .callv g xs⟩) :: l) base kp Q nx fr C Z := by
  refine ⟨r, C, Z, .inl ⟨rfl, f, [], .inr ⟨[], hf, rfl⟩, ?_⟩, k⟩
  subst ha
  refine ⟨_, [], r, none, by rw [List.append_nil]; exact convAs_nrm _ hn, hg, rfl, fun h => (by cases h), rfl, rfl, ?_⟩
  simp [Frz.add_nil]
end
set_option maxRecDepth 100000
set_option maxHeartbeats 4000000
attribute [local irreducible] W E R KP thenK blockK retK Good xwp aRun
end Go.Sv
namespace Go.Sv
open Go Go.Proofs
set_option maxRecDepth 100000
set_option maxHeartbeats 4000000
attribute [local irreducible] W E R KP thenK blockK retK Good xwp aRun
end Go.Sv
namespace Go.Sv
open Go
theorem plainT_5 {a b c d mn mx : Int} {subs : List T} (h : plainT (.node 5 a b c d mn mx subs) = true) : ∃ u, subs = [u] := by
  simp [plainT] at h
  obtain ⟨_, h⟩ := h
  match subs, h with
  | [u], _ => exact ⟨u, rfl⟩
theorem okT_plain {k a b c d mn mx : Int} {subs : List T} (h : okT (.node k a b c d mn mx subs)) : plainT (.node k a b c d mn mx subs) = true := by
  simp only [okT, okN] at h; exact h.1.2.2.2.2
theorem okT_subs {k a b c d mn mx : Int} {subs : List T} (h : okT (.node k a b c d mn mx subs)) : okL subs := by
  simp only [okT] at h; exact h.2
theorem okW_0 : okW 0 := by unfold okW; omega
theorem okT_mk {k mn mx : Int} {subs : List T} (h : plainT (.node k 0 0 0 0 mn mx subs) = true) (hs : okL subs) : okT (.node k 0 0 0 0 mn mx subs) := by
  simp only [okT, okN]; exact ⟨⟨okW_0, okW_0, okW_0, okW_0, h⟩, hs⟩
theorem okL_iff : ∀ (l : List T), okL l ↔ ∀ t ∈ l, okT t
  | [] => by simp [okL]
  | t :: l => by simp [okL, okL_iff l]
theorem okT_empty : okT (.node 1 0 0 0 0 0 0 []) := okT_mk (by simp [plainT, isZero]) trivial
theorem cntL_app : ∀ (l r : List T), cntL (l ++ r) = cntL l + cntL r
  | [], r => by simp [cntL]
  | t :: l, r => by rw [List.cons_append, cntL, cntL_app l r, cntL]; omega
theorem cntL_take_le (l : List T) (i : Nat) : cntL (l.take i) ≤ cntL l := by
  have := cntL_app (l.take i) (l.drop i)
  rw [List.take_append_drop] at this; omega
end Go.Sv
namespace Go.Sv
open Go Go.Proofs
theorem convAs_app {C : Heap} {ex : Nat → Bool} : ∀ {l r l' r' : List AV} {u v : List Nat}, convAs C ex l = some (l', u) → convAs C ex r = some (r', v) → convAs C ex (l ++ r) = some (l' ++ r', u ++ v)
  | [], r, l', r', u, v, h1, h2 => by cases h1; exact h2
  | x :: l, r, l', r', u, v, h1, h2 => by
    simp only [convAs] at h1
    obtain ⟨⟨p, q⟩, h3, h4⟩ := Option.bind_eq_some_iff.1 h1
    obtain ⟨⟨p', q'⟩, h5, h6⟩ := Option.map_eq_some_iff.1 h4
    cases h6
    simp only [List.cons_append, convAs, h3, Option.bind_some, convAs_app h5 h2, Option.map_some, List.append_assoc]
theorem convAs_encL {C : Heap} {ex : Nat → Bool} (l : List T) : convAs C ex ((encL l).map AV.d) = some ((encL l).map AV.d, []) := by
  rw [convAs_d]
  have : (encL l).map (fun x => AV.d x.norm) = ((encL l).map DV.norm).map AV.d := by rw [List.map_map]; rfl
  rw [this, encL_norm]
theorem isD_encL (l : List T) : ((encL l).map AV.d).all AV.isD = true := by rw [List.all_map]; simp [AV.isD]
set_option maxRecDepth 100000
set_option maxHeartbeats 4000000
attribute [local irreducible] W E R KP thenK blockK retK Good xwp aRun
end Go.Sv
namespace Go.Sv
open Go
set_option linter.unusedVariables false
def rhoM (n : Nat) : List (Nat × Nat) → Nat → Nat
  | [], k => rho n k
  | (b, c) :: σ, k => cond (Nat.beq k b) c (rhoM n σ k)
def vtM (vs : List Nat) (k : Nat) : Bool := vs.any (Nat.beq k)
theorem beq_false {k b : Nat} (h : k ≠ b) : Nat.beq k b = false := by
  cases e : Nat.beq k b with
  | false => rfl
  | true => exact absurd (Nat.eq_of_beq_eq_true e) h
theorem rhoM_ge {n k : Nat} : ∀ {σ : List (Nat × Nat)}, (σ.all fun p => Nat.blt p.1 n) = true → ¬ k < n → rhoM n σ k = 1000000
  | [], _, h => rho_ge h
  | (b, c) :: σ, hs, h => by
    simp only [List.all_cons, Bool.and_eq_true] at hs
    have : b < n := Eq.mp Nat.blt_eq hs.1
    rw [rhoM, beq_false (by omega)]
    exact rhoM_ge hs.2 h
theorem wkM {C : Heap} {Z : Frz} {nx nx' : Nat} {fr fr' : Fr} (σ : List (Nat × Nat)) (vs : List Nat) {rows : List (Nat × List AV)} {hot : List Nat} (h0 : (Nat.blt 0 nx' && (Nat.beq (rhoM nx' σ 0) 0 && (!(vtM vs 0) && σ.all fun p => Nat.blt p.1 nx'))) = true)
    (h : ∀ p ∈ rows, p.1 < nx' ∧ ((vtM vs p.1 = true ∧ p.2 = []) ∨ (vtM vs p.1 = false ∧ ∃ r, C (rhoM nx' σ p.1) = some r ∧ LWk (rhoM nx' σ) (vtM vs) nx' r p.2)))
    (hh : ∀ k ∈ hot, Z (rhoM nx' σ k) = false)
    (hinj : ((rows.map (·.1)).all fun a => (rows.map (·.1)).all fun b => Nat.beq a b || (!(Nat.beq (rhoM nx' σ a) (rhoM nx' σ b)) || (vtM vs a || vtM vs b))) = true)
    (hf : FWk (rhoM nx' σ) (vtM vs) nx' fr fr') (hN : Z 1000000 = false := by rfl) :
    Wk ⟨fr, C, Z, nx⟩ ⟨fr', rowsOf rows, Frz.buts nx' hot, nx'⟩ := by
  simp only [Bool.and_eq_true, Bool.not_eq_true'] at h0
  obtain ⟨a1, a2, a3, a4⟩ := h0
  have a1 : 0 < nx' := Eq.mp Nat.blt_eq a1
  refine ⟨rhoM nx' σ, vtM vs, ⟨Nat.eq_of_beq_eq_true a2, a3, a1⟩, hf, fun e s he => ?_, fun e e' r1 r2 h1 h2 v1 v2 hee => ?_, fun e hc => ?_⟩
  · obtain ⟨g1, g2⟩ := h _ (rowsOf_mem he)
    refine ⟨g1, ?_⟩
    rcases g2 with ⟨q1, q3⟩ | ⟨q1, r, q2, q3⟩
    · simp only at q3
      exact .inl ⟨q1, q3⟩
    · refine .inr ⟨q1, r, q2, q3.len, q3.get, fun hz' => ?_⟩
      by_cases hm : e ∈ hot
      · exact hh e hm
      · have : Frz.buts nx' hot e = true := buts_lt g1 hm
        simp only at hz'
        rw [this] at hz'; cases hz'
  · have k1 := List.all_eq_true.1 hinj e (List.mem_map.2 ⟨_, rowsOf_mem h1, rfl⟩)
    have k2 := List.all_eq_true.1 k1 e' (List.mem_map.2 ⟨_, rowsOf_mem h2, rfl⟩)
    simp only [Bool.or_eq_true, Bool.not_eq_true'] at k2
    rcases k2 with k2 | k2 | k2 | k2
    · exact Nat.eq_of_beq_eq_true k2
    · have : Nat.beq (rhoM nx' σ e) (rhoM nx' σ e') = true := by rw [hee]; exact Nat.beq_refl _
      rw [this] at k2; cases k2
    · rw [v1] at k2; cases k2
    · rw [v2] at k2; cases k2
  · by_cases hlt : e < nx'
    · refine buts_lt hlt fun hm => ?_
      have := hh e hm
      simp only at hc
      rw [this] at hc; cases hc
    · simp only [rhoM_ge a4 hlt, hN] at hc; cases hc

section
variable {P : Program} {Q : Cont} {fr : Fr} {C : Heap} {Z : Frz} {nx : Nat} {base n d : Nat} {l : List (Nat × XO)} {kp : Option (List Nat)} {x i y s : X}
theorem xl_live {b off : Nat} {cs : List DV} {m : Option Nat} (hx : x.ev fr = .ptrL b off) (hC : C b = some (cs.map AV.d)) : xl fr C (.load m x) = xl (Fr.nil.put 0 (.d (.ptr cs off))) C (.load m (.t 0)) := by
  simp only [xl, hx, rowOf, hC, Option.map_some, Option.bind_some]
  rfl
theorem r_ixN {b m j : Nat} {e : Int} (hx : x.ev fr = .slL b 0 m 8) (hi : i.ev fr = .i e) (he : e = (j : Nat)) (hj : j < m) (k : R P l base kp Q nx (fr.put d (.ptrL b (j * 8))) C Z) : R P ((n, ⟨some d, none, .idxS 8 x i⟩) :: l) base kp Q nx fr C Z := by
  subst he
  refine r_p ?_ k
  simp [xp, hx, hi, intIn, hj]
theorem r_ldN {b off : Nat} {cs : List DV} {t : T} (hx : x.ev fr = .ptrL b off) (hC : C b = some (cs.map AV.d)) (hn : NodeAt cs off t) (k : R P l base kp Q nx (fr.put d (nodeA t)) C Z) : R P ((n, ⟨some d, none, .load (some 8) x⟩) :: l) base kp Q nx fr C Z := by
  refine r_l ?_ k
  rw [xl_live hx hC]
  exact ld_node' hn rfl
theorem r_ldNw {b off : Nat} {cs : List DV} {k0 a0 b0 c0 d0 mn mx : Int} {subs : List T} (hx : x.ev fr = .ptrL b (off + 1)) (hC : C b = some (cs.map AV.d)) (hn : NodeAt cs off (.node k0 a0 b0 c0 d0 mn mx subs)) (k : R P l base kp Q nx (fr.put d (.agg [.d (.val (.int .u64 a0)), .d (.val (.int .u64 b0)), .d (.val (.int .u64 c0)), .d (.val (.int .u64 d0))])) C Z) : R P ((n, ⟨some d, none, .load (some 4) x⟩) :: l) base kp Q nx fr C Z := by
  refine r_l ?_ k
  rw [xl_live hx hC]
  exact ld_set hn rfl
theorem r_mkN {t : T} {id : Nat} (hx : x.ev fr = nodeA t) (hid : base + n = id) (k : R P l base kp Q nx (fr.put d (.slL id 0 1 8)) (C.put id ((encL [t]).map AV.d)) Z) : R P ((n, ⟨some d, none, .mkrow [.int .i64 0, .int .u64 0, .int .u64 0, .int .u64 0, .int .u64 0, .int .i64 0, .int .i64 0, .slice none 0 0] 1 8 [(0, 8, x)]⟩) :: l) base kp Q nx fr C Z := by
  subst hid
  refine r_n (v := .slL (base + n) 0 1 8) (r := (encL [t]).map AV.d) ?_ k
  obtain ⟨k0, a0, b0, c0, d0, mn, mx, subs⟩ := t
  simp only [xn, List.map_cons, List.map_nil, hx]
  rfl
theorem r_appE {b c id m j : Nat} {K L : List T} (hs : s.ev fr = .slL b 0 m 8) (hx : x.ev fr = .slL c 0 j 8) (hC : C b = some ((encL K).map AV.d)) (hCc : C c = some ((encL L).map AV.d)) (hm : K.length = m) (hj : L.length = j) (hz : Z b = false) (hid : base + n = id) (hb : m + j ≤ 1000000)
    (k : R P l base kp Q nx (fr.put d (.slL id 0 (m + j) 8)) ((C.del b).put id ((encL (K ++ L)).map AV.d)) Z) : R P ((n, ⟨some d, none, .app [.int .i64 0, .int .u64 0, .int .u64 0, .int .u64 0, .int .u64 0, .int .i64 0, .int .i64 0, .slice none 0 0] 80 s x⟩) :: l) base kp Q nx fr C Z := by
  refine r_appN hs hx hC hCc (by rw [List.length_map, encL_length, hm]) (by rw [List.length_map, encL_length, hj]) (one_encL L) hz hid hb ?_
  rw [encL_app, List.map_append] at k
  exact k
theorem r_appD {b id m j : Nat} {K L : List T} (hs : s.ev fr = .slL b 0 m 8) (hx : x.ev fr = .d (.sl (encL L) j)) (hC : C b = some ((encL K).map AV.d)) (hm : K.length = m) (hj : L.length = j) (hz : Z b = false) (hid : base + n = id) (hb : m + j ≤ 1000000)
    (k : R P l base kp Q nx (fr.put d (.slL id 0 (m + j) 8)) ((C.del b).put id ((encL (K ++ L)).map AV.d)) Z) : R P ((n, ⟨some d, none, .app [.int .i64 0, .int .u64 0, .int .u64 0, .int .u64 0, .int .u64 0, .int .i64 0, .int .i64 0, .slice none 0 0] 80 s x⟩) :: l) base kp Q nx fr C Z := by
  subst hid hm hj
  refine r_w (v := .slL (base + n) 0 (K.length + L.length) 8) (C' := (C.del b).put (base + n) ((encL (K ++ L)).map AV.d)) ?_ k
  have h2 : srcOf C 8 (.d (.sl (encL L) L.length)) = some ((encL L).map AV.d, L.length) := by
    unfold srcOf
    split
    · rename_i e; cases e
    · rename_i e; cases e; rw [if_pos (encL_length L)]
    · rename_i e; cases e
    · rename_i h1 h2 h3; exact absurd rfl (h2 _ _)
  simp only [xw, List.length_cons, List.length_nil, Nat.zero_add, Nat.reduceAdd, hx, h2, Option.bind_some, hs, hC]
  rw [if_pos (one_encL L), if_pos ⟨trivial, hz, by rw [List.length_map, encL_length]; omega, by omega⟩, List.take_of_length_le (by rw [List.length_map, encL_length]; omega), encL_app, List.map_append]
theorem conv_rowN {ex : Nat → Bool} {id m : Nat} {L : List T} (hC : C id = some ((encL L).map AV.d)) (hm : L.length = m) (hex : ex id = false) : convC C ex 9 (.slL id 0 m 8) = some (.sl (encL L) m, if m = 0 then [] else [id]) := by
  subst hm
  rcases Nat.eq_zero_or_pos L.length with h | h
  · have : L = [] := List.length_eq_zero_iff.1 h
    subst this
    simp [convC, encL]
  · rw [if_neg (by omega)]
    exact conv_row hC (by rw [List.length_map, encL_length]) h hex (mapO_encL L)
theorem conv_rowA {ex : Nat → Bool} {id m : Nat} {L : List T} (hC : C id = some ((encL L).map AV.d)) (hm : L.length = m) (hex : ex id = false) : convA C ex (.slL id 0 m 8) = some (.d (.sl (encL L) m), if m = 0 then [] else [id]) := by
  simp only [convA, conv_rowN hC hm hex, Option.map_some]
end
end Go.Sv
namespace Go.Sv
open Go
mutual
def sameT : T → T → Bool
  | .node k a b c d mn mx s, .node k' a' b' c' d' mn' mx' s' => (k == k' && (a == a' && b == b' && c == c' && d == d') && mn == mn' && mx == mx') && sameL s s'
def sameL : List T → List T → Bool
  | [], [] => true
  | t :: l, u :: r => sameT t u && sameL l r
  | [], _ :: _ => false
  | _ :: _, [] => false
end
mutual
theorem sameT_iff : ∀ (t u : T), sameT t u = true ↔ t = u
  | .node k a b c d mn mx s, .node k' a' b' c' d' mn' mx' s' => by
    simp only [sameT, Bool.and_eq_true, beq_iff_eq, sameL_iff s s', T.node.injEq]
    constructor
    · rintro ⟨⟨⟨⟨h1, ⟨⟨h2, h3⟩, h4⟩, h5⟩, h6⟩, h7⟩, h8⟩; exact ⟨h1, h2, h3, h4, h5, h6, h7, h8⟩
    · rintro ⟨h1, h2, h3, h4, h5, h6, h7, h8⟩; exact ⟨⟨⟨⟨h1, ⟨⟨h2, h3⟩, h4⟩, h5⟩, h6⟩, h7⟩, h8⟩
theorem sameL_iff : ∀ (l r : List T), sameL l r = true ↔ l = r
  | [], [] => by simp [sameL]
  | t :: l, u :: r => by simp only [sameL, Bool.and_eq_true, sameT_iff t u, sameL_iff l r, List.cons.injEq]
  | [], _ :: _ => by simp [sameL]
  | _ :: _, [] => by simp [sameL]
end
theorem sameL_drop (l r : List T) (i : Nat) (h : i < l.length) (h2 : i < r.length) : sameL (l.drop i) (r.drop i) = (sameT l[i] r[i] && sameL (l.drop (i + 1)) (r.drop (i + 1))) := by
  rw [List.drop_eq_getElem_cons h, List.drop_eq_getElem_cons h2, sameL]
theorem sameL_len {l r : List T} (h : l.length ≠ r.length) : sameL l r = false := by
  cases e : sameL l r with
  | false => rfl
  | true => exact absurd (congrArg List.length ((sameL_iff l r).1 e)) h

def isNo : T → Bool
  | .node k a b c d _ _ _ => k == 2 && isZero a b c d
def emptyT : T := .node 1 0 0 0 0 0 0 []
def noneT : T := .node 2 0 0 0 0 0 0 []
def ofT (k : Int) (l : List T) (e : T) : T := match l with
  | [] => e
  | [t] => t
  | l => .node k 0 0 0 0 0 0 l
def flatO (k : Int) (t : T) : List T := if t.kind = k then t.subs else [t]
def flatL (k : Int) : List T → List T
  | [] => []
  | t :: l => flatO k t ++ flatL k l
def notE (t : T) : Bool := !(t.kind == 1)
def catS (l : List T) : T := if (flatL 3 l).any isNo = true then noneT else ofT 3 ((flatL 3 l).filter notE) emptyT
def orW (a b : Int) : Int := ((BitVec.ofInt 64 a ||| BitVec.ofInt 64 b).toNat : Int)
def clsN : T → T
  | .node _ a b c d _ _ _ => .node 2 a b c d 0 0 []
def orN : T → T → T
  | .node _ a b c d _ _ _, .node _ a' b' c' d' _ _ _ => .node 2 (orW a a') (orW b b') (orW c c') (orW d d') 0 0 []
def altStep (s : List T × Option Nat) (t : T) : List T × Option Nat :=
  if isNo t = true then s
  else if t.kind = 2 then match s.2 with
    | some i => (s.1.set i (orN (s.1.getD i noneT) t), some i)
    | none => (s.1 ++ [clsN t], some s.1.length)
  else if s.1.any (fun u => sameT u t) = true then s else (s.1 ++ [t], s.2)
def altF (l : List T) : List T × Option Nat := (flatL 4 l).foldl altStep ([], none)
def altS (l : List T) : T := ofT 4 (altF l).1 noneT
def isStar (t : T) : Bool := t.kind == 5 && t.mn == 0 && t.mx == -1
mutual
def repS : T → Int → Int → T
  | .node k a b c d mn mx subs, lo, hi =>
    if hi = 0 ∨ k = 1 ∨ (isNo (.node k a b c d mn mx subs) = true ∧ lo = 0) then emptyT
    else if isNo (.node k a b c d mn mx subs) = true ∨ (lo = 1 ∧ hi = 1) ∨ (k = 5 ∧ mn = 0 ∧ mx = -1) then .node k a b c d mn mx subs
    else if lo = 0 ∧ hi = -1 ∧ k = 5 ∧ mn ≤ 1 ∧ 0 ≤ mn then repF subs (.node k a b c d mn mx subs)
    else .node 5 0 0 0 0 lo hi [.node k a b c d mn mx subs]
def repF : List T → T → T
  | [], t => .node 5 0 0 0 0 0 (-1) [t]
  | u :: l, t => if l.isEmpty = true then repS u 0 (-1) else .node 5 0 0 0 0 0 (-1) [t]
end
theorem repF_one (u t : T) : repF [u] t = repS u 0 (-1) := by simp [repF]
mutual
def simT : T → T
  | .node k a b c d mn mx subs =>
    if k = 3 then catS (simL subs) else if k = 4 then altS (simL subs) else if k = 5 then repS ((simL subs).headD emptyT) mn mx else .node k a b c d mn mx subs
def simL : List T → List T
  | [] => []
  | t :: l => simT t :: simL l
end
theorem simL_len : ∀ l : List T, (simL l).length = l.length
  | [] => rfl
  | t :: l => by rw [simL, List.length_cons, simL_len l, List.length_cons]
theorem simL_get : ∀ (l : List T) (i : Nat) (h : i < l.length) (h2 : i < (simL l).length), (simL l)[i] = simT l[i]
  | t :: l, 0, _, _ => by simp [simL]
  | t :: l, i + 1, h, h2 => by
    simp only [simL, List.getElem_cons_succ]
    exact simL_get l i (by simpa using h) _
theorem okW_nat {w : Int} (h : okW w) : ∃ n : Nat, w = n ∧ n < 2 ^ 64 := by
  obtain ⟨n, rfl⟩ := Int.eq_ofNat_of_zero_le h.1
  exact ⟨n, rfl, by have := h.2; omega⟩
theorem bitG_nat (n x : Nat) : bitG (n : Int) x = n.testBit (x % 64) := by
  unfold bitG
  rw [Nat.testBit_eq_decide_div_mod_eq]
  congr 1
  apply propext
  have : ((n : Int) / 2 ^ (x % 64) % 2 = 1) ↔ (((n / 2 ^ (x % 64) % 2 : Nat) : Int) = ((1 : Nat) : Int)) := by
    rw [Int.natCast_emod, Int.natCast_ediv, Int.natCast_pow]; rfl
  rw [this, Int.ofNat_inj]
theorem orW_nat {a b : Nat} (ha : a < 2 ^ 64) (hb : b < 2 ^ 64) : orW (a : Int) (b : Int) = ((a ||| b : Nat) : Int) := by
  unfold orW
  have h1 : (BitVec.ofInt 64 (a : Int)).toNat = a := by simp [BitVec.toNat_ofInt]; omega
  have h2 : (BitVec.ofInt 64 (b : Int)).toNat = b := by simp [BitVec.toNat_ofInt]; omega
  rw [BitVec.toNat_or, h1, h2]
theorem okW_or {a b : Int} (ha : okW a) (hb : okW b) : okW (orW a b) := by
  obtain ⟨m, rfl, hm⟩ := okW_nat ha
  obtain ⟨n, rfl, hn⟩ := okW_nat hb
  rw [orW_nat hm hn]
  have := Nat.or_lt_two_pow hm hn
  unfold okW; omega
theorem bitG_0 (x : Nat) : bitG 0 x = false := by
  have := bitG_nat 0 x
  simpa using this
theorem four {P : Nat → Prop} (h0 : P 0) (h1 : P 1) (h2 : P 2) (h3 : P 3) (h4 : ∀ n, 4 ≤ n → P n) (n : Nat) : P n := by
  rcases Nat.lt_or_ge n 4 with h | h
  · match n, h with
    | 0, _ => exact h0
    | 1, _ => exact h1
    | 2, _ => exact h2
    | 3, _ => exact h3
  · exact h4 n h
theorem inG_0 (x : Nat) : inG 0 0 0 0 x = false := by
  unfold inG
  generalize x / 64 = n
  revert n
  refine four (bitG_0 x) (bitG_0 x) (bitG_0 x) (bitG_0 x) ?_
  intro n h
  rw [List.getD_eq_getElem?_getD, List.getElem?_eq_none (by simpa using h)]
  simp [bitG_0]

def okS : T → Prop
  | .node _ a b c d _ _ _ => okW a ∧ okW b ∧ okW c ∧ okW d
def AltI (s : List T × Option Nat) : Prop := ∀ i, s.2 = some i → ∃ a b c d, s.1[i]? = some (.node 2 a b c d 0 0 []) ∧ okW a ∧ okW b ∧ okW c ∧ okW d
theorem AltI.lt {s : List T × Option Nat} (h : AltI s) {i : Nat} (hi : s.2 = some i) : i < s.1.length := by
  obtain ⟨a, b, c, d, h, _⟩ := h i hi
  exact (List.getElem?_eq_some_iff.1 h).1
theorem altStep_I {s : List T × Option Nat} {t : T} (h : AltI s) (ht : okS t) : AltI (altStep s t) := by
  unfold altStep
  split
  · exact h
  split
  · split
    · rename_i i hi
      intro j hj
      cases hj
      obtain ⟨a, b, c, d, h1, ha, hb, hc, hd⟩ := h i hi
      have hlt := (List.getElem?_eq_some_iff.1 h1).1
      obtain ⟨k', a', b', c', d', mn', mx', subs'⟩ := t
      obtain ⟨q1, q2, q3, q4⟩ := ht
      refine ⟨orW a a', orW b b', orW c c', orW d d', ?_, okW_or ha q1, okW_or hb q2, okW_or hc q3, okW_or hd q4⟩
      rw [List.getElem?_set_self hlt, List.getD_eq_getElem?_getD, h1]
      rfl
    · intro j hj
      cases hj
      obtain ⟨k', a', b', c', d', mn', mx', subs'⟩ := t
      exact ⟨a', b', c', d', by rw [List.getElem?_append_right (Nat.le_refl _), Nat.sub_self]; rfl, ht⟩
  · split
    · exact h
    · intro j hj
      obtain ⟨a, b, c, d, h1, h2⟩ := h j hj
      exact ⟨a, b, c, d, by rw [List.getElem?_append_left (List.getElem?_eq_some_iff.1 h1).1]; exact h1, h2⟩
theorem okT_S {t : T} (h : okT t) : okS t := by
  obtain ⟨k, a, b, c, d, mn, mx, subs⟩ := t
  simp only [okT, okN] at h
  exact ⟨h.1.1, h.1.2.1, h.1.2.2.1, h.1.2.2.2.1⟩
theorem okT_subs' {t : T} (h : okT t) : okL t.subs := by cases t; exact okT_subs h
theorem okL_flat (k : Int) : ∀ {l : List T}, okL l → okL (flatL k l)
  | [], _ => trivial
  | t :: l, h => by
    simp only [okL] at h
    rw [flatL, okL_iff]
    intro u hu
    rcases List.mem_append.1 hu with hu | hu
    · unfold flatO at hu
      split at hu
      · exact (okL_iff _).1 (okT_subs' h.1) u hu
      · rw [List.mem_singleton] at hu; rw [hu]; exact h.1
    · exact (okL_iff _).1 (okL_flat k h.2) u hu
end Go.Sv
namespace Go.Sv
open Go
def AltN (l : List T) (at' : Option Nat) : Prop :=
  (∀ j, (∃ u, l[j]? = some u ∧ u.kind = 2) ↔ at' = some j) ∧ (∀ u ∈ l, isNo u = false) ∧ l.Nodup ∧ (∀ u ∈ l, u.kind = 2 → clsN u = u ∧ okS u)
theorem clsN_or (t u : T) : clsN (orN t u) = orN t u := by cases t; cases u; rfl
theorem okS_or {t u : T} (h1 : okS t) (h2 : okS u) : okS (orN t u) := by
  cases t; cases u
  exact ⟨okW_or h1.1 h2.1, okW_or h1.2.1 h2.2.1, okW_or h1.2.2.1 h2.2.2.1, okW_or h1.2.2.2 h2.2.2.2⟩
theorem AltN.lt {l : List T} {q : Option Nat} (h : AltN l q) {j : Nat} (hj : q = some j) : j < l.length := by
  obtain ⟨u, hu, _⟩ := (h.1 j).2 hj
  exact (List.getElem?_eq_some_iff.1 hu).1
theorem two_of {l : List T} (h1 : l ≠ []) (h2 : ∀ t, l ≠ [t]) : 2 ≤ l.length := by
  match l with
  | [] => exact absurd rfl h1
  | [t] => exact absurd rfl (h2 t)
  | _ :: _ :: _ => simp
theorem altStep_mem {P : T → Prop} (hc : ∀ t, t.kind = 2 → P (clsN t)) (ho : ∀ t u, P (orN t u)) {s : List T × Option Nat} {t : T} (h : ∀ u ∈ s.1, P u) (ht : P t) : ∀ u ∈ (altStep s t).1, P u := by
  unfold altStep
  split
  · exact h
  split
  · rename_i hk
    split
    · intro u hu
      rcases List.mem_or_eq_of_mem_set hu with hu | rfl
      · exact h u hu
      · exact ho _ _
    · intro u hu
      rcases List.mem_append.1 hu with hu | hu
      · exact h u hu
      · rw [List.mem_singleton] at hu; rw [hu]; exact hc t hk
  · split
    · exact h
    · intro u hu
      rcases List.mem_append.1 hu with hu | hu
      · exact h u hu
      · rw [List.mem_singleton] at hu; rw [hu]; exact ht
theorem okT_noneT : okT noneT := okT_mk (by simp [plainT]) trivial
theorem okT_emptyT : okT emptyT := okT_empty
theorem okT_of {k : Int} (hk : k = 3 ∨ k = 4) {l : List T} {e : T} (h : okL l) (he : okT e) : okT (ofT k l e) := by
  unfold ofT
  split
  · exact he
  · exact h.1
  · rename_i h1 h2
    refine okT_mk ?_ h
    have := two_of h1 h2
    rcases hk with rfl | rfl <;> simp [plainT, isZero, this]
theorem okT_cat {l : List T} (h : okL l) : okT (catS l) := by
  unfold catS
  split
  · exact okT_noneT
  · refine okT_of (.inl rfl) ?_ okT_emptyT
    rw [okL_iff]
    intro u hu
    rw [List.mem_filter] at hu
    exact (okL_iff _).1 (okL_flat 3 h) u hu.1
theorem okT_clsS {t : T} (h : okS t) : okT (clsN t) := by
  obtain ⟨k, a, b, c, d, mn, mx, subs⟩ := t
  exact ⟨⟨h.1, h.2.1, h.2.2.1, h.2.2.2, by simp [plainT]⟩, trivial⟩
theorem okT_orS {t u : T} (h1 : okS t) (h2 : okS u) : okT (orN t u) := by
  have := okT_clsS (okS_or h1 h2)
  rwa [clsN_or] at this
theorem okT_alt {l : List T} (h : okL l) : okT (altS l) := by
  have hok : ∀ t ∈ flatL 4 l, okT t := (okL_iff _).1 (okL_flat 4 h)
  unfold altS
  refine okT_of (.inr rfl) ?_ okT_noneT
  unfold altF
  have key : ∀ (l : List T) (s : List T × Option Nat), (∀ u ∈ s.1, okT u) → (∀ t ∈ l, okT t) → ∀ u ∈ (l.foldl altStep s).1, okT u := by
    intro l
    induction l with
    | nil => intro s h _; exact h
    | cons t l ih =>
      intro s h ht
      refine ih _ ?_ (fun u hu => ht u (by simp [hu]))
      have htt := ht t (by simp)
      unfold altStep
      split
      · exact h
      split
      · split
        · intro u hu
          rcases List.mem_or_eq_of_mem_set hu with hu | rfl
          · exact h u hu
          · refine okT_orS ?_ (okT_S htt)
            rw [List.getD_eq_getElem?_getD]
            cases e : s.1[‹Nat›]? with
            | none => exact okT_S okT_noneT
            | some x => exact okT_S (h x (List.mem_of_getElem? e))
        · intro u hu
          rcases List.mem_append.1 hu with hu | hu
          · exact h u hu
          · rw [List.mem_singleton] at hu; rw [hu]; exact okT_clsS (okT_S htt)
      · split
        · exact h
        · intro u hu
          rcases List.mem_append.1 hu with hu | hu
          · exact h u hu
          · rw [List.mem_singleton] at hu; rw [hu]; exact htt
  rw [okL_iff]
  exact key _ _ (by simp) hok
theorem okT_rep : ∀ (t : T) (lo hi : Int), okT t → ((0 ≤ lo ∧ lo ≤ 20) ∧ (hi = -1 ∨ (lo ≤ hi ∧ hi ≤ 20))) → okT (repS t lo hi)
  | .node k a b c d mn mx subs, lo, hi, ho, hr => by
    rw [repS]
    split
    · exact okT_emptyT
    split
    · exact ho
    have hk : okT (.node 5 0 0 0 0 lo hi [.node k a b c d mn mx subs]) := okT_mk (by simp [plainT, isZero]; omega) ⟨ho, trivial⟩
    split
    · rename_i h3
      obtain ⟨_, _, rfl, _, _⟩ := h3
      obtain ⟨u, rfl⟩ := plainT_5 (okT_plain ho)
      rw [repF_one]
      exact okT_rep u 0 (-1) (okT_subs ho).1 (by omega)
    · exact hk
mutual
theorem simT_ok : ∀ t : T, okT t → okT (simT t)
  | .node k a b c d mn mx subs, ho => by
    have hx := simL_ok subs (okT_subs ho)
    have hp := okT_plain ho
    have hR := okT_R ho
    rw [simT]
    split
    · exact okT_cat hx
    split
    · exact okT_alt hx
    split
    · rename_i h5
      subst h5
      obtain ⟨u, rfl⟩ := plainT_5 hp
      simp only [simL, List.headD_cons] at hx ⊢
      exact okT_rep _ _ _ hx.1 (hR rfl)
    · exact ho
theorem simL_ok : ∀ l : List T, okL l → okL (simL l)
  | [], _ => trivial
  | t :: l, ho => by
    simp only [okL] at ho
    exact ⟨simT_ok t ho.1, simL_ok l ho.2⟩
end
end Go.Sv
namespace Go.Sv
open Go
theorem cntL_filter (p : T → Bool) : ∀ l : List T, cntL (l.filter p) ≤ cntL l
  | [] => Nat.le_refl _
  | t :: l => by
    have := cntL_filter p l
    rw [List.filter_cons]
    split <;> (simp only [cntL]; omega)
theorem cntL_flat (k : Int) : ∀ l : List T, cntL (flatL k l) ≤ cntL l
  | [] => Nat.le_refl _
  | t :: l => by
    have := cntL_flat k l
    rw [flatL, cntL_app, cntL]
    have : cntL (flatO k t) ≤ t.cnt := by
      unfold flatO
      split
      · cases t; simp [T.subs, T.cnt]
      · simp [cntL]
    omega
theorem cnt_of (k : Int) (l : List T) (e : T) (h : e.cnt = 1) : (ofT k l e).cnt ≤ 1 + cntL l := by
  unfold ofT
  split
  · omega
  · simp [cntL]
  · rw [T.cnt]; exact Nat.le_refl _
theorem cnt_cat (l : List T) : (catS l).cnt ≤ 1 + cntL l := by
  unfold catS
  split
  · simp [noneT, T.cnt, cntL]
  · have := cnt_of 3 ((flatL 3 l).filter notE) emptyT rfl
    have := cntL_filter notE (flatL 3 l)
    have := cntL_flat 3 l
    omega
theorem cntL_set : ∀ (l : List T) (i : Nat) (u : T), u.cnt = 1 → cntL (l.set i u) ≤ cntL l
  | [], _, _, _ => by simp
  | t :: l, 0, u, h => by
    have := cnt_pos t
    simp only [List.set_cons_zero, cntL]; omega
  | t :: l, i + 1, u, h => by
    have := cntL_set l i u h
    simp only [List.set_cons_succ, cntL]; omega
theorem cnt_cls (t : T) : (clsN t).cnt = 1 := by cases t; rfl
theorem cnt_or (t u : T) : (orN t u).cnt = 1 := by cases t; cases u; rfl
theorem cnt_step (s : List T × Option Nat) (t : T) : cntL (altStep s t).1 ≤ cntL s.1 + t.cnt := by
  have := cnt_pos t
  unfold altStep
  split
  · omega
  split
  · split
    · have := cntL_set s.1 ‹Nat› _ (cnt_or (s.1.getD ‹Nat› noneT) t)
      simp only; omega
    · simp only [cntL_app, cntL, cnt_cls]; omega
  · split
    · omega
    · simp only [cntL_app, cntL]; omega
theorem cnt_alt (l : List T) : (altS l).cnt ≤ 1 + cntL l := by
  unfold altS
  have h1 := cnt_of 4 (altF l).1 noneT rfl
  have h2 := cntL_flat 4 l
  have key : ∀ (l : List T) (s : List T × Option Nat), cntL (l.foldl altStep s).1 ≤ cntL s.1 + cntL l := by
    intro l
    induction l with
    | nil => intro s; simp [cntL]
    | cons t l ih =>
      intro s
      have h1 := ih (altStep s t)
      have h2 := cnt_step s t
      rw [List.foldl_cons, cntL]; omega
  have h3 := key (flatL 4 l) ([], none)
  simp only [cntL] at h3
  unfold altF at *
  omega
mutual
theorem cnt_rep : ∀ (t : T) (lo hi : Int), (repS t lo hi).cnt ≤ 1 + t.cnt
  | .node k a b c d mn mx subs, lo, hi => by
    have h := cnt_repF subs (.node k a b c d mn mx subs) (by rw [T.cnt]; omega)
    rw [repS]
    split
    · simp [emptyT, T.cnt, cntL]
    split
    · omega
    split
    · exact h
    · rw [T.cnt, cntL, cntL]; omega
theorem cnt_repF : ∀ (l : List T) (t : T), cntL l ≤ t.cnt → (repF l t).cnt ≤ 1 + t.cnt
  | [], t, _ => by rw [repF, T.cnt, cntL, cntL]; omega
  | u :: l, t, h => by
    have h1 := cnt_rep u 0 (-1)
    rw [cntL] at h
    rw [repF]
    split
    · omega
    · rw [T.cnt, cntL, cntL]; omega
end
mutual
theorem simT_cnt : ∀ t : T, okT t → (simT t).cnt ≤ t.cnt
  | .node k a b c d mn mx subs, ho => by
    have hx := simL_cnt subs (okT_subs ho)
    have hp := okT_plain ho
    rw [simT, T.cnt]
    split
    · have := cnt_cat (simL subs); omega
    split
    · have := cnt_alt (simL subs); omega
    split
    · rename_i h5
      subst h5
      obtain ⟨u, rfl⟩ := plainT_5 hp
      simp only [simL, List.headD_cons, cntL] at hx ⊢
      have := cnt_rep (simT u) mn mx
      omega
    · rw [T.cnt]; exact Nat.le_refl _
theorem simL_cnt : ∀ l : List T, okL l → cntL (simL l) ≤ cntL l
  | [], _ => Nat.le_refl _
  | t :: l, ho => by
    simp only [okL] at ho
    have := simT_cnt t ho.1
    have := simL_cnt l ho.2
    rw [simL, cntL, cntL]; omega
end

end Go.Sv
namespace Go.Sv
open Go
set_option linter.unusedVariables false
def addB (ws : List Int) (x : Nat) : List Int := if bitG (ws.getD (x / 64) 0) x = true then ws else ws.set (x / 64) (ws.getD (x / 64) 0 + 2 ^ (x % 64))
def setWs (l : List Nat) : List Int := l.foldl addB [0, 0, 0, 0]
def inWs (ws : List Int) (x : Nat) : Bool := bitG (ws.getD (x / 64) 0) x
def okWs (ws : List Int) : Prop := ws.length = 4 ∧ ∀ w ∈ ws, okW w
theorem okWs_getD {ws : List Int} (h : okWs ws) (j : Nat) : okW (ws.getD j 0) := by
  rw [List.getD_eq_getElem?_getD]
  cases e : ws[j]? with
  | none => exact okW_0
  | some w => exact h.2 w (List.mem_of_getElem? e)
theorem add_bit {w k : Nat} (hw : w < 2 ^ 64) (hk : k < 64) (hb : w.testBit k = false) : w + 2 ^ k < 2 ^ 64 ∧ ∀ j, (w + 2 ^ k).testBit j = (w.testBit j || j == k) := by
  have h0 : w / 2 ^ k % 2 = 0 := by
    rw [Nat.testBit_eq_decide_div_mod_eq] at hb
    simp at hb; omega
  have hr : w % 2 ^ k < 2 ^ k := Nat.mod_lt _ (Nat.two_pow_pos k)
  have e1 : w = 2 ^ k * (2 * (w / 2 ^ k / 2)) + w % 2 ^ k := by
    have := Nat.div_add_mod w (2 ^ k)
    have h2 : 2 * (w / 2 ^ k / 2) = w / 2 ^ k := by omega
    rw [h2]; omega
  have e2 : w + 2 ^ k = 2 ^ k * (2 * (w / 2 ^ k / 2) + 1) + w % 2 ^ k := by
    rw [Nat.mul_add, Nat.mul_one]; omega
  generalize hq : w / 2 ^ k / 2 = q at e1 e2
  generalize w % 2 ^ k = r at hr e1 e2
  constructor
  · have h64 : 2 ^ 64 = 2 ^ k * 2 ^ (64 - k) := by rw [← Nat.pow_add]; congr 1; omega
    have hev : ∃ m, 2 ^ (64 - k) = 2 * m := ⟨2 ^ (63 - k), by rw [show 64 - k = 63 - k + 1 by omega, Nat.pow_succ, Nat.mul_comm]⟩
    obtain ⟨m, hm⟩ := hev
    have hlt : 2 * q < 2 * m := by
      have : 2 ^ k * (2 * q) < 2 ^ k * (2 * m) := by rw [← hm, ← h64]; omega
      exact Nat.lt_of_mul_lt_mul_left this
    have h3 : 2 ^ k * (2 * q + 1) + 2 ^ k ≤ 2 ^ k * (2 * m) := by
      have : 2 ^ k * (2 * q + 1) + 2 ^ k = 2 ^ k * (2 * q + 2) := by simp only [Nat.mul_add]; omega
      rw [this]
      exact Nat.mul_le_mul_left _ (by omega)
    rw [h64, hm]
    omega
  · intro j
    have l1 : w.testBit j = if j < k then r.testBit j else (2 * q).testBit (j - k) := by
      rw [e1]; exact Nat.testBit_two_pow_mul_add _ hr j
    have l2 : (w + 2 ^ k).testBit j = if j < k then r.testBit j else (2 * q + 1).testBit (j - k) := by
      rw [e2]; exact Nat.testBit_two_pow_mul_add _ hr j
    rw [l1, l2]
    by_cases hj : j < k
    · rw [if_pos hj, if_pos hj]
      have : (j == k) = false := by simp; omega
      rw [this, Bool.or_false]
    · rw [if_neg hj, if_neg hj]
      rcases Nat.eq_or_lt_of_le (Nat.le_of_not_lt hj) with h | h
      · subst h; simp
      · obtain ⟨i, hi⟩ : ∃ i, j - k = i + 1 := ⟨j - k - 1, by omega⟩
        have : (j == k) = false := by simp; omega
        rw [hi, this, Bool.or_false, Nat.testBit_succ, Nat.testBit_succ]
        congr 1; omega
theorem two_pow_int (k : Nat) : ((2 : Int) ^ k) = ((2 ^ k : Nat) : Int) := by rw [Int.natCast_pow]; rfl
theorem addW_ok {w : Int} {x : Nat} (h : okW w) (hb : bitG w x = false) : okW (w + 2 ^ (x % 64)) ∧ ∀ y, bitG (w + 2 ^ (x % 64)) y = (bitG w y || (y % 64 == x % 64)) := by
  obtain ⟨n, rfl, hn⟩ := okW_nat h
  rw [bitG_nat] at hb
  obtain ⟨h1, h2⟩ := add_bit hn (Nat.mod_lt x (by omega)) hb
  have e : ((n : Int) + 2 ^ (x % 64)) = ((n + 2 ^ (x % 64) : Nat) : Int) := by rw [two_pow_int, Int.natCast_add]
  rw [e]
  refine ⟨?_, fun y => by rw [bitG_nat, bitG_nat, h2]⟩
  generalize n + 2 ^ (x % 64) = m at h1
  unfold okW; omega
theorem addB_ok {ws : List Int} (h : okWs ws) {x : Nat} (hx : x < 256) : okWs (addB ws x) ∧ ∀ y, y < 256 → inWs (addB ws x) y = (inWs ws y || y == x) := by
  unfold addB
  split
  · rename_i hb
    refine ⟨h, fun y _ => ?_⟩
    by_cases e : y = x
    · subst e; unfold inWs; rw [hb]; rfl
    · have : (y == x) = false := by simpa using e
      rw [this, Bool.or_false]
  · rename_i hb
    have hb : bitG (ws.getD (x / 64) 0) x = false := by simpa using hb
    obtain ⟨h1, h2⟩ := addW_ok (okWs_getD h (x / 64)) hb
    have hlt : x / 64 < ws.length := by rw [h.1]; omega
    refine ⟨⟨by rw [List.length_set]; exact h.1, fun w hw => ?_⟩, fun y hy => ?_⟩
    · rcases List.mem_or_eq_of_mem_set hw with hw | rfl
      · exact h.2 w hw
      · exact h1
    · unfold inWs
      by_cases e : x / 64 = y / 64
      · rw [List.getD_eq_getElem?_getD, ← e, List.getElem?_set_self hlt, Option.getD_some, h2]
        have : (y % 64 == x % 64) = (y == x) := by
          rw [Bool.eq_iff_iff]; simp; omega
        rw [this]
      · rw [List.getD_eq_getElem?_getD, List.getElem?_set_ne e, ← List.getD_eq_getElem?_getD]
        have : (y == x) = false := by simp; omega
        rw [this, Bool.or_false]
theorem okWs_0 : okWs [0, 0, 0, 0] := ⟨rfl, fun w h => by simp at h; rw [h]; exact okW_0⟩
theorem setWs_ok' : ∀ (l : List Nat) (ws : List Int), okWs ws → (∀ x ∈ l, x < 256) → okWs (l.foldl addB ws) ∧ ∀ y, y < 256 → (inWs (l.foldl addB ws) y = true ↔ inWs ws y = true ∨ y ∈ l)
  | [], ws, h, _ => ⟨h, fun y _ => by simp⟩
  | x :: l, ws, h, hx => by
    obtain ⟨h1, h2⟩ := addB_ok h (hx x (by simp))
    obtain ⟨h3, h4⟩ := setWs_ok' l (addB ws x) h1 (fun y hy => hx y (by simp [hy]))
    refine ⟨h3, fun y hy => ?_⟩
    rw [List.foldl_cons, h4 y hy, h2 y hy, Bool.or_eq_true, beq_iff_eq, List.mem_cons, or_assoc]
theorem setWs_ok {l : List Nat} (h : ∀ x ∈ l, x < 256) : okWs (setWs l) ∧ ∀ y, y < 256 → (inWs (setWs l) y = true ↔ y ∈ l) := by
  obtain ⟨h1, h2⟩ := setWs_ok' l [0, 0, 0, 0] okWs_0 h
  refine ⟨h1, fun y hy => ?_⟩
  unfold setWs
  rw [h2 y hy]
  have : inWs [0, 0, 0, 0] y = false := inG_0 y
  rw [this]; simp
theorem setWs_snoc (l : List Nat) (x : Nat) : setWs (l ++ [x]) = addB (setWs l) x := by simp [setWs, List.foldl_append]
def listTo (a b c d : Int) : Nat → List Nat
  | 0 => []
  | m + 1 => if inG a b c d m = true then listTo a b c d m ++ [m] else listTo a b c d m
theorem mem_listTo (a b c d : Int) (y : Nat) : ∀ m, y ∈ listTo a b c d m ↔ y < m ∧ inG a b c d y = true
  | 0 => by simp [listTo]
  | m + 1 => by
    rw [listTo]
    have ih := mem_listTo a b c d y m
    split
    · rename_i h
      rw [List.mem_append, ih, List.mem_singleton]
      constructor
      · rintro (⟨h1, h2⟩ | rfl)
        · exact ⟨by omega, h2⟩
        · exact ⟨by omega, h⟩
      · rintro ⟨h1, h2⟩
        by_cases e : y = m
        · exact .inr e
        · exact .inl ⟨by omega, h2⟩
    · rename_i h
      rw [ih]
      constructor
      · rintro ⟨h1, h2⟩; exact ⟨by omega, h2⟩
      · rintro ⟨h1, h2⟩
        refine ⟨?_, h2⟩
        rcases Nat.lt_or_ge y m with h3 | h3
        · exact h3
        · have : y = m := by omega
          subst this; exact absurd h2 h
theorem listTo_len (a b c d : Int) : ∀ m, (listTo a b c d m).length ≤ m
  | 0 => by simp [listTo]
  | m + 1 => by
    have := listTo_len a b c d m
    rw [listTo]
    split
    · rw [List.length_append]; simp; omega
    · omega
def encJ (l : List Nat) : List Int := List.map (fun (x : Nat) => (x : Int)) l
theorem encJ_app (l r : List Nat) : encJ (l ++ r) = encJ l ++ encJ r := List.map_append
theorem encJ_len (l : List Nat) : (encJ l).length = l.length := List.length_map _

section
variable {P : Program} {Q : Cont} {fr : Fr} {C : Heap} {Z : Frz} {nx : Nat} {base n d : Nat} {l : List (Nat × XO)} {kp : Option (List Nat)} {x i y s : X} {j c : Nat}
theorem r_quoI {e : Int} (hx : x.ev fr = .i e) (hy : y.ev fr = .i 64) (he : e = (c : Nat)) (hc : c < 1000000) (k : R P l base kp Q nx (fr.put d (.i ((c / 64 : Nat) : Int))) C Z) : R P ((n, ⟨some d, none, .arith .quo x y⟩) :: l) base kp Q nx fr C Z := by
  subst he
  refine r_p ?_ k
  have e : IntKind.wrap .i64 (Int.tdiv (c : Int) 64) = ((c / 64 : Nat) : Int) := by
    rw [Int.tdiv_eq_ediv_of_nonneg (by omega), wrap_in (by omega)]; omega
  simp only [xp, hx, hy, arith]
  exact congrArg (fun z => some (AV.d (DV.val (Value.int .i64 z)))) e
theorem r_remI {e : Int} (hx : x.ev fr = .i e) (hy : y.ev fr = .i 64) (he : e = (c : Nat)) (k : R P l base kp Q nx (fr.put d (.i ((c % 64 : Nat) : Int))) C Z) : R P ((n, ⟨some d, none, .arith .rem x y⟩) :: l) base kp Q nx fr C Z := by
  subst he
  refine r_p ?_ k
  have e : Int.tmod (c : Int) 64 = ((c % 64 : Nat) : Int) := by
    rw [Int.tmod_eq_emod_of_nonneg (by omega)]; omega
  simp only [xp, hx, hy, arith]
  exact congrArg (fun z => some (AV.d (DV.val (Value.int .i64 z)))) e
theorem r_shrI {w : Int} (hx : x.ev fr = .d (.val (.int .u64 w))) (hy : y.ev fr = .i (c : Nat)) (hw : okW w) (hc : c < 64) (k : R P l base kp Q nx (fr.put d (.d (.val (.int .u64 (w / 2 ^ c))))) C Z) : R P ((n, ⟨some d, none, .arith .shr x y⟩) :: l) base kp Q nx fr C Z := by
  refine r_p ?_ k
  simp only [xp, hx, hy, arith]
  simp [IntKind.bits]
  rw [Nat.min_eq_left (by omega), Int.fdiv_eq_ediv_of_nonneg _ (by exact Int.le_of_lt (Int.pow_pos (by omega)))]
theorem r_shlI (hx : x.ev fr = .d (.val (.int .u64 1))) (hy : y.ev fr = .i (c : Nat)) (hc : c < 64) (k : R P l base kp Q nx (fr.put d (.d (.val (.int .u64 (2 ^ c))))) C Z) : R P ((n, ⟨some d, none, .arith .shl x y⟩) :: l) base kp Q nx fr C Z := by
  refine r_p ?_ k
  have e : IntKind.wrap .u64 (1 * 2 ^ (min ((c : Int).toNat) 64)) = 2 ^ c := by
    rw [Int.toNat_natCast, Nat.min_eq_left (by omega), Int.one_mul, two_pow_int]
    have h1 : 2 ^ c < 2 ^ 64 := Nat.pow_lt_pow_right (by omega) hc
    simp only [IntKind.wrap, IntKind.signed, IntKind.bits]
    generalize 2 ^ c = z at *
    simp; omega
  have h0 : (0 : Int) ≤ (c : Int) := by omega
  simp only [xp, hx, hy, arith, h0, if_true]
  exact congrArg (fun z => some (AV.d (DV.val (Value.int .u64 z)))) e
theorem r_addW {a b : Int} (hx : x.ev fr = .d (.val (.int .u64 a))) (hy : y.ev fr = .d (.val (.int .u64 b))) (h : okW (a + b)) (k : R P l base kp Q nx (fr.put d (.d (.val (.int .u64 (a + b))))) C Z) : R P ((n, ⟨some d, none, .arith .add x y⟩) :: l) base kp Q nx fr C Z := by
  refine r_p ?_ k
  have e : IntKind.wrap .u64 (a + b) = a + b := by
    obtain ⟨h1, h2⟩ := h
    simp [IntKind.wrap, IntKind.signed, IntKind.bits]; omega
  simp only [xp, hx, hy, arith, if_true]
  exact congrArg (fun z => some (AV.d (DV.val (Value.int .u64 z)))) e
def encW (ws : List Int) : List AV := ws.map fun w => .d (.val (.int .u64 w))
theorem encW_len (ws : List Int) : (encW ws).length = ws.length := List.length_map _
theorem encW_isD (ws : List Int) : (encW ws).all AV.isD = true := by simp [encW, AV.isD]
theorem r_ldWs {b : Nat} {ws : List Int} (hx : x.ev fr = .ptrL b (0 + j)) (hC : C b = some (encW ws)) (hj : j < ws.length) (k : R P l base kp Q nx (fr.put d (.d (.val (.int .u64 (ws.getD j 0))))) C Z) : R P ((n, ⟨some d, none, .load none x⟩) :: l) base kp Q nx fr C Z := by
  refine r_l ?_ k
  simp only [xl, hx, rowOf, hC, Option.map_some, Option.bind_some, subA, Nat.zero_add, encW, List.getElem?_map, List.getElem?_eq_getElem hj, List.getD_eq_getElem?_getD, Option.getD_some]
theorem r_stWs {a : X} {b : Nat} {w : Int} {ws : List Int} (ha : a.ev fr = .ptrL b (0 + j)) (hx : x.ev fr = .d (.val (.int .u64 w))) (hC : C b = some (encW ws)) (hz : Z b = false) (hj : j < ws.length) (k : R P l base kp Q nx fr (C.put b (encW (ws.set j w))) Z) : R P ((n, ⟨none, none, .store 1 a x⟩) :: l) base kp Q nx fr C Z := by
  refine r_stL (cs := [.d (.val (.int .u64 w))]) ha hC hx rfl hz ?_ ?_ k
  · simp [AV.one, encW_len]; omega
  · have : ws.set j w = ws.take j ++ w :: ws.drop (j + 1) := by rw [List.set_eq_take_append_cons_drop, if_pos hj]
    rw [this]
    simp [splice, encW, List.map_take, List.map_drop]
theorem r_eqX {a b c e a' b' c' e' : Int} {q r : Bool} (hx : x.ev fr = .agg [.d (.val (.int .u64 a)), .d (.val (.int .u64 b)), .d (.val (.int .u64 c)), .d (.val (.int .u64 e))]) (hy : y.ev fr = .agg [.d (.val (.int .u64 a')), .d (.val (.int .u64 b')), .d (.val (.int .u64 c')), .d (.val (.int .u64 e'))]) (h : (if q then !(a == a' && (b == b' && (c == c' && e == e'))) else (a == a' && (b == b' && (c == c' && e == e')))) = r) (k : R P l base kp Q nx (fr.put d (.b r)) C Z) : R P ((n, ⟨some d, none, .eqAgg 4 q x y⟩) :: l) base kp Q nx fr C Z := by
  subst h
  refine r_p ?_ k
  simp only [xp, hx, hy, eqCells, List.length_cons, List.length_nil, if_true, Option.map_some]
  simp
end
end Go.Sv
namespace Go.Sv
open Go Go.Proofs
def x124 : XC := (.seq (.ops 2 [
    (0, ⟨(some 2), none, .box (.t 0)⟩),
    (1, ⟨(some 4), none, .mv (.k (.d (.val (.bool false))))⟩)] (some [1, 2])) (.seq (.ops 10 [
    (0, ⟨(some 5), none, .mv (.t 1)⟩),
    (1, ⟨(some 6), none, .arith .quo (.t 5) (.k (.d (.val (.int .i64 64))))⟩),
    (2, ⟨(some 7), none, .idxP 4 1 (.t 2) (.t 6)⟩),
    (3, ⟨(some 8), none, .load none (.t 7)⟩),
    (4, ⟨(some 9), none, .mv (.t 1)⟩),
    (5, ⟨(some 10), none, .arith .rem (.t 9) (.k (.d (.val (.int .i64 64))))⟩),
    (6, ⟨(some 11), none, .arith .shr (.t 8) (.t 10)⟩),
    (7, ⟨(some 12), none, .arith .rem (.t 11) (.k (.d (.val (.int .u64 2))))⟩),
    (8, ⟨(some 13), none, .arith .eql (.t 12) (.k (.d (.val (.int .u64 1))))⟩),
    (9, ⟨(some 4), none, .mv (.t 13)⟩)] (some [4])) .ret))
def md124 : FuncId → Option Nat × Bool
  | _ => (none, false)
def od124 : Nat → List (List Nat) × List Nat × Option (List Nat)
  | 0 => ([], [], some [1, 2])
  | 1 => ([], [], some [4])
  | _ => ([], [], none)
theorem b124 {ags : List AV} {row : Option (List DV)} {r : AV} {row' nw : Option (List DV)} (hal : ags.length ≤ 14) (hrow : row'.isSome = true → row.isSome = true) (h : xwp Try.prog x124 (retK [.tmp 4] row.isSome r row' nw) (St.init ags row)) : Good Try.prog 124 ags row r row' nw :=
  good_of_body' (md := md124) (od := od124) Try.f124 (by kernel_rfl) (by kernel_rfl) (by kernel_rfl) (by kernel_rfl) (by kernel_rfl) hal hrow h

def x74 : XC := (.seq (.ops 2 [
    (0, ⟨(some 1), none, .box (.t 0)⟩),
    (1, ⟨(some 2), none, .mv (.k (.d (.val (.slice none 0 0))))⟩)] (some [1])) (.seq (.ops 1 [
    (0, ⟨(some 3), none, .mv (.k (.d (.val (.slice none 0 0))))⟩)] (some [1, 3])) (.seq (.seq (.ops 1 [
    (0, ⟨(some 4), none, .mv (.k (.d (.val (.int .i64 0))))⟩)] (some [1, 3, 4])) (.block 0 (.loop (.seq (.seq (.ops 2 [
    (0, ⟨(some 5), none, .mv (.t 4)⟩),
    (1, ⟨(some 6), none, .arith .lss (.t 5) (.k (.d (.val (.int .i64 256))))⟩)] (some [1, 3, 4, 6])) (.cond (.t 6) .skip (.exit 0))) (.seq (.block 1 (.seq (.ops 3 [
    (0, ⟨(some 9), none, .load (some 4) (.t 1)⟩),
    (1, ⟨(some 10), none, .mv (.t 4)⟩),
    (2, ⟨(some 11), none, .call 124 [(.t 9), (.t 10)] none false⟩)] (some [1, 3, 4, 11])) (.cond (.t 11) (.ops 5 [
    (0, ⟨(some 12), none, .mv (.t 3)⟩),
    (1, ⟨(some 13), none, .mv (.t 4)⟩),
    (2, ⟨(some 14), none, .mkrow [(.int .i64 0)] 1 1 [(0, 1, (.t 13))]⟩),
    (3, ⟨(some 15), none, .app [(.int .i64 0)] 8 (.t 12) (.t 14)⟩),
    (4, ⟨(some 3), none, .mv (.t 15)⟩)] (some [1, 3, 4])) .skip))) (.ops 3 [
    (0, ⟨(some 7), none, .mv (.t 4)⟩),
    (1, ⟨(some 8), none, .arith .add (.t 7) (.k (.d (.val (.int .i64 1))))⟩),
    (2, ⟨(some 4), none, .mv (.t 8)⟩)] (some [1, 3, 4]))))))) (.seq (.ops 2 [
    (0, ⟨(some 16), none, .mv (.t 3)⟩),
    (1, ⟨(some 2), none, .mv (.t 16)⟩)] (some [2])) .ret))))
def md74 : FuncId → Option Nat × Bool
  | _ => (none, false)
def od74 : Nat → List (List Nat) × List Nat × Option (List Nat)
  | 0 => ([], [], some [1])
  | 1 => ([], [], some [1, 3])
  | 2 => ([], [], some [1, 3, 4])
  | 3 => ([], [], some [1, 3, 4, 6])
  | 4 => ([], [], some [1, 3, 4])
  | 5 => ([], [], some [1, 3, 4, 11])
  | 6 => ([], [], some [1, 3, 4])
  | 7 => ([], [], some [2])
  | _ => ([], [], none)
theorem b74 {ags : List AV} {row : Option (List DV)} {r : AV} {row' nw : Option (List DV)} (hal : ags.length ≤ 17) (hrow : row'.isSome = true → row.isSome = true) (h : xwp Try.prog x74 (retK [.tmp 2] row.isSome r row' nw) (St.init ags row)) : Good Try.prog 74 ags row r row' nw :=
  good_of_body' (md := md74) (od := od74) Try.f74 (by kernel_rfl) (by kernel_rfl) (by kernel_rfl) (by kernel_rfl) (by kernel_rfl) hal hrow h

def x99 : XC := (.seq (.ops 1 [
    (0, ⟨(some 2), none, .alloc [(.int .u64 0), (.int .u64 0), (.int .u64 0), (.int .u64 0)]⟩)] (some [0, 2])) (.seq (.ops 1 [
    (0, ⟨(some 3), none, .alloc [(.int .u64 0), (.int .u64 0), (.int .u64 0), (.int .u64 0)]⟩)] (some [0, 2, 3])) (.seq (.seq (.ops 1 [
    (0, ⟨(some 4), none, .mv (.k (.d (.val (.int .i64 0))))⟩)] (some [0, 2, 3, 4])) (.block 0 (.loop (.seq (.seq (.ops 4 [
    (0, ⟨(some 5), none, .mv (.t 4)⟩),
    (1, ⟨(some 6), none, .mv (.t 0)⟩),
    (2, ⟨(some 7), none, .lenS (.t 6)⟩),
    (3, ⟨(some 8), none, .arith .lss (.t 5) (.t 7)⟩)] (some [0, 2, 3, 4, 8])) (.cond (.t 8) .skip (.exit 0))) (.seq (.block 1 (.seq (.ops 7 [
    (0, ⟨(some 11), none, .load (some 4) (.t 3)⟩),
    (1, ⟨(some 12), none, .mv (.t 0)⟩),
    (2, ⟨(some 13), none, .mv (.t 4)⟩),
    (3, ⟨(some 14), none, .idxS 1 (.t 12) (.t 13)⟩),
    (4, ⟨(some 15), none, .load none (.t 14)⟩),
    (5, ⟨(some 16), none, .call 124 [(.t 11), (.t 15)] none false⟩),
    (6, ⟨(some 17), none, .un .not (.t 16)⟩)] (some [0, 2, 3, 4, 17])) (.cond (.t 17) (.ops 16 [
    (0, ⟨(some 18), none, .mv (.t 0)⟩),
    (1, ⟨(some 19), none, .mv (.t 4)⟩),
    (2, ⟨(some 20), none, .idxS 1 (.t 18) (.t 19)⟩),
    (3, ⟨(some 21), none, .load none (.t 20)⟩),
    (4, ⟨(some 22), none, .arith .quo (.t 21) (.k (.d (.val (.int .i64 64))))⟩),
    (5, ⟨(some 23), none, .idxP 4 1 (.t 3) (.t 22)⟩),
    (6, ⟨(some 24), none, .load none (.t 23)⟩),
    (7, ⟨(some 25), none, .mv (.t 0)⟩),
    (8, ⟨(some 26), none, .mv (.t 4)⟩),
    (9, ⟨(some 27), none, .idxS 1 (.t 25) (.t 26)⟩),
    (10, ⟨(some 28), none, .load none (.t 27)⟩),
    (11, ⟨(some 29), none, .arith .rem (.t 28) (.k (.d (.val (.int .i64 64))))⟩),
    (12, ⟨(some 30), none, .arith .shl (.k (.d (.val (.int .u64 1)))) (.t 29)⟩),
    (13, ⟨(some 31), none, .arith .add (.t 24) (.t 30)⟩),
    (14, ⟨(some 32), none, .idxP 4 1 (.t 3) (.t 22)⟩),
    (15, ⟨none, none, .store 1 (.t 32) (.t 31)⟩)] (some [0, 2, 3, 4])) .skip))) (.ops 3 [
    (0, ⟨(some 9), none, .mv (.t 4)⟩),
    (1, ⟨(some 10), none, .arith .add (.t 9) (.k (.d (.val (.int .i64 1))))⟩),
    (2, ⟨(some 4), none, .mv (.t 10)⟩)] (some [0, 2, 3, 4]))))))) (.seq (.ops 2 [
    (0, ⟨(some 33), none, .load (some 4) (.t 3)⟩),
    (1, ⟨none, none, .store 4 (.t 2) (.t 33)⟩)] (some [2])) .ret))))
def md99 : FuncId → Option Nat × Bool
  | _ => (none, false)
def od99 : Nat → List (List Nat) × List Nat × Option (List Nat)
  | 0 => ([], [], some [0, 2])
  | 1 => ([], [], some [0, 2, 3])
  | 2 => ([], [], some [0, 2, 3, 4])
  | 3 => ([], [], some [0, 2, 3, 4, 8])
  | 4 => ([], [], some [0, 2, 3, 4])
  | 5 => ([[], [], [], [1, 2], [1, 2, 3], [0, 1, 2, 3, 4], [0, 1, 2, 3, 4, 5]], [0, 1, 2, 3, 4, 5, 6], some [0, 2, 3, 4, 17])
  | 6 => ([[], [], [0, 1], [0, 1, 2], [0, 1, 2, 3], [0, 1, 2, 3, 4], [0, 1, 2, 3, 4, 5], [], [], [7, 8], [7, 8, 9], [7, 8, 9, 10], [7, 8, 9, 10, 11], [0, 1, 2, 3, 4, 5, 6, 7, 8, 9, 10, 11, 12], [0, 1, 2, 3, 4, 5, 6, 7, 8, 9, 10, 11, 12, 13], [0, 1, 2, 3, 4, 5, 6, 7, 8, 9, 10, 11, 12, 13, 14]], [0, 1, 2, 3, 4, 5, 6, 7, 8, 9, 10, 11, 12, 13, 14, 15], some [0, 2, 3, 4])
  | 7 => ([], [], some [2])
  | _ => ([], [], none)
theorem b99 {ags : List AV} {row : Option (List DV)} {r : AV} {row' nw : Option (List DV)} (hal : ags.length ≤ 34) (hrow : row'.isSome = true → row.isSome = true) (h : xwp Try.prog x99 (retK [.cell 2 (some 4)] row.isSome r row' nw) (St.init ags row)) : Good Try.prog 99 ags row r row' nw :=
  good_of_body' (md := md99) (od := od99) Try.f99 (by kernel_rfl) (by kernel_rfl) (by kernel_rfl) (by kernel_rfl) (by kernel_rfl) hal hrow h

set_option maxRecDepth 100000
set_option maxHeartbeats 4000000
attribute [local irreducible] W E R KP thenK blockK retK Good xwp aRun
theorem has124_good {a b c d : Int} (ha : okW a) (hb : okW b) (hc : okW c) (hd : okW d) (x : Nat) (hx : x < 256) : Good Try.prog 124 [setA a b c d, .i (x : Nat)] none (.b (inG a b c d x)) none none := by
  unfold setA
  refine b124 (by simp) (by simp) (w_init ?_)
  unfold x124
  have hw : okW ([a, b, c, d].getD (x / 64) 0) := by
    have : x / 64 < 4 := by omega
    match x / 64, this with
    | 0, _ => exact ha
    | 1, _ => exact hb
    | 2, _ => exact hc
    | 3, _ => exact hd
  repeat' (first
    | (apply r_mvV; rfl)
    | (apply r_mvP; rfl)
    | (apply r_mvPL; rfl)
    | (apply r_mvS; rfl)
    | (apply r_mvSL; rfl)
    | (apply r_mvA; rfl)
    | (apply r_mvT; rfl)
    | (apply r_mvF; rfl)
    | (apply r_mvD; rfl)
    | (apply r_quoI; rfl; rfl; rfl; omega)
    | (apply r_remI; rfl; rfl; rfl)
    | (apply r_ixPL; rfl; rfl; omega)
    | (apply r_ldWL; rfl; rfl; omega)
    | (apply r_shrI; rfl; rfl; exact hw; omega)
    | (apply r_rem2; rfl; rfl; exact (okW_div hw _).1)
    | (apply r_eqlU; rfl; rfl; rfl)
    | (apply r_ldL; rfl; rfl; rfl)
    | (apply r_eql; rfl; rfl; (first | (apply decide_eq_true; omega) | (apply decide_eq_false; omega) | rfl))
    | (apply r_box; ((conv => lhs; simp only [Nat.reduceAdd]) <;> rfl); rfl; rfl; rfl)
    | (apply r_p; rfl)
    | (apply r_nilK)
    | (apply r_nil)
    | (apply k_V; rfl)
    | (apply k_P; rfl)
    | (apply k_PL; rfl)
    | (apply k_S; rfl)
    | (apply k_SL; rfl)
    | (apply k_A; rfl)
    | (apply k_T; rfl)
    | (apply k_F; rfl)
    | (apply k_D; rfl; rotate_left; rfl)
    | (apply k_nil)
    | (apply e_ret (vs := [.d (.val _)]); rfl)
    | (apply e_ret; rfl)
    | (apply e_ret' (vs := [.d (.val _)]); rfl)
    | (apply e_ret'; rfl)
    | (apply w_seq)
    | (apply w_ops; ((conv => lhs; simp only [Nat.reduceAdd]) <;> rfl))
    | (apply e_thenN)
    | (apply w_block)
    | (apply e_thenR)
    | (apply e_thenX)
    | (apply e_blkN)
    | (apply e_blkR)
    | (apply e_blkE)
    | (apply w_exit)
    | (apply w_ret)
    | (apply w_skip)
    | (apply e_blkE'; rfl))
  exact retB rfl
theorem list74_good {a b c d : Int} (ha : okW a) (hb : okW b) (hc : okW c) (hd : okW d) : Good Try.prog 74 [setA a b c d] none (.d (.sl (encI (encJ (listTo a b c d 256))) (listTo a b c d 256).length)) none none := by
  unfold setA
  refine b74 (by simp) (by simp) (w_init ?_)
  unfold x74
  repeat' (first
    | (apply r_mvV; rfl)
    | (apply r_mvP; rfl)
    | (apply r_mvPL; rfl)
    | (apply r_mvS; rfl)
    | (apply r_mvSL; rfl)
    | (apply r_mvA; rfl)
    | (apply r_mvT; rfl)
    | (apply r_mvF; rfl)
    | (apply r_mvD; rfl)
    | (apply r_ldL; rfl; rfl; rfl)
    | (apply r_lss; rfl; rfl; (first | (apply decide_eq_true; omega) | (apply decide_eq_false; omega) | rfl))
    | (apply r_add; rfl; rfl; rfl; omega)
    | (apply r_box; ((conv => lhs; simp only [Nat.reduceAdd]) <;> rfl); rfl; rfl; rfl)
    | (apply r_nilK)
    | (apply r_nil)
    | (apply k_V; rfl)
    | (apply k_P; rfl)
    | (apply k_PL; rfl)
    | (apply k_S; rfl)
    | (apply k_SL; rfl)
    | (apply k_A; rfl)
    | (apply k_T; rfl)
    | (apply k_F; rfl)
    | (apply k_D; rfl; rotate_left; rfl)
    | (apply k_nil)
    | (apply e_ret (vs := [.d (.val _)]); rfl)
    | (apply e_ret; rfl)
    | (apply e_ret' (vs := [.d (.val _)]); rfl)
    | (apply e_ret'; rfl)
    | (apply w_seq)
    | (apply w_ops; ((conv => lhs; simp only [Nat.reduceAdd]) <;> rfl))
    | (apply w_condT; rfl)
    | (apply w_condF; rfl)
    | ((apply w_condS; rfl) <;> (intro h; try simp only [decide_eq_true_eq, decide_eq_false_iff_not, Bool.not_eq_true, Bool.not_eq_false] at h))
    | (apply e_thenN)
    | (apply w_block)
    | (apply e_thenR)
    | (apply e_thenX)
    | (apply e_blkN)
    | (apply e_blkR)
    | (apply e_blkE)
    | (apply w_exit)
    | (apply w_ret)
    | (apply w_skip)
    | (apply e_blkE'; rfl))
  apply w_loopI (S := fun i : Nat => ⟨((Fr.nil.put 1 (.ptrL 1 0)).put 3 (.slL 50 0 (listTo a b c d i).length 1)).put 4 (.i i), rowsOf [(1, [.d (.val (.int .u64 a)), .d (.val (.int .u64 b)), .d (.val (.int .u64 c)), .d (.val (.int .u64 d))]), (50, (encI (encJ (listTo a b c d i))).map AV.d)], Frz.buts 100 [50], 100⟩) (m := fun i => 256 - i) (I := fun i => i ≤ 256) (i0 := 0)
  · exact Nat.zero_le _
  · refine wkM [] [50] rfl ?_ ?_ rfl ?_
    · intro p hp
      simp only [List.mem_cons, List.not_mem_nil, or_false] at hp
      rcases hp with rfl | rfl
      · exact ⟨by omega, .inr ⟨rfl, _, rfl, .data rfl⟩⟩
      · exact ⟨by omega, .inl ⟨rfl, rfl⟩⟩
    · intro q hq; simp only [List.mem_cons, List.not_mem_nil, or_false] at hq; rcases hq with rfl <;> rfl
    · repeat' (first
    | exact FWk.nil
    | (apply FWk.i; rfl; (first | rfl | omega | (simp; done)))
    | (apply FWk.sl; rfl; rfl; rfl; rfl; omega; rfl)
    | (apply FWk.ptr; rfl; rfl; rfl; omega; rfl)
    | (apply FWk.d; rfl; rfl)
    | (apply FWk.a; rfl; rfl; rfl)
    | (apply FWk.slN; rfl; omega; rfl))
  intro i K hi hK
  dsimp only
  rcases Nat.lt_or_ge i 256 with hlt | hge
  · have hh := has124_good ha hb hc hd i hlt
    unfold setA at hh
    have hidx := listTo_len a b c d i
    rcases Bool.eq_false_or_eq_true (inG a b c d i) with hq | hq
    · rw [hq] at hh
      have e : listTo a b c d (i + 1) = listTo a b c d i ++ [i] := by rw [listTo, if_pos hq]
      repeat' (first
    | (apply r_mvV; rfl)
    | (apply r_mvP; rfl)
    | (apply r_mvPL; rfl)
    | (apply r_mvS; rfl)
    | (apply r_mvSL; rfl)
    | (apply r_mvA; rfl)
    | (apply r_mvT; rfl)
    | (apply r_mvF; rfl)
    | (apply r_mvD; rfl)
    | (apply r_ldL (v := .agg [.d (.val (.int .u64 a)), .d (.val (.int .u64 b)), .d (.val (.int .u64 c)), .d (.val (.int .u64 d))]); rfl; rfl; rfl)
    | (apply r_callA; rfl; rfl; exact hh)
    | (apply r_mkrow1; rfl; ((conv => lhs; simp only [Nat.reduceAdd]) <;> rfl))
    | (apply r_app1 (li := encJ (listTo a b c d i)); rfl; rfl; rfl; rfl; rfl; ((conv => lhs; simp only [Nat.reduceAdd]) <;> rfl); exact encJ_len _; omega)
    | (apply r_ldL; rfl; rfl; rfl)
    | (apply r_lss; rfl; rfl; (first | (apply decide_eq_true; omega) | (apply decide_eq_false; omega) | rfl))
    | (apply r_add; rfl; rfl; rfl; omega)
    | (apply r_box; ((conv => lhs; simp only [Nat.reduceAdd]) <;> rfl); rfl; rfl; rfl)
    | (apply r_nilK)
    | (apply r_nil)
    | (apply k_V; rfl)
    | (apply k_P; rfl)
    | (apply k_PL; rfl)
    | (apply k_S; rfl)
    | (apply k_SL; rfl)
    | (apply k_A; rfl)
    | (apply k_T; rfl)
    | (apply k_F; rfl)
    | (apply k_D; rfl; rotate_left; rfl)
    | (apply k_nil)
    | (apply e_ret (vs := [.d (.val _)]); rfl)
    | (apply e_ret; rfl)
    | (apply e_ret' (vs := [.d (.val _)]); rfl)
    | (apply e_ret'; rfl)
    | (apply w_seq)
    | (apply w_ops; ((conv => lhs; simp only [Nat.reduceAdd]) <;> rfl))
    | (apply w_condT; rfl)
    | (apply w_condF; rfl)
    | ((apply w_condS; rfl) <;> (intro h; try simp only [decide_eq_true_eq, decide_eq_false_iff_not, Bool.not_eq_true, Bool.not_eq_false] at h))
    | (apply e_thenN)
    | (apply w_block)
    | (apply e_thenR)
    | (apply e_thenX)
    | (apply e_blkN)
    | (apply e_blkR)
    | (apply e_blkE)
    | (apply w_exit)
    | (apply w_ret)
    | (apply w_skip)
    | (apply e_blkE'; rfl))
      apply e_thenK
      apply hK (i + 1)
      · omega
      · omega
      · rw [e]
        refine wkM [(50, 108)] [] rfl ?_ ?_ rfl ?_
        · intro p hp
          simp only [List.mem_cons, List.not_mem_nil, or_false] at hp
          rcases hp with rfl | rfl
          · exact ⟨by omega, .inr ⟨rfl, _, rfl, .data rfl⟩⟩
          · refine ⟨by omega, .inr ⟨rfl, _, ?_, .data (by simp [encI, AV.isD])⟩⟩
            rw [encJ_app]; rfl
        · intro q hq; simp only [List.mem_cons, List.not_mem_nil, or_false] at hq; rcases hq with rfl <;> rfl
        · rw [List.length_append]
          repeat' (first
    | exact FWk.nil
    | (apply FWk.i; rfl; (first | rfl | omega | (simp; done)))
    | (apply FWk.sl; rfl; rfl; rfl; rfl; omega; rfl)
    | (apply FWk.ptr; rfl; rfl; rfl; omega; rfl)
    | (apply FWk.d; rfl; rfl)
    | (apply FWk.a; rfl; rfl; rfl)
    | (apply FWk.slN; rfl; omega; rfl))
    · rw [hq] at hh
      have e : listTo a b c d (i + 1) = listTo a b c d i := by rw [listTo, if_neg (by simp [hq])]
      repeat' (first
    | (apply r_mvV; rfl)
    | (apply r_mvP; rfl)
    | (apply r_mvPL; rfl)
    | (apply r_mvS; rfl)
    | (apply r_mvSL; rfl)
    | (apply r_mvA; rfl)
    | (apply r_mvT; rfl)
    | (apply r_mvF; rfl)
    | (apply r_mvD; rfl)
    | (apply r_ldL (v := .agg [.d (.val (.int .u64 a)), .d (.val (.int .u64 b)), .d (.val (.int .u64 c)), .d (.val (.int .u64 d))]); rfl; rfl; rfl)
    | (apply r_callA; rfl; rfl; exact hh)
    | (apply r_ldL; rfl; rfl; rfl)
    | (apply r_lss; rfl; rfl; (first | (apply decide_eq_true; omega) | (apply decide_eq_false; omega) | rfl))
    | (apply r_add; rfl; rfl; rfl; omega)
    | (apply r_box; ((conv => lhs; simp only [Nat.reduceAdd]) <;> rfl); rfl; rfl; rfl)
    | (apply r_nilK)
    | (apply r_nil)
    | (apply k_V; rfl)
    | (apply k_P; rfl)
    | (apply k_PL; rfl)
    | (apply k_S; rfl)
    | (apply k_SL; rfl)
    | (apply k_A; rfl)
    | (apply k_T; rfl)
    | (apply k_F; rfl)
    | (apply k_D; rfl; rotate_left; rfl)
    | (apply k_nil)
    | (apply e_ret (vs := [.d (.val _)]); rfl)
    | (apply e_ret; rfl)
    | (apply e_ret' (vs := [.d (.val _)]); rfl)
    | (apply e_ret'; rfl)
    | (apply w_seq)
    | (apply w_ops; ((conv => lhs; simp only [Nat.reduceAdd]) <;> rfl))
    | (apply w_condT; rfl)
    | (apply w_condF; rfl)
    | ((apply w_condS; rfl) <;> (intro h; try simp only [decide_eq_true_eq, decide_eq_false_iff_not, Bool.not_eq_true, Bool.not_eq_false] at h))
    | (apply e_thenN)
    | (apply w_block)
    | (apply e_thenR)
    | (apply e_thenX)
    | (apply e_blkN)
    | (apply e_blkR)
    | (apply e_blkE)
    | (apply w_exit)
    | (apply w_ret)
    | (apply w_skip)
    | (apply e_blkE'; rfl))
      apply e_thenK
      apply hK (i + 1)
      · omega
      · omega
      · rw [e]
        refine wkM [] [] rfl ?_ ?_ rfl ?_
        · intro p hp
          simp only [List.mem_cons, List.not_mem_nil, or_false] at hp
          rcases hp with rfl | rfl
          · exact ⟨by omega, .inr ⟨rfl, _, rfl, .data rfl⟩⟩
          · exact ⟨by omega, .inr ⟨rfl, _, rfl, .data (by simp [encI, AV.isD])⟩⟩
        · intro q hq; simp only [List.mem_cons, List.not_mem_nil, or_false] at hq; rcases hq with rfl <;> rfl
        · repeat' (first
    | exact FWk.nil
    | (apply FWk.i; rfl; (first | rfl | omega | (simp; done)))
    | (apply FWk.sl; rfl; rfl; rfl; rfl; omega; rfl)
    | (apply FWk.ptr; rfl; rfl; rfl; omega; rfl)
    | (apply FWk.d; rfl; rfl)
    | (apply FWk.a; rfl; rfl; rfl)
    | (apply FWk.slN; rfl; omega; rfl))
  · have ei : i = 256 := by omega
    subst ei
    repeat' (first
    | (apply r_mvV; rfl)
    | (apply r_mvP; rfl)
    | (apply r_mvPL; rfl)
    | (apply r_mvS; rfl)
    | (apply r_mvSL; rfl)
    | (apply r_mvA; rfl)
    | (apply r_mvT; rfl)
    | (apply r_mvF; rfl)
    | (apply r_mvD; rfl)
    | (apply r_ldL; rfl; rfl; rfl)
    | (apply r_lss; rfl; rfl; (first | (apply decide_eq_true; omega) | (apply decide_eq_false; omega) | rfl))
    | (apply r_add; rfl; rfl; rfl; omega)
    | (apply r_box; ((conv => lhs; simp only [Nat.reduceAdd]) <;> rfl); rfl; rfl; rfl)
    | (apply r_nilK)
    | (apply r_nil)
    | (apply k_V; rfl)
    | (apply k_P; rfl)
    | (apply k_PL; rfl)
    | (apply k_S; rfl)
    | (apply k_SL; rfl)
    | (apply k_A; rfl)
    | (apply k_T; rfl)
    | (apply k_F; rfl)
    | (apply k_D; rfl; rotate_left; rfl)
    | (apply k_nil)
    | (apply e_ret (vs := [.d (.val _)]); rfl)
    | (apply e_ret; rfl)
    | (apply e_ret' (vs := [.d (.val _)]); rfl)
    | (apply e_ret'; rfl)
    | (apply w_seq)
    | (apply w_ops; ((conv => lhs; simp only [Nat.reduceAdd]) <;> rfl))
    | (apply w_condT; rfl)
    | (apply w_condF; rfl)
    | ((apply w_condS; rfl) <;> (intro h; try simp only [decide_eq_true_eq, decide_eq_false_iff_not, Bool.not_eq_true, Bool.not_eq_false] at h))
    | (apply e_thenN)
    | (apply w_block)
    | (apply e_thenR)
    | (apply e_thenX)
    | (apply e_blkN)
    | (apply e_blkR)
    | (apply e_blkE)
    | (apply w_exit)
    | (apply w_ret)
    | (apply w_skip)
    | (apply e_blkE'; rfl))
    exact retL1 rfl (encJ_len _)
theorem set99_good (l : List Nat) (hx : ∀ x ∈ l, x < 256) (hl : l.length ≤ 100000000) : Good Try.prog 99 [.d (.sl (encI (encJ l)) l.length)] none (.agg (encW (setWs l))) none none := by
  have hle : (encJ l).length = l.length := encJ_len l
  refine b99 (by simp) (by simp) (w_init ?_)
  unfold x99
  repeat' (first
    | (apply r_mvV; rfl)
    | (apply r_mvP; rfl)
    | (apply r_mvPL; rfl)
    | (apply r_mvS; rfl)
    | (apply r_mvSL; rfl)
    | (apply r_mvA; rfl)
    | (apply r_mvT; rfl)
    | (apply r_mvF; rfl)
    | (apply r_mvD; rfl)
    | (apply r_ldL; rfl; rfl; rfl)
    | (apply r_lss; rfl; rfl; (first | (apply decide_eq_true; omega) | (apply decide_eq_false; omega) | rfl))
    | (apply r_add; rfl; rfl; rfl; omega)
    | (apply r_not; rfl; rfl)
    | (apply r_lenD; rfl)
    | (apply r_lenL; rfl)
    | (apply r_len0; rfl)
    | (apply r_alloc; ((conv => lhs; simp only [Nat.reduceAdd]) <;> rfl); rfl)
    | (apply r_stL; rfl; rfl; rfl; rfl; (first | rfl | (simp only [z_nil, z_add] <;> rfl)); rfl; rfl)
    | (apply r_p; rfl)
    | (apply r_nilK)
    | (apply r_nil)
    | (apply k_V; rfl)
    | (apply k_P; rfl)
    | (apply k_PL; rfl)
    | (apply k_S; rfl)
    | (apply k_SL; rfl)
    | (apply k_A; rfl)
    | (apply k_T; rfl)
    | (apply k_F; rfl)
    | (apply k_D; rfl; rotate_left; rfl)
    | (apply k_nil)
    | (apply e_ret (vs := [.d (.val _)]); rfl)
    | (apply e_ret; rfl)
    | (apply e_ret' (vs := [.d (.val _)]); rfl)
    | (apply e_ret'; rfl)
    | (apply w_seq)
    | (apply w_ops; ((conv => lhs; simp only [Nat.reduceAdd]) <;> rfl))
    | (apply w_condT; rfl)
    | (apply w_condF; rfl)
    | ((apply w_condS; rfl) <;> (intro h; try simp only [decide_eq_true_eq, decide_eq_false_iff_not, Bool.not_eq_true, Bool.not_eq_false] at h))
    | (apply e_thenN)
    | (apply w_block)
    | (apply e_thenR)
    | (apply e_thenX)
    | (apply e_blkN)
    | (apply e_blkR)
    | (apply e_blkE)
    | (apply w_exit)
    | (apply w_ret)
    | (apply w_skip)
    | (apply e_blkE'; rfl))
  apply w_loopI (S := fun i : Nat => ⟨(((Fr.nil.put 0 (.d (.sl (encI (encJ l)) l.length))).put 2 (.ptrL 1 0)).put 3 (.ptrL 2 0)).put 4 (.i i), rowsOf [(1, encW [0, 0, 0, 0]), (2, encW (setWs (l.take i)))], Frz.buts 100 [1, 2], 100⟩) (m := fun i => l.length - i) (I := fun i => i ≤ l.length) (i0 := 0)
  · exact Nat.zero_le _
  · refine wkM [] [] rfl ?_ ?_ rfl ?_
    · intro p hp
      simp only [List.mem_cons, List.not_mem_nil, or_false] at hp
      rcases hp with rfl | rfl
      · exact ⟨by omega, .inr ⟨rfl, _, rfl, .data rfl⟩⟩
      · exact ⟨by omega, .inr ⟨rfl, _, rfl, .data rfl⟩⟩
    · intro q hq; simp only [List.mem_cons, List.not_mem_nil, or_false] at hq; rcases hq with rfl | rfl <;> rfl
    · repeat' (first
    | exact FWk.nil
    | (apply FWk.i; rfl; (first | rfl | omega | (simp; done)))
    | (apply FWk.sl; rfl; rfl; rfl; rfl; omega; rfl)
    | (apply FWk.ptr; rfl; rfl; rfl; omega; rfl)
    | (apply FWk.d; rfl; rfl)
    | (apply FWk.a; rfl; rfl; rfl)
    | (apply FWk.slN; rfl; omega; rfl))
  intro i K hi hK
  dsimp only
  rcases Nat.lt_or_ge i l.length with hlt | hge
  · have hxi : l[i] < 256 := hx _ (List.getElem_mem hlt)
    have hget : (encJ l)[i]? = some ((l[i] : Nat) : Int) := by
      simp [encJ, List.getElem?_eq_getElem hlt]
    have htk : l.take (i + 1) = l.take i ++ [l[i]] := List.take_succ_eq_append_getElem hlt
    obtain ⟨hok, _⟩ := setWs_ok (l := l.take i) (fun x h => hx x (List.mem_of_mem_take h))
    have hst : setWs (l.take (i + 1)) = addB (setWs (l.take i)) l[i] := by rw [htk, setWs_snoc]
    generalize l[i] = x at hxi hget hst
    generalize setWs (l.take i) = ws at hok hst ⊢
    have h4 := hok.1
    have hw := okWs_getD hok (x / 64)
    have key : ∀ w, bitG (ws.getD (x / 64) 0) x = w → (if w = true then ws else ws.set (x / 64) (ws.getD (x / 64) 0 + 2 ^ (x % 64))) = addB ws x := by
      intro w h; subst h; rfl
    have hadd := fun h => (addW_ok (x := x) hw h).1
    match ws, h4 with
    | [w0, w1, w2, w3], _ =>
    have hh := has124_good (hok.2 w0 (by simp)) (hok.2 w1 (by simp)) (hok.2 w2 (by simp)) (hok.2 w3 (by simp)) x hxi
    unfold setA at hh
    have hin : inG w0 w1 w2 w3 x = bitG ([w0, w1, w2, w3].getD (x / 64) 0) x := rfl
    rcases Bool.eq_false_or_eq_true (bitG ([w0, w1, w2, w3].getD (x / 64) 0) x) with hq | hq
    · rw [hin, hq] at hh
      have e := key true hq
      rw [if_pos rfl] at e
      repeat' (first
    | (apply r_mvV; rfl)
    | (apply r_mvP; rfl)
    | (apply r_mvPL; rfl)
    | (apply r_mvS; rfl)
    | (apply r_mvSL; rfl)
    | (apply r_mvA; rfl)
    | (apply r_mvT; rfl)
    | (apply r_mvF; rfl)
    | (apply r_mvD; rfl)
    | (apply r_ldL (v := .agg [.d (.val (.int .u64 w0)), .d (.val (.int .u64 w1)), .d (.val (.int .u64 w2)), .d (.val (.int .u64 w3))]); rfl; rfl; rfl)
    | (apply r_ixI (j := i); rfl; rfl; rfl; exact hle; exact hlt)
    | (apply r_ldI; rfl; exact hget)
    | (apply r_callA; rfl; rfl; exact hh)
    | (apply r_ldL; rfl; rfl; rfl)
    | (apply r_lss; rfl; rfl; (first | (apply decide_eq_true; omega) | (apply decide_eq_false; omega) | rfl))
    | (apply r_add; rfl; rfl; rfl; omega)
    | (apply r_not; rfl; rfl)
    | (apply r_lenD; rfl)
    | (apply r_lenL; rfl)
    | (apply r_len0; rfl)
    | (apply r_alloc; ((conv => lhs; simp only [Nat.reduceAdd]) <;> rfl); rfl)
    | (apply r_stL; rfl; rfl; rfl; rfl; (first | rfl | (simp only [z_nil, z_add] <;> rfl)); rfl; rfl)
    | (apply r_p; rfl)
    | (apply r_nilK)
    | (apply r_nil)
    | (apply k_V; rfl)
    | (apply k_P; rfl)
    | (apply k_PL; rfl)
    | (apply k_S; rfl)
    | (apply k_SL; rfl)
    | (apply k_A; rfl)
    | (apply k_T; rfl)
    | (apply k_F; rfl)
    | (apply k_D; rfl; rotate_left; rfl)
    | (apply k_nil)
    | (apply e_ret (vs := [.d (.val _)]); rfl)
    | (apply e_ret; rfl)
    | (apply e_ret' (vs := [.d (.val _)]); rfl)
    | (apply e_ret'; rfl)
    | (apply w_seq)
    | (apply w_ops; ((conv => lhs; simp only [Nat.reduceAdd]) <;> rfl))
    | (apply w_condT; rfl)
    | (apply w_condF; rfl)
    | ((apply w_condS; rfl) <;> (intro h; try simp only [decide_eq_true_eq, decide_eq_false_iff_not, Bool.not_eq_true, Bool.not_eq_false] at h))
    | (apply e_thenN)
    | (apply w_block)
    | (apply e_thenR)
    | (apply e_thenX)
    | (apply e_blkN)
    | (apply e_blkR)
    | (apply e_blkE)
    | (apply w_exit)
    | (apply w_ret)
    | (apply w_skip)
    | (apply e_blkE'; rfl))
      apply e_thenK
      apply hK (i + 1)
      · omega
      · omega
      · rw [hst, ← e]
        refine wkM [] [] rfl ?_ ?_ rfl ?_
        · intro p hp
          simp only [List.mem_cons, List.not_mem_nil, or_false] at hp
          rcases hp with rfl | rfl
          · exact ⟨by omega, .inr ⟨rfl, _, rfl, .data rfl⟩⟩
          · exact ⟨by omega, .inr ⟨rfl, _, rfl, .data rfl⟩⟩
        · intro q hq; simp only [List.mem_cons, List.not_mem_nil, or_false] at hq; rcases hq with rfl | rfl <;> rfl
        · repeat' (first
    | exact FWk.nil
    | (apply FWk.i; rfl; (first | rfl | omega | (simp; done)))
    | (apply FWk.sl; rfl; rfl; rfl; rfl; omega; rfl)
    | (apply FWk.ptr; rfl; rfl; rfl; omega; rfl)
    | (apply FWk.d; rfl; rfl)
    | (apply FWk.a; rfl; rfl; rfl)
    | (apply FWk.slN; rfl; omega; rfl))
    · rw [hin, hq] at hh
      have e := key false hq
      rw [if_neg (by simp)] at e
      have ha := hadd hq
      repeat' (first
    | (apply r_mvV; rfl)
    | (apply r_mvP; rfl)
    | (apply r_mvPL; rfl)
    | (apply r_mvS; rfl)
    | (apply r_mvSL; rfl)
    | (apply r_mvA; rfl)
    | (apply r_mvT; rfl)
    | (apply r_mvF; rfl)
    | (apply r_mvD; rfl)
    | (apply r_ldL (v := .agg [.d (.val (.int .u64 w0)), .d (.val (.int .u64 w1)), .d (.val (.int .u64 w2)), .d (.val (.int .u64 w3))]); rfl; rfl; rfl)
    | (apply r_ixI (j := i); rfl; rfl; rfl; exact hle; exact hlt)
    | (apply r_ldI; rfl; exact hget)
    | (apply r_callA; rfl; rfl; exact hh)
    | (apply r_quoI; rfl; rfl; rfl; omega)
    | (apply r_remI; rfl; rfl; rfl)
    | (apply r_ixPL; rfl; rfl; omega)
    | (apply r_ldWs (ws := [w0, w1, w2, w3]); rfl; rfl; (simp; omega))
    | (apply r_shlI; rfl; rfl; omega)
    | (apply r_addW; rfl; rfl; exact ha)
    | (apply r_stWs (ws := [w0, w1, w2, w3]); rfl; rfl; rfl; rfl; (simp; omega))
    | (apply r_ldL; rfl; rfl; rfl)
    | (apply r_lss; rfl; rfl; (first | (apply decide_eq_true; omega) | (apply decide_eq_false; omega) | rfl))
    | (apply r_add; rfl; rfl; rfl; omega)
    | (apply r_not; rfl; rfl)
    | (apply r_lenD; rfl)
    | (apply r_lenL; rfl)
    | (apply r_len0; rfl)
    | (apply r_alloc; ((conv => lhs; simp only [Nat.reduceAdd]) <;> rfl); rfl)
    | (apply r_stL; rfl; rfl; rfl; rfl; (first | rfl | (simp only [z_nil, z_add] <;> rfl)); rfl; rfl)
    | (apply r_p; rfl)
    | (apply r_nilK)
    | (apply r_nil)
    | (apply k_V; rfl)
    | (apply k_P; rfl)
    | (apply k_PL; rfl)
    | (apply k_S; rfl)
    | (apply k_SL; rfl)
    | (apply k_A; rfl)
    | (apply k_T; rfl)
    | (apply k_F; rfl)
    | (apply k_D; rfl; rotate_left; rfl)
    | (apply k_nil)
    | (apply e_ret (vs := [.d (.val _)]); rfl)
    | (apply e_ret; rfl)
    | (apply e_ret' (vs := [.d (.val _)]); rfl)
    | (apply e_ret'; rfl)
    | (apply w_seq)
    | (apply w_ops; ((conv => lhs; simp only [Nat.reduceAdd]) <;> rfl))
    | (apply w_condT; rfl)
    | (apply w_condF; rfl)
    | ((apply w_condS; rfl) <;> (intro h; try simp only [decide_eq_true_eq, decide_eq_false_iff_not, Bool.not_eq_true, Bool.not_eq_false] at h))
    | (apply e_thenN)
    | (apply w_block)
    | (apply e_thenR)
    | (apply e_thenX)
    | (apply e_blkN)
    | (apply e_blkR)
    | (apply e_blkE)
    | (apply w_exit)
    | (apply w_ret)
    | (apply w_skip)
    | (apply e_blkE'; rfl))
      apply e_thenK
      apply hK (i + 1)
      · omega
      · omega
      · rw [hst, ← e]
        refine wkM [] [] rfl ?_ ?_ rfl ?_
        · intro p hp
          simp only [List.mem_cons, List.not_mem_nil, or_false] at hp
          rcases hp with rfl | rfl
          · exact ⟨by omega, .inr ⟨rfl, _, rfl, .data rfl⟩⟩
          · exact ⟨by omega, .inr ⟨rfl, _, rfl, .data (encW_isD _)⟩⟩
        · intro q hq; simp only [List.mem_cons, List.not_mem_nil, or_false] at hq; rcases hq with rfl | rfl <;> rfl
        · repeat' (first
    | exact FWk.nil
    | (apply FWk.i; rfl; (first | rfl | omega | (simp; done)))
    | (apply FWk.sl; rfl; rfl; rfl; rfl; omega; rfl)
    | (apply FWk.ptr; rfl; rfl; rfl; omega; rfl)
    | (apply FWk.d; rfl; rfl)
    | (apply FWk.a; rfl; rfl; rfl)
    | (apply FWk.slN; rfl; omega; rfl))
  · rw [List.take_of_length_le hge]
    obtain ⟨hok, _⟩ := setWs_ok hx
    generalize setWs l = ws at hok
    match ws, hok.1 with
    | [w0, w1, w2, w3], _ =>
    repeat' (first
    | (apply r_mvV; rfl)
    | (apply r_mvP; rfl)
    | (apply r_mvPL; rfl)
    | (apply r_mvS; rfl)
    | (apply r_mvSL; rfl)
    | (apply r_mvA; rfl)
    | (apply r_mvT; rfl)
    | (apply r_mvF; rfl)
    | (apply r_mvD; rfl)
    | (apply r_ldL (v := .agg [.d (.val (.int .u64 w0)), .d (.val (.int .u64 w1)), .d (.val (.int .u64 w2)), .d (.val (.int .u64 w3))]); rfl; rfl; rfl)
    | (apply r_ldL; rfl; rfl; rfl)
    | (apply r_lss; rfl; rfl; (first | (apply decide_eq_true; omega) | (apply decide_eq_false; omega) | rfl))
    | (apply r_add; rfl; rfl; rfl; omega)
    | (apply r_not; rfl; rfl)
    | (apply r_lenD; rfl)
    | (apply r_lenL; rfl)
    | (apply r_len0; rfl)
    | (apply r_alloc; ((conv => lhs; simp only [Nat.reduceAdd]) <;> rfl); rfl)
    | (apply r_stL; rfl; rfl; rfl; rfl; (first | rfl | (simp only [z_nil, z_add] <;> rfl)); rfl; rfl)
    | (apply r_p; rfl)
    | (apply r_nilK)
    | (apply r_nil)
    | (apply k_V; rfl)
    | (apply k_P; rfl)
    | (apply k_PL; rfl)
    | (apply k_S; rfl)
    | (apply k_SL; rfl)
    | (apply k_A; rfl)
    | (apply k_T; rfl)
    | (apply k_F; rfl)
    | (apply k_D; rfl; rotate_left; rfl)
    | (apply k_nil)
    | (apply e_ret (vs := [.d (.val _)]); rfl)
    | (apply e_ret; rfl)
    | (apply e_ret' (vs := [.d (.val _)]); rfl)
    | (apply e_ret'; rfl)
    | (apply w_seq)
    | (apply w_ops; ((conv => lhs; simp only [Nat.reduceAdd]) <;> rfl))
    | (apply w_condT; rfl)
    | (apply w_condF; rfl)
    | ((apply w_condS; rfl) <;> (intro h; try simp only [decide_eq_true_eq, decide_eq_false_iff_not, Bool.not_eq_true, Bool.not_eq_false] at h))
    | (apply e_thenN)
    | (apply w_block)
    | (apply e_thenR)
    | (apply e_thenX)
    | (apply e_blkN)
    | (apply e_blkR)
    | (apply e_blkE)
    | (apply w_exit)
    | (apply w_ret)
    | (apply w_skip)
    | (apply e_blkE'; rfl))
    exact .data _ rfl
end Go.Sv
namespace Go.Sv
open Go
set_option linter.unusedVariables false
def encP : List (Nat × Nat) → List DV
  | [] => []
  | p :: l => .val (.int .u8 (p.1 : Nat)) :: .val (.int .u8 (p.2 : Nat)) :: encP l
theorem encP_len : ∀ l : List (Nat × Nat), (encP l).length = l.length * 2
  | [] => rfl
  | p :: l => by simp only [encP, List.length_cons, encP_len l]; omega
theorem encP_app : ∀ a b : List (Nat × Nat), encP (a ++ b) = encP a ++ encP b
  | [], b => rfl
  | p :: a, b => by simp only [List.cons_append, encP, encP_app a b]
theorem encP_isD (l : List (Nat × Nat)) : ((encP l).map AV.d).all AV.isD = true := by rw [List.all_map]; simp [AV.isD]
theorem encP_one (l : List (Nat × Nat)) : ((encP l).map AV.d).all AV.one = true := by rw [List.all_map]; simp [AV.one]
theorem encP_norm : ∀ l : List (Nat × Nat), (encP l).map DV.norm = encP l
  | [] => rfl
  | p :: l => by simp only [encP, List.map_cons, encP_norm l]; rfl
theorem encP_get : ∀ (l : List (Nat × Nat)) (j : Nat), (encP l)[j * 2]? = (l[j]?).map (fun p => DV.val (.int .u8 (p.1 : Nat))) ∧ (encP l)[j * 2 + 1]? = (l[j]?).map (fun p => DV.val (.int .u8 (p.2 : Nat)))
  | [], j => by simp [encP]
  | p :: l, 0 => by simp [encP]
  | p :: l, j + 1 => by
    have := encP_get l j
    rw [show (j + 1) * 2 = j * 2 + 1 + 1 by omega, show j * 2 + 1 + 1 + 1 = (j * 2 + 1) + 1 + 1 by omega]
    simp only [encP, List.getElem?_cons_succ]
    exact this
theorem encP_set : ∀ (l : List (Nat × Nat)) (j v : Nat), j < l.length → (encP l).set (j * 2 + 1) (.val (.int .u8 (v : Nat))) = encP (l.set j ((l.getD j (0, 0)).1, v))
  | [], j, v, h => by simp at h
  | p :: l, 0, v, h => by simp [encP]
  | p :: l, j + 1, v, h => by
    have := encP_set l j v (by simpa using h)
    rw [show (j + 1) * 2 + 1 = j * 2 + 1 + 1 + 1 by omega]
    simp only [encP, List.set_cons_succ, this, List.getD_cons_succ]
theorem splice_set {r : List AV} {j : Nat} {v : AV} (h : j < r.length) : splice r j [v] = r.set j v := by
  rw [List.set_eq_take_append_cons_drop, if_pos h]
  simp [splice]
section
variable {P : Program} {Q : Cont} {fr : Fr} {C : Heap} {Z : Frz} {nx : Nat} {base n d : Nat} {l : List (Nat × XO)} {kp : Option (List Nat)} {x i y s : X}
theorem r_ixG2 {b m j : Nat} {e : Int} (hx : x.ev fr = .slL b 0 m 2) (hi : i.ev fr = .i e) (he : e = (j : Nat)) (hj : j < m) (k : R P l base kp Q nx (fr.put d (.ptrL b (j * 2))) C Z) : R P ((n, ⟨some d, none, .idxS 2 x i⟩) :: l) base kp Q nx fr C Z := by
  subst he
  refine r_p ?_ k
  simp [xp, hx, hi, intIn, hj]
theorem r_ixP2 {K : List (Nat × Nat)} {j m : Nat} {e : Int} (hx : x.ev fr = .d (.sl (encP K) m)) (hm : K.length = m) (hi : i.ev fr = .i e) (he : e = (j : Nat)) (hj : j < m) (k : R P l base kp Q nx (fr.put d (.d (.ptr (encP K) (j * 2)))) C Z) : R P ((n, ⟨some d, none, .idxS 2 x i⟩) :: l) base kp Q nx fr C Z := by
  subst he
  subst hm
  refine r_p ?_ k
  have hne : encP K ≠ [] := fun h => by
    have := congrArg List.length h
    rw [encP_len, List.length_nil] at this; omega
  have hl := encP_len K
  simp [xp, hx, hi, hne, intIn, hj, hl]
theorem r_ldP {K : List (Nat × Nat)} {j : Nat} {p : Nat × Nat} (hx : x.ev fr = .d (.ptr (encP K) (j * 2 + 0))) (hp : K[j]? = some p) (k : R P l base kp Q nx (fr.put d (.d (.val (.int .u8 (p.1 : Nat))))) C Z) : R P ((n, ⟨some d, none, .load none x⟩) :: l) base kp Q nx fr C Z := by
  refine r_l ?_ k
  have := (encP_get K j).1
  simp [xl, hx, rowOf, subA, this, hp]
theorem r_ldP1 {K : List (Nat × Nat)} {j : Nat} {p : Nat × Nat} (hx : x.ev fr = .d (.ptr (encP K) (j * 2 + 1))) (hp : K[j]? = some p) (k : R P l base kp Q nx (fr.put d (.d (.val (.int .u8 (p.2 : Nat))))) C Z) : R P ((n, ⟨some d, none, .load none x⟩) :: l) base kp Q nx fr C Z := by
  refine r_l ?_ k
  have := (encP_get K j).2
  simp [xl, hx, rowOf, subA, this, hp]
theorem r_stP {a : X} {b j v : Nat} {K : List (Nat × Nat)} (ha : a.ev fr = .ptrL b (j * 2 + 1)) (hx : x.ev fr = .d (.val (.int .u8 (v : Nat)))) (hr : C b = some ((encP K).map AV.d)) (hz : Z b = false) (hj : j < K.length) (k : R P l base kp Q nx fr (C.put b ((encP (K.set j ((K.getD j (0, 0)).1, v))).map AV.d)) Z) : R P ((n, ⟨none, none, .store 1 a x⟩) :: l) base kp Q nx fr C Z := by
  have hl := encP_len K
  refine r_stL (cs := [.d (.val (.int .u8 (v : Nat)))]) ha hr hx rfl hz ?_ ?_ k
  · simp [AV.one, hl]; omega
  · rw [splice_set (by rw [List.length_map]; omega), ← encP_set K j v hj, List.map_set]
theorem r_mkP {id u v : Nat} (hx : x.ev fr = .agg [.d (.val (.int .u8 (u : Nat))), .d (.val (.int .u8 (v : Nat)))]) (hid : base + n = id) (k : R P l base kp Q nx (fr.put d (.slL id 0 1 2)) (C.put id ((encP [(u, v)]).map AV.d)) Z) : R P ((n, ⟨some d, none, .mkrow [(.int .u8 0), (.int .u8 0)] 1 2 [(0, 2, x)]⟩) :: l) base kp Q nx fr C Z := by
  subst hid
  refine r_n (v := .slL (base + n) 0 1 2) (r := (encP [(u, v)]).map AV.d) ?_ k
  simp only [xn, List.map_cons, List.map_nil, hx]
  rfl
theorem r_appP {b c id m : Nat} {K L : List (Nat × Nat)} (hs : s.ev fr = .slL b 0 m 2) (hx : x.ev fr = .slL c 0 1 2) (hC : C b = some ((encP K).map AV.d)) (hCc : C c = some ((encP L).map AV.d)) (hm : K.length = m) (hj : L.length = 1) (hz : Z b = false) (hid : base + n = id) (hb : m ≤ 1000000)
    (k : R P l base kp Q nx (fr.put d (.slL id 0 (m + 1) 2)) ((C.del b).put id ((encP (K ++ L)).map AV.d)) Z) : R P ((n, ⟨some d, none, .app [(.int .u8 0), (.int .u8 0)] 2 s x⟩) :: l) base kp Q nx fr C Z := by
  subst hid hm
  refine r_w (v := .slL (base + n) 0 (K.length + 1) 2) (C' := (C.del b).put (base + n) ((encP (K ++ L)).map AV.d)) ?_ k
  have hl := encP_len K
  have hl2 := encP_len L
  have h2 : srcOf C 2 (.slL c 0 1 2) = some ((encP L).map AV.d, 1) := by
    simp only [srcOf, if_true, hCc, Option.bind_some]
    rw [if_pos (by rw [List.length_map]; omega), List.drop_zero, List.take_of_length_le (by rw [List.length_map]; omega)]
  simp only [xw, List.length_cons, List.length_nil, Nat.zero_add, Nat.reduceAdd, hx, h2, Option.bind_some, hs, hC]
  rw [if_pos (encP_one L), if_pos ⟨trivial, hz, by rw [List.length_map]; omega, by omega⟩, List.take_of_length_le (by rw [List.length_map]; omega), encP_app, List.map_append]
theorem retLP {live : Bool} {b m : Nat} {p : List (Nat × Nat)} (hC : C b = some ((encP p).map AV.d)) (hm : p.length = m) : RetOK C Z (tupOf [.slL b 0 m 2]) live (.d (.sl (encP p) m)) none none := by
  refine .data _ ?_
  subst hm
  have hl := encP_len p
  simp only [tupOf, convT, convA, convC]
  rcases Nat.eq_zero_or_pos p.length with h | h
  · have := List.length_eq_zero_iff.1 h
    subst this
    rfl
  · rw [if_neg (by omega), if_neg (by simp)]
    simp only [hC, Option.bind_some]
    rw [if_pos (by rw [List.length_map]; omega), List.drop_zero, List.take_of_length_le (by rw [List.length_map]; omega), mapO_d, encP_norm]
    rfl
theorem r_cv8 {v : Nat} (hx : x.ev fr = .i (v : Nat)) (hv : v < 256) (k : R P l base kp Q nx (fr.put d (.d (.val (.int .u8 (v : Nat))))) C Z) : R P ((n, ⟨some d, none, .conv .u8 x⟩) :: l) base kp Q nx fr C Z := by
  refine r_p ?_ k
  simp only [xp, hx]
  rw [show IntKind.wrap .u8 (v : Nat) = (v : Nat) by simp [IntKind.wrap, IntKind.bits, IntKind.signed]; omega]
theorem r_cv64 {v : Nat} (hx : x.ev fr = .d (.val (.int .u8 (v : Nat)))) (hv : v < 256) (k : R P l base kp Q nx (fr.put d (.i (v : Nat))) C Z) : R P ((n, ⟨some d, none, .conv .i64 x⟩) :: l) base kp Q nx fr C Z := by
  refine r_p ?_ k
  simp only [xp, hx]
  rw [show IntKind.wrap .i64 (v : Nat) = (v : Nat) by simp [IntKind.wrap, IntKind.bits, IntKind.signed]; omega]
theorem r_cat {u v w : ByteArray} (hx : x.ev fr = .d (.val (.string u))) (hy : y.ev fr = .d (.val (.string v))) (h : u ++ v = w) (hs : u.size + v.size ≤ 9223372036854775807) (k : R P l base kp Q nx (fr.put d (.d (.val (.string w)))) C Z) : R P ((n, ⟨some d, none, .arith .add x y⟩) :: l) base kp Q nx fr C Z := by
  subst h
  refine r_p ?_ k
  simp only [xp, hx, hy, arith]
  rw [if_pos (by omega)]
  rfl
theorem r_eqS {u : ByteArray} (hx : x.ev fr = .d (.val (.string u))) (hy : y.ev fr = .d (.val (.string u))) (k : R P l base kp Q nx (fr.put d (.b true)) C Z) : R P ((n, ⟨some d, none, .arith .eql x y⟩) :: l) base kp Q nx fr C Z := by
  refine r_p ?_ k
  simp only [xp, hx, hy, arith, BEq.rfl]
  rfl
end
end Go.Sv
namespace Go.Sv
open Go Go.Proofs
set_option maxRecDepth 100000
def x141 : XC := (.seq (.ops 1 [
    (0, ⟨(some 2), none, .mv (.k (.d (.val (.string ⟨#[]⟩))))⟩)] (some [0])) (.seq (.seq (.ops 2 [
    (0, ⟨(some 4), none, .mv (.t 0)⟩),
    (1, ⟨(some 5), none, .call 159 [(.t 4)] none false⟩)] (some [0, 5])) (.cond (.t 5) (.seq (.ops 5 [
    (0, ⟨(some 6), none, .mv (.t 0)⟩),
    (1, ⟨(some 7), none, .conv .u8 (.t 6)⟩),
    (2, ⟨(some 8), none, .mkrow [(.int .u8 0)] 1 1 [(0, 1, (.t 7))]⟩),
    (3, ⟨(some 9), none, .strB (.t 8)⟩),
    (4, ⟨(some 2), none, .mv (.t 9)⟩)] (some [2])) .ret) .skip)) (.seq (.ops 1 [
    (0, ⟨(some 3), none, .mv (.k (.d (.val (.string ⟨#[48, 49, 50, 51, 52, 53, 54, 55, 56, 57, 97, 98, 99, 100, 101, 102]⟩))))⟩)] (some [0, 3])) (.seq (.ops 17 [
    (0, ⟨(some 10), none, .mv (.t 3)⟩),
    (1, ⟨(some 11), none, .mv (.t 0)⟩),
    (2, ⟨(some 12), none, .arith .quo (.t 11) (.k (.d (.val (.int .i64 16))))⟩),
    (3, ⟨(some 13), none, .mv (.t 0)⟩),
    (4, ⟨(some 14), none, .arith .quo (.t 13) (.k (.d (.val (.int .i64 16))))⟩),
    (5, ⟨(some 15), none, .arith .add (.t 14) (.k (.d (.val (.int .i64 1))))⟩),
    (6, ⟨(some 16), none, .slT (.t 10) (some (.t 12)) (some (.t 15))⟩),
    (7, ⟨(some 17), none, .arith .add (.k (.d (.val (.string ⟨#[92, 120]⟩)))) (.t 16)⟩),
    (8, ⟨(some 18), none, .mv (.t 3)⟩),
    (9, ⟨(some 19), none, .mv (.t 0)⟩),
    (10, ⟨(some 20), none, .arith .rem (.t 19) (.k (.d (.val (.int .i64 16))))⟩),
    (11, ⟨(some 21), none, .mv (.t 0)⟩),
    (12, ⟨(some 22), none, .arith .rem (.t 21) (.k (.d (.val (.int .i64 16))))⟩),
    (13, ⟨(some 23), none, .arith .add (.t 22) (.k (.d (.val (.int .i64 1))))⟩),
    (14, ⟨(some 24), none, .slT (.t 18) (some (.t 20)) (some (.t 23))⟩),
    (15, ⟨(some 25), none, .arith .add (.t 17) (.t 24)⟩),
    (16, ⟨(some 2), none, .mv (.t 25)⟩)] (some [2])) .ret))))
def md141 : FuncId → Option Nat × Bool
  | _ => (none, false)
def od141 : Nat → List (List Nat) × List Nat × Option (List Nat)
  | 0 => ([], [], some [0])
  | 1 => ([], [], some [0, 5])
  | 2 => ([], [], some [2])
  | 3 => ([], [], some [0, 3])
  | 4 => ([[], [], [1], [], [3], [3, 4], [0, 1, 2, 3, 4, 5], [0, 1, 2, 3, 4, 5, 6], [], [], [9], [], [11], [11, 12], [8, 9, 10, 11, 12, 13], [0, 1, 2, 3, 4, 5, 6, 7, 8, 9, 10, 11, 12, 13, 14], [0, 1, 2, 3, 4, 5, 6, 7, 8, 9, 10, 11, 12, 13, 14, 15]], [0, 1, 2, 3, 4, 5, 6, 7, 8, 9, 10, 11, 12, 13, 14, 15, 16], some [2])
  | _ => ([], [], none)
theorem b141 {ags : List AV} {row : Option (List DV)} {r : AV} {row' nw : Option (List DV)} (hal : ags.length ≤ 26) (hrow : row'.isSome = true → row.isSome = true) (h : xwp Try.prog x141 (retK [.tmp 2] row.isSome r row' nw) (St.init ags row)) : Good Try.prog 141 ags row r row' nw :=
  good_of_body' (md := md141) (od := od141) Try.f141 (by kernel_rfl) (by kernel_rfl) (by kernel_rfl) (by kernel_rfl) (by kernel_rfl) hal hrow h

def x159 : XC := (.seq (.ops 1 [
    (0, ⟨(some 2), none, .mv (.k (.d (.val (.bool false))))⟩)] (some [0])) (.seq (.seq (.ops 22 [
    (0, ⟨(some 5), none, .mv (.t 0)⟩),
    (1, ⟨(some 6), none, .arith .geq (.t 5) (.k (.d (.val (.int .i64 97))))⟩),
    (2, ⟨(some 7), none, .mv (.t 6)⟩),
    (3, ⟨(some 8), (some (7, true)), .mv (.t 0)⟩),
    (4, ⟨(some 9), (some (7, true)), .arith .leq (.t 8) (.k (.d (.val (.int .i64 122))))⟩),
    (5, ⟨(some 10), none, .pick (.t 7) (.t 9) (.k (.d (.val (.bool false))))⟩),
    (6, ⟨(some 11), none, .mv (.t 10)⟩),
    (7, ⟨(some 12), (some (11, false)), .mv (.t 0)⟩),
    (8, ⟨(some 13), (some (11, false)), .arith .geq (.t 12) (.k (.d (.val (.int .i64 65))))⟩),
    (9, ⟨(some 14), (some (11, false)), .mv (.t 13)⟩),
    (10, ⟨(some 15), (some (14, true)), .mv (.t 0)⟩),
    (11, ⟨(some 16), (some (14, true)), .arith .leq (.t 15) (.k (.d (.val (.int .i64 90))))⟩),
    (12, ⟨(some 17), (some (11, false)), .pick (.t 14) (.t 16) (.k (.d (.val (.bool false))))⟩),
    (13, ⟨(some 18), none, .pick (.t 11) (.k (.d (.val (.bool true)))) (.t 17)⟩),
    (14, ⟨(some 19), none, .mv (.t 18)⟩),
    (15, ⟨(some 20), (some (19, false)), .mv (.t 0)⟩),
    (16, ⟨(some 21), (some (19, false)), .arith .geq (.t 20) (.k (.d (.val (.int .i64 48))))⟩),
    (17, ⟨(some 22), (some (19, false)), .mv (.t 21)⟩),
    (18, ⟨(some 23), (some (22, true)), .mv (.t 0)⟩),
    (19, ⟨(some 24), (some (22, true)), .arith .leq (.t 23) (.k (.d (.val (.int .i64 57))))⟩),
    (20, ⟨(some 25), (some (19, false)), .pick (.t 22) (.t 24) (.k (.d (.val (.bool false))))⟩),
    (21, ⟨(some 26), none, .pick (.t 19) (.k (.d (.val (.bool true)))) (.t 25)⟩)] (some [0, 26])) (.cond (.t 26) (.seq (.ops 1 [
    (0, ⟨(some 2), none, .mv (.k (.d (.val (.bool true))))⟩)] (some [2])) .ret) .skip)) (.seq (.ops 1 [
    (0, ⟨(some 3), none, .mv (.k (.d (.val (.string ⟨#[32, 33, 34, 35, 37, 38, 39, 44, 47, 58, 59, 60, 61, 62, 64, 95, 96, 126]⟩))))⟩)] (some [0, 3])) (.seq (.seq (.ops 1 [
    (0, ⟨(some 4), none, .mv (.k (.d (.val (.int .i64 0))))⟩)] (some [0, 3, 4])) (.block 0 (.loop (.seq (.seq (.ops 4 [
    (0, ⟨(some 27), none, .mv (.t 4)⟩),
    (1, ⟨(some 28), none, .mv (.t 3)⟩),
    (2, ⟨(some 29), none, .lenT (.t 28)⟩),
    (3, ⟨(some 30), none, .arith .lss (.t 27) (.t 29)⟩)] (some [0, 3, 4, 30])) (.cond (.t 30) .skip (.exit 0))) (.seq (.block 1 (.seq (.ops 6 [
    (0, ⟨(some 33), none, .mv (.t 3)⟩),
    (1, ⟨(some 34), none, .mv (.t 4)⟩),
    (2, ⟨(some 35), none, .idxT (.t 33) (.t 34)⟩),
    (3, ⟨(some 36), none, .conv .i64 (.t 35)⟩),
    (4, ⟨(some 37), none, .mv (.t 0)⟩),
    (5, ⟨(some 38), none, .arith .eql (.t 36) (.t 37)⟩)] (some [0, 3, 4, 38])) (.cond (.t 38) (.seq (.ops 1 [
    (0, ⟨(some 2), none, .mv (.k (.d (.val (.bool true))))⟩)] (some [2])) .ret) .skip))) (.ops 3 [
    (0, ⟨(some 31), none, .mv (.t 4)⟩),
    (1, ⟨(some 32), none, .arith .add (.t 31) (.k (.d (.val (.int .i64 1))))⟩),
    (2, ⟨(some 4), none, .mv (.t 32)⟩)] (some [0, 3, 4]))))))) (.seq (.ops 1 [
    (0, ⟨(some 2), none, .mv (.k (.d (.val (.bool false))))⟩)] (some [2])) .ret)))))
def md159 : FuncId → Option Nat × Bool
  | _ => (none, false)
def od159 : Nat → List (List Nat) × List Nat × Option (List Nat)
  | 0 => ([], [], some [0])
  | 1 => ([], [], some [0, 26])
  | 2 => ([], [], some [2])
  | 3 => ([], [], some [0, 3])
  | 4 => ([], [], some [0, 3, 4])
  | 5 => ([], [], some [0, 3, 4, 30])
  | 6 => ([], [], some [0, 3, 4])
  | 7 => ([], [], some [0, 3, 4, 38])
  | 8 => ([], [], some [2])
  | 9 => ([], [], some [2])
  | _ => ([], [], none)
theorem b159 {ags : List AV} {row : Option (List DV)} {r : AV} {row' nw : Option (List DV)} (hal : ags.length ≤ 39) (hrow : row'.isSome = true → row.isSome = true) (h : xwp Try.prog x159 (retK [.tmp 2] row.isSome r row' nw) (St.init ags row)) : Good Try.prog 159 ags row r row' nw :=
  good_of_body' (md := md159) (od := od159) Try.f159 (by kernel_rfl) (by kernel_rfl) (by kernel_rfl) (by kernel_rfl) (by kernel_rfl) hal hrow h

def x144 : XC := (.seq (.ops 1 [
    (0, ⟨(some 2), none, .mv (.k (.d (.val (.string ⟨#[]⟩))))⟩)] (some [0])) (.seq (.seq (.ops 2 [
    (0, ⟨(some 3), none, .mv (.t 0)⟩),
    (1, ⟨(some 4), none, .arith .lss (.t 3) (.k (.d (.val (.int .i64 10))))⟩)] (some [0, 4])) (.cond (.t 4) (.seq (.ops 6 [
    (0, ⟨(some 5), none, .mv (.t 0)⟩),
    (1, ⟨(some 6), none, .arith .add (.k (.d (.val (.int .i64 48)))) (.t 5)⟩),
    (2, ⟨(some 7), none, .conv .u8 (.t 6)⟩),
    (3, ⟨(some 8), none, .mkrow [(.int .u8 0)] 1 1 [(0, 1, (.t 7))]⟩),
    (4, ⟨(some 9), none, .strB (.t 8)⟩),
    (5, ⟨(some 2), none, .mv (.t 9)⟩)] (some [2])) .ret) .skip)) (.seq (.ops 8 [
    (0, ⟨(some 10), none, .mv (.t 0)⟩),
    (1, ⟨(some 11), none, .arith .quo (.t 10) (.k (.d (.val (.int .i64 10))))⟩),
    (2, ⟨(some 12), none, .call 144 [(.t 11)] none false⟩),
    (3, ⟨(some 13), none, .mv (.t 0)⟩),
    (4, ⟨(some 14), none, .arith .rem (.t 13) (.k (.d (.val (.int .i64 10))))⟩),
    (5, ⟨(some 15), none, .call 144 [(.t 14)] none false⟩),
    (6, ⟨(some 16), none, .arith .add (.t 12) (.t 15)⟩),
    (7, ⟨(some 2), none, .mv (.t 16)⟩)] (some [2])) .ret)))
def md144 : FuncId → Option Nat × Bool
  | _ => (none, false)
def od144 : Nat → List (List Nat) × List Nat × Option (List Nat)
  | 0 => ([], [], some [0])
  | 1 => ([], [], some [0, 4])
  | 2 => ([], [], some [2])
  | 3 => ([], [], some [2])
  | _ => ([], [], none)
theorem b144 {ags : List AV} {row : Option (List DV)} {r : AV} {row' nw : Option (List DV)} (hal : ags.length ≤ 17) (hrow : row'.isSome = true → row.isSome = true) (h : xwp Try.prog x144 (retK [.tmp 2] row.isSome r row' nw) (St.init ags row)) : Good Try.prog 144 ags row r row' nw :=
  good_of_body' (md := md144) (od := od144) Try.f144 (by kernel_rfl) (by kernel_rfl) (by kernel_rfl) (by kernel_rfl) (by kernel_rfl) hal hrow h

def x102 : XC := (.seq (.ops 1 [
    (0, ⟨(some 4), none, .mv (.k (.d (.val (.string ⟨#[]⟩))))⟩)] (some [0, 1])) (.seq (.seq (.ops 6 [
    (0, ⟨(some 6), none, .mv (.t 0)⟩),
    (1, ⟨(some 7), none, .arith .eql (.t 6) (.k (.d (.val (.int .i64 0))))⟩),
    (2, ⟨(some 8), none, .mv (.t 7)⟩),
    (3, ⟨(some 9), (some (8, true)), .mv (.t 1)⟩),
    (4, ⟨(some 10), (some (8, true)), .arith .eql (.t 9) (.k (.d (.val (.int .i64 (-1)))))⟩),
    (5, ⟨(some 11), none, .pick (.t 8) (.t 10) (.k (.d (.val (.bool false))))⟩)] (some [0, 1, 11])) (.cond (.t 11) (.seq (.ops 1 [
    (0, ⟨(some 4), none, .mv (.k (.d (.val (.string ⟨#[42]⟩))))⟩)] (some [4])) .ret) .skip)) (.seq (.seq (.ops 6 [
    (0, ⟨(some 12), none, .mv (.t 0)⟩),
    (1, ⟨(some 13), none, .arith .eql (.t 12) (.k (.d (.val (.int .i64 1))))⟩),
    (2, ⟨(some 14), none, .mv (.t 13)⟩),
    (3, ⟨(some 15), (some (14, true)), .mv (.t 1)⟩),
    (4, ⟨(some 16), (some (14, true)), .arith .eql (.t 15) (.k (.d (.val (.int .i64 (-1)))))⟩),
    (5, ⟨(some 17), none, .pick (.t 14) (.t 16) (.k (.d (.val (.bool false))))⟩)] (some [0, 1, 17])) (.cond (.t 17) (.seq (.ops 1 [
    (0, ⟨(some 4), none, .mv (.k (.d (.val (.string ⟨#[43]⟩))))⟩)] (some [4])) .ret) .skip)) (.seq (.seq (.ops 6 [
    (0, ⟨(some 18), none, .mv (.t 0)⟩),
    (1, ⟨(some 19), none, .arith .eql (.t 18) (.k (.d (.val (.int .i64 0))))⟩),
    (2, ⟨(some 20), none, .mv (.t 19)⟩),
    (3, ⟨(some 21), (some (20, true)), .mv (.t 1)⟩),
    (4, ⟨(some 22), (some (20, true)), .arith .eql (.t 21) (.k (.d (.val (.int .i64 1))))⟩),
    (5, ⟨(some 23), none, .pick (.t 20) (.t 22) (.k (.d (.val (.bool false))))⟩)] (some [0, 1, 23])) (.cond (.t 23) (.seq (.ops 1 [
    (0, ⟨(some 4), none, .mv (.k (.d (.val (.string ⟨#[63]⟩))))⟩)] (some [4])) .ret) .skip)) (.seq (.ops 4 [
    (0, ⟨(some 24), none, .mv (.t 0)⟩),
    (1, ⟨(some 25), none, .call 144 [(.t 24)] none false⟩),
    (2, ⟨(some 26), none, .arith .add (.k (.d (.val (.string ⟨#[123]⟩)))) (.t 25)⟩),
    (3, ⟨(some 5), none, .mv (.t 26)⟩)] (some [0, 1, 5])) (.seq (.seq (.ops 2 [
    (0, ⟨(some 27), none, .mv (.t 1)⟩),
    (1, ⟨(some 28), none, .arith .eql (.t 27) (.k (.d (.val (.int .i64 (-1)))))⟩)] (some [0, 1, 5, 28])) (.cond (.t 28) (.seq (.ops 3 [
    (0, ⟨(some 29), none, .mv (.t 5)⟩),
    (1, ⟨(some 30), none, .arith .add (.t 29) (.k (.d (.val (.string ⟨#[44, 125]⟩))))⟩),
    (2, ⟨(some 4), none, .mv (.t 30)⟩)] (some [4])) .ret) .skip)) (.seq (.seq (.ops 3 [
    (0, ⟨(some 31), none, .mv (.t 1)⟩),
    (1, ⟨(some 32), none, .mv (.t 0)⟩),
    (2, ⟨(some 33), none, .arith .gtr (.t 31) (.t 32)⟩)] (some [1, 5, 33])) (.cond (.t 33) (.ops 6 [
    (0, ⟨(some 34), none, .mv (.t 5)⟩),
    (1, ⟨(some 35), none, .mv (.t 1)⟩),
    (2, ⟨(some 36), none, .call 144 [(.t 35)] none false⟩),
    (3, ⟨(some 37), none, .arith .add (.k (.d (.val (.string ⟨#[44]⟩)))) (.t 36)⟩),
    (4, ⟨(some 38), none, .arith .add (.t 34) (.t 37)⟩),
    (5, ⟨(some 5), none, .mv (.t 38)⟩)] (some [5])) .skip)) (.seq (.ops 3 [
    (0, ⟨(some 39), none, .mv (.t 5)⟩),
    (1, ⟨(some 40), none, .arith .add (.t 39) (.k (.d (.val (.string ⟨#[125]⟩))))⟩),
    (2, ⟨(some 4), none, .mv (.t 40)⟩)] (some [4])) .ret))))))))
def md102 : FuncId → Option Nat × Bool
  | _ => (none, false)
def od102 : Nat → List (List Nat) × List Nat × Option (List Nat)
  | 0 => ([], [], some [0, 1])
  | 1 => ([], [], some [0, 1, 11])
  | 2 => ([], [], some [4])
  | 3 => ([], [], some [0, 1, 17])
  | 4 => ([], [], some [4])
  | 5 => ([], [], some [0, 1, 23])
  | 6 => ([], [], some [4])
  | 7 => ([], [], some [0, 1, 5])
  | 8 => ([], [], some [0, 1, 5, 28])
  | 9 => ([], [], some [4])
  | 10 => ([], [], some [1, 5, 33])
  | 11 => ([], [], some [5])
  | 12 => ([], [], some [4])
  | _ => ([], [], none)
theorem b102 {ags : List AV} {row : Option (List DV)} {r : AV} {row' nw : Option (List DV)} (hal : ags.length ≤ 41) (hrow : row'.isSome = true → row.isSome = true) (h : xwp Try.prog x102 (retK [.tmp 4] row.isSome r row' nw) (St.init ags row)) : Good Try.prog 102 ags row r row' nw :=
  good_of_body' (md := md102) (od := od102) Try.f102 (by kernel_rfl) (by kernel_rfl) (by kernel_rfl) (by kernel_rfl) (by kernel_rfl) hal hrow h

def tabE : Tab
  | 141 => some ⟨x141, [.tmp 2], 26, false, 8⟩
  | 159 => some ⟨x159, [.tmp 2], 39, false, 8⟩
  | 144 => some ⟨x144, [.tmp 2], 17, false, 8⟩
  | 102 => some ⟨x102, [.tmp 4], 41, false, 8⟩
  | _ => none
theorem tabE_ok : TabOK Try.prog tabE := by
  intro f t h ags row r row' nw hal hrow hx
  unfold tabE at h
  split at h
  · cases h; exact b141 hal hrow hx
  · cases h; exact b159 hal hrow hx
  · cases h; exact b144 hal hrow hx
  · cases h; exact b102 hal hrow hx
  · cases h

def strOf : Option (AV × Option (List DV) × Option (List DV)) → Option ByteArray
  | some (.d (.val (.string s)), none, none) => some s
  | _ => none
theorem strOf_eq {o : Option (AV × Option (List DV) × Option (List DV))} {s : ByteArray} (h : strOf o = some s) : o = some (.d (.val (.string s)), none, none) := by
  unfold strOf at h
  split at h
  · cases h; rfl
  · cases h
def isStr : Option (AV × Option (List DV) × Option (List DV)) → Bool
  | some (.d (.val (.string s)), none, none) => Nat.ble s.size 16
  | _ => false
theorem strOf_is {o : Option (AV × Option (List DV) × Option (List DV))} (h : isStr o = true) : ∃ s, strOf o = some s ∧ s.size ≤ 16 := by
  unfold isStr at h
  split at h
  · exact ⟨_, rfl, Nat.le_of_ble_eq_true h⟩
  · cases h
def escO (x : Nat) : Option (AV × Option (List DV) × Option (List DV)) := evF tabE (spP 100) 100 40 141 [.i x] none
def timO (x : Nat) (y : Int) : Option (AV × Option (List DV) × Option (List DV)) := evF tabE (spP 100) 100 40 102 [.i x, .i y] none
theorem esc_ev0 : (List.range 8).all (fun x => isStr (escO (0 + x))) = true := by kernel_rfl
theorem esc_ev1 : (List.range 8).all (fun x => isStr (escO (8 + x))) = true := by kernel_rfl
theorem esc_ev2 : (List.range 8).all (fun x => isStr (escO (16 + x))) = true := by kernel_rfl
theorem esc_ev3 : (List.range 8).all (fun x => isStr (escO (24 + x))) = true := by kernel_rfl
theorem esc_ev4 : (List.range 8).all (fun x => isStr (escO (32 + x))) = true := by kernel_rfl
theorem esc_ev5 : (List.range 8).all (fun x => isStr (escO (40 + x))) = true := by kernel_rfl
theorem esc_ev6 : (List.range 8).all (fun x => isStr (escO (48 + x))) = true := by kernel_rfl
theorem esc_ev7 : (List.range 8).all (fun x => isStr (escO (56 + x))) = true := by kernel_rfl
theorem esc_ev8 : (List.range 8).all (fun x => isStr (escO (64 + x))) = true := by kernel_rfl
theorem esc_ev9 : (List.range 8).all (fun x => isStr (escO (72 + x))) = true := by kernel_rfl
theorem esc_ev10 : (List.range 8).all (fun x => isStr (escO (80 + x))) = true := by kernel_rfl
theorem esc_ev11 : (List.range 8).all (fun x => isStr (escO (88 + x))) = true := by kernel_rfl
theorem esc_ev12 : (List.range 8).all (fun x => isStr (escO (96 + x))) = true := by kernel_rfl
theorem esc_ev13 : (List.range 8).all (fun x => isStr (escO (104 + x))) = true := by kernel_rfl
theorem esc_ev14 : (List.range 8).all (fun x => isStr (escO (112 + x))) = true := by kernel_rfl
theorem esc_ev15 : (List.range 8).all (fun x => isStr (escO (120 + x))) = true := by kernel_rfl
theorem esc_ev16 : (List.range 8).all (fun x => isStr (escO (128 + x))) = true := by kernel_rfl
theorem esc_ev17 : (List.range 8).all (fun x => isStr (escO (136 + x))) = true := by kernel_rfl
theorem esc_ev18 : (List.range 8).all (fun x => isStr (escO (144 + x))) = true := by kernel_rfl
theorem esc_ev19 : (List.range 8).all (fun x => isStr (escO (152 + x))) = true := by kernel_rfl
theorem esc_ev20 : (List.range 8).all (fun x => isStr (escO (160 + x))) = true := by kernel_rfl
theorem esc_ev21 : (List.range 8).all (fun x => isStr (escO (168 + x))) = true := by kernel_rfl
theorem esc_ev22 : (List.range 8).all (fun x => isStr (escO (176 + x))) = true := by kernel_rfl
theorem esc_ev23 : (List.range 8).all (fun x => isStr (escO (184 + x))) = true := by kernel_rfl
theorem esc_ev24 : (List.range 8).all (fun x => isStr (escO (192 + x))) = true := by kernel_rfl
theorem esc_ev25 : (List.range 8).all (fun x => isStr (escO (200 + x))) = true := by kernel_rfl
theorem esc_ev26 : (List.range 8).all (fun x => isStr (escO (208 + x))) = true := by kernel_rfl
theorem esc_ev27 : (List.range 8).all (fun x => isStr (escO (216 + x))) = true := by kernel_rfl
theorem esc_ev28 : (List.range 8).all (fun x => isStr (escO (224 + x))) = true := by kernel_rfl
theorem esc_ev29 : (List.range 8).all (fun x => isStr (escO (232 + x))) = true := by kernel_rfl
theorem esc_ev30 : (List.range 8).all (fun x => isStr (escO (240 + x))) = true := by kernel_rfl
theorem esc_ev31 : (List.range 8).all (fun x => isStr (escO (248 + x))) = true := by kernel_rfl
theorem tim_ev0 : (List.range 22).all (fun y => isStr (timO 0 ((y : Int) - 1))) = true := by kernel_rfl
theorem tim_ev1 : (List.range 22).all (fun y => isStr (timO 1 ((y : Int) - 1))) = true := by kernel_rfl
theorem tim_ev2 : (List.range 22).all (fun y => isStr (timO 2 ((y : Int) - 1))) = true := by kernel_rfl
theorem tim_ev3 : (List.range 22).all (fun y => isStr (timO 3 ((y : Int) - 1))) = true := by kernel_rfl
theorem tim_ev4 : (List.range 22).all (fun y => isStr (timO 4 ((y : Int) - 1))) = true := by kernel_rfl
theorem tim_ev5 : (List.range 22).all (fun y => isStr (timO 5 ((y : Int) - 1))) = true := by kernel_rfl
theorem tim_ev6 : (List.range 22).all (fun y => isStr (timO 6 ((y : Int) - 1))) = true := by kernel_rfl
theorem tim_ev7 : (List.range 22).all (fun y => isStr (timO 7 ((y : Int) - 1))) = true := by kernel_rfl
theorem tim_ev8 : (List.range 22).all (fun y => isStr (timO 8 ((y : Int) - 1))) = true := by kernel_rfl
theorem tim_ev9 : (List.range 22).all (fun y => isStr (timO 9 ((y : Int) - 1))) = true := by kernel_rfl
theorem tim_ev10 : (List.range 22).all (fun y => isStr (timO 10 ((y : Int) - 1))) = true := by kernel_rfl
theorem tim_ev11 : (List.range 22).all (fun y => isStr (timO 11 ((y : Int) - 1))) = true := by kernel_rfl
theorem tim_ev12 : (List.range 22).all (fun y => isStr (timO 12 ((y : Int) - 1))) = true := by kernel_rfl
theorem tim_ev13 : (List.range 22).all (fun y => isStr (timO 13 ((y : Int) - 1))) = true := by kernel_rfl
theorem tim_ev14 : (List.range 22).all (fun y => isStr (timO 14 ((y : Int) - 1))) = true := by kernel_rfl
theorem tim_ev15 : (List.range 22).all (fun y => isStr (timO 15 ((y : Int) - 1))) = true := by kernel_rfl
theorem tim_ev16 : (List.range 22).all (fun y => isStr (timO 16 ((y : Int) - 1))) = true := by kernel_rfl
theorem tim_ev17 : (List.range 22).all (fun y => isStr (timO 17 ((y : Int) - 1))) = true := by kernel_rfl
theorem tim_ev18 : (List.range 22).all (fun y => isStr (timO 18 ((y : Int) - 1))) = true := by kernel_rfl
theorem tim_ev19 : (List.range 22).all (fun y => isStr (timO 19 ((y : Int) - 1))) = true := by kernel_rfl
theorem tim_ev20 : (List.range 22).all (fun y => isStr (timO 20 ((y : Int) - 1))) = true := by kernel_rfl
theorem esc_ev : ∀ x, x < 256 → isStr (escO x) = true := by
  have key : ∀ (b x : Nat), (List.range 8).all (fun x => isStr (escO (b + x))) = true → b ≤ x → x < b + 8 → isStr (escO x) = true := by
    intro b x h h1 h2
    have := List.all_eq_true.mp h (x - b) (by simp; omega)
    rwa [show b + (x - b) = x by omega] at this
  intro x hx
  by_cases h0 : x < 8
  · exact key _ _ esc_ev0 (by omega) (by omega)
  by_cases h1 : x < 16
  · exact key _ _ esc_ev1 (by omega) (by omega)
  by_cases h2 : x < 24
  · exact key _ _ esc_ev2 (by omega) (by omega)
  by_cases h3 : x < 32
  · exact key _ _ esc_ev3 (by omega) (by omega)
  by_cases h4 : x < 40
  · exact key _ _ esc_ev4 (by omega) (by omega)
  by_cases h5 : x < 48
  · exact key _ _ esc_ev5 (by omega) (by omega)
  by_cases h6 : x < 56
  · exact key _ _ esc_ev6 (by omega) (by omega)
  by_cases h7 : x < 64
  · exact key _ _ esc_ev7 (by omega) (by omega)
  by_cases h8 : x < 72
  · exact key _ _ esc_ev8 (by omega) (by omega)
  by_cases h9 : x < 80
  · exact key _ _ esc_ev9 (by omega) (by omega)
  by_cases h10 : x < 88
  · exact key _ _ esc_ev10 (by omega) (by omega)
  by_cases h11 : x < 96
  · exact key _ _ esc_ev11 (by omega) (by omega)
  by_cases h12 : x < 104
  · exact key _ _ esc_ev12 (by omega) (by omega)
  by_cases h13 : x < 112
  · exact key _ _ esc_ev13 (by omega) (by omega)
  by_cases h14 : x < 120
  · exact key _ _ esc_ev14 (by omega) (by omega)
  by_cases h15 : x < 128
  · exact key _ _ esc_ev15 (by omega) (by omega)
  by_cases h16 : x < 136
  · exact key _ _ esc_ev16 (by omega) (by omega)
  by_cases h17 : x < 144
  · exact key _ _ esc_ev17 (by omega) (by omega)
  by_cases h18 : x < 152
  · exact key _ _ esc_ev18 (by omega) (by omega)
  by_cases h19 : x < 160
  · exact key _ _ esc_ev19 (by omega) (by omega)
  by_cases h20 : x < 168
  · exact key _ _ esc_ev20 (by omega) (by omega)
  by_cases h21 : x < 176
  · exact key _ _ esc_ev21 (by omega) (by omega)
  by_cases h22 : x < 184
  · exact key _ _ esc_ev22 (by omega) (by omega)
  by_cases h23 : x < 192
  · exact key _ _ esc_ev23 (by omega) (by omega)
  by_cases h24 : x < 200
  · exact key _ _ esc_ev24 (by omega) (by omega)
  by_cases h25 : x < 208
  · exact key _ _ esc_ev25 (by omega) (by omega)
  by_cases h26 : x < 216
  · exact key _ _ esc_ev26 (by omega) (by omega)
  by_cases h27 : x < 224
  · exact key _ _ esc_ev27 (by omega) (by omega)
  by_cases h28 : x < 232
  · exact key _ _ esc_ev28 (by omega) (by omega)
  by_cases h29 : x < 240
  · exact key _ _ esc_ev29 (by omega) (by omega)
  by_cases h30 : x < 248
  · exact key _ _ esc_ev30 (by omega) (by omega)
  by_cases h31 : x < 256
  · exact key _ _ esc_ev31 (by omega) (by omega)
  omega
theorem tim_ev : ∀ x, x ≤ 20 → (List.range 22).all (fun y => isStr (timO x ((y : Int) - 1))) = true := by
  intro x hx
  have : x = 0 ∨ x = 1 ∨ x = 2 ∨ x = 3 ∨ x = 4 ∨ x = 5 ∨ x = 6 ∨ x = 7 ∨ x = 8 ∨ x = 9 ∨ x = 10 ∨ x = 11 ∨ x = 12 ∨ x = 13 ∨ x = 14 ∨ x = 15 ∨ x = 16 ∨ x = 17 ∨ x = 18 ∨ x = 19 ∨ x = 20 := by omega
  rcases this with rfl | rfl | rfl | rfl | rfl | rfl | rfl | rfl | rfl | rfl | rfl | rfl | rfl | rfl | rfl | rfl | rfl | rfl | rfl | rfl | rfl
  · exact tim_ev0
  · exact tim_ev1
  · exact tim_ev2
  · exact tim_ev3
  · exact tim_ev4
  · exact tim_ev5
  · exact tim_ev6
  · exact tim_ev7
  · exact tim_ev8
  · exact tim_ev9
  · exact tim_ev10
  · exact tim_ev11
  · exact tim_ev12
  · exact tim_ev13
  · exact tim_ev14
  · exact tim_ev15
  · exact tim_ev16
  · exact tim_ev17
  · exact tim_ev18
  · exact tim_ev19
  · exact tim_ev20
def escS (x : Nat) : ByteArray := (strOf (escO x)).getD ⟨#[]⟩
def timS (x : Nat) (y : Int) : ByteArray := (strOf (timO x y)).getD ⟨#[]⟩
theorem esc141 {x : Nat} (hx : x < 256) : Good Try.prog 141 [.i x] none (.d (.val (.string (escS x)))) none none := by
  obtain ⟨s, hs, _⟩ := strOf_is (esc_ev x hx)
  have e : escS x = s := by simp [escS, hs]
  rw [e]
  exact evF_sound tabE_ok (spP_ok 100) 40 141 _ none _ _ _ (strOf_eq hs)
theorem tim102 {x : Nat} {y : Int} (hx : x ≤ 20) (h1 : -1 ≤ y) (h2 : y ≤ 20) : Good Try.prog 102 [.i x, .i y] none (.d (.val (.string (timS x y)))) none none := by
  have h := List.all_eq_true.mp (tim_ev x hx) (y + 1).toNat (by simp; omega)
  have ey : (((y + 1).toNat : Nat) : Int) - 1 = y := by omega
  rw [ey] at h
  obtain ⟨s, hs, _⟩ := strOf_is h
  have e : timS x y = s := by simp [timS, hs]
  rw [e]
  exact evF_sound tabE_ok (spP_ok 100) 40 102 _ none _ _ _ (strOf_eq hs)
theorem esc_len {x : Nat} (hx : x < 256) : (escS x).size ≤ 16 := by
  obtain ⟨s, hs, h⟩ := strOf_is (esc_ev x hx)
  have e : escS x = s := by simp [escS, hs]
  rw [e]; exact h
theorem tim_len {x : Nat} {y : Int} (hx : x ≤ 20) (h1 : -1 ≤ y) (h2 : y ≤ 20) : (timS x y).size ≤ 16 := by
  have h := List.all_eq_true.mp (tim_ev x hx) (y + 1).toNat (by simp; omega)
  have ey : (((y + 1).toNat : Nat) : Int) - 1 = y := by omega
  rw [ey] at h
  obtain ⟨s, hs, hl⟩ := strOf_is h
  have e : timS x y = s := by simp [timS, hs]
  rw [e]; exact hl
end Go.Sv
namespace Go.Sv
open Go Go.Proofs
def x160 : XC := (.seq (.ops 2 [
    (0, ⟨(some 1), none, .box (.t 0)⟩),
    (1, ⟨(some 2), none, .mv (.k (.d (.val (.slice none 0 0))))⟩)] (some [1])) (.seq (.ops 1 [
    (0, ⟨(some 3), none, .mv (.k (.d (.val (.slice none 0 0))))⟩)] (some [1, 3])) (.seq (.seq (.ops 1 [
    (0, ⟨(some 4), none, .mv (.k (.d (.val (.int .i64 0))))⟩)] (some [1, 3, 4])) (.block 0 (.loop (.seq (.seq (.ops 2 [
    (0, ⟨(some 5), none, .mv (.t 4)⟩),
    (1, ⟨(some 6), none, .arith .lss (.t 5) (.k (.d (.val (.int .i64 256))))⟩)] (some [1, 3, 4, 6])) (.cond (.t 6) .skip (.exit 0))) (.seq (.block 1 (.seq (.seq (.ops 4 [
    (0, ⟨(some 9), none, .load (some 4) (.t 1)⟩),
    (1, ⟨(some 10), none, .mv (.t 4)⟩),
    (2, ⟨(some 11), none, .call 124 [(.t 9), (.t 10)] none false⟩),
    (3, ⟨(some 12), none, .un .not (.t 11)⟩)] (some [1, 3, 4, 12])) (.cond (.t 12) (.exit 1) .skip)) (.seq (.ops 8 [
    (0, ⟨(some 13), none, .mv (.t 4)⟩),
    (1, ⟨(some 14), none, .arith .gtr (.t 13) (.k (.d (.val (.int .i64 0))))⟩),
    (2, ⟨(some 15), none, .mv (.t 14)⟩),
    (3, ⟨(some 16), (some (15, true)), .load (some 4) (.t 1)⟩),
    (4, ⟨(some 17), (some (15, true)), .mv (.t 4)⟩),
    (5, ⟨(some 18), (some (15, true)), .arith .sub (.t 17) (.k (.d (.val (.int .i64 1))))⟩),
    (6, ⟨(some 19), (some (15, true)), .call 124 [(.t 16), (.t 18)] none false⟩),
    (7, ⟨(some 20), none, .pick (.t 15) (.t 19) (.k (.d (.val (.bool false))))⟩)] (some [1, 3, 4, 20])) (.cond (.t 20) (.ops 9 [
    (0, ⟨(some 21), none, .mv (.t 3)⟩),
    (1, ⟨(some 22), none, .mv (.t 3)⟩),
    (2, ⟨(some 23), none, .lenS (.t 22)⟩),
    (3, ⟨(some 24), none, .arith .sub (.t 23) (.k (.d (.val (.int .i64 1))))⟩),
    (4, ⟨(some 25), none, .mv (.t 4)⟩),
    (5, ⟨(some 26), none, .conv .u8 (.t 25)⟩),
    (6, ⟨(some 27), none, .idxS 2 (.t 21) (.t 24)⟩),
    (7, ⟨(some 28), none, .idxP 2 1 (.t 27) (.k (.d (.val (.int .i64 1))))⟩),
    (8, ⟨none, none, .store 1 (.t 28) (.t 26)⟩)] (some [1, 3, 4])) (.ops 9 [
    (0, ⟨(some 29), none, .mv (.t 3)⟩),
    (1, ⟨(some 30), none, .mv (.t 4)⟩),
    (2, ⟨(some 31), none, .conv .u8 (.t 30)⟩),
    (3, ⟨(some 32), none, .mv (.t 4)⟩),
    (4, ⟨(some 33), none, .conv .u8 (.t 32)⟩),
    (5, ⟨(some 34), none, .build [(.int .u8 0), (.int .u8 0)] [(0, 1, (.t 31)), (1, 1, (.t 33))]⟩),
    (6, ⟨(some 35), none, .mkrow [(.int .u8 0), (.int .u8 0)] 1 2 [(0, 2, (.t 34))]⟩),
    (7, ⟨(some 36), none, .app [(.int .u8 0), (.int .u8 0)] 2 (.t 29) (.t 35)⟩),
    (8, ⟨(some 3), none, .mv (.t 36)⟩)] (some [1, 3, 4])))))) (.ops 3 [
    (0, ⟨(some 7), none, .mv (.t 4)⟩),
    (1, ⟨(some 8), none, .arith .add (.t 7) (.k (.d (.val (.int .i64 1))))⟩),
    (2, ⟨(some 4), none, .mv (.t 8)⟩)] (some [1, 3, 4]))))))) (.seq (.ops 2 [
    (0, ⟨(some 37), none, .mv (.t 3)⟩),
    (1, ⟨(some 2), none, .mv (.t 37)⟩)] (some [2])) .ret))))
def md160 : FuncId → Option Nat × Bool
  | _ => (none, false)
def od160 : Nat → List (List Nat) × List Nat × Option (List Nat)
  | 0 => ([], [], some [1])
  | 1 => ([], [], some [1, 3])
  | 2 => ([], [], some [1, 3, 4])
  | 3 => ([], [], some [1, 3, 4, 6])
  | 4 => ([], [], some [1, 3, 4])
  | 5 => ([], [], some [1, 3, 4, 12])
  | 6 => ([], [], some [1, 3, 4, 20])
  | 7 => ([], [], some [1, 3, 4])
  | 8 => ([], [], some [1, 3, 4])
  | 9 => ([], [], some [2])
  | _ => ([], [], none)
theorem b160 {ags : List AV} {row : Option (List DV)} {r : AV} {row' nw : Option (List DV)} (hal : ags.length ≤ 38) (hrow : row'.isSome = true → row.isSome = true) (h : xwp Try.prog x160 (retK [.tmp 2] row.isSome r row' nw) (St.init ags row)) : Good Try.prog 160 ags row r row' nw :=
  good_of_body' (md := md160) (od := od160) Try.f160 (by kernel_rfl) (by kernel_rfl) (by kernel_rfl) (by kernel_rfl) (by kernel_rfl) hal hrow h

def x142 : XC := (.seq (.ops 2 [
    (0, ⟨(some 1), none, .box (.t 0)⟩),
    (1, ⟨(some 2), none, .mv (.k (.d (.val (.string ⟨#[]⟩))))⟩)] (some [1])) (.seq (.ops 1 [
    (0, ⟨(some 3), none, .mv (.k (.d (.val (.string ⟨#[]⟩))))⟩)] (some [1, 3])) (.seq (.ops 3 [
    (0, ⟨(some 8), none, .load (some 4) (.t 1)⟩),
    (1, ⟨(some 9), none, .call 160 [(.t 8)] none false⟩),
    (2, ⟨(some 4), none, .mv (.t 9)⟩)] (some [3, 4])) (.seq (.seq (.ops 1 [
    (0, ⟨(some 5), none, .mv (.k (.d (.val (.int .i64 0))))⟩)] (some [3, 4, 5])) (.block 0 (.loop (.seq (.seq (.ops 4 [
    (0, ⟨(some 10), none, .mv (.t 5)⟩),
    (1, ⟨(some 11), none, .mv (.t 4)⟩),
    (2, ⟨(some 12), none, .lenS (.t 11)⟩),
    (3, ⟨(some 13), none, .arith .lss (.t 10) (.t 12)⟩)] (some [3, 4, 5, 13])) (.cond (.t 13) .skip (.exit 0))) (.seq (.block 1 (.seq (.ops 14 [
    (0, ⟨(some 16), none, .mv (.t 4)⟩),
    (1, ⟨(some 17), none, .mv (.t 5)⟩),
    (2, ⟨(some 18), none, .idxS 2 (.t 16) (.t 17)⟩),
    (3, ⟨(some 19), none, .idxP 2 1 (.t 18) (.k (.d (.val (.int .i64 0))))⟩),
    (4, ⟨(some 20), none, .load none (.t 19)⟩),
    (5, ⟨(some 21), none, .conv .i64 (.t 20)⟩),
    (6, ⟨(some 22), none, .mv (.t 4)⟩),
    (7, ⟨(some 23), none, .mv (.t 5)⟩),
    (8, ⟨(some 24), none, .idxS 2 (.t 22) (.t 23)⟩),
    (9, ⟨(some 25), none, .idxP 2 1 (.t 24) (.k (.d (.val (.int .i64 1))))⟩),
    (10, ⟨(some 26), none, .load none (.t 25)⟩),
    (11, ⟨(some 27), none, .conv .i64 (.t 26)⟩),
    (12, ⟨(some 6), none, .mv (.t 21)⟩),
    (13, ⟨(some 7), none, .mv (.t 27)⟩)] (some [3, 4, 5, 6, 7])) (.seq (.ops 5 [
    (0, ⟨(some 28), none, .mv (.t 3)⟩),
    (1, ⟨(some 29), none, .mv (.t 6)⟩),
    (2, ⟨(some 30), none, .call 141 [(.t 29)] none false⟩),
    (3, ⟨(some 31), none, .arith .add (.t 28) (.t 30)⟩),
    (4, ⟨(some 3), none, .mv (.t 31)⟩)] (some [3, 4, 5, 6, 7])) (.seq (.seq (.ops 4 [
    (0, ⟨(some 32), none, .mv (.t 7)⟩),
    (1, ⟨(some 33), none, .mv (.t 6)⟩),
    (2, ⟨(some 34), none, .arith .add (.t 33) (.k (.d (.val (.int .i64 1))))⟩),
    (3, ⟨(some 35), none, .arith .gtr (.t 32) (.t 34)⟩)] (some [3, 4, 5, 6, 7, 35])) (.cond (.t 35) (.ops 3 [
    (0, ⟨(some 36), none, .mv (.t 3)⟩),
    (1, ⟨(some 37), none, .arith .add (.t 36) (.k (.d (.val (.string ⟨#[45]⟩))))⟩),
    (2, ⟨(some 3), none, .mv (.t 37)⟩)] (some [3, 4, 5, 6, 7])) .skip)) (.seq (.ops 3 [
    (0, ⟨(some 38), none, .mv (.t 7)⟩),
    (1, ⟨(some 39), none, .mv (.t 6)⟩),
    (2, ⟨(some 40), none, .arith .gtr (.t 38) (.t 39)⟩)] (some [3, 4, 5, 7, 40])) (.cond (.t 40) (.ops 5 [
    (0, ⟨(some 41), none, .mv (.t 3)⟩),
    (1, ⟨(some 42), none, .mv (.t 7)⟩),
    (2, ⟨(some 43), none, .call 141 [(.t 42)] none false⟩),
    (3, ⟨(some 44), none, .arith .add (.t 41) (.t 43)⟩),
    (4, ⟨(some 3), none, .mv (.t 44)⟩)] (some [3, 4, 5])) .skip)))))) (.ops 3 [
    (0, ⟨(some 14), none, .mv (.t 5)⟩),
    (1, ⟨(some 15), none, .arith .add (.t 14) (.k (.d (.val (.int .i64 1))))⟩),
    (2, ⟨(some 5), none, .mv (.t 15)⟩)] (some [3, 4, 5]))))))) (.seq (.ops 2 [
    (0, ⟨(some 45), none, .mv (.t 3)⟩),
    (1, ⟨(some 2), none, .mv (.t 45)⟩)] (some [2])) .ret)))))
def md142 : FuncId → Option Nat × Bool
  | _ => (none, false)
def od142 : Nat → List (List Nat) × List Nat × Option (List Nat)
  | 0 => ([], [], some [1])
  | 1 => ([], [], some [1, 3])
  | 2 => ([], [], some [3, 4])
  | 3 => ([], [], some [3, 4, 5])
  | 4 => ([], [], some [3, 4, 5, 13])
  | 5 => ([], [], some [3, 4, 5])
  | 6 => ([[], [], [0, 1], [0, 1, 2], [0, 1, 2, 3], [0, 1, 2, 3, 4], [], [], [6, 7], [6, 7, 8], [6, 7, 8, 9], [6, 7, 8, 9, 10], [0, 1, 2, 3, 4, 5], [0, 1, 2, 3, 4, 5, 6, 7, 8, 9, 10, 11, 12]], [0, 1, 2, 3, 4, 5, 6, 7, 8, 9, 10, 11, 12, 13], some [3, 4, 5, 6, 7])
  | 7 => ([], [], some [3, 4, 5, 6, 7])
  | 8 => ([], [], some [3, 4, 5, 6, 7, 35])
  | 9 => ([], [], some [3, 4, 5, 6, 7])
  | 10 => ([], [], some [3, 4, 5, 7, 40])
  | 11 => ([], [], some [3, 4, 5])
  | 12 => ([], [], some [2])
  | _ => ([], [], none)
theorem b142 {ags : List AV} {row : Option (List DV)} {r : AV} {row' nw : Option (List DV)} (hal : ags.length ≤ 46) (hrow : row'.isSome = true → row.isSome = true) (h : xwp Try.prog x142 (retK [.tmp 2] row.isSome r row' nw) (St.init ags row)) : Good Try.prog 142 ags row r row' nw :=
  good_of_body' (md := md142) (od := od142) Try.f142 (by kernel_rfl) (by kernel_rfl) (by kernel_rfl) (by kernel_rfl) (by kernel_rfl) hal hrow h

def rngTo (g : Nat → Bool) : Nat → List (Nat × Nat)
  | 0 => []
  | m + 1 => if g m = true then (if m ≠ 0 ∧ g (m - 1) = true then (rngTo g m).set ((rngTo g m).length - 1) (((rngTo g m).getD ((rngTo g m).length - 1) (0, 0)).1, m) else rngTo g m ++ [(m, m)]) else rngTo g m
theorem rng_len (g : Nat → Bool) : ∀ m, (rngTo g m).length ≤ m
  | 0 => by simp [rngTo]
  | m + 1 => by
    have := rng_len g m
    rw [rngTo]
    split
    · split
      · rw [List.length_set]; omega
      · rw [List.length_append]; simp; omega
    · omega
theorem rng_pos (g : Nat → Bool) {m : Nat} (h0 : m ≠ 0) (h : g (m - 1) = true) : 0 < (rngTo g m).length := by
  induction m with
  | zero => exact absurd rfl h0
  | succ m ih =>
    rw [rngTo, if_pos (by simpa using h)]
    split
    · rename_i h2
      rw [List.length_set]
      exact ih h2.1 h2.2
    · rw [List.length_append]; simp
theorem rng_lt (g : Nat → Bool) : ∀ m, ∀ p ∈ rngTo g m, p.1 < m ∧ p.2 < m
  | 0, p, h => by simp [rngTo] at h
  | m + 1, p, h => by
    have ih := rng_lt g m
    rw [rngTo] at h
    split at h
    · split at h
      · rename_i h1 h2
        have hpos := rng_pos g h2.1 h2.2
        rcases List.mem_or_eq_of_mem_set h with h | rfl
        · have := ih p h; omega
        · have hm : (rngTo g m).getD ((rngTo g m).length - 1) (0, 0) ∈ rngTo g m := by
            rw [List.getD_eq_getElem?_getD, List.getElem?_eq_getElem (by omega)]
            exact List.getElem_mem _
          have := ih _ hm
          exact ⟨by show ((rngTo g m).getD ((rngTo g m).length - 1) (0, 0)).1 < m + 1; omega, by show m < m + 1; omega⟩
      · rcases List.mem_append.1 h with h | h
        · have := ih p h; omega
        · simp at h; subst h; exact ⟨by show m < m + 1; omega, by show m < m + 1; omega⟩
    · have := ih p h; omega
set_option maxRecDepth 100000
set_option maxHeartbeats 4000000
attribute [local irreducible] W E R KP thenK blockK retK Good xwp aRun
theorem rng160_good {a b c d : Int} (ha : okW a) (hb : okW b) (hc : okW c) (hd : okW d) : Good Try.prog 160 [setA a b c d] none (.d (.sl (encP (rngTo (inG a b c d) 256)) (rngTo (inG a b c d) 256).length)) none none := by
  unfold setA
  refine b160 (by simp) (by simp) (w_init ?_)
  unfold x160
  repeat' (first
    | (apply r_mvV; rfl)
    | (apply r_mvP; rfl)
    | (apply r_mvPL; rfl)
    | (apply r_mvS; rfl)
    | (apply r_mvSL; rfl)
    | (apply r_mvA; rfl)
    | (apply r_mvT; rfl)
    | (apply r_mvF; rfl)
    | (apply r_mvD; rfl)
    | (apply r_ldL; rfl; rfl; rfl)
    | (apply r_lss; rfl; rfl; (first | (apply decide_eq_true; omega) | (apply decide_eq_false; omega) | rfl))
    | (apply r_gtr; rfl; rfl; (first | (apply decide_eq_true; omega) | (apply decide_eq_false; omega) | rfl))
    | (apply r_add; rfl; rfl; rfl; omega)
    | (apply r_sub; rfl; rfl; rfl; omega)
    | (apply r_not; rfl; rfl)
    | (apply r_pickT; rfl)
    | (apply r_pickF; rfl)
    | (apply r_lenD; rfl)
    | (apply r_lenL; rfl)
    | (apply r_len0; rfl)
    | (apply r_gT; rfl)
    | (apply r_gF'; rfl; rfl)
    | (apply r_gN'; rfl)
    | ((apply r_gS (o := default); rfl) <;> (intro h; try simp only [decide_eq_true_eq, decide_eq_false_iff_not, Bool.not_eq_true, Bool.not_eq_false] at h))
    | (apply r_box; ((conv => lhs; simp only [Nat.reduceAdd]) <;> rfl); rfl; rfl; rfl)
    | (apply r_stL; rfl; rfl; rfl; rfl; (first | rfl | (simp only [z_nil, z_add] <;> rfl)); rfl; rfl)
    | (apply r_p; rfl)
    | (apply r_nilK)
    | (apply r_nil)
    | (apply k_V; rfl)
    | (apply k_P; rfl)
    | (apply k_PL; rfl)
    | (apply k_S; rfl)
    | (apply k_SL; rfl)
    | (apply k_A; rfl)
    | (apply k_T; rfl)
    | (apply k_F; rfl)
    | (apply k_D; rfl; rotate_left; rfl)
    | (apply k_nil)
    | (apply e_ret (vs := [.d (.val _)]); rfl)
    | (apply e_ret; rfl)
    | (apply e_ret' (vs := [.d (.val _)]); rfl)
    | (apply e_ret'; rfl)
    | (apply w_seq)
    | (apply w_ops; ((conv => lhs; simp only [Nat.reduceAdd]) <;> rfl))
    | (apply w_condT; rfl)
    | (apply w_condF; rfl)
    | ((apply w_condS; rfl) <;> (intro h; try simp only [decide_eq_true_eq, decide_eq_false_iff_not, Bool.not_eq_true, Bool.not_eq_false] at h))
    | (apply e_thenN)
    | (apply w_block)
    | (apply e_thenR)
    | (apply e_thenX)
    | (apply e_blkN)
    | (apply e_blkR)
    | (apply e_blkE)
    | (apply w_exit)
    | (apply w_ret)
    | (apply w_skip)
    | (apply e_blkE'; rfl))
  apply w_loopI (S := fun i : Nat => ⟨((Fr.nil.put 1 (.ptrL 1 0)).put 3 (.slL 50 0 (rngTo (inG a b c d) i).length 2)).put 4 (.i i), rowsOf [(1, [.d (.val (.int .u64 a)), .d (.val (.int .u64 b)), .d (.val (.int .u64 c)), .d (.val (.int .u64 d))]), (50, (encP (rngTo (inG a b c d) i)).map AV.d)], Frz.buts 100 [50], 100⟩) (m := fun i => 256 - i) (I := fun i => i ≤ 256) (i0 := 0)
  · exact Nat.zero_le _
  · refine wkM [] [50] rfl ?_ ?_ rfl ?_
    · intro p hp
      simp only [List.mem_cons, List.not_mem_nil, or_false] at hp
      rcases hp with rfl | rfl
      · exact ⟨by omega, .inr ⟨rfl, _, rfl, .data rfl⟩⟩
      · exact ⟨by omega, .inl ⟨rfl, rfl⟩⟩
    · intro q hq; simp only [List.mem_cons, List.not_mem_nil, or_false] at hq; rcases hq with rfl <;> rfl
    · repeat' (first
    | exact FWk.nil
    | (apply FWk.i; rfl; (first | rfl | omega | (simp; done)))
    | (apply FWk.sl; rfl; rfl; rfl; rfl; omega; rfl)
    | (apply FWk.ptr; rfl; rfl; rfl; omega; rfl)
    | (apply FWk.d; rfl; rfl)
    | (apply FWk.a; rfl; rfl; rfl)
    | (apply FWk.slN; rfl; omega; rfl))
  intro i K hi hK
  dsimp only
  rcases Nat.lt_or_ge i 256 with hlt | hge
  · have hh := has124_good ha hb hc hd i hlt
    have hh2 : i ≠ 0 → _ := fun h0 => has124_good ha hb hc hd (i - 1) (by omega)
    unfold setA at hh hh2
    have hidx := rng_len (inG a b c d) i
    have hpos := rng_pos (inG a b c d) (m := i)
    rcases Bool.eq_false_or_eq_true (inG a b c d i) with hq | hq
    · rw [hq] at hh
      by_cases h0 : i = 0
      · have e : rngTo (inG a b c d) (i + 1) = rngTo (inG a b c d) i ++ [(i, i)] := by rw [rngTo, if_pos hq, if_neg (by simp [h0])]
        repeat' (first
    | (apply r_mvV; rfl)
    | (apply r_mvP; rfl)
    | (apply r_mvPL; rfl)
    | (apply r_mvS; rfl)
    | (apply r_mvSL; rfl)
    | (apply r_mvA; rfl)
    | (apply r_mvT; rfl)
    | (apply r_mvF; rfl)
    | (apply r_mvD; rfl)
    | (apply r_ldL (v := .agg [.d (.val (.int .u64 a)), .d (.val (.int .u64 b)), .d (.val (.int .u64 c)), .d (.val (.int .u64 d))]); rfl; rfl; rfl)
    | (apply r_callA; rfl; rfl; exact hh)
    | (apply r_cv8; rfl; omega)
    | (apply r_p (v := .agg [.d (.val (.int .u8 (i : Nat))), .d (.val (.int .u8 (i : Nat)))]); rfl)
    | (apply r_mkP; rfl; ((conv => lhs; simp only [Nat.reduceAdd]) <;> rfl))
    | (apply r_appP (K := rngTo (inG a b c d) i) (L := [(i, i)]); rfl; rfl; rfl; rfl; rfl; rfl; rfl; ((conv => lhs; simp only [Nat.reduceAdd]) <;> rfl); omega)
    | (apply r_ldL; rfl; rfl; rfl)
    | (apply r_lss; rfl; rfl; (first | (apply decide_eq_true; omega) | (apply decide_eq_false; omega) | rfl))
    | (apply r_gtr; rfl; rfl; (first | (apply decide_eq_true; omega) | (apply decide_eq_false; omega) | rfl))
    | (apply r_add; rfl; rfl; rfl; omega)
    | (apply r_sub; rfl; rfl; rfl; omega)
    | (apply r_not; rfl; rfl)
    | (apply r_pickT; rfl)
    | (apply r_pickF; rfl)
    | (apply r_lenD; rfl)
    | (apply r_lenL; rfl)
    | (apply r_len0; rfl)
    | (apply r_gT; rfl)
    | (apply r_gF'; rfl; rfl)
    | (apply r_gN'; rfl)
    | ((apply r_gS (o := default); rfl) <;> (intro h; try simp only [decide_eq_true_eq, decide_eq_false_iff_not, Bool.not_eq_true, Bool.not_eq_false] at h))
    | (apply r_box; ((conv => lhs; simp only [Nat.reduceAdd]) <;> rfl); rfl; rfl; rfl)
    | (apply r_stL; rfl; rfl; rfl; rfl; (first | rfl | (simp only [z_nil, z_add] <;> rfl)); rfl; rfl)
    | (apply r_p; rfl)
    | (apply r_nilK)
    | (apply r_nil)
    | (apply k_V; rfl)
    | (apply k_P; rfl)
    | (apply k_PL; rfl)
    | (apply k_S; rfl)
    | (apply k_SL; rfl)
    | (apply k_A; rfl)
    | (apply k_T; rfl)
    | (apply k_F; rfl)
    | (apply k_D; rfl; rotate_left; rfl)
    | (apply k_nil)
    | (apply e_ret (vs := [.d (.val _)]); rfl)
    | (apply e_ret; rfl)
    | (apply e_ret' (vs := [.d (.val _)]); rfl)
    | (apply e_ret'; rfl)
    | (apply w_seq)
    | (apply w_ops; ((conv => lhs; simp only [Nat.reduceAdd]) <;> rfl))
    | (apply w_condT; rfl)
    | (apply w_condF; rfl)
    | ((apply w_condS; rfl) <;> (intro h; try simp only [decide_eq_true_eq, decide_eq_false_iff_not, Bool.not_eq_true, Bool.not_eq_false] at h))
    | (apply e_thenN)
    | (apply w_block)
    | (apply e_thenR)
    | (apply e_thenX)
    | (apply e_blkN)
    | (apply e_blkR)
    | (apply e_blkE)
    | (apply w_exit)
    | (apply w_ret)
    | (apply w_skip)
    | (apply e_blkE'; rfl))
        apply e_thenK
        apply hK (i + 1)
        · omega
        · omega
        · rw [e]
          refine wkM [(50, 121)] [] rfl ?_ ?_ rfl ?_
          · intro p hp
            simp only [List.mem_cons, List.not_mem_nil, or_false] at hp
            rcases hp with rfl | rfl
            · exact ⟨by omega, .inr ⟨rfl, _, rfl, .data rfl⟩⟩
            · exact ⟨by omega, .inr ⟨rfl, _, rfl, .data (encP_isD _)⟩⟩
          · intro q hq; simp only [List.mem_cons, List.not_mem_nil, or_false] at hq; rcases hq with rfl <;> rfl
          · rw [List.length_append, List.length_singleton]
            repeat' (first
    | exact FWk.nil
    | (apply FWk.i; rfl; (first | rfl | omega | (simp; done)))
    | (apply FWk.sl; rfl; rfl; rfl; rfl; omega; rfl)
    | (apply FWk.ptr; rfl; rfl; rfl; omega; rfl)
    | (apply FWk.d; rfl; rfl)
    | (apply FWk.a; rfl; rfl; rfl)
    | (apply FWk.slN; rfl; omega; rfl))
      · have hh2 := hh2 h0
        rw [show (((i - 1 : Nat)) : Int) = (i : Int) - 1 by omega] at hh2
        rcases Bool.eq_false_or_eq_true (inG a b c d (i - 1)) with hq2 | hq2
        · rw [hq2] at hh2
          have hpos := hpos h0 hq2
          have e : rngTo (inG a b c d) (i + 1) = (rngTo (inG a b c d) i).set ((rngTo (inG a b c d) i).length - 1) (((rngTo (inG a b c d) i).getD ((rngTo (inG a b c d) i).length - 1) (0, 0)).1, i) := by rw [rngTo, if_pos hq, if_pos ⟨h0, hq2⟩]
          repeat' (first
    | (apply r_mvV; rfl)
    | (apply r_mvP; rfl)
    | (apply r_mvPL; rfl)
    | (apply r_mvS; rfl)
    | (apply r_mvSL; rfl)
    | (apply r_mvA; rfl)
    | (apply r_mvT; rfl)
    | (apply r_mvF; rfl)
    | (apply r_mvD; rfl)
    | (apply r_ldL (v := .agg [.d (.val (.int .u64 a)), .d (.val (.int .u64 b)), .d (.val (.int .u64 c)), .d (.val (.int .u64 d))]); rfl; rfl; rfl)
    | (apply r_callA; rfl; rfl; exact hh)
    | (apply r_callA; rfl; rfl; exact hh2)
    | (apply r_cv8; rfl; omega)
    | (apply r_ixG2 (j := (rngTo (inG a b c d) i).length - 1); rfl; rfl; omega; omega)
    | (apply r_ixPL (j := 1); rfl; rfl; omega)
    | (apply r_stP (K := rngTo (inG a b c d) i); rfl; rfl; rfl; rfl; omega)
    | (apply r_ldL; rfl; rfl; rfl)
    | (apply r_lss; rfl; rfl; (first | (apply decide_eq_true; omega) | (apply decide_eq_false; omega) | rfl))
    | (apply r_gtr; rfl; rfl; (first | (apply decide_eq_true; omega) | (apply decide_eq_false; omega) | rfl))
    | (apply r_add; rfl; rfl; rfl; omega)
    | (apply r_sub; rfl; rfl; rfl; omega)
    | (apply r_not; rfl; rfl)
    | (apply r_pickT; rfl)
    | (apply r_pickF; rfl)
    | (apply r_lenD; rfl)
    | (apply r_lenL; rfl)
    | (apply r_len0; rfl)
    | (apply r_gT; rfl)
    | (apply r_gF'; rfl; rfl)
    | (apply r_gN'; rfl)
    | ((apply r_gS (o := default); rfl) <;> (intro h; try simp only [decide_eq_true_eq, decide_eq_false_iff_not, Bool.not_eq_true, Bool.not_eq_false] at h))
    | (apply r_box; ((conv => lhs; simp only [Nat.reduceAdd]) <;> rfl); rfl; rfl; rfl)
    | (apply r_stL; rfl; rfl; rfl; rfl; (first | rfl | (simp only [z_nil, z_add] <;> rfl)); rfl; rfl)
    | (apply r_p; rfl)
    | (apply r_nilK)
    | (apply r_nil)
    | (apply k_V; rfl)
    | (apply k_P; rfl)
    | (apply k_PL; rfl)
    | (apply k_S; rfl)
    | (apply k_SL; rfl)
    | (apply k_A; rfl)
    | (apply k_T; rfl)
    | (apply k_F; rfl)
    | (apply k_D; rfl; rotate_left; rfl)
    | (apply k_nil)
    | (apply e_ret (vs := [.d (.val _)]); rfl)
    | (apply e_ret; rfl)
    | (apply e_ret' (vs := [.d (.val _)]); rfl)
    | (apply e_ret'; rfl)
    | (apply w_seq)
    | (apply w_ops; ((conv => lhs; simp only [Nat.reduceAdd]) <;> rfl))
    | (apply w_condT; rfl)
    | (apply w_condF; rfl)
    | ((apply w_condS; rfl) <;> (intro h; try simp only [decide_eq_true_eq, decide_eq_false_iff_not, Bool.not_eq_true, Bool.not_eq_false] at h))
    | (apply e_thenN)
    | (apply w_block)
    | (apply e_thenR)
    | (apply e_thenX)
    | (apply e_blkN)
    | (apply e_blkR)
    | (apply e_blkE)
    | (apply w_exit)
    | (apply w_ret)
    | (apply w_skip)
    | (apply e_blkE'; rfl))
          apply e_thenK
          apply hK (i + 1)
          · omega
          · omega
          · rw [e]
            refine wkM [] [] rfl ?_ ?_ rfl ?_
            · intro p hp
              simp only [List.mem_cons, List.not_mem_nil, or_false] at hp
              rcases hp with rfl | rfl
              · exact ⟨by omega, .inr ⟨rfl, _, rfl, .data rfl⟩⟩
              · exact ⟨by omega, .inr ⟨rfl, _, rfl, .data (encP_isD _)⟩⟩
            · intro q hq; simp only [List.mem_cons, List.not_mem_nil, or_false] at hq; rcases hq with rfl <;> rfl
            · rw [List.length_set]
              repeat' (first
    | exact FWk.nil
    | (apply FWk.i; rfl; (first | rfl | omega | (simp; done)))
    | (apply FWk.sl; rfl; rfl; rfl; rfl; omega; rfl)
    | (apply FWk.ptr; rfl; rfl; rfl; omega; rfl)
    | (apply FWk.d; rfl; rfl)
    | (apply FWk.a; rfl; rfl; rfl)
    | (apply FWk.slN; rfl; omega; rfl))
        · rw [hq2] at hh2
          have e : rngTo (inG a b c d) (i + 1) = rngTo (inG a b c d) i ++ [(i, i)] := by rw [rngTo, if_pos hq, if_neg (by simp [hq2])]
          repeat' (first
    | (apply r_mvV; rfl)
    | (apply r_mvP; rfl)
    | (apply r_mvPL; rfl)
    | (apply r_mvS; rfl)
    | (apply r_mvSL; rfl)
    | (apply r_mvA; rfl)
    | (apply r_mvT; rfl)
    | (apply r_mvF; rfl)
    | (apply r_mvD; rfl)
    | (apply r_ldL (v := .agg [.d (.val (.int .u64 a)), .d (.val (.int .u64 b)), .d (.val (.int .u64 c)), .d (.val (.int .u64 d))]); rfl; rfl; rfl)
    | (apply r_callA; rfl; rfl; exact hh)
    | (apply r_callA; rfl; rfl; exact hh2)
    | (apply r_cv8; rfl; omega)
    | (apply r_p (v := .agg [.d (.val (.int .u8 (i : Nat))), .d (.val (.int .u8 (i : Nat)))]); rfl)
    | (apply r_mkP; rfl; ((conv => lhs; simp only [Nat.reduceAdd]) <;> rfl))
    | (apply r_appP (K := rngTo (inG a b c d) i) (L := [(i, i)]); rfl; rfl; rfl; rfl; rfl; rfl; rfl; ((conv => lhs; simp only [Nat.reduceAdd]) <;> rfl); omega)
    | (apply r_ldL; rfl; rfl; rfl)
    | (apply r_lss; rfl; rfl; (first | (apply decide_eq_true; omega) | (apply decide_eq_false; omega) | rfl))
    | (apply r_gtr; rfl; rfl; (first | (apply decide_eq_true; omega) | (apply decide_eq_false; omega) | rfl))
    | (apply r_add; rfl; rfl; rfl; omega)
    | (apply r_sub; rfl; rfl; rfl; omega)
    | (apply r_not; rfl; rfl)
    | (apply r_pickT; rfl)
    | (apply r_pickF; rfl)
    | (apply r_lenD; rfl)
    | (apply r_lenL; rfl)
    | (apply r_len0; rfl)
    | (apply r_gT; rfl)
    | (apply r_gF'; rfl; rfl)
    | (apply r_gN'; rfl)
    | ((apply r_gS (o := default); rfl) <;> (intro h; try simp only [decide_eq_true_eq, decide_eq_false_iff_not, Bool.not_eq_true, Bool.not_eq_false] at h))
    | (apply r_box; ((conv => lhs; simp only [Nat.reduceAdd]) <;> rfl); rfl; rfl; rfl)
    | (apply r_stL; rfl; rfl; rfl; rfl; (first | rfl | (simp only [z_nil, z_add] <;> rfl)); rfl; rfl)
    | (apply r_p; rfl)
    | (apply r_nilK)
    | (apply r_nil)
    | (apply k_V; rfl)
    | (apply k_P; rfl)
    | (apply k_PL; rfl)
    | (apply k_S; rfl)
    | (apply k_SL; rfl)
    | (apply k_A; rfl)
    | (apply k_T; rfl)
    | (apply k_F; rfl)
    | (apply k_D; rfl; rotate_left; rfl)
    | (apply k_nil)
    | (apply e_ret (vs := [.d (.val _)]); rfl)
    | (apply e_ret; rfl)
    | (apply e_ret' (vs := [.d (.val _)]); rfl)
    | (apply e_ret'; rfl)
    | (apply w_seq)
    | (apply w_ops; ((conv => lhs; simp only [Nat.reduceAdd]) <;> rfl))
    | (apply w_condT; rfl)
    | (apply w_condF; rfl)
    | ((apply w_condS; rfl) <;> (intro h; try simp only [decide_eq_true_eq, decide_eq_false_iff_not, Bool.not_eq_true, Bool.not_eq_false] at h))
    | (apply e_thenN)
    | (apply w_block)
    | (apply e_thenR)
    | (apply e_thenX)
    | (apply e_blkN)
    | (apply e_blkR)
    | (apply e_blkE)
    | (apply w_exit)
    | (apply w_ret)
    | (apply w_skip)
    | (apply e_blkE'; rfl))
          apply e_thenK
          apply hK (i + 1)
          · omega
          · omega
          · rw [e]
            refine wkM [(50, 121)] [] rfl ?_ ?_ rfl ?_
            · intro p hp
              simp only [List.mem_cons, List.not_mem_nil, or_false] at hp
              rcases hp with rfl | rfl
              · exact ⟨by omega, .inr ⟨rfl, _, rfl, .data rfl⟩⟩
              · exact ⟨by omega, .inr ⟨rfl, _, rfl, .data (encP_isD _)⟩⟩
            · intro q hq; simp only [List.mem_cons, List.not_mem_nil, or_false] at hq; rcases hq with rfl <;> rfl
            · rw [List.length_append, List.length_singleton]
              repeat' (first
    | exact FWk.nil
    | (apply FWk.i; rfl; (first | rfl | omega | (simp; done)))
    | (apply FWk.sl; rfl; rfl; rfl; rfl; omega; rfl)
    | (apply FWk.ptr; rfl; rfl; rfl; omega; rfl)
    | (apply FWk.d; rfl; rfl)
    | (apply FWk.a; rfl; rfl; rfl)
    | (apply FWk.slN; rfl; omega; rfl))
    · rw [hq] at hh
      have e : rngTo (inG a b c d) (i + 1) = rngTo (inG a b c d) i := by rw [rngTo, if_neg (by simp [hq])]
      repeat' (first
    | (apply r_mvV; rfl)
    | (apply r_mvP; rfl)
    | (apply r_mvPL; rfl)
    | (apply r_mvS; rfl)
    | (apply r_mvSL; rfl)
    | (apply r_mvA; rfl)
    | (apply r_mvT; rfl)
    | (apply r_mvF; rfl)
    | (apply r_mvD; rfl)
    | (apply r_ldL (v := .agg [.d (.val (.int .u64 a)), .d (.val (.int .u64 b)), .d (.val (.int .u64 c)), .d (.val (.int .u64 d))]); rfl; rfl; rfl)
    | (apply r_callA; rfl; rfl; exact hh)
    | (apply r_ldL; rfl; rfl; rfl)
    | (apply r_lss; rfl; rfl; (first | (apply decide_eq_true; omega) | (apply decide_eq_false; omega) | rfl))
    | (apply r_gtr; rfl; rfl; (first | (apply decide_eq_true; omega) | (apply decide_eq_false; omega) | rfl))
    | (apply r_add; rfl; rfl; rfl; omega)
    | (apply r_sub; rfl; rfl; rfl; omega)
    | (apply r_not; rfl; rfl)
    | (apply r_pickT; rfl)
    | (apply r_pickF; rfl)
    | (apply r_lenD; rfl)
    | (apply r_lenL; rfl)
    | (apply r_len0; rfl)
    | (apply r_gT; rfl)
    | (apply r_gF'; rfl; rfl)
    | (apply r_gN'; rfl)
    | ((apply r_gS (o := default); rfl) <;> (intro h; try simp only [decide_eq_true_eq, decide_eq_false_iff_not, Bool.not_eq_true, Bool.not_eq_false] at h))
    | (apply r_box; ((conv => lhs; simp only [Nat.reduceAdd]) <;> rfl); rfl; rfl; rfl)
    | (apply r_stL; rfl; rfl; rfl; rfl; (first | rfl | (simp only [z_nil, z_add] <;> rfl)); rfl; rfl)
    | (apply r_p; rfl)
    | (apply r_nilK)
    | (apply r_nil)
    | (apply k_V; rfl)
    | (apply k_P; rfl)
    | (apply k_PL; rfl)
    | (apply k_S; rfl)
    | (apply k_SL; rfl)
    | (apply k_A; rfl)
    | (apply k_T; rfl)
    | (apply k_F; rfl)
    | (apply k_D; rfl; rotate_left; rfl)
    | (apply k_nil)
    | (apply e_ret (vs := [.d (.val _)]); rfl)
    | (apply e_ret; rfl)
    | (apply e_ret' (vs := [.d (.val _)]); rfl)
    | (apply e_ret'; rfl)
    | (apply w_seq)
    | (apply w_ops; ((conv => lhs; simp only [Nat.reduceAdd]) <;> rfl))
    | (apply w_condT; rfl)
    | (apply w_condF; rfl)
    | ((apply w_condS; rfl) <;> (intro h; try simp only [decide_eq_true_eq, decide_eq_false_iff_not, Bool.not_eq_true, Bool.not_eq_false] at h))
    | (apply e_thenN)
    | (apply w_block)
    | (apply e_thenR)
    | (apply e_thenX)
    | (apply e_blkN)
    | (apply e_blkR)
    | (apply e_blkE)
    | (apply w_exit)
    | (apply w_ret)
    | (apply w_skip)
    | (apply e_blkE'; rfl))
      apply e_thenK
      apply hK (i + 1)
      · omega
      · omega
      · rw [e]
        refine wkM [] [] rfl ?_ ?_ rfl ?_
        · intro p hp
          simp only [List.mem_cons, List.not_mem_nil, or_false] at hp
          rcases hp with rfl | rfl
          · exact ⟨by omega, .inr ⟨rfl, _, rfl, .data rfl⟩⟩
          · exact ⟨by omega, .inr ⟨rfl, _, rfl, .data (encP_isD _)⟩⟩
        · intro q hq; simp only [List.mem_cons, List.not_mem_nil, or_false] at hq; rcases hq with rfl <;> rfl
        · repeat' (first
    | exact FWk.nil
    | (apply FWk.i; rfl; (first | rfl | omega | (simp; done)))
    | (apply FWk.sl; rfl; rfl; rfl; rfl; omega; rfl)
    | (apply FWk.ptr; rfl; rfl; rfl; omega; rfl)
    | (apply FWk.d; rfl; rfl)
    | (apply FWk.a; rfl; rfl; rfl)
    | (apply FWk.slN; rfl; omega; rfl))
  · have ei : i = 256 := by omega
    subst ei
    repeat' (first
    | (apply r_mvV; rfl)
    | (apply r_mvP; rfl)
    | (apply r_mvPL; rfl)
    | (apply r_mvS; rfl)
    | (apply r_mvSL; rfl)
    | (apply r_mvA; rfl)
    | (apply r_mvT; rfl)
    | (apply r_mvF; rfl)
    | (apply r_mvD; rfl)
    | (apply r_ldL; rfl; rfl; rfl)
    | (apply r_lss; rfl; rfl; (first | (apply decide_eq_true; omega) | (apply decide_eq_false; omega) | rfl))
    | (apply r_gtr; rfl; rfl; (first | (apply decide_eq_true; omega) | (apply decide_eq_false; omega) | rfl))
    | (apply r_add; rfl; rfl; rfl; omega)
    | (apply r_sub; rfl; rfl; rfl; omega)
    | (apply r_not; rfl; rfl)
    | (apply r_pickT; rfl)
    | (apply r_pickF; rfl)
    | (apply r_lenD; rfl)
    | (apply r_lenL; rfl)
    | (apply r_len0; rfl)
    | (apply r_gT; rfl)
    | (apply r_gF'; rfl; rfl)
    | (apply r_gN'; rfl)
    | ((apply r_gS (o := default); rfl) <;> (intro h; try simp only [decide_eq_true_eq, decide_eq_false_iff_not, Bool.not_eq_true, Bool.not_eq_false] at h))
    | (apply r_box; ((conv => lhs; simp only [Nat.reduceAdd]) <;> rfl); rfl; rfl; rfl)
    | (apply r_stL; rfl; rfl; rfl; rfl; (first | rfl | (simp only [z_nil, z_add] <;> rfl)); rfl; rfl)
    | (apply r_p; rfl)
    | (apply r_nilK)
    | (apply r_nil)
    | (apply k_V; rfl)
    | (apply k_P; rfl)
    | (apply k_PL; rfl)
    | (apply k_S; rfl)
    | (apply k_SL; rfl)
    | (apply k_A; rfl)
    | (apply k_T; rfl)
    | (apply k_F; rfl)
    | (apply k_D; rfl; rotate_left; rfl)
    | (apply k_nil)
    | (apply e_ret (vs := [.d (.val _)]); rfl)
    | (apply e_ret; rfl)
    | (apply e_ret' (vs := [.d (.val _)]); rfl)
    | (apply e_ret'; rfl)
    | (apply w_seq)
    | (apply w_ops; ((conv => lhs; simp only [Nat.reduceAdd]) <;> rfl))
    | (apply w_condT; rfl)
    | (apply w_condF; rfl)
    | ((apply w_condS; rfl) <;> (intro h; try simp only [decide_eq_true_eq, decide_eq_false_iff_not, Bool.not_eq_true, Bool.not_eq_false] at h))
    | (apply e_thenN)
    | (apply w_block)
    | (apply e_thenR)
    | (apply e_thenX)
    | (apply e_blkN)
    | (apply e_blkR)
    | (apply e_blkE)
    | (apply w_exit)
    | (apply w_ret)
    | (apply w_skip)
    | (apply e_blkE'; rfl))
    exact retLP rfl rfl
def insOne (s : ByteArray) (p : Nat × Nat) : ByteArray := if p.2 > p.1 then (if p.2 > p.1 + 1 then s ++ escS p.1 ++ ⟨#[45]⟩ else s ++ escS p.1) ++ escS p.2 else s ++ escS p.1
def insS (l : List (Nat × Nat)) : ByteArray := l.foldl insOne ⟨#[]⟩
theorem ins_len : ∀ (l : List (Nat × Nat)) (u : ByteArray), (∀ p ∈ l, p.1 < 256 ∧ p.2 < 256) → (l.foldl insOne u).size ≤ u.size + 33 * l.length
  | [], u, _ => by simp
  | p :: l, u, h => by
    have h1 := h p (by simp)
    have h2 := ins_len l (insOne u p) (fun q hq => h q (by simp [hq]))
    have h3 := esc_len h1.1
    have h4 := esc_len h1.2
    have h5 : (insOne u p).size ≤ u.size + 33 := by
      have e : (⟨#[45]⟩ : ByteArray).size = 1 := rfl
      unfold insOne
      split
      · split <;> simp only [ByteArray.size_append, e] <;> omega
      · simp only [ByteArray.size_append]; omega
    simp only [List.foldl_cons, List.length_cons]
    omega
theorem ins142_good {a b c d : Int} (ha : okW a) (hb : okW b) (hc : okW c) (hd : okW d) : Good Try.prog 142 [setA a b c d] none (.d (.val (.string (insS (rngTo (inG a b c d) 256))))) none none := by
  have h160 := rng160_good ha hb hc hd
  have hlt := rng_lt (inG a b c d) 256
  have hlen := rng_len (inG a b c d) 256
  unfold setA at h160 ⊢
  generalize rngTo (inG a b c d) 256 = R at h160 hlt hlen ⊢
  clear ha hb hc hd
  have e1 : (⟨#[45]⟩ : ByteArray).size = 1 := rfl
  refine b142 (by simp) (by simp) (w_init ?_)
  unfold x142
  repeat' (first
    | (apply r_mvV; rfl)
    | (apply r_mvP; rfl)
    | (apply r_mvPL; rfl)
    | (apply r_mvS; rfl)
    | (apply r_mvSL; rfl)
    | (apply r_mvA; rfl)
    | (apply r_mvT; rfl)
    | (apply r_mvF; rfl)
    | (apply r_mvD; rfl)
    | (apply r_ldL (v := .agg [.d (.val (.int .u64 a)), .d (.val (.int .u64 b)), .d (.val (.int .u64 c)), .d (.val (.int .u64 d))]); rfl; rfl; rfl)
    | (apply r_callA; rfl; rfl; exact h160)
    | (apply r_ldL; rfl; rfl; rfl)
    | (apply r_lss; rfl; rfl; (first | (apply decide_eq_true; omega) | (apply decide_eq_false; omega) | rfl))
    | (apply r_gtr; rfl; rfl; (first | (apply decide_eq_true; omega) | (apply decide_eq_false; omega) | rfl))
    | (apply r_add; rfl; rfl; rfl; omega)
    | (apply r_lenD; rfl)
    | (apply r_lenL; rfl)
    | (apply r_len0; rfl)
    | (apply r_box; ((conv => lhs; simp only [Nat.reduceAdd]) <;> rfl); rfl; rfl; rfl)
    | (apply r_p; rfl)
    | (apply r_nilK)
    | (apply r_nil)
    | (apply k_V; rfl)
    | (apply k_P; rfl)
    | (apply k_PL; rfl)
    | (apply k_S; rfl)
    | (apply k_SL; rfl)
    | (apply k_A; rfl)
    | (apply k_T; rfl)
    | (apply k_F; rfl)
    | (apply k_D; rfl; rotate_left; rfl)
    | (apply k_nil)
    | (apply e_ret (vs := [.d (.val _)]); rfl)
    | (apply e_ret; rfl)
    | (apply e_ret' (vs := [.d (.val _)]); rfl)
    | (apply e_ret'; rfl)
    | (apply w_seq)
    | (apply w_ops; ((conv => lhs; simp only [Nat.reduceAdd]) <;> rfl))
    | (apply w_condT; rfl)
    | (apply w_condF; rfl)
    | ((apply w_condS; rfl) <;> (intro h; try simp only [decide_eq_true_eq, decide_eq_false_iff_not, Bool.not_eq_true, Bool.not_eq_false] at h))
    | (apply e_thenN)
    | (apply w_block)
    | (apply e_thenR)
    | (apply e_thenX)
    | (apply e_blkN)
    | (apply e_blkR)
    | (apply e_blkE)
    | (apply w_exit)
    | (apply w_ret)
    | (apply w_skip)
    | (apply e_blkE'; rfl))
  apply w_loopI (S := fun i : Nat => ⟨((Fr.nil.put 3 (.d (.val (.string (insS (R.take i)))))).put 4 (.d (.sl (encP R) R.length))).put 5 (.i i), Heap.nil, Frz.lo 100, 100⟩) (m := fun i => R.length - i) (I := fun i => i ≤ R.length) (i0 := 0)
  · exact Nat.zero_le _
  · exact wk0 (by omega) (by repeat' (first
    | exact FWk.nil
    | (apply FWk.i; rfl; (first | rfl | omega | (simp; done)))
    | (apply FWk.sl; rfl; rfl; rfl; rfl; omega; rfl)
    | (apply FWk.ptr; rfl; rfl; rfl; omega; rfl)
    | (apply FWk.d; rfl; rfl)
    | (apply FWk.a; rfl; rfl; rfl)
    | (apply FWk.slN; rfl; omega; rfl)))
  intro i K hi hK
  dsimp only
  rcases Nat.lt_or_ge i R.length with hl | hge
  · have hget : R[i]? = some R[i] := List.getElem?_eq_getElem hl
    have htk : insS (R.take (i + 1)) = insOne (insS (R.take i)) R[i] := by rw [List.take_succ_eq_append_getElem hl, insS, List.foldl_append]; rfl
    have hp := hlt _ (List.getElem_mem hl)
    have hu : (insS (R.take i)).size ≤ 33 * i := by
      have := ins_len (R.take i) ⟨#[]⟩ (fun p hp => hlt p (List.mem_of_mem_take hp))
      have e0 : (⟨#[]⟩ : ByteArray).size = 0 := rfl
      rw [e0, List.length_take] at this
      unfold insS
      omega
    generalize R[i] = p at hget htk hp
    obtain ⟨x, y⟩ := p
    dsimp only at hp
    have g1 := esc141 hp.1
    have g2 := esc141 hp.2
    have z1 := esc_len hp.1
    have z2 := esc_len hp.2
    generalize insS (R.take i) = u at htk hu ⊢
    simp only [insOne] at htk
    generalize escS x = v at htk g1 z1
    generalize escS y = w at htk g2 z2
    by_cases h1 : y > x
    · rw [if_pos h1] at htk
      by_cases h2 : y > x + 1
      · rw [if_pos h2] at htk
        repeat' (first
    | (apply r_mvV; rfl)
    | (apply r_mvP; rfl)
    | (apply r_mvPL; rfl)
    | (apply r_mvS; rfl)
    | (apply r_mvSL; rfl)
    | (apply r_mvA; rfl)
    | (apply r_mvT; rfl)
    | (apply r_mvF; rfl)
    | (apply r_mvD; rfl)
    | (apply r_ixP2 (K := R) (j := i); rfl; rfl; rfl; rfl; omega)
    | (apply r_ixPD (m := 2) (j := 0); rfl; rfl; omega)
    | (apply r_ldP (K := R) (j := i); rfl; exact hget)
    | (apply r_cv64; rfl; exact hp.1)
    | (apply r_ixPD (m := 2) (j := 1); rfl; rfl; omega)
    | (apply r_ldP1 (K := R) (j := i); rfl; exact hget)
    | (apply r_cv64; rfl; exact hp.2)
    | (apply r_callA; rfl; rfl; exact g1)
    | (apply r_callA; rfl; rfl; exact g2)
    | (apply r_cat; rfl; rfl; rfl; (first | omega | (simp only [ByteArray.size_append, e1]; omega)))
    | (apply r_ldL; rfl; rfl; rfl)
    | (apply r_lss; rfl; rfl; (first | (apply decide_eq_true; omega) | (apply decide_eq_false; omega) | rfl))
    | (apply r_gtr; rfl; rfl; (first | (apply decide_eq_true; omega) | (apply decide_eq_false; omega) | rfl))
    | (apply r_add; rfl; rfl; rfl; omega)
    | (apply r_lenD; rfl)
    | (apply r_lenL; rfl)
    | (apply r_len0; rfl)
    | (apply r_box; ((conv => lhs; simp only [Nat.reduceAdd]) <;> rfl); rfl; rfl; rfl)
    | (apply r_p; rfl)
    | (apply r_nilK)
    | (apply r_nil)
    | (apply k_V; rfl)
    | (apply k_P; rfl)
    | (apply k_PL; rfl)
    | (apply k_S; rfl)
    | (apply k_SL; rfl)
    | (apply k_A; rfl)
    | (apply k_T; rfl)
    | (apply k_F; rfl)
    | (apply k_D; rfl; rotate_left; rfl)
    | (apply k_nil)
    | (apply e_ret (vs := [.d (.val _)]); rfl)
    | (apply e_ret; rfl)
    | (apply e_ret' (vs := [.d (.val _)]); rfl)
    | (apply e_ret'; rfl)
    | (apply w_seq)
    | (apply w_ops; ((conv => lhs; simp only [Nat.reduceAdd]) <;> rfl))
    | (apply w_condT; rfl)
    | (apply w_condF; rfl)
    | ((apply w_condS; rfl) <;> (intro h; try simp only [decide_eq_true_eq, decide_eq_false_iff_not, Bool.not_eq_true, Bool.not_eq_false] at h))
    | (apply e_thenN)
    | (apply w_block)
    | (apply e_thenR)
    | (apply e_thenX)
    | (apply e_blkN)
    | (apply e_blkR)
    | (apply e_blkE)
    | (apply w_exit)
    | (apply w_ret)
    | (apply w_skip)
    | (apply e_blkE'; rfl))
        apply e_thenK
        apply hK (i + 1)
        · omega
        · omega
        · rw [htk]
          exact wk0 (by omega) (by repeat' (first
    | exact FWk.nil
    | (apply FWk.i; rfl; (first | rfl | omega | (simp; done)))
    | (apply FWk.sl; rfl; rfl; rfl; rfl; omega; rfl)
    | (apply FWk.ptr; rfl; rfl; rfl; omega; rfl)
    | (apply FWk.d; rfl; rfl)
    | (apply FWk.a; rfl; rfl; rfl)
    | (apply FWk.slN; rfl; omega; rfl)))
      · rw [if_neg h2] at htk
        repeat' (first
    | (apply r_mvV; rfl)
    | (apply r_mvP; rfl)
    | (apply r_mvPL; rfl)
    | (apply r_mvS; rfl)
    | (apply r_mvSL; rfl)
    | (apply r_mvA; rfl)
    | (apply r_mvT; rfl)
    | (apply r_mvF; rfl)
    | (apply r_mvD; rfl)
    | (apply r_ixP2 (K := R) (j := i); rfl; rfl; rfl; rfl; omega)
    | (apply r_ixPD (m := 2) (j := 0); rfl; rfl; omega)
    | (apply r_ldP (K := R) (j := i); rfl; exact hget)
    | (apply r_cv64; rfl; exact hp.1)
    | (apply r_ixPD (m := 2) (j := 1); rfl; rfl; omega)
    | (apply r_ldP1 (K := R) (j := i); rfl; exact hget)
    | (apply r_cv64; rfl; exact hp.2)
    | (apply r_callA; rfl; rfl; exact g1)
    | (apply r_callA; rfl; rfl; exact g2)
    | (apply r_cat; rfl; rfl; rfl; (first | omega | (simp only [ByteArray.size_append, e1]; omega)))
    | (apply r_ldL; rfl; rfl; rfl)
    | (apply r_lss; rfl; rfl; (first | (apply decide_eq_true; omega) | (apply decide_eq_false; omega) | rfl))
    | (apply r_gtr; rfl; rfl; (first | (apply decide_eq_true; omega) | (apply decide_eq_false; omega) | rfl))
    | (apply r_add; rfl; rfl; rfl; omega)
    | (apply r_lenD; rfl)
    | (apply r_lenL; rfl)
    | (apply r_len0; rfl)
    | (apply r_box; ((conv => lhs; simp only [Nat.reduceAdd]) <;> rfl); rfl; rfl; rfl)
    | (apply r_p; rfl)
    | (apply r_nilK)
    | (apply r_nil)
    | (apply k_V; rfl)
    | (apply k_P; rfl)
    | (apply k_PL; rfl)
    | (apply k_S; rfl)
    | (apply k_SL; rfl)
    | (apply k_A; rfl)
    | (apply k_T; rfl)
    | (apply k_F; rfl)
    | (apply k_D; rfl; rotate_left; rfl)
    | (apply k_nil)
    | (apply e_ret (vs := [.d (.val _)]); rfl)
    | (apply e_ret; rfl)
    | (apply e_ret' (vs := [.d (.val _)]); rfl)
    | (apply e_ret'; rfl)
    | (apply w_seq)
    | (apply w_ops; ((conv => lhs; simp only [Nat.reduceAdd]) <;> rfl))
    | (apply w_condT; rfl)
    | (apply w_condF; rfl)
    | ((apply w_condS; rfl) <;> (intro h; try simp only [decide_eq_true_eq, decide_eq_false_iff_not, Bool.not_eq_true, Bool.not_eq_false] at h))
    | (apply e_thenN)
    | (apply w_block)
    | (apply e_thenR)
    | (apply e_thenX)
    | (apply e_blkN)
    | (apply e_blkR)
    | (apply e_blkE)
    | (apply w_exit)
    | (apply w_ret)
    | (apply w_skip)
    | (apply e_blkE'; rfl))
        apply e_thenK
        apply hK (i + 1)
        · omega
        · omega
        · rw [htk]
          exact wk0 (by omega) (by repeat' (first
    | exact FWk.nil
    | (apply FWk.i; rfl; (first | rfl | omega | (simp; done)))
    | (apply FWk.sl; rfl; rfl; rfl; rfl; omega; rfl)
    | (apply FWk.ptr; rfl; rfl; rfl; omega; rfl)
    | (apply FWk.d; rfl; rfl)
    | (apply FWk.a; rfl; rfl; rfl)
    | (apply FWk.slN; rfl; omega; rfl)))
    · rw [if_neg h1] at htk
      repeat' (first
    | (apply r_mvV; rfl)
    | (apply r_mvP; rfl)
    | (apply r_mvPL; rfl)
    | (apply r_mvS; rfl)
    | (apply r_mvSL; rfl)
    | (apply r_mvA; rfl)
    | (apply r_mvT; rfl)
    | (apply r_mvF; rfl)
    | (apply r_mvD; rfl)
    | (apply r_ixP2 (K := R) (j := i); rfl; rfl; rfl; rfl; omega)
    | (apply r_ixPD (m := 2) (j := 0); rfl; rfl; omega)
    | (apply r_ldP (K := R) (j := i); rfl; exact hget)
    | (apply r_cv64; rfl; exact hp.1)
    | (apply r_ixPD (m := 2) (j := 1); rfl; rfl; omega)
    | (apply r_ldP1 (K := R) (j := i); rfl; exact hget)
    | (apply r_cv64; rfl; exact hp.2)
    | (apply r_callA; rfl; rfl; exact g1)
    | (apply r_cat; rfl; rfl; rfl; (first | omega | (simp only [ByteArray.size_append, e1]; omega)))
    | (apply r_ldL; rfl; rfl; rfl)
    | (apply r_lss; rfl; rfl; (first | (apply decide_eq_true; omega) | (apply decide_eq_false; omega) | rfl))
    | (apply r_gtr; rfl; rfl; (first | (apply decide_eq_true; omega) | (apply decide_eq_false; omega) | rfl))
    | (apply r_add; rfl; rfl; rfl; omega)
    | (apply r_lenD; rfl)
    | (apply r_lenL; rfl)
    | (apply r_len0; rfl)
    | (apply r_box; ((conv => lhs; simp only [Nat.reduceAdd]) <;> rfl); rfl; rfl; rfl)
    | (apply r_p; rfl)
    | (apply r_nilK)
    | (apply r_nil)
    | (apply k_V; rfl)
    | (apply k_P; rfl)
    | (apply k_PL; rfl)
    | (apply k_S; rfl)
    | (apply k_SL; rfl)
    | (apply k_A; rfl)
    | (apply k_T; rfl)
    | (apply k_F; rfl)
    | (apply k_D; rfl; rotate_left; rfl)
    | (apply k_nil)
    | (apply e_ret (vs := [.d (.val _)]); rfl)
    | (apply e_ret; rfl)
    | (apply e_ret' (vs := [.d (.val _)]); rfl)
    | (apply e_ret'; rfl)
    | (apply w_seq)
    | (apply w_ops; ((conv => lhs; simp only [Nat.reduceAdd]) <;> rfl))
    | (apply w_condT; rfl)
    | (apply w_condF; rfl)
    | ((apply w_condS; rfl) <;> (intro h; try simp only [decide_eq_true_eq, decide_eq_false_iff_not, Bool.not_eq_true, Bool.not_eq_false] at h))
    | (apply e_thenN)
    | (apply w_block)
    | (apply e_thenR)
    | (apply e_thenX)
    | (apply e_blkN)
    | (apply e_blkR)
    | (apply e_blkE)
    | (apply w_exit)
    | (apply w_ret)
    | (apply w_skip)
    | (apply e_blkE'; rfl))
      apply e_thenK
      apply hK (i + 1)
      · omega
      · omega
      · rw [htk]
        exact wk0 (by omega) (by repeat' (first
    | exact FWk.nil
    | (apply FWk.i; rfl; (first | rfl | omega | (simp; done)))
    | (apply FWk.sl; rfl; rfl; rfl; rfl; omega; rfl)
    | (apply FWk.ptr; rfl; rfl; rfl; omega; rfl)
    | (apply FWk.d; rfl; rfl)
    | (apply FWk.a; rfl; rfl; rfl)
    | (apply FWk.slN; rfl; omega; rfl)))
  · rw [List.take_of_length_le hge]
    repeat' (first
    | (apply r_mvV; rfl)
    | (apply r_mvP; rfl)
    | (apply r_mvPL; rfl)
    | (apply r_mvS; rfl)
    | (apply r_mvSL; rfl)
    | (apply r_mvA; rfl)
    | (apply r_mvT; rfl)
    | (apply r_mvF; rfl)
    | (apply r_mvD; rfl)
    | (apply r_ldL; rfl; rfl; rfl)
    | (apply r_lss; rfl; rfl; (first | (apply decide_eq_true; omega) | (apply decide_eq_false; omega) | rfl))
    | (apply r_gtr; rfl; rfl; (first | (apply decide_eq_true; omega) | (apply decide_eq_false; omega) | rfl))
    | (apply r_add; rfl; rfl; rfl; omega)
    | (apply r_lenD; rfl)
    | (apply r_lenL; rfl)
    | (apply r_len0; rfl)
    | (apply r_box; ((conv => lhs; simp only [Nat.reduceAdd]) <;> rfl); rfl; rfl; rfl)
    | (apply r_p; rfl)
    | (apply r_nilK)
    | (apply r_nil)
    | (apply k_V; rfl)
    | (apply k_P; rfl)
    | (apply k_PL; rfl)
    | (apply k_S; rfl)
    | (apply k_SL; rfl)
    | (apply k_A; rfl)
    | (apply k_T; rfl)
    | (apply k_F; rfl)
    | (apply k_D; rfl; rotate_left; rfl)
    | (apply k_nil)
    | (apply e_ret (vs := [.d (.val _)]); rfl)
    | (apply e_ret; rfl)
    | (apply e_ret' (vs := [.d (.val _)]); rfl)
    | (apply e_ret'; rfl)
    | (apply w_seq)
    | (apply w_ops; ((conv => lhs; simp only [Nat.reduceAdd]) <;> rfl))
    | (apply w_condT; rfl)
    | (apply w_condF; rfl)
    | ((apply w_condS; rfl) <;> (intro h; try simp only [decide_eq_true_eq, decide_eq_false_iff_not, Bool.not_eq_true, Bool.not_eq_false] at h))
    | (apply e_thenN)
    | (apply w_block)
    | (apply e_thenR)
    | (apply e_thenX)
    | (apply e_blkN)
    | (apply e_blkR)
    | (apply e_blkE)
    | (apply w_exit)
    | (apply w_ret)
    | (apply w_skip)
    | (apply e_blkE'; rfl))
    exact .data _ rfl
end Go.Sv
namespace Go.Sv
open Go Go.Proofs
section
variable {P : Program} {Q : Cont} {fr : Fr} {C : Heap} {Z : Frz} {nx : Nat} {base n d : Nat} {l : List (Nat × XO)} {kp : Option (List Nat)} {x i y s : X}
theorem r_callS2 {f : FuncId} {xs : List X} {pre pre' post post' : List AV} {b m : Nat} {L : List T} {r : AV} {us : List Nat} (ha : xs.map (X.ev fr) = pre ++ .slL b 0 m 8 :: post) (hn : convAs C (fun _ => false) pre = some (pre', [])) (hp : convAs C (fun _ => false) post = some (post', [])) (hC : C b = some ((encL L).map AV.d)) (hm : L.length = m) (hg : Good P f (pre' ++ .d (.sl (encL L) m) :: post') none r none none) (hu : (if r.scalar = true then [] else if m = 0 then [] else [b]) = us)
    (k : R P l base kp Q nx (fr.put d r) C (Z.add us)) : R P ((n, ⟨some d, none, .call f xs none false⟩) :: l) base kp Q nx fr C Z := by
  subst hu
  refine r_call (bs := pre' ++ .d (.sl (encL L) m) :: post') (us := [] ++ ((if m = 0 then [] else [b]) ++ [])) ha ?_ hg (by simp) k
  refine convAs_app hn ?_
  simp only [convAs, conv_rowA (ex := fun _ => false) hC hm rfl, Option.bind_some, hp, Option.map_some]
end
theorem flatL_take (k : Int) (l : List T) (i : Nat) (h : i < l.length) : flatL k (l.take (i + 1)) = flatL k (l.take i) ++ flatO k l[i] := by
  rw [List.take_succ_eq_append_getElem h]
  have : ∀ l r : List T, flatL k (l ++ r) = flatL k l ++ flatL k r := by
    intro l r
    induction l with
    | nil => rfl
    | cons t l ih => rw [List.cons_append, flatL, ih, flatL, List.append_assoc]
  rw [this, flatL, flatL, List.append_nil]
theorem flatL_len (k : Int) (l : List T) : (flatL k l).length ≤ cntL l := Nat.le_trans (cntL_len _) (cntL_flat k l)
theorem filter_take (p : T → Bool) (l : List T) (i : Nat) (h : i < l.length) : (l.take (i + 1)).filter p = (l.take i).filter p ++ (if p l[i] = true then [l[i]] else []) := by
  rw [List.take_succ_eq_append_getElem h, List.filter_append]
  congr 1
  rw [List.filter_cons]
  split <;> rfl
set_option maxRecDepth 100000
set_option maxHeartbeats 4000000
attribute [local irreducible] W E R KP thenK blockK retK Good xwp aRun
end Go.Sv
namespace Go.Sv
open Go Go.Proofs
set_option maxRecDepth 100000
set_option maxHeartbeats 4000000
attribute [local irreducible] W E R KP thenK blockK retK Good xwp aRun
def repN (t : T) (lo hi : Int) : T := .node 5 0 0 0 0 lo hi [t]
theorem repF_two {l : List T} {t : T} (h : l.length ≠ 1) : repF l t = repN t 0 (-1) := by
  match l, h with
  | [], _ => rw [repF]; rfl
  | x :: y :: z, _ => simp [repF]; rfl
end Go.Sv
namespace Go.Sv
open Go
end Go.Sv
namespace Go.Sv
open Go Go.Proofs
def atI : Option Nat → Int
  | none => -1
  | some i => (i : Nat)
section
variable {P : Program} {Q : Cont} {fr : Fr} {C : Heap} {Z : Frz} {nx : Nat} {base n d : Nat} {l : List (Nat × XO)} {kp : Option (List Nat)} {x i y s : X}
theorem encL_set : ∀ (K : List T) (j : Nat) (t : T), j < K.length → encL (K.set j t) = splice (encL K) (j * 8) (encN t)
  | u :: K, 0, t, _ => by
    simp only [List.set_cons_zero, encL, splice, Nat.zero_mul, List.take_zero, List.nil_append, Nat.zero_add, encN_len]
    rw [List.drop_append_of_le_length (by rw [encN_len]; omega), List.drop_of_length_le (by rw [encN_len]; omega), List.nil_append]
  | u :: K, j + 1, t, h => by
    have ih := encL_set K j t (by simpa using h)
    simp only [List.set_cons_succ, encL, ih, splice, encN_len]
    rw [List.take_append, List.drop_append, encN_len, List.take_of_length_le (l := encN u) (by rw [encN_len]; omega), List.drop_of_length_le (l := encN u) (by rw [encN_len]; omega), List.nil_append, show (j + 1) * 8 - 8 = j * 8 by omega, show (j + 1) * 8 + 8 - 8 = j * 8 + 8 by omega]
    simp only [List.append_assoc]
theorem r_callS3 {f : FuncId} {xs : List X} {pre pre' post post' row : List AV} {b m : Nat} {L : List T} {r : AV} {us us' : List Nat} (ha : xs.map (X.ev fr) = pre ++ .slL b 0 m 8 :: post) (hn : convAs C (fun _ => false) pre = some (pre', [])) (hp : convAs C (fun _ => false) post = some (post', [])) (hC : C b = some row) (hl : row.length = m * 8) (h0 : 0 < m) (hr : mapO (convC C (fun _ => false) 8) row = some (encL L, us')) (hg : Good P f (pre' ++ .d (.sl (encL L) m) :: post') none r none none) (hu : (if r.scalar = true then [] else b :: us') = us)
    (k : R P l base kp Q nx (fr.put d r) C (Z.add us)) : R P ((n, ⟨some d, none, .call f xs none false⟩) :: l) base kp Q nx fr C Z := by
  subst hu
  refine r_call (bs := pre' ++ .d (.sl (encL L) m) :: post') (us := [] ++ ((b :: us') ++ [])) ha ?_ hg (by simp) k
  refine convAs_app hn ?_
  simp only [convAs, convA, conv_row (ex := fun _ => false) hC hl h0 rfl hr, Option.map_some, Option.bind_some, hp]
theorem r_callLI {f : FuncId} {xs : List X} {b m : Nat} {L : List Int} {r : AV} {us : List Nat} (ha : xs.map (X.ev fr) = [.slL b 0 m 1]) (hC : C b = some ((encI L).map AV.d)) (hm : L.length = m) (hg : Good P f [.d (.sl (encI L) m)] none r none none) (hu : (if r.scalar = true then [] else if m = 0 then [] else [b]) = us)
    (k : R P l base kp Q nx (fr.put d r) C (Z.add us)) : R P ((n, ⟨some d, none, .call f xs none false⟩) :: l) base kp Q nx fr C Z := by
  subst hu
  refine r_call (bs := [.d (.sl (encI L) m)]) (us := (if m = 0 then [] else [b]) ++ []) ha ?_ hg (by simp) k
  simp only [convAs, convA, conv_slI (ex := fun _ => false) rfl hC hm, Option.map_some, Option.bind_some]
end
set_option maxRecDepth 100000
set_option maxHeartbeats 4000000
attribute [local irreducible] W E R KP thenK blockK retK Good xwp aRun
end Go.Sv
