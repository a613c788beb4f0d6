/- A part of the proof of a law of this seat: that it answers true for every input, and that the input reads behind the call as before (no condition). -/
import Derived.Test.YtcnlgmajkclgjaaC2
import Derived.Test.YtcnlgmajkclgjaaRows
import Derived.ProofKit
import Derived.OpenShut
import Derived.Tactics
import Derived.Tactics2
import Derived.Laws.Pointers
set_option linter.all false
set_option linter.unusedSectionVars false
set_option linter.unusedVariables false
set_option linter.unusedSimpArgs false
namespace Go.Sv
open Go Go.Proofs
set_option linter.unusedVariables false
set_option maxRecDepth 100000

theorem cells_27 : Try.prog.cellsOf 27 = 8 := by kernel_rfl
theorem cells_3 : Try.prog.cellsOf 3 = 1 := by kernel_rfl
theorem cells_24 : Try.prog.cellsOf 24 = 4 := by kernel_rfl
theorem cells_22 : Try.prog.cellsOf 22 = 1 := by kernel_rfl
theorem cells_25 : Try.prog.cellsOf 25 = 1 := by kernel_rfl
theorem cells_44 : Try.prog.cellsOf 44 = 9 := by kernel_rfl
theorem cells_9 : Try.prog.cellsOf 9 = 1 := by kernel_rfl

def inW (k : Int) : Prop := -9223372036854775808 ≤ k ∧ k < 9223372036854775808
mutual
def inT : T → Prop
  | .node k a b c d mn mx subs => inW k ∧ okW a ∧ okW b ∧ okW c ∧ okW d ∧ inW mn ∧ inW mx ∧ inL subs
def inL : List T → Prop
  | [] => True
  | t :: l => inT t ∧ inL l
end
theorem inL_of : ∀ {l : List T}, (∀ t ∈ l, inT t) → inL l
  | [], _ => trivial
  | t :: l, h => ⟨h t (by simp), inL_of fun u hu => h u (by simp [hu])⟩

section
variable {H : Type} {enc : TypeId × Value → H} {W : World} {sp : Nat → Bool}
theorem wf_i64 {n : Int} (h : (Lit.int .i64 n).wf = true) : inW n := by
  simp [Lit.wf, IntKind.min, IntKind.max, IntKind.signed, IntKind.bits] at h
  unfold inW; omega
theorem wf_u64 {n : Int} (h : (Lit.int .u64 n).wf = true) : okW n := by
  simp [Lit.wf, IntKind.min, IntKind.max, IntKind.signed, IntKind.bits] at h
  unfold okW; omega
theorem wf_u8 {n : Int} (h : (Lit.int .u8 n).wf = true) : 0 ≤ n ∧ n < 256 := by
  simp [Lit.wf, IntKind.min, IntKind.max, IntKind.signed, IntKind.bits] at h
  omega
def NoA : Nat → Prop := fun _ => False
def RDs (W : World) (vs : List Value) (ds : List DV) : Prop := vs.length = ds.length ∧ ∀ (j : Nat) (v : Value) (d : DV), vs[j]? = some v → ds[j]? = some d → RD W NoA v d
theorem RDs.nil : RDs W [] [] := ⟨rfl, fun j v d h => by simp at h⟩
theorem RDs.cons {v : Value} {d : DV} {vs : List Value} {ds : List DV} (h : RD W NoA v d) (hs : RDs W vs ds) : RDs W (v :: vs) (d :: ds) := by
  refine ⟨by simp [hs.1], fun j v' d' h1 h2 => ?_⟩
  cases j with
  | zero => simp at h1 h2; subst h1; subst h2; exact h
  | succ j => exact hs.2 j v' d' (by simpa using h1) (by simpa using h2)

theorem cells_at {a : Addr} {n : Nat} {cs : List Value} (h : W.cells? 0 a n = some cs) : cs.length = n ∧ ∀ j, j < n → cs[j]? = W.cell? (a.add j) := by
  unfold World.cells? at h
  rw [if_pos (Nat.zero_le _)] at h
  refine ⟨by simpa using mapM_some_length h, fun j hj => ?_⟩
  exact (mapM_some_get h j j (by simp [hj])).symm
theorem cell_spot {a : Addr} {v : Value} (h : W.cell? a = some v) : a = ⟨a.block, a.off, none⟩ := by
  obtain ⟨b, o, s⟩ := a
  unfold World.cell? at h
  split at h
  · split at h
    · cases h
    · rename_i hs
      cases s with
      | none => rfl
      | some _ => simp at hs
  · cases h

theorem addr_add2 (b o m k : Nat) : (((⟨b, o, none⟩ : Addr).add m).add k) = ⟨b, o + (m + k), none⟩ := by
  unfold Addr.add
  split <;> split <;> simp_all <;> omega
theorem elems_open {sz : Nat} (hsz : 0 < sz) {a : Addr} {α : Type} {P : α → Prop} {en : α → List DV} (hen : ∀ x, (en x).length = sz) : ∀ (len : Nat), (∀ i, i < len → ∃ cs x, W.cells? 0 (a.add (i * sz)) sz = some cs ∧ P x ∧ RDs W cs (en x)) →
    ∃ l : List α, l.length = len ∧ (∀ x ∈ l, P x) ∧ ∀ j, j < len * sz → ∃ v d, W.cell? ⟨a.block, a.off + j, none⟩ = some v ∧ (l.flatMap en)[j]? = some d ∧ RD W NoA v d
  | 0, _ => ⟨[], rfl, by simp, fun j hj => by omega⟩
  | len + 1, h => by
    obtain ⟨l, h1, h2, h3⟩ := elems_open hsz hen len fun i hi => h i (by omega)
    obtain ⟨cs, x, h4, h5, h6⟩ := h len (by omega)
    obtain ⟨h7, h8⟩ := cells_at h4
    have hspot : a = ⟨a.block, a.off, none⟩ := by
      obtain ⟨cs0, x0, g4, _, _⟩ := h 0 (by omega)
      obtain ⟨g7, g8⟩ := cells_at g4
      have g9 := g8 0 hsz
      rw [List.getElem?_eq_getElem (by omega)] at g9
      have := cell_spot g9.symm
      simpa [Addr.add] using this
    have hfl : ∀ m : List α, (m.flatMap en).length = m.length * sz := by
      intro m
      induction m with
      | nil => simp
      | cons y m ih => simp [ih, hen, Nat.succ_mul]; omega
    refine ⟨l ++ [x], by simp [h1], fun y hy => ?_, fun j hj => ?_⟩
    · rcases List.mem_append.1 hy with hy | hy
      · exact h2 y hy
      · simp at hy; subst hy; exact h5
    · rcases Nat.lt_or_ge j (len * sz) with hlt | hge
      · obtain ⟨v, d, g1, g2, g3⟩ := h3 j hlt
        refine ⟨v, d, g1, ?_, g3⟩
        rw [List.flatMap_append, List.getElem?_append_left (by rw [hfl, h1]; exact hlt)]
        exact g2
      · have hj2 : j - len * sz < sz := by rw [Nat.succ_mul] at hj; omega
        have g1 := h8 (j - len * sz) hj2
        rw [List.getElem?_eq_getElem (by omega)] at g1
        have hl6 := h6.1
        have hx : (en x)[j - len * sz]? = some (en x)[j - len * sz] := List.getElem?_eq_getElem (by rw [hen]; exact hj2)
        refine ⟨cs[j - len * sz], (en x)[j - len * sz], ?_, ?_, h6.2 _ _ _ (List.getElem?_eq_getElem (by omega)) hx⟩
        · rw [g1]
          congr 1
          have e : len * sz + (j - len * sz) = j := by omega
          have h9 := addr_add2 a.block a.off (len * sz) (j - len * sz)
          rw [← hspot, e] at h9
          exact h9.symm
        · rw [List.flatMap_append, List.getElem?_append_right (by rw [hfl, h1]; exact hge), hfl, h1]
          simpa using hx
theorem encL_flat : ∀ l : List T, encL l = l.flatMap encN
  | [] => rfl
  | t :: l => by simp [encL, encL_flat l]

theorem len8 {cs : List Value} (h : cs.length = 8) : ∃ a b c d e f g i, cs = [a, b, c, d, e, f, g, i] := by
  match cs, h with
  | [a, b, c, d, e, f, g, i], _ => exact ⟨a, b, c, d, e, f, g, i, rfl⟩

theorem node_open : ∀ (fuel : Nat) (cs : List Value) (x : DataW H × List MemPlace), DataW.trod enc Try.prog W 0 sp true fuel 27 cs = some x → ∃ t : T, inT t ∧ RDs W cs (encN t) := by
  intro fuel
  induction fuel using Nat.strongRecOn with
  | ind fuel ih =>
  intro cs x h
  obtain ⟨xs, n, rfl, _, hl, hxl, hf⟩ := DataW.trod_struct Try.underlying27 h
  rw [cells_27] at hl
  obtain ⟨c0, c1, c2, c3, c4, c5, c6, c7, rfl⟩ := len8 hl
  have hx : ∀ i, i < 5 → ∃ y, xs[i]? = some y := fun i hi => ⟨_, List.getElem?_eq_getElem (by rw [hxl]; exact hi)⟩
  obtain ⟨y0, e0⟩ := hx 0 (by omega)
  obtain ⟨y1, e1⟩ := hx 1 (by omega)
  obtain ⟨y2, e2⟩ := hx 2 (by omega)
  obtain ⟨y3, e3⟩ := hx 3 (by omega)
  obtain ⟨y4, e4⟩ := hx 4 (by omega)
  have f0 := hf 0 _ rfl
  have f1 := hf 1 _ rfl
  have f2 := hf 2 _ rfl
  have f3 := hf 3 _ rfl
  have f4 := hf 4 _ rfl
  simp only [cells_3, cells_24, cells_25, List.drop_succ_cons, List.drop_zero, List.take_succ_cons, List.take_zero, e0, e1, e2, e3, e4] at f0 f1 f2 f3 f4
  obtain ⟨k, g0, _, w0⟩ := DataW.trod_int Try.underlying3 f0
  obtain ⟨mn, g2, _, w2⟩ := DataW.trod_int Try.underlying3 f2
  obtain ⟨mx, g3, _, w3⟩ := DataW.trod_int Try.underlying3 f3
  obtain ⟨ws, m, rfl, _, hl1, hwl, hw⟩ := DataW.trod_array Try.underlying24 f1
  have hy : ∀ i, i < 4 → ∃ y, ws[i]? = some y := fun i hi => ⟨_, List.getElem?_eq_getElem (by rw [hwl]; exact hi)⟩
  obtain ⟨z0, k0⟩ := hy 0 (by omega)
  obtain ⟨z1, k1⟩ := hy 1 (by omega)
  obtain ⟨z2, k2⟩ := hy 2 (by omega)
  obtain ⟨z3, k3⟩ := hy 3 (by omega)
  have q0 := hw 0 (by omega)
  have q1 := hw 1 (by omega)
  have q2 := hw 2 (by omega)
  have q3 := hw 3 (by omega)
  simp only [cells_22, Nat.zero_mul, Nat.one_mul, Nat.mul_one, List.drop_succ_cons, List.drop_zero, List.take_succ_cons, List.take_zero, k0, k1, k2, k3] at q0 q1 q2 q3
  obtain ⟨a, a0, _, v0⟩ := DataW.trod_int Try.underlying22 q0
  obtain ⟨b, a1, _, v1⟩ := DataW.trod_int Try.underlying22 q1
  obtain ⟨c, a2, _, v2⟩ := DataW.trod_int Try.underlying22 q2
  obtain ⟨d, a3, _, v3⟩ := DataW.trod_int Try.underlying22 q3
  have one : ∀ {u v : Value}, [u] = [v] → u = v := fun h => by cases h; rfl
  have s0 := one g0; have s2 := one g2; have s3 := one g3
  have t0 := one a0; have t1 := one a1; have t2 := one a2; have t3 := one a3
  subst s0 s2 s3 t0 t1 t2 t3
  have fin : ∀ subs : List T, inL subs → RD W NoA c7 (.sl (encL subs) subs.length) → ∃ t : T, inT t ∧ RDs W [.int .i64 k, .int .u64 a, .int .u64 b, .int .u64 c, .int .u64 d, .int .i64 mn, .int .i64 mx, c7] (encN t) := by
    intro subs hs hr
    refine ⟨.node k a b c d mn mx subs, ⟨wf_i64 w0, wf_u64 v0, wf_u64 v1, wf_u64 v2, wf_u64 v3, wf_i64 w2, wf_i64 w3, hs⟩, ?_⟩
    exact .cons (.val _ rfl) (.cons (.val _ rfl) (.cons (.val _ rfl) (.cons (.val _ rfl) (.cons (.val _ rfl) (.cons (.val _ rfl) (.cons (.val _ rfl) (.cons hr .nil)))))))
  rcases DataW.trod_slice Try.underlying25 f4 with ⟨g4, _⟩ | ⟨ad, len, cap, elems, rest, n', hn', g4, _, _, hlc, _, hel, hr, _⟩
  · have := one g4; subst this
    exact fin [] trivial (.sl0 none 0)
  · have := one g4; subst this
    have hall : ∀ i, i < len → ∃ cs t, W.cells? 0 (ad.add (i * 8)) 8 = some cs ∧ inT t ∧ RDs W cs (encN t) := by
      intro i hi
      have h1 := hr i hi
      rw [cells_27, List.getElem?_eq_getElem (by omega)] at h1
      obtain ⟨cs, h2, h3⟩ := Option.bind_eq_some_iff.1 h1
      obtain ⟨t, h4, h5⟩ := ih n' (by omega) cs _ h3
      exact ⟨cs, t, h2, h4, h5⟩
    obtain ⟨l, h1, h2, h3⟩ := elems_open (sz := 8) (by omega) encN_len len hall
    refine fin l (inL_of h2) ?_
    rw [h1]
    by_cases h0 : len = 0
    · subst h0
      rw [List.length_eq_zero_iff.1 h1]
      exact .sl0 _ _
    · have hsp : ad = ⟨ad.block, ad.off, none⟩ := by
        obtain ⟨cs, t, g1, _, g2⟩ := hall 0 (by omega)
        obtain ⟨g7, g8⟩ := cells_at g1
        have g9 := g8 0 (by omega)
        rw [List.getElem?_eq_getElem (by omega)] at g9
        have := cell_spot g9.symm
        simpa [Addr.add] using this
      rw [hsp]
      have hlen : (encL l).length = len * 8 := by rw [encL_len, h1]
      refine .sl ad.block ad.off len cap (encL l) (fun j => (W.cell? ⟨ad.block, ad.off + j, none⟩).getD undef) (fun h => h) (by omega) hlc (fun j hj => ?_) (fun j hj => ?_)
      · obtain ⟨v, _, g1, _⟩ := h3 j (by omega)
        rw [g1]; rfl
      · obtain ⟨v, dd, g1, g2, g3⟩ := h3 j (by omega)
        rw [g1]
        rw [← encL_flat, List.getElem?_eq_getElem hj] at g2
        cases g2
        exact g3
end
end Go.Sv
namespace Go.Sv
open Go
set_option linter.unusedVariables false

mutual
theorem fits_open : ∀ (t : T) (left : Int), fitsT t left = true ↔ (0 ≤ openT t ∧ openT t ≤ left)
  | .node k a b c d mn mx subs, left => by
    have ih := fitsL_open k subs left 0 (Int.le_refl _)
    simp only [fitsT, openT]
    by_cases hp : plainT (.node k a b c d mn mx subs) = true
    · rw [if_pos hp]
      simp only [Bool.and_eq_true, decide_eq_true_eq, hp, and_true]
      exact ih
    · rw [if_neg hp]
      simp only [Bool.and_eq_true, decide_eq_true_eq]
      constructor
      · rintro ⟨⟨_, h⟩, _⟩; exact absurd h hp
      · rintro ⟨h, _⟩; omega
theorem fitsL_open (k : Int) : ∀ (l : List T) (left m : Int), 0 ≤ m → ((m ≤ left ∧ fitsL k l left = true) ↔ (0 ≤ openL k l m ∧ openL k l m ≤ left))
  | [], left, m, hm => by
    have e : (fitsL k [] left = true) = True := by simp [fitsL]
    simp only [openL, e, and_true]; omega
  | t :: l, left, m, hm => by
    have h1 := fits_open t (if roundG k t.kind = true then left - 1 else left)
    simp only [fitsL, openL, Bool.and_eq_true]
    rw [h1]
    by_cases hn : openT t < 0
    · rw [if_pos hn]; omega
    · rw [if_neg hn]
      have h2 := fitsL_open k l left (max m (if roundG k t.kind = true then openT t + 1 else openT t)) (by split <;> omega)
      rw [← h2]
      by_cases hf : fitsL k l left = true
      · simp only [hf, and_true]; split <;> omega
      · simp only [hf, and_false]; simp
end
theorem right_fits (t : T) : rightT t = fitsT t 12 := by
  rw [Bool.eq_iff_iff, fits_open]
  simp [rightT]
mutual
theorem ok_of_open : ∀ (t : T), inT t → 0 ≤ openT t → okT t
  | .node k a b c d mn mx subs, h, ho => by
    simp only [inT] at h
    obtain ⟨_, ha, hb, hc, hd, _, _, hs⟩ := h
    simp only [openT] at ho
    split at ho
    · rename_i hp
      refine ⟨⟨ha, hb, hc, hd, hp⟩, okL_of_open k subs hs 0 ho⟩
    · omega
theorem okL_of_open (k : Int) : ∀ (l : List T), inL l → ∀ m : Int, 0 ≤ openL k l m → okL l
  | [], _, _, _ => trivial
  | t :: l, h, m, ho => by
    simp only [inL] at h
    simp only [openL] at ho
    split at ho
    · omega
    · exact ⟨ok_of_open t h.1 (by omega), okL_of_open k l h.2 _ ho⟩
end
theorem ok_of_right {t : T} (h : inT t) (hr : rightT t = true) : okT t := ok_of_open t h (by simp [rightT] at hr; omega)
end Go.Sv
namespace Go.Sv
open Go Go.Proofs
set_option maxRecDepth 100000
def xa118 : XC := (.ops 3 [
    (0, ⟨(some 2), none, .alloc [(.int .i64 0), (.int .u64 0), (.int .u64 0), (.int .u64 0), (.int .u64 0), (.int .i64 0), (.int .i64 0), (.slice none 0 0)]⟩),
    (1, ⟨(some 3), none, .alloc [(.int .i64 0)]⟩),
    (2, ⟨(some 4), none, .alloc [(.int .i64 0)]⟩)] (some [0, 2, 3, 4]))
def xb118 : XC := (.seq (.ops 4 [
    (0, ⟨(some 7), none, .mv (.t 0)⟩),
    (1, ⟨(some 8), none, .build [(.string ⟨#[]⟩), (.int .i64 0), (.int .i64 0)] [(0, 1, (.t 7))]⟩),
    (2, ⟨(some 9), none, .box (.t 8)⟩),
    (3, ⟨(some 5), none, .mv (.t 9)⟩)] (some [0, 2, 3, 4, 5])) (.seq (.ops 3 [
    (0, ⟨(some 10), none, .mv (.t 5)⟩),
    (1, ⟨(some 11), none, .call 149 [(.t 10)] (some 0) false⟩),
    (2, ⟨none, none, .store 8 (.t 2) (.t 11)⟩)] (some [0, 2, 3, 4, 5])) (.seq (.ops 13 [
    (0, ⟨(some 12), none, .mv (.t 5)⟩),
    (1, ⟨(some 13), none, .mv (.t 5)⟩),
    (2, ⟨(some 14), none, .nilck (.t 13)⟩),
    (3, ⟨(some 15), none, .fadd 1 (.t 14)⟩),
    (4, ⟨(some 16), none, .load none (.t 15)⟩),
    (5, ⟨(some 17), none, .mv (.t 0)⟩),
    (6, ⟨(some 18), none, .lenT (.t 17)⟩),
    (7, ⟨(some 19), none, .arith .eql (.t 16) (.t 18)⟩),
    (8, ⟨(some 20), none, .mv (.t 5)⟩),
    (9, ⟨(some 21), none, .nilck (.t 20)⟩),
    (10, ⟨(some 22), none, .fadd 1 (.t 21)⟩),
    (11, ⟨(some 23), none, .load none (.t 22)⟩),
    (12, ⟨(some 24), none, .call 150 [(.t 12), (.t 19), (.t 23)] none false⟩)] (some [2, 3, 4])) (.seq (.ops 4 [
    (0, ⟨(some 25), none, .load (some 8) (.t 2)⟩),
    (1, ⟨none, none, .store 8 (.t 2) (.t 25)⟩),
    (2, ⟨none, none, .store 1 (.t 3) (.k (.d (.val (.int .i64 0))))⟩),
    (3, ⟨none, none, .store 1 (.t 4) (.k (.d (.val (.int .i64 0))))⟩)] (some [2, 3, 4])) .ret))))
def md118 : FuncId → Option Nat × Bool
  | 149 => (some 0, false)
  | _ => (none, false)
def od118 : Nat → List (List Nat) × List Nat × Option (List Nat)
  | 0 => ([], [], some [0, 2, 3, 4])
  | 2 => ([], [], some [0, 2, 3, 4, 5])
  | 3 => ([], [], some [0, 2, 3, 4, 5])
  | 4 => ([[], [], [1], [1, 2], [1, 2, 3], [], [5], [1, 2, 3, 4, 5, 6], [], [8], [8, 9], [8, 9, 10], [0, 1, 2, 3, 4, 5, 6, 7, 8, 9, 10, 11]], [0, 1, 2, 3, 4, 5, 6, 7, 8, 9, 10, 11, 12], some [2, 3, 4])
  | 5 => ([], [], some [2, 3, 4])
  | _ => ([], [], none)
def rs118 : List XRes := [.cell 2 (some 8), .cell 3 none, .cell 4 none]

theorem run_nilnil (w : World) : (binOp BinOp.eql 20 Value.nilIface Value.nilIface).run Try.prog w = .ok (.bool true) w := by
  kernel_rfl
theorem catch_idle (v0 v1 v2 : Value) (w : World) : CallsD Try.prog 148 #[v0, v1, v2] .returning w fun e u' w' => e = .returned (.tuple #[]) ∧ u' = .returning ∧ w' = w := by
  refine callsD_of_wpS Try.func148 rfl fun c₀ cs hu => ?_
  apply wpS_seq
  apply wpS_region
  simp [wpOpsS, go_sem, recoverD, hu, Try.ntmps148, Exit.thenS]
  refine wpS_of_wp (wp_block (wp_seq (wp_region ?_)))
  simp [wpOps, go_sem, run_nilnil, Exit.then]
  refine Or.inl ?_
  refine wp_cond (t := true) ?_ ?_
  · simp [Act.eval]
  simp only [if_true]
  refine wp_region ?_
  simp [wpOps, go_sem, Exit.inBlock, bodyPostS, results, Try.results148]
  refine Or.inl ?_
  cases c₀
  simp_all
theorem p118 : ∃ r0 rest o0 o1, Try.f118.body = some (.seq r0 (.seq (.region 1 #[o0, o1] false) rest)) ∧ compC Try.prog md118 od118 26 r0 = some xa118 ∧ compC Try.prog md118 od118 26 rest = some xb118 ∧
    o0.op = .makeFunc (.func 148) #[] #[.tmp 2, .tmp 3, .tmp 4] ∧ o0.dst = some 6 ∧ o0.guard = none ∧ o1.op = .defer { callee := .value (.tmp 6), args := #[], argTypes := #[] } ∧ o1.dst = none ∧ o1.guard = none :=
  ⟨_, _, _, _, rfl, by kernel_rfl, by kernel_rfl, rfl, rfl, rfl, rfl, rfl, rfl⟩
theorem parse_of {ags : List AV} {r : AV} (hal : ags.length ≤ 26)
    (h : xwp Try.prog xa118 (fun e st => e = .normal ∧ st.fr 6 = .dead ∧ xwp Try.prog xb118 (retK rs118 false r none none) st) (St.init ags none)) : Good Try.prog 118 ags none r none none := by
  obtain ⟨r0, rest, o0, o1, hb, h0, h1, g1, g2, g3, g4, g5, g6⟩ := p118
  refine good_of_wp (nt := 26) (rs := rs118) Try.func118 hb (by kernel_rfl) (by kernel_rfl) (by kernel_rfl) hal (by simp) fun w0 S Wr pb a w R hS hsim hR => ?_
  refine wp_seq (xwp_sound (D := []) hS h0 h hsim ?_)
  rintro e st a w ⟨rfl, h6, hx⟩ hs
  show (Code.seq _ rest).wp _ _ _ _
  have hd := hs.defers
  have hsz := hs.size
  refine wp_seq (wp_region ?_)
  have hl : List.range (#[o0, o1] : Array Oper).size = [0, 1] := rfl
  rw [hl]
  let fv : Value := .func (.func 148) #[] #[a.tmps.getD 2 undef, a.tmps.getD 3 undef, a.tmps.getD 4 undef]
  let a1 : Act := { tmps := a.tmps.setIfInBounds 6 fv, defers := a.defers }
  let dd : Deferred := { target := .fn (.func 148) #[a.tmps.getD 2 undef, a.tmps.getD 3 undef, a.tmps.getD 4 undef], args := #[] }
  have e0 : (execOp a.eval o0).run Try.prog w = .ok (.value fv) w := by
    simp [execOp, g1, Instr.makeFunc, Act.eval, fv]
  have ev6 : a1.eval (.tmp 6) = fv := by
    simp [Act.eval, a1, Array.getD, hsz]
  have e1 : (execOp a1.eval o1).run Try.prog w = .ok (.defer dd) w := by
    simp [execOp, g4, resolve, ev6, Deferred.ofValue, fv, dd]
  have w0' : Region.wanted o0 (yielded #[o0, o1] a.tmps) = true := by simp [Region.wanted, g3]
  have w1' : Region.wanted o1 (yielded #[o0, o1] a1.tmps) = true := by simp [Region.wanted, g6]
  have hp0 : a.put o0.dst fv = a1 := by rw [g2]; rfl
  let a2 : Act := { tmps := a1.tmps, defers := [dd] }
  suffices hq : rest.wp Try.prog (bodyPostD Try.prog Try.f118 R) a2 w by
    show (if Region.wanted o0 (yielded #[o0, o1] a.tmps) = true then _ else _)
    rw [if_pos w0']
    refine Or.inl ?_
    show Oper.upon Try.prog o0 a _ _ ((execOp a.eval o0).run Try.prog w)
    rw [e0, Oper.upon_value, hp0]
    show (if Region.wanted o1 (yielded #[o0, o1] a1.tmps) = true then _ else _)
    rw [if_pos w1']
    refine Or.inl ?_
    show Oper.upon Try.prog o1 a1 _ _ ((execOp a1.eval o1).run Try.prog w)
    rw [e1, Oper.upon_defer, g5]
    show rest.wp Try.prog (bodyPostD Try.prog Try.f118 R) { tmps := a1.tmps, defers := dd :: a.defers } w
    rw [hd]
    exact hq
  have hs2 : Sim [dd] pb w0 S Wr 26 (fun b => b < st.nx) st.fr st.C st.Z a2 w := by
    obtain ⟨⟨μ, U, k1, k2, k3, k4⟩, k5, k6⟩ := hs
    refine ⟨⟨μ, U, k1, fun s => ?_, k3, k4⟩, by simp [a2, a1, k5], rfl⟩
    by_cases h : s = 6
    · subst h; rw [h6]; exact .dead _
    · have : a2.tmps.getD s undef = a.tmps.getD s undef := by
        simp only [a2, a1, Array.getD_eq_getD_getElem?]
        rw [Array.getElem?_setIfInBounds_ne (Ne.symm h)]
      rw [this]; exact k2 s
  refine xwp_sound (D := [dd]) hS h1 hx hs2 ?_
  intro e st3 a3 w3 hq hs3
  have hd3 := hs3.defers
  have key : (∃ vs, resVals st3.fr st3.C rs118 = some vs ∧ RetOK st3.C st3.Z (tupOf vs) (none : Option (List DV)).isSome r none none) → Leaves Try.prog Try.f118 a3.tmps R a3.defers .returning w3 := by
    intro hv
    rw [hd3]
    refine leaves_cons (f := 148) (args := #[a.tmps.getD 2 undef, a.tmps.getD 3 undef, a.tmps.getD 4 undef]) (by simp) ?_ ((catch_idle _ _ _ w3).mono ?_)
    · have := run_callFunc (P := Try.prog) (f := 148) ⟨Try.f148, Try.func148, by kernel_rfl, by kernel_rfl⟩ #[a.tmps.getD 2 undef, a.tmps.getD 3 undef, a.tmps.getD 4 undef] w3
      simpa [invoke] using this
    · rintro e u' w' ⟨rfl, rfl, rfl⟩
      exact hR [dd] st3 a3 w' hv hs3
  cases e with
  | normal => exact key hq
  | ret => exact key hq
  | _ => exact hq.elim
end Go.Sv
namespace Go.Sv
open Go Go.Proofs
set_option maxRecDepth 100000
def x29 : XC := (.seq (.ops 1 [
    (0, ⟨(some 0), none, .mv (.k (.d (.val (.bool false))))⟩)] (some [])) (.seq (.ops 7 [
    (0, ⟨(some 16), none, .call 83 [(.k (.d (.val (.string ⟨#[97, 42, 124, 97, 98]⟩))))] none false⟩),
    (1, ⟨(some 17), none, .call 31 [(.t 16), (.k (.d (.val (.string ⟨#[97, 97, 98]⟩)))), (.k (.d (.val (.int .i64 0))))] none false⟩),
    (2, ⟨(some 15), none, .mv (.t 17)⟩),
    (3, ⟨(some 18), none, .ext (.t 15) 0⟩),
    (4, ⟨(some 19), none, .ext (.t 15) 1⟩),
    (5, ⟨(some 1), none, .mv (.t 18)⟩),
    (6, ⟨(some 2), none, .mv (.t 19)⟩)] (some [1, 2])) (.seq (.ops 7 [
    (0, ⟨(some 21), none, .call 83 [(.k (.d (.val (.string ⟨#[97, 42, 124, 97, 98]⟩))))] none false⟩),
    (1, ⟨(some 22), none, .call 31 [(.t 21), (.k (.d (.val (.string ⟨#[97, 97, 98]⟩)))), (.k (.d (.val (.int .i64 1))))] none false⟩),
    (2, ⟨(some 20), none, .mv (.t 22)⟩),
    (3, ⟨(some 23), none, .ext (.t 20) 0⟩),
    (4, ⟨(some 24), none, .ext (.t 20) 1⟩),
    (5, ⟨(some 3), none, .mv (.t 23)⟩),
    (6, ⟨(some 4), none, .mv (.t 24)⟩)] (some [1, 2, 3])) (.seq (.ops 7 [
    (0, ⟨(some 26), none, .call 83 [(.k (.d (.val (.string ⟨#[97]⟩))))] none false⟩),
    (1, ⟨(some 27), none, .call 31 [(.t 26), (.k (.d (.val (.string ⟨#[]⟩)))), (.k (.d (.val (.int .i64 1))))] none false⟩),
    (2, ⟨(some 25), none, .mv (.t 27)⟩),
    (3, ⟨(some 28), none, .ext (.t 25) 0⟩),
    (4, ⟨(some 29), none, .ext (.t 25) 1⟩),
    (5, ⟨(some 5), none, .mv (.t 28)⟩),
    (6, ⟨(some 6), none, .mv (.t 29)⟩)] (some [1, 2, 3, 6])) (.seq (.ops 7 [
    (0, ⟨(some 31), none, .build [(.int .i64 0), (.int .u64 0), (.int .u64 0), (.int .u64 0), (.int .u64 0), (.int .i64 0), (.int .i64 0), (.slice none 0 0)] []⟩),
    (1, ⟨(some 32), none, .call 31 [(.t 31), (.k (.d (.val (.string ⟨#[]⟩)))), (.k (.d (.val (.int .i64 0))))] none false⟩),
    (2, ⟨(some 30), none, .mv (.t 32)⟩),
    (3, ⟨(some 33), none, .ext (.t 30) 0⟩),
    (4, ⟨(some 34), none, .ext (.t 30) 1⟩),
    (5, ⟨(some 7), none, .mv (.t 33)⟩),
    (6, ⟨(some 8), none, .mv (.t 34)⟩)] (some [1, 2, 3, 6, 8])) (.seq (.ops 15 [
    (0, ⟨(some 36), none, .call 83 [(.k (.d (.val (.string ⟨#[97]⟩))))] none false⟩),
    (1, ⟨(some 37), none, .build [(.string ⟨#[]⟩), (.int .i64 0), (.int .u64 0), (.int .u64 0), (.int .u64 0), (.int .u64 0), (.int .i64 0), (.int .i64 0), (.slice none 0 0)] [(1, 8, (.t 36))]⟩),
    (2, ⟨(some 38), none, .call 83 [(.k (.d (.val (.string ⟨#[97, 43]⟩))))] none false⟩),
    (3, ⟨(some 39), none, .build [(.string ⟨#[]⟩), (.int .i64 0), (.int .u64 0), (.int .u64 0), (.int .u64 0), (.int .u64 0), (.int .i64 0), (.int .i64 0), (.slice none 0 0)] [(1, 8, (.t 38))]⟩),
    (4, ⟨(some 40), none, .call 83 [(.k (.d (.val (.string ⟨#[97, 97]⟩))))] none false⟩),
    (5, ⟨(some 41), none, .build [(.string ⟨#[]⟩), (.int .i64 0), (.int .u64 0), (.int .u64 0), (.int .u64 0), (.int .u64 0), (.int .i64 0), (.int .i64 0), (.slice none 0 0)] [(1, 8, (.t 40))]⟩),
    (6, ⟨(some 42), none, .mkrow [(.string ⟨#[]⟩), (.int .i64 0), (.int .u64 0), (.int .u64 0), (.int .u64 0), (.int .u64 0), (.int .i64 0), (.int .i64 0), (.slice none 0 0)] 3 9 [(0, 9, (.t 37)), (9, 9, (.t 39)), (18, 9, (.t 41))]⟩),
    (7, ⟨(some 43), none, .call 42 [(.t 42), (.k (.d (.val (.string ⟨#[97, 97, 98]⟩)))), (.k (.d (.val (.int .i64 0))))] none false⟩),
    (8, ⟨(some 35), none, .mv (.t 43)⟩),
    (9, ⟨(some 44), none, .ext (.t 35) 0⟩),
    (10, ⟨(some 45), none, .ext (.t 35) 1⟩),
    (11, ⟨(some 46), none, .ext (.t 35) 2⟩),
    (12, ⟨(some 9), none, .mv (.t 44)⟩),
    (13, ⟨(some 10), none, .mv (.t 45)⟩),
    (14, ⟨(some 11), none, .mv (.t 46)⟩)] (some [1, 2, 3, 6, 8, 9, 10, 11])) (.seq (.ops 11 [
    (0, ⟨(some 48), none, .call 83 [(.k (.d (.val (.string ⟨#[97, 42]⟩))))] none false⟩),
    (1, ⟨(some 49), none, .build [(.string ⟨#[]⟩), (.int .i64 0), (.int .u64 0), (.int .u64 0), (.int .u64 0), (.int .u64 0), (.int .i64 0), (.int .i64 0), (.slice none 0 0)] [(1, 8, (.t 48))]⟩),
    (2, ⟨(some 50), none, .mkrow [(.string ⟨#[]⟩), (.int .i64 0), (.int .u64 0), (.int .u64 0), (.int .u64 0), (.int .u64 0), (.int .i64 0), (.int .i64 0), (.slice none 0 0)] 1 9 [(0, 9, (.t 49))]⟩),
    (3, ⟨(some 51), none, .call 42 [(.t 50), (.k (.d (.val (.string ⟨#[98]⟩)))), (.k (.d (.val (.int .i64 0))))] none false⟩),
    (4, ⟨(some 47), none, .mv (.t 51)⟩),
    (5, ⟨(some 52), none, .ext (.t 47) 0⟩),
    (6, ⟨(some 53), none, .ext (.t 47) 1⟩),
    (7, ⟨(some 54), none, .ext (.t 47) 2⟩),
    (8, ⟨(some 12), none, .mv (.t 52)⟩),
    (9, ⟨(some 13), none, .mv (.t 53)⟩),
    (10, ⟨(some 14), none, .mv (.t 54)⟩)] (some [1, 2, 3, 6, 8, 9, 10, 11, 14])) (.seq (.ops 50 [
    (0, ⟨(some 55), none, .mv (.t 1)⟩),
    (1, ⟨(some 56), none, .mkrow [(.int .i64 0)] 3 1 [(0, 1, (.k (.d (.val (.int .i64 0))))), (1, 1, (.k (.d (.val (.int .i64 1))))), (2, 1, (.k (.d (.val (.int .i64 2)))))]⟩),
    (2, ⟨(some 57), none, .call 35 [(.t 55), (.t 56)] none false⟩),
    (3, ⟨(some 58), none, .mv (.t 57)⟩),
    (4, ⟨(some 59), (some (58, true)), .mv (.t 3)⟩),
    (5, ⟨(some 60), (some (58, true)), .mkrow [(.int .i64 0)] 3 1 [(0, 1, (.k (.d (.val (.int .i64 1))))), (1, 1, (.k (.d (.val (.int .i64 2))))), (2, 1, (.k (.d (.val (.int .i64 3)))))]⟩),
    (6, ⟨(some 61), (some (58, true)), .call 35 [(.t 59), (.t 60)] none false⟩),
    (7, ⟨(some 62), none, .pick (.t 58) (.t 61) (.k (.d (.val (.bool false))))⟩),
    (8, ⟨(some 63), none, .mv (.t 62)⟩),
    (9, ⟨(some 64), (some (63, true)), .mv (.t 2)⟩),
    (10, ⟨(some 65), (some (63, true)), .arith .eql (.t 64) (.k (.d (.val (.int .i64 0))))⟩),
    (11, ⟨(some 66), none, .pick (.t 63) (.t 65) (.k (.d (.val (.bool false))))⟩),
    (12, ⟨(some 67), none, .mv (.t 66)⟩),
    (13, ⟨(some 68), (some (67, true)), .mv (.t 6)⟩),
    (14, ⟨(some 69), (some (67, true)), .arith .eql (.t 68) (.k (.d (.val (.int .i64 2))))⟩),
    (15, ⟨(some 70), none, .pick (.t 67) (.t 69) (.k (.d (.val (.bool false))))⟩),
    (16, ⟨(some 71), none, .mv (.t 70)⟩),
    (17, ⟨(some 72), (some (71, true)), .mv (.t 8)⟩),
    (18, ⟨(some 73), (some (71, true)), .arith .eql (.t 72) (.k (.d (.val (.int .i64 1))))⟩),
    (19, ⟨(some 74), none, .pick (.t 71) (.t 73) (.k (.d (.val (.bool false))))⟩),
    (20, ⟨(some 75), none, .mv (.t 74)⟩),
    (21, ⟨(some 76), (some (75, true)), .mv (.t 9)⟩),
    (22, ⟨(some 77), (some (75, true)), .arith .eql (.t 76) (.k (.d (.val (.int .i64 1))))⟩),
    (23, ⟨(some 78), none, .pick (.t 75) (.t 77) (.k (.d (.val (.bool false))))⟩),
    (24, ⟨(some 79), none, .mv (.t 78)⟩),
    (25, ⟨(some 80), (some (79, true)), .mv (.t 10)⟩),
    (26, ⟨(some 81), (some (79, true)), .arith .eql (.t 80) (.k (.d (.val (.int .i64 2))))⟩),
    (27, ⟨(some 82), none, .pick (.t 79) (.t 81) (.k (.d (.val (.bool false))))⟩),
    (28, ⟨(some 83), none, .mv (.t 82)⟩),
    (29, ⟨(some 84), (some (83, true)), .mv (.t 11)⟩),
    (30, ⟨(some 85), none, .pick (.t 83) (.t 84) (.k (.d (.val (.bool false))))⟩),
    (31, ⟨(some 86), none, .mv (.t 85)⟩),
    (32, ⟨(some 87), (some (86, true)), .mv (.t 14)⟩),
    (33, ⟨(some 88), (some (86, true)), .un .not (.t 87)⟩),
    (34, ⟨(some 89), none, .pick (.t 86) (.t 88) (.k (.d (.val (.bool false))))⟩),
    (35, ⟨(some 90), none, .mv (.t 89)⟩),
    (36, ⟨(some 91), (some (90, true)), .call 83 [(.k (.d (.val (.string ⟨#[97, 98, 63]⟩))))] none false⟩),
    (37, ⟨(some 92), (some (90, true)), .call 33 [(.t 91), (.k (.d (.val (.string ⟨#[97]⟩))))] none false⟩),
    (38, ⟨(some 93), none, .pick (.t 90) (.t 92) (.k (.d (.val (.bool false))))⟩),
    (39, ⟨(some 94), none, .mv (.t 93)⟩),
    (40, ⟨(some 95), (some (94, true)), .call 83 [(.k (.d (.val (.string ⟨#[97, 98, 63]⟩))))] none false⟩),
    (41, ⟨(some 96), (some (94, true)), .call 33 [(.t 95), (.k (.d (.val (.string ⟨#[]⟩))))] none false⟩),
    (42, ⟨(some 97), (some (94, true)), .un .not (.t 96)⟩),
    (43, ⟨(some 98), none, .pick (.t 94) (.t 97) (.k (.d (.val (.bool false))))⟩),
    (44, ⟨(some 99), none, .mv (.t 98)⟩),
    (45, ⟨(some 100), (some (99, true)), .call 83 [(.k (.d (.val (.string ⟨#[98]⟩))))] none false⟩),
    (46, ⟨(some 101), (some (99, true)), .call 34 [(.t 100), (.k (.d (.val (.string ⟨#[97]⟩)))), (.k (.d (.val (.int .i64 0))))] none false⟩),
    (47, ⟨(some 102), (some (99, true)), .arith .eql (.t 101) (.k (.d (.val (.int .i64 (-1)))))⟩),
    (48, ⟨(some 103), none, .pick (.t 99) (.t 102) (.k (.d (.val (.bool false))))⟩),
    (49, ⟨(some 0), none, .mv (.t 103)⟩)] (some [0])) .ret))))))))
def md29 : FuncId → Option Nat × Bool
  | _ => (none, false)
def od29 : Nat → List (List Nat) × List Nat × Option (List Nat)
  | 0 => ([], [], some [])
  | 1 => ([], [], some [1, 2])
  | 2 => ([], [], some [1, 2, 3])
  | 3 => ([], [], some [1, 2, 3, 6])
  | 4 => ([], [], some [1, 2, 3, 6, 8])
  | 5 => ([], [], some [1, 2, 3, 6, 8, 9, 10, 11])
  | 6 => ([], [], some [1, 2, 3, 6, 8, 9, 10, 11, 14])
  | 7 => ([], [], some [0])
  | _ => ([], [], none)
theorem b29 {ags : List AV} {row : Option (List DV)} {r : AV} {row' nw : Option (List DV)} (hal : ags.length ≤ 104) (hrow : row'.isSome = true → row.isSome = true) (h : xwp Try.prog x29 (retK [.tmp 0] row.isSome r row' nw) (St.init ags row)) : Good Try.prog 29 ags row r row' nw :=
  good_of_body' (md := md29) (od := od29) Try.f29 (by kernel_rfl) (by kernel_rfl) (by kernel_rfl) (by kernel_rfl) (by kernel_rfl) hal hrow h

def x42 : XC := (.seq (.ops 3 [
    (0, ⟨(some 6), none, .mv (.k (.d (.val (.int .i64 0))))⟩),
    (1, ⟨(some 7), none, .mv (.k (.d (.val (.int .i64 0))))⟩),
    (2, ⟨(some 8), none, .mv (.k (.d (.val (.bool false))))⟩)] (some [0, 1, 2])) (.seq (.ops 2 [
    (0, ⟨(some 6), none, .mv (.k (.d (.val (.int .i64 (-1)))))⟩),
    (1, ⟨(some 7), none, .mv (.k (.d (.val (.int .i64 (-1)))))⟩)] (some [0, 1, 2, 6, 7])) (.seq (.seq (.ops 3 [
    (0, ⟨(some 12), none, .mv (.t 0)⟩),
    (1, ⟨(some 13), none, .lenS (.t 12)⟩),
    (2, ⟨(some 14), none, .mv (.k (.d (.val (.int .i64 0))))⟩)] (some [1, 2, 6, 7, 12, 13, 14])) (.block 0 (.loop (.seq (.ops 1 [
    (0, ⟨(some 15), none, .arith .lss (.t 14) (.t 13)⟩)] (some [1, 2, 6, 7, 12, 13, 14, 15])) (.seq (.cond (.t 15) .skip (.exit 0)) (.seq (.block 1 (.seq (.ops 6 [
    (0, ⟨(some 16), none, .mv (.t 14)⟩),
    (1, ⟨(some 17), none, .idxS 9 (.t 12) (.t 14)⟩),
    (2, ⟨(some 18), none, .load (some 9) (.t 17)⟩),
    (3, ⟨(some 10), none, .alloc [(.string ⟨#[]⟩), (.int .i64 0), (.int .u64 0), (.int .u64 0), (.int .u64 0), (.int .u64 0), (.int .i64 0), (.int .i64 0), (.slice none 0 0)]⟩),
    (4, ⟨(some 9), none, .mv (.t 16)⟩),
    (5, ⟨none, none, .store 9 (.t 10) (.t 18)⟩)] (some [1, 2, 6, 7, 9, 10, 12, 13, 14])) (.seq (.ops 6 [
    (0, ⟨(some 19), none, .fadd 1 (.t 10)⟩),
    (1, ⟨(some 20), none, .load (some 8) (.t 19)⟩),
    (2, ⟨(some 21), none, .mv (.t 1)⟩),
    (3, ⟨(some 22), none, .mv (.t 2)⟩),
    (4, ⟨(some 23), none, .call 34 [(.t 20), (.t 21), (.t 22)] none false⟩),
    (5, ⟨(some 11), none, .mv (.t 23)⟩)] (some [1, 2, 6, 7, 9, 11, 12, 13, 14])) (.seq (.ops 5 [
    (0, ⟨(some 24), none, .mv (.t 11)⟩),
    (1, ⟨(some 25), none, .mv (.t 2)⟩),
    (2, ⟨(some 26), none, .mv (.t 7)⟩),
    (3, ⟨(some 27), none, .max [(.t 25), (.t 26)]⟩),
    (4, ⟨(some 28), none, .arith .gtr (.t 24) (.t 27)⟩)] (some [1, 2, 6, 7, 9, 11, 12, 13, 14, 28])) (.cond (.t 28) (.ops 4 [
    (0, ⟨(some 29), none, .mv (.t 9)⟩),
    (1, ⟨(some 30), none, .mv (.t 11)⟩),
    (2, ⟨(some 6), none, .mv (.t 29)⟩),
    (3, ⟨(some 7), none, .mv (.t 30)⟩)] (some [1, 2, 6, 7, 12, 13, 14])) .skip))))) (.ops 2 [
    (0, ⟨(some 31), none, .arith .add (.t 14) (.k (.d (.val (.int .i64 1))))⟩),
    (1, ⟨(some 14), none, .mv (.t 31)⟩)] (some [1, 2, 6, 7, 12, 13, 14])))))))) (.seq (.ops 7 [
    (0, ⟨(some 32), none, .mv (.t 6)⟩),
    (1, ⟨(some 33), none, .mv (.t 7)⟩),
    (2, ⟨(some 34), none, .mv (.t 6)⟩),
    (3, ⟨(some 35), none, .arith .geq (.t 34) (.k (.d (.val (.int .i64 0))))⟩),
    (4, ⟨(some 6), none, .mv (.t 32)⟩),
    (5, ⟨(some 7), none, .mv (.t 33)⟩),
    (6, ⟨(some 8), none, .mv (.t 35)⟩)] (some [6, 7, 8])) .ret))))
def md42 : FuncId → Option Nat × Bool
  | _ => (none, false)
def od42 : Nat → List (List Nat) × List Nat × Option (List Nat)
  | 0 => ([], [], some [0, 1, 2])
  | 1 => ([], [], some [0, 1, 2, 6, 7])
  | 2 => ([], [], some [1, 2, 6, 7, 12, 13, 14])
  | 3 => ([], [], some [1, 2, 6, 7, 12, 13, 14, 15])
  | 4 => ([], [], some [1, 2, 6, 7, 9, 10, 12, 13, 14])
  | 5 => ([], [], some [1, 2, 6, 7, 9, 11, 12, 13, 14])
  | 6 => ([], [], some [1, 2, 6, 7, 9, 11, 12, 13, 14, 28])
  | 7 => ([], [], some [1, 2, 6, 7, 12, 13, 14])
  | 8 => ([], [], some [1, 2, 6, 7, 12, 13, 14])
  | 9 => ([], [], some [6, 7, 8])
  | _ => ([], [], none)
theorem b42 {ags : List AV} {row : Option (List DV)} {r : AV} {row' nw : Option (List DV)} (hal : ags.length ≤ 36) (hrow : row'.isSome = true → row.isSome = true) (h : xwp Try.prog x42 (retK [.tmp 6, .tmp 7, .tmp 8] row.isSome r row' nw) (St.init ags row)) : Good Try.prog 42 ags row r row' nw :=
  good_of_body' (md := md42) (od := od42) Try.f42 (by kernel_rfl) (by kernel_rfl) (by kernel_rfl) (by kernel_rfl) (by kernel_rfl) hal hrow h

def x83 : XC := (.seq (.ops 1 [
    (0, ⟨(some 2), none, .alloc [(.int .i64 0), (.int .u64 0), (.int .u64 0), (.int .u64 0), (.int .u64 0), (.int .i64 0), (.int .i64 0), (.slice none 0 0)]⟩)] (some [0, 2])) (.seq (.ops 10 [
    (0, ⟨(some 7), none, .mv (.t 0)⟩),
    (1, ⟨(some 8), none, .call 118 [(.t 7)] none false⟩),
    (2, ⟨(some 6), none, .mv (.t 8)⟩),
    (3, ⟨(some 9), none, .ext (.t 6) 0⟩),
    (4, ⟨(some 10), none, .ext (.t 6) 1⟩),
    (5, ⟨(some 11), none, .ext (.t 6) 2⟩),
    (6, ⟨(some 3), none, .alloc [(.int .i64 0), (.int .u64 0), (.int .u64 0), (.int .u64 0), (.int .u64 0), (.int .i64 0), (.int .i64 0), (.slice none 0 0)]⟩),
    (7, ⟨none, none, .store 8 (.t 3) (.t 9)⟩),
    (8, ⟨(some 4), none, .mv (.t 10)⟩),
    (9, ⟨(some 5), none, .mv (.t 11)⟩)] (some [2, 3])) (.seq (.ops 2 [
    (0, ⟨(some 12), none, .load (some 8) (.t 3)⟩),
    (1, ⟨none, none, .store 8 (.t 2) (.t 12)⟩)] (some [2])) .ret)))
def md83 : FuncId → Option Nat × Bool
  | _ => (none, false)
def od83 : Nat → List (List Nat) × List Nat × Option (List Nat)
  | 0 => ([], [], some [0, 2])
  | 1 => ([], [], some [2, 3])
  | 2 => ([], [], some [2])
  | _ => ([], [], none)
theorem b83 {ags : List AV} {row : Option (List DV)} {r : AV} {row' nw : Option (List DV)} (hal : ags.length ≤ 13) (hrow : row'.isSome = true → row.isSome = true) (h : xwp Try.prog x83 (retK [.cell 2 (some 8)] row.isSome r row' nw) (St.init ags row)) : Good Try.prog 83 ags row r row' nw :=
  good_of_body' (md := md83) (od := od83) Try.f83 (by kernel_rfl) (by kernel_rfl) (by kernel_rfl) (by kernel_rfl) (by kernel_rfl) hal hrow h

def x119 : XC := (.seq (.ops 1 [
    (0, ⟨(some 4), none, .alloc [(.int .u64 0), (.int .u64 0), (.int .u64 0), (.int .u64 0)]⟩)] (some [0, 1, 4])) (.seq (.seq (.ops 3 [
    (0, ⟨(some 6), none, .mv (.t 0)⟩),
    (1, ⟨(some 7), none, .conv .i64 (.t 6)⟩),
    (2, ⟨(some 5), none, .mv (.t 7)⟩)] (some [1, 4, 5])) (.block 0 (.loop (.seq (.seq (.ops 4 [
    (0, ⟨(some 8), none, .mv (.t 5)⟩),
    (1, ⟨(some 9), none, .mv (.t 1)⟩),
    (2, ⟨(some 10), none, .conv .i64 (.t 9)⟩),
    (3, ⟨(some 11), none, .arith .leq (.t 8) (.t 10)⟩)] (some [1, 4, 5, 11])) (.cond (.t 11) .skip (.exit 0))) (.seq (.block 1 (.ops 10 [
    (0, ⟨(some 14), none, .mv (.t 5)⟩),
    (1, ⟨(some 15), none, .arith .quo (.t 14) (.k (.d (.val (.int .i64 64))))⟩),
    (2, ⟨(some 16), none, .idxP 4 1 (.t 4) (.t 15)⟩),
    (3, ⟨(some 17), none, .load none (.t 16)⟩),
    (4, ⟨(some 18), none, .mv (.t 5)⟩),
    (5, ⟨(some 19), none, .arith .rem (.t 18) (.k (.d (.val (.int .i64 64))))⟩),
    (6, ⟨(some 20), none, .arith .shl (.k (.d (.val (.int .u64 1)))) (.t 19)⟩),
    (7, ⟨(some 21), none, .arith .or (.t 17) (.t 20)⟩),
    (8, ⟨(some 22), none, .idxP 4 1 (.t 4) (.t 15)⟩),
    (9, ⟨none, none, .store 1 (.t 22) (.t 21)⟩)] (some [1, 4, 5]))) (.ops 3 [
    (0, ⟨(some 12), none, .mv (.t 5)⟩),
    (1, ⟨(some 13), none, .arith .add (.t 12) (.k (.d (.val (.int .i64 1))))⟩),
    (2, ⟨(some 5), none, .mv (.t 13)⟩)] (some [1, 4, 5]))))))) (.seq (.ops 2 [
    (0, ⟨(some 23), none, .load (some 4) (.t 4)⟩),
    (1, ⟨none, none, .store 4 (.t 4) (.t 23)⟩)] (some [4])) .ret)))
def md119 : FuncId → Option Nat × Bool
  | _ => (none, false)
def od119 : Nat → List (List Nat) × List Nat × Option (List Nat)
  | 0 => ([], [], some [0, 1, 4])
  | 1 => ([], [], some [1, 4, 5])
  | 2 => ([], [], some [1, 4, 5, 11])
  | 3 => ([], [], some [1, 4, 5])
  | 4 => ([[], [0], [0, 1], [0, 1, 2], [], [4], [4, 5], [0, 1, 2, 3, 4, 5, 6], [0, 1, 2, 3, 4, 5, 6, 7], [0, 1, 2, 3, 4, 5, 6, 7, 8]], [0, 1, 2, 3, 4, 5, 6, 7, 8, 9], some [1, 4, 5])
  | 5 => ([], [], some [4])
  | _ => ([], [], none)
theorem b119 {ags : List AV} {row : Option (List DV)} {r : AV} {row' nw : Option (List DV)} (hal : ags.length ≤ 24) (hrow : row'.isSome = true → row.isSome = true) (h : xwp Try.prog x119 (retK [.cell 4 (some 4)] row.isSome r row' nw) (St.init ags row)) : Good Try.prog 119 ags row r row' nw :=
  good_of_body' (md := md119) (od := od119) Try.f119 (by kernel_rfl) (by kernel_rfl) (by kernel_rfl) (by kernel_rfl) (by kernel_rfl) hal hrow h

def x149 : XC := (.seq (.ops 1 [
    (0, ⟨(some 2), none, .alloc [(.int .i64 0), (.int .u64 0), (.int .u64 0), (.int .u64 0), (.int .u64 0), (.int .i64 0), (.int .i64 0), (.slice none 0 0)]⟩)] (some [0, 2])) (.seq (.ops 4 [
    (0, ⟨(some 4), none, .mv (.t 0)⟩),
    (1, ⟨(some 5), none, .call 162 [(.t 4)] (some 0) false⟩),
    (2, ⟨(some 6), none, .mkrow [(.int .i64 0), (.int .u64 0), (.int .u64 0), (.int .u64 0), (.int .u64 0), (.int .i64 0), (.int .i64 0), (.slice none 0 0)] 1 8 [(0, 8, (.t 5))]⟩),
    (3, ⟨(some 3), none, .mv (.t 6)⟩)] (some [0, 2, 3])) (.seq (.block 0 (.loop (.seq (.seq (.ops 2 [
    (0, ⟨(some 7), none, .mv (.t 0)⟩),
    (1, ⟨(some 8), none, .call 163 [(.t 7), (.k (.d (.val (.int .u8 124))))] (some 0) false⟩)] (some [0, 2, 3, 8])) (.cond (.t 8) .skip (.exit 0))) (.block 1 (.ops 6 [
    (0, ⟨(some 9), none, .mv (.t 3)⟩),
    (1, ⟨(some 10), none, .mv (.t 0)⟩),
    (2, ⟨(some 11), none, .call 162 [(.t 10)] (some 0) false⟩),
    (3, ⟨(some 12), none, .mkrow [(.int .i64 0), (.int .u64 0), (.int .u64 0), (.int .u64 0), (.int .u64 0), (.int .i64 0), (.int .i64 0), (.slice none 0 0)] 1 8 [(0, 8, (.t 11))]⟩),
    (4, ⟨(some 13), none, .app [(.int .i64 0), (.int .u64 0), (.int .u64 0), (.int .u64 0), (.int .u64 0), (.int .i64 0), (.int .i64 0), (.slice none 0 0)] 80 (.t 9) (.t 12)⟩),
    (5, ⟨(some 3), none, .mv (.t 13)⟩)] (some [0, 2, 3])))))) (.seq (.ops 3 [
    (0, ⟨(some 14), none, .mv (.t 3)⟩),
    (1, ⟨(some 15), none, .call 164 [(.k (.d (.val (.int .i64 4)))), (.t 14)] none false⟩),
    (2, ⟨none, none, .store 8 (.t 2) (.t 15)⟩)] (some [2])) .ret))))
def md149 : FuncId → Option Nat × Bool
  | 162 => (some 0, false)
  | 163 => (some 0, false)
  | _ => (none, false)
def od149 : Nat → List (List Nat) × List Nat × Option (List Nat)
  | 0 => ([], [], some [0, 2])
  | 1 => ([], [], some [0, 2, 3])
  | 2 => ([], [], some [0, 2, 3, 8])
  | 3 => ([], [], some [0, 2, 3])
  | 4 => ([], [], some [2])
  | _ => ([], [], none)
theorem b149 {ags : List AV} {row : Option (List DV)} {r : AV} {row' nw : Option (List DV)} (hal : ags.length ≤ 16) (hrow : row'.isSome = true → row.isSome = true) (h : xwp Try.prog x149 (retK [.cell 2 (some 8)] row.isSome r row' nw) (St.init ags row)) : Good Try.prog 149 ags row r row' nw :=
  good_of_body' (md := md149) (od := od149) Try.f149 (by kernel_rfl) (by kernel_rfl) (by kernel_rfl) (by kernel_rfl) (by kernel_rfl) hal hrow h

def x150 : XC := (.seq (.ops 2 [
    (0, ⟨(some 6), none, .mv (.t 1)⟩),
    (1, ⟨(some 7), none, .un .not (.t 6)⟩)] (some [2, 7])) (.cond (.t 7) (.ops 3 [
    (0, ⟨(some 8), none, .mv (.t 2)⟩),
    (1, ⟨(some 9), none, .bad⟩),
    (2, ⟨none, none, .bad⟩)] (some [])) .skip))
def md150 : FuncId → Option Nat × Bool
  | _ => (none, false)
def od150 : Nat → List (List Nat) × List Nat × Option (List Nat)
  | 0 => ([], [], some [2, 7])
  | 1 => ([], [], some [])
  | _ => ([], [], none)
theorem b150 {ags : List AV} {row : Option (List DV)} {r : AV} {row' nw : Option (List DV)} (hal : ags.length ≤ 10) (hrow : row'.isSome = true → row.isSome = true) (h : xwp Try.prog x150 (retK [] row.isSome r row' nw) (St.init ags row)) : Good Try.prog 150 ags row r row' nw :=
  good_of_body' (md := md150) (od := od150) Try.f150 (by kernel_rfl) (by kernel_rfl) (by kernel_rfl) (by kernel_rfl) (by kernel_rfl) hal hrow h

def x162 : XC := (.seq (.ops 1 [
    (0, ⟨(some 2), none, .alloc [(.int .i64 0), (.int .u64 0), (.int .u64 0), (.int .u64 0), (.int .u64 0), (.int .i64 0), (.int .i64 0), (.slice none 0 0)]⟩)] (some [0, 2])) (.seq (.ops 1 [
    (0, ⟨(some 3), none, .mv (.k (.d (.val (.slice none 0 0))))⟩)] (some [0, 2, 3])) (.seq (.block 0 (.loop (.seq (.seq (.ops 3 [
    (0, ⟨(some 4), none, .mv (.t 0)⟩),
    (1, ⟨(some 5), none, .call 170 [(.t 4)] none false⟩),
    (2, ⟨(some 6), none, .un .not (.t 5)⟩)] (some [0, 2, 3, 6])) (.cond (.t 6) .skip (.exit 0))) (.block 1 (.ops 6 [
    (0, ⟨(some 7), none, .mv (.t 3)⟩),
    (1, ⟨(some 8), none, .mv (.t 0)⟩),
    (2, ⟨(some 9), none, .call 171 [(.t 8)] (some 0) false⟩),
    (3, ⟨(some 10), none, .mkrow [(.int .i64 0), (.int .u64 0), (.int .u64 0), (.int .u64 0), (.int .u64 0), (.int .i64 0), (.int .i64 0), (.slice none 0 0)] 1 8 [(0, 8, (.t 9))]⟩),
    (4, ⟨(some 11), none, .app [(.int .i64 0), (.int .u64 0), (.int .u64 0), (.int .u64 0), (.int .u64 0), (.int .i64 0), (.int .i64 0), (.slice none 0 0)] 80 (.t 7) (.t 10)⟩),
    (5, ⟨(some 3), none, .mv (.t 11)⟩)] (some [0, 2, 3])))))) (.seq (.ops 3 [
    (0, ⟨(some 12), none, .mv (.t 3)⟩),
    (1, ⟨(some 13), none, .call 164 [(.k (.d (.val (.int .i64 3)))), (.t 12)] none false⟩),
    (2, ⟨none, none, .store 8 (.t 2) (.t 13)⟩)] (some [2])) .ret))))
def md162 : FuncId → Option Nat × Bool
  | 171 => (some 0, false)
  | _ => (none, false)
def od162 : Nat → List (List Nat) × List Nat × Option (List Nat)
  | 0 => ([], [], some [0, 2])
  | 1 => ([], [], some [0, 2, 3])
  | 2 => ([], [], some [0, 2, 3, 6])
  | 3 => ([], [], some [0, 2, 3])
  | 4 => ([], [], some [2])
  | _ => ([], [], none)
theorem b162 {ags : List AV} {row : Option (List DV)} {r : AV} {row' nw : Option (List DV)} (hal : ags.length ≤ 14) (hrow : row'.isSome = true → row.isSome = true) (h : xwp Try.prog x162 (retK [.cell 2 (some 8)] row.isSome r row' nw) (St.init ags row)) : Good Try.prog 162 ags row r row' nw :=
  good_of_body' (md := md162) (od := od162) Try.f162 (by kernel_rfl) (by kernel_rfl) (by kernel_rfl) (by kernel_rfl) (by kernel_rfl) hal hrow h

def x163 : XC := (.seq (.ops 1 [
    (0, ⟨(some 4), none, .mv (.k (.d (.val (.bool false))))⟩)] (some [0, 1])) (.seq (.seq (.ops 5 [
    (0, ⟨(some 5), none, .mv (.t 0)⟩),
    (1, ⟨(some 6), none, .call 172 [(.t 5)] none false⟩),
    (2, ⟨(some 7), none, .mv (.t 1)⟩),
    (3, ⟨(some 8), none, .conv .i64 (.t 7)⟩),
    (4, ⟨(some 9), none, .arith .neq (.t 6) (.t 8)⟩)] (some [0, 9])) (.cond (.t 9) (.seq (.ops 1 [
    (0, ⟨(some 4), none, .mv (.k (.d (.val (.bool false))))⟩)] (some [4])) .ret) .skip)) (.seq (.ops 8 [
    (0, ⟨(some 10), none, .mv (.t 0)⟩),
    (1, ⟨(some 11), none, .nilck (.t 10)⟩),
    (2, ⟨(some 12), none, .fadd 1 (.t 11)⟩),
    (3, ⟨(some 13), none, .load none (.t 12)⟩),
    (4, ⟨(some 14), none, .arith .add (.t 13) (.k (.d (.val (.int .i64 1))))⟩),
    (5, ⟨(some 15), none, .nilck (.t 10)⟩),
    (6, ⟨(some 16), none, .fadd 1 (.t 15)⟩),
    (7, ⟨none, none, .store 1 (.t 16) (.t 14)⟩)] (some [])) (.seq (.ops 1 [
    (0, ⟨(some 4), none, .mv (.k (.d (.val (.bool true))))⟩)] (some [4])) .ret))))
def md163 : FuncId → Option Nat × Bool
  | _ => (none, false)
def od163 : Nat → List (List Nat) × List Nat × Option (List Nat)
  | 0 => ([], [], some [0, 1])
  | 1 => ([], [], some [0, 9])
  | 2 => ([], [], some [4])
  | 3 => ([], [], some [])
  | 4 => ([], [], some [4])
  | _ => ([], [], none)
theorem b163 {ags : List AV} {row : Option (List DV)} {r : AV} {row' nw : Option (List DV)} (hal : ags.length ≤ 17) (hrow : row'.isSome = true → row.isSome = true) (h : xwp Try.prog x163 (retK [.tmp 4] row.isSome r row' nw) (St.init ags row)) : Good Try.prog 163 ags row r row' nw :=
  good_of_body' (md := md163) (od := od163) Try.f163 (by kernel_rfl) (by kernel_rfl) (by kernel_rfl) (by kernel_rfl) (by kernel_rfl) hal hrow h

def x164 : XC := (.seq (.ops 1 [
    (0, ⟨(some 4), none, .alloc [(.int .i64 0), (.int .u64 0), (.int .u64 0), (.int .u64 0), (.int .u64 0), (.int .i64 0), (.int .i64 0), (.slice none 0 0)]⟩)] (some [0, 1, 4])) (.seq (.block 0 (.seq (.ops 4 [
    (0, ⟨(some 6), none, .mv (.t 1)⟩),
    (1, ⟨(some 7), none, .lenS (.t 6)⟩),
    (2, ⟨(some 8), none, .arith .eql (.t 7) (.k (.d (.val (.int .i64 0))))⟩),
    (3, ⟨(some 5), none, .mv (.t 8)⟩)] (some [0, 1, 4, 5])) (.cond (.t 5) (.seq (.ops 2 [
    (0, ⟨(some 9), none, .build [(.int .i64 0), (.int .u64 0), (.int .u64 0), (.int .u64 0), (.int .u64 0), (.int .i64 0), (.int .i64 0), (.slice none 0 0)] [(0, 1, (.k (.d (.val (.int .i64 1)))))]⟩),
    (1, ⟨none, none, .store 8 (.t 4) (.t 9)⟩)] (some [4])) .ret) (.seq (.ops 4 [
    (0, ⟨(some 11), none, .mv (.t 1)⟩),
    (1, ⟨(some 12), none, .lenS (.t 11)⟩),
    (2, ⟨(some 13), none, .arith .eql (.t 12) (.k (.d (.val (.int .i64 1))))⟩),
    (3, ⟨(some 10), none, .mv (.t 13)⟩)] (some [0, 1, 4, 10])) (.cond (.t 10) (.seq (.ops 4 [
    (0, ⟨(some 14), none, .mv (.t 1)⟩),
    (1, ⟨(some 15), none, .idxS 8 (.t 14) (.k (.d (.val (.int .i64 0))))⟩),
    (2, ⟨(some 16), none, .load (some 8) (.t 15)⟩),
    (3, ⟨none, none, .store 8 (.t 4) (.t 16)⟩)] (some [4])) .ret) .skip))))) (.seq (.ops 4 [
    (0, ⟨(some 17), none, .mv (.t 0)⟩),
    (1, ⟨(some 18), none, .mv (.t 1)⟩),
    (2, ⟨(some 19), none, .build [(.int .i64 0), (.int .u64 0), (.int .u64 0), (.int .u64 0), (.int .u64 0), (.int .i64 0), (.int .i64 0), (.slice none 0 0)] [(0, 1, (.t 17)), (7, 1, (.t 18))]⟩),
    (3, ⟨none, none, .store 8 (.t 4) (.t 19)⟩)] (some [4])) .ret)))
def md164 : FuncId → Option Nat × Bool
  | _ => (none, false)
def od164 : Nat → List (List Nat) × List Nat × Option (List Nat)
  | 0 => ([], [], some [0, 1, 4])
  | 1 => ([], [], some [0, 1, 4, 5])
  | 2 => ([], [], some [4])
  | 3 => ([], [], some [0, 1, 4, 10])
  | 4 => ([], [], some [4])
  | 5 => ([], [], some [4])
  | _ => ([], [], none)
theorem b164 {ags : List AV} {row : Option (List DV)} {r : AV} {row' nw : Option (List DV)} (hal : ags.length ≤ 20) (hrow : row'.isSome = true → row.isSome = true) (h : xwp Try.prog x164 (retK [.cell 4 (some 8)] row.isSome r row' nw) (St.init ags row)) : Good Try.prog 164 ags row r row' nw :=
  good_of_body' (md := md164) (od := od164) Try.f164 (by kernel_rfl) (by kernel_rfl) (by kernel_rfl) (by kernel_rfl) (by kernel_rfl) hal hrow h

def x170 : XC := (.seq (.ops 1 [
    (0, ⟨(some 2), none, .mv (.k (.d (.val (.bool false))))⟩)] (some [0])) (.seq (.ops 3 [
    (0, ⟨(some 4), none, .mv (.t 0)⟩),
    (1, ⟨(some 5), none, .call 172 [(.t 4)] none false⟩),
    (2, ⟨(some 3), none, .mv (.t 5)⟩)] (some [3])) (.seq (.ops 11 [
    (0, ⟨(some 6), none, .mv (.t 3)⟩),
    (1, ⟨(some 7), none, .arith .lss (.t 6) (.k (.d (.val (.int .i64 0))))⟩),
    (2, ⟨(some 8), none, .mv (.t 7)⟩),
    (3, ⟨(some 9), (some (8, false)), .mv (.t 3)⟩),
    (4, ⟨(some 10), (some (8, false)), .arith .eql (.t 9) (.k (.d (.val (.int .i64 124))))⟩),
    (5, ⟨(some 11), none, .pick (.t 8) (.k (.d (.val (.bool true)))) (.t 10)⟩),
    (6, ⟨(some 12), none, .mv (.t 11)⟩),
    (7, ⟨(some 13), (some (12, false)), .mv (.t 3)⟩),
    (8, ⟨(some 14), (some (12, false)), .arith .eql (.t 13) (.k (.d (.val (.int .i64 41))))⟩),
    (9, ⟨(some 15), none, .pick (.t 12) (.k (.d (.val (.bool true)))) (.t 14)⟩),
    (10, ⟨(some 2), none, .mv (.t 15)⟩)] (some [2])) .ret)))
def md170 : FuncId → Option Nat × Bool
  | _ => (none, false)
def od170 : Nat → List (List Nat) × List Nat × Option (List Nat)
  | 0 => ([], [], some [0])
  | 1 => ([], [], some [3])
  | 2 => ([], [], some [2])
  | _ => ([], [], none)
theorem b170 {ags : List AV} {row : Option (List DV)} {r : AV} {row' nw : Option (List DV)} (hal : ags.length ≤ 16) (hrow : row'.isSome = true → row.isSome = true) (h : xwp Try.prog x170 (retK [.tmp 2] row.isSome r row' nw) (St.init ags row)) : Good Try.prog 170 ags row r row' nw :=
  good_of_body' (md := md170) (od := od170) Try.f170 (by kernel_rfl) (by kernel_rfl) (by kernel_rfl) (by kernel_rfl) (by kernel_rfl) hal hrow h

def x171 : XC := (.seq (.ops 1 [
    (0, ⟨(some 2), none, .alloc [(.int .i64 0), (.int .u64 0), (.int .u64 0), (.int .u64 0), (.int .u64 0), (.int .i64 0), (.int .i64 0), (.slice none 0 0)]⟩)] (some [0, 2])) (.seq (.ops 4 [
    (0, ⟨(some 5), none, .mv (.t 0)⟩),
    (1, ⟨(some 6), none, .call 176 [(.t 5)] (some 0) false⟩),
    (2, ⟨(some 3), none, .alloc [(.int .i64 0), (.int .u64 0), (.int .u64 0), (.int .u64 0), (.int .u64 0), (.int .i64 0), (.int .i64 0), (.slice none 0 0)]⟩),
    (3, ⟨none, none, .store 8 (.t 3) (.t 6)⟩)] (some [0, 2, 3])) (.seq (.ops 5 [
    (0, ⟨(some 7), none, .load (some 8) (.t 3)⟩),
    (1, ⟨(some 8), none, .mkrow [(.int .i64 0), (.int .u64 0), (.int .u64 0), (.int .u64 0), (.int .u64 0), (.int .i64 0), (.int .i64 0), (.slice none 0 0)] 1 8 [(0, 8, (.t 7))]⟩),
    (2, ⟨(some 9), none, .build [(.int .i64 0), (.int .u64 0), (.int .u64 0), (.int .u64 0), (.int .u64 0), (.int .i64 0), (.int .i64 0), (.slice none 0 0)] [(0, 1, (.k (.d (.val (.int .i64 5))))), (6, 1, (.k (.d (.val (.int .i64 (-1)))))), (7, 1, (.t 8))]⟩),
    (3, ⟨(some 4), none, .alloc [(.int .i64 0), (.int .u64 0), (.int .u64 0), (.int .u64 0), (.int .u64 0), (.int .i64 0), (.int .i64 0), (.slice none 0 0)]⟩),
    (4, ⟨none, none, .store 8 (.t 4) (.t 9)⟩)] (some [0, 2, 3, 4])) (.seq (.block 0 (.seq (.ops 3 [
    (0, ⟨(some 12), none, .mv (.t 0)⟩),
    (1, ⟨(some 13), none, .call 163 [(.t 12), (.k (.d (.val (.int .u8 42))))] (some 0) false⟩),
    (2, ⟨(some 11), none, .mv (.t 13)⟩)] (some [0, 2, 3, 4, 11])) (.cond (.t 11) .skip (.seq (.ops 3 [
    (0, ⟨(some 15), none, .mv (.t 0)⟩),
    (1, ⟨(some 16), none, .call 163 [(.t 15), (.k (.d (.val (.int .u8 43))))] (some 0) false⟩),
    (2, ⟨(some 14), none, .mv (.t 16)⟩)] (some [0, 2, 3, 4, 14])) (.cond (.t 14) (.ops 2 [
    (0, ⟨(some 17), none, .fadd 5 (.t 4)⟩),
    (1, ⟨none, none, .store 1 (.t 17) (.k (.d (.val (.int .i64 1))))⟩)] (some [2, 4])) (.seq (.ops 3 [
    (0, ⟨(some 19), none, .mv (.t 0)⟩),
    (1, ⟨(some 20), none, .call 163 [(.t 19), (.k (.d (.val (.int .u8 63))))] (some 0) false⟩),
    (2, ⟨(some 18), none, .mv (.t 20)⟩)] (some [0, 2, 3, 4, 18])) (.cond (.t 18) (.ops 2 [
    (0, ⟨(some 21), none, .fadd 6 (.t 4)⟩),
    (1, ⟨none, none, .store 1 (.t 21) (.k (.d (.val (.int .i64 1))))⟩)] (some [2, 4])) (.seq (.ops 3 [
    (0, ⟨(some 23), none, .mv (.t 0)⟩),
    (1, ⟨(some 24), none, .call 163 [(.t 23), (.k (.d (.val (.int .u8 123))))] (some 0) false⟩),
    (2, ⟨(some 22), none, .mv (.t 24)⟩)] (some [0, 2, 3, 4, 22])) (.cond (.t 22) (.ops 9 [
    (0, ⟨(some 26), none, .mv (.t 0)⟩),
    (1, ⟨(some 27), none, .call 177 [(.t 26)] (some 0) false⟩),
    (2, ⟨(some 25), none, .mv (.t 27)⟩),
    (3, ⟨(some 28), none, .ext (.t 25) 0⟩),
    (4, ⟨(some 29), none, .ext (.t 25) 1⟩),
    (5, ⟨(some 30), none, .fadd 5 (.t 4)⟩),
    (6, ⟨none, none, .store 1 (.t 30) (.t 28)⟩),
    (7, ⟨(some 31), none, .fadd 6 (.t 4)⟩),
    (8, ⟨none, none, .store 1 (.t 31) (.t 29)⟩)] (some [2, 4])) (.seq (.ops 2 [
    (0, ⟨(some 10), none, .load (some 8) (.t 3)⟩),
    (1, ⟨none, none, .store 8 (.t 2) (.t 10)⟩)] (some [2])) .ret)))))))))) (.seq (.ops 2 [
    (0, ⟨(some 32), none, .load (some 8) (.t 4)⟩),
    (1, ⟨none, none, .store 8 (.t 2) (.t 32)⟩)] (some [2])) .ret)))))
def md171 : FuncId → Option Nat × Bool
  | 163 => (some 0, false)
  | 176 => (some 0, false)
  | 177 => (some 0, false)
  | _ => (none, false)
def od171 : Nat → List (List Nat) × List Nat × Option (List Nat)
  | 0 => ([], [], some [0, 2])
  | 1 => ([], [], some [0, 2, 3])
  | 2 => ([], [], some [0, 2, 3, 4])
  | 3 => ([], [], some [2])
  | 4 => ([], [], some [0, 2, 3, 4, 11])
  | 5 => ([], [], some [0, 2, 3, 4, 14])
  | 6 => ([], [], some [2, 4])
  | 7 => ([], [], some [0, 2, 3, 4, 18])
  | 8 => ([], [], some [2, 4])
  | 9 => ([], [], some [0, 2, 3, 4, 22])
  | 10 => ([], [], some [2, 4])
  | 11 => ([], [], some [2])
  | _ => ([], [], none)
theorem b171 {ags : List AV} {row : Option (List DV)} {r : AV} {row' nw : Option (List DV)} (hal : ags.length ≤ 33) (hrow : row'.isSome = true → row.isSome = true) (h : xwp Try.prog x171 (retK [.cell 2 (some 8)] row.isSome r row' nw) (St.init ags row)) : Good Try.prog 171 ags row r row' nw :=
  good_of_body' (md := md171) (od := od171) Try.f171 (by kernel_rfl) (by kernel_rfl) (by kernel_rfl) (by kernel_rfl) (by kernel_rfl) hal hrow h

def x172 : XC := (.seq (.ops 1 [
    (0, ⟨(some 2), none, .mv (.k (.d (.val (.int .i64 0))))⟩)] (some [0])) (.seq (.seq (.ops 10 [
    (0, ⟨(some 3), none, .mv (.t 0)⟩),
    (1, ⟨(some 4), none, .nilck (.t 3)⟩),
    (2, ⟨(some 5), none, .fadd 1 (.t 4)⟩),
    (3, ⟨(some 6), none, .load none (.t 5)⟩),
    (4, ⟨(some 7), none, .mv (.t 0)⟩),
    (5, ⟨(some 8), none, .nilck (.t 7)⟩),
    (6, ⟨(some 9), none, .fadd 0 (.t 8)⟩),
    (7, ⟨(some 10), none, .load none (.t 9)⟩),
    (8, ⟨(some 11), none, .lenT (.t 10)⟩),
    (9, ⟨(some 12), none, .arith .geq (.t 6) (.t 11)⟩)] (some [0, 12])) (.cond (.t 12) (.seq (.ops 1 [
    (0, ⟨(some 2), none, .mv (.k (.d (.val (.int .i64 (-1)))))⟩)] (some [2])) .ret) .skip)) (.seq (.ops 11 [
    (0, ⟨(some 13), none, .mv (.t 0)⟩),
    (1, ⟨(some 14), none, .nilck (.t 13)⟩),
    (2, ⟨(some 15), none, .fadd 0 (.t 14)⟩),
    (3, ⟨(some 16), none, .load none (.t 15)⟩),
    (4, ⟨(some 17), none, .mv (.t 0)⟩),
    (5, ⟨(some 18), none, .nilck (.t 17)⟩),
    (6, ⟨(some 19), none, .fadd 1 (.t 18)⟩),
    (7, ⟨(some 20), none, .load none (.t 19)⟩),
    (8, ⟨(some 21), none, .idxT (.t 16) (.t 20)⟩),
    (9, ⟨(some 22), none, .conv .i64 (.t 21)⟩),
    (10, ⟨(some 2), none, .mv (.t 22)⟩)] (some [2])) .ret)))
def md172 : FuncId → Option Nat × Bool
  | _ => (none, false)
def od172 : Nat → List (List Nat) × List Nat × Option (List Nat)
  | 0 => ([], [], some [0])
  | 1 => ([[], [0], [0, 1], [0, 1, 2], [], [4], [4, 5], [4, 5, 6], [4, 5, 6, 7], [0, 1, 2, 3, 4, 5, 6, 7, 8]], [0, 1, 2, 3, 4, 5, 6, 7, 8, 9], some [0, 12])
  | 2 => ([], [], some [2])
  | 3 => ([[], [0], [0, 1], [0, 1, 2], [], [4], [4, 5], [4, 5, 6], [0, 1, 2, 3, 4, 5, 6, 7], [0, 1, 2, 3, 4, 5, 6, 7, 8], [0, 1, 2, 3, 4, 5, 6, 7, 8, 9]], [0, 1, 2, 3, 4, 5, 6, 7, 8, 9, 10], some [2])
  | _ => ([], [], none)
theorem b172 {ags : List AV} {row : Option (List DV)} {r : AV} {row' nw : Option (List DV)} (hal : ags.length ≤ 23) (hrow : row'.isSome = true → row.isSome = true) (h : xwp Try.prog x172 (retK [.tmp 2] row.isSome r row' nw) (St.init ags row)) : Good Try.prog 172 ags row r row' nw :=
  good_of_body' (md := md172) (od := od172) Try.f172 (by kernel_rfl) (by kernel_rfl) (by kernel_rfl) (by kernel_rfl) (by kernel_rfl) hal hrow h

def x176 : XC := (.seq (.ops 1 [
    (0, ⟨(some 2), none, .alloc [(.int .i64 0), (.int .u64 0), (.int .u64 0), (.int .u64 0), (.int .u64 0), (.int .i64 0), (.int .i64 0), (.slice none 0 0)]⟩)] (some [0, 2])) (.seq (.block 0 (.seq (.ops 4 [
    (0, ⟨(some 5), none, .mv (.t 0)⟩),
    (1, ⟨(some 6), none, .call 172 [(.t 5)] none false⟩),
    (2, ⟨(some 7), none, .arith .eql (.t 6) (.k (.d (.val (.int .i64 40))))⟩),
    (3, ⟨(some 4), none, .mv (.t 7)⟩)] (some [0, 2, 4])) (.cond (.t 4) (.seq (.ops 11 [
    (0, ⟨(some 8), none, .mv (.t 0)⟩),
    (1, ⟨(some 9), none, .mv (.t 0)⟩),
    (2, ⟨(some 10), none, .nilck (.t 9)⟩),
    (3, ⟨(some 11), none, .fadd 2 (.t 10)⟩),
    (4, ⟨(some 12), none, .load none (.t 11)⟩),
    (5, ⟨(some 13), none, .arith .lss (.t 12) (.k (.d (.val (.int .i64 12))))⟩),
    (6, ⟨(some 14), none, .mv (.t 0)⟩),
    (7, ⟨(some 15), none, .nilck (.t 14)⟩),
    (8, ⟨(some 16), none, .fadd 1 (.t 15)⟩),
    (9, ⟨(some 17), none, .load none (.t 16)⟩),
    (10, ⟨(some 18), none, .call 150 [(.t 8), (.t 13), (.t 17)] none false⟩)] (some [0, 2])) (.seq (.ops 8 [
    (0, ⟨(some 19), none, .mv (.t 0)⟩),
    (1, ⟨(some 20), none, .nilck (.t 19)⟩),
    (2, ⟨(some 21), none, .fadd 1 (.t 20)⟩),
    (3, ⟨(some 22), none, .load none (.t 21)⟩),
    (4, ⟨(some 23), none, .arith .add (.t 22) (.k (.d (.val (.int .i64 1))))⟩),
    (5, ⟨(some 24), none, .nilck (.t 19)⟩),
    (6, ⟨(some 25), none, .fadd 1 (.t 24)⟩),
    (7, ⟨none, none, .store 1 (.t 25) (.t 23)⟩)] (some [0, 2])) (.seq (.ops 8 [
    (0, ⟨(some 26), none, .mv (.t 0)⟩),
    (1, ⟨(some 27), none, .nilck (.t 26)⟩),
    (2, ⟨(some 28), none, .fadd 2 (.t 27)⟩),
    (3, ⟨(some 29), none, .load none (.t 28)⟩),
    (4, ⟨(some 30), none, .arith .add (.t 29) (.k (.d (.val (.int .i64 1))))⟩),
    (5, ⟨(some 31), none, .nilck (.t 26)⟩),
    (6, ⟨(some 32), none, .fadd 2 (.t 31)⟩),
    (7, ⟨none, none, .store 1 (.t 32) (.t 30)⟩)] (some [0, 2])) (.seq (.ops 4 [
    (0, ⟨(some 33), none, .mv (.t 0)⟩),
    (1, ⟨(some 34), none, .call 149 [(.t 33)] (some 0) false⟩),
    (2, ⟨(some 3), none, .alloc [(.int .i64 0), (.int .u64 0), (.int .u64 0), (.int .u64 0), (.int .u64 0), (.int .i64 0), (.int .i64 0), (.slice none 0 0)]⟩),
    (3, ⟨none, none, .store 8 (.t 3) (.t 34)⟩)] (some [0, 2, 3])) (.seq (.ops 8 [
    (0, ⟨(some 35), none, .mv (.t 0)⟩),
    (1, ⟨(some 36), none, .nilck (.t 35)⟩),
    (2, ⟨(some 37), none, .fadd 2 (.t 36)⟩),
    (3, ⟨(some 38), none, .load none (.t 37)⟩),
    (4, ⟨(some 39), none, .arith .sub (.t 38) (.k (.d (.val (.int .i64 1))))⟩),
    (5, ⟨(some 40), none, .nilck (.t 35)⟩),
    (6, ⟨(some 41), none, .fadd 2 (.t 40)⟩),
    (7, ⟨none, none, .store 1 (.t 41) (.t 39)⟩)] (some [0, 2, 3])) (.seq (.ops 2 [
    (0, ⟨(some 42), none, .mv (.t 0)⟩),
    (1, ⟨(some 43), none, .call 178 [(.t 42), (.k (.d (.val (.int .u8 41))))] (some 0) false⟩)] (some [2, 3])) (.seq (.ops 2 [
    (0, ⟨(some 44), none, .load (some 8) (.t 3)⟩),
    (1, ⟨none, none, .store 8 (.t 2) (.t 44)⟩)] (some [2])) .ret))))))) (.seq (.ops 3 [
    (0, ⟨(some 46), none, .mv (.t 0)⟩),
    (1, ⟨(some 47), none, .call 163 [(.t 46), (.k (.d (.val (.int .u8 46))))] (some 0) false⟩),
    (2, ⟨(some 45), none, .mv (.t 47)⟩)] (some [0, 2, 45])) (.cond (.t 45) (.seq (.ops 3 [
    (0, ⟨(some 48), none, .call 119 [(.k (.d (.val (.int .u8 0)))), (.k (.d (.val (.int .u8 255))))] none false⟩),
    (1, ⟨(some 49), none, .build [(.int .i64 0), (.int .u64 0), (.int .u64 0), (.int .u64 0), (.int .u64 0), (.int .i64 0), (.int .i64 0), (.slice none 0 0)] [(0, 1, (.k (.d (.val (.int .i64 2))))), (1, 4, (.t 48))]⟩),
    (2, ⟨none, none, .store 8 (.t 2) (.t 49)⟩)] (some [2])) .ret) (.seq (.ops 3 [
    (0, ⟨(some 51), none, .mv (.t 0)⟩),
    (1, ⟨(some 52), none, .call 163 [(.t 51), (.k (.d (.val (.int .u8 91))))] (some 0) false⟩),
    (2, ⟨(some 50), none, .mv (.t 52)⟩)] (some [0, 2, 50])) (.cond (.t 50) (.seq (.ops 4 [
    (0, ⟨(some 53), none, .mv (.t 0)⟩),
    (1, ⟨(some 54), none, .call 179 [(.t 53)] (some 0) false⟩),
    (2, ⟨(some 55), none, .build [(.int .i64 0), (.int .u64 0), (.int .u64 0), (.int .u64 0), (.int .u64 0), (.int .i64 0), (.int .i64 0), (.slice none 0 0)] [(0, 1, (.k (.d (.val (.int .i64 2))))), (1, 4, (.t 54))]⟩),
    (3, ⟨none, none, .store 8 (.t 2) (.t 55)⟩)] (some [2])) .ret) .skip))))))) (.seq (.ops 5 [
    (0, ⟨(some 56), none, .mv (.t 0)⟩),
    (1, ⟨(some 57), none, .call 181 [(.t 56)] (some 0) false⟩),
    (2, ⟨(some 58), none, .call 180 [(.t 57)] none false⟩),
    (3, ⟨(some 59), none, .build [(.int .i64 0), (.int .u64 0), (.int .u64 0), (.int .u64 0), (.int .u64 0), (.int .i64 0), (.int .i64 0), (.slice none 0 0)] [(0, 1, (.k (.d (.val (.int .i64 2))))), (1, 4, (.t 58))]⟩),
    (4, ⟨none, none, .store 8 (.t 2) (.t 59)⟩)] (some [2])) .ret)))
def md176 : FuncId → Option Nat × Bool
  | 149 => (some 0, false)
  | 163 => (some 0, false)
  | 178 => (some 0, false)
  | 179 => (some 0, false)
  | 181 => (some 0, false)
  | _ => (none, false)
def od176 : Nat → List (List Nat) × List Nat × Option (List Nat)
  | 0 => ([], [], some [0, 2])
  | 1 => ([], [], some [0, 2, 4])
  | 2 => ([[], [], [1], [1, 2], [1, 2, 3], [1, 2, 3, 4], [], [6], [6, 7], [6, 7, 8], [0, 1, 2, 3, 4, 5, 6, 7, 8, 9]], [0, 1, 2, 3, 4, 5, 6, 7, 8, 9, 10], some [0, 2])
  | 3 => ([], [], some [0, 2])
  | 4 => ([], [], some [0, 2])
  | 5 => ([], [], some [0, 2, 3])
  | 6 => ([], [], some [0, 2, 3])
  | 7 => ([], [], some [2, 3])
  | 8 => ([], [], some [2])
  | 9 => ([], [], some [0, 2, 45])
  | 10 => ([], [], some [2])
  | 11 => ([], [], some [0, 2, 50])
  | 12 => ([], [], some [2])
  | 13 => ([], [], some [2])
  | _ => ([], [], none)
theorem b176 {ags : List AV} {row : Option (List DV)} {r : AV} {row' nw : Option (List DV)} (hal : ags.length ≤ 60) (hrow : row'.isSome = true → row.isSome = true) (h : xwp Try.prog x176 (retK [.cell 2 (some 8)] row.isSome r row' nw) (St.init ags row)) : Good Try.prog 176 ags row r row' nw :=
  good_of_body' (md := md176) (od := od176) Try.f176 (by kernel_rfl) (by kernel_rfl) (by kernel_rfl) (by kernel_rfl) (by kernel_rfl) hal hrow h

def x177 : XC := (.seq (.ops 2 [
    (0, ⟨(some 2), none, .mv (.k (.d (.val (.int .i64 0))))⟩),
    (1, ⟨(some 3), none, .mv (.k (.d (.val (.int .i64 0))))⟩)] (some [0])) (.seq (.ops 3 [
    (0, ⟨(some 5), none, .mv (.t 0)⟩),
    (1, ⟨(some 6), none, .call 182 [(.t 5)] (some 0) false⟩),
    (2, ⟨(some 2), none, .mv (.t 6)⟩)] (some [0, 2])) (.seq (.ops 2 [
    (0, ⟨(some 7), none, .mv (.t 2)⟩),
    (1, ⟨(some 3), none, .mv (.t 7)⟩)] (some [0, 2, 3])) (.seq (.seq (.ops 2 [
    (0, ⟨(some 8), none, .mv (.t 0)⟩),
    (1, ⟨(some 9), none, .call 163 [(.t 8), (.k (.d (.val (.int .u8 44))))] (some 0) false⟩)] (some [0, 2, 3, 9])) (.cond (.t 9) (.seq (.ops 1 [
    (0, ⟨(some 3), none, .mv (.k (.d (.val (.int .i64 (-1)))))⟩)] (some [0, 2, 3])) (.seq (.ops 3 [
    (0, ⟨(some 10), none, .mv (.t 0)⟩),
    (1, ⟨(some 11), none, .call 172 [(.t 10)] none false⟩),
    (2, ⟨(some 12), none, .arith .neq (.t 11) (.k (.d (.val (.int .i64 125))))⟩)] (some [0, 2, 3, 12])) (.cond (.t 12) (.seq (.ops 5 [
    (0, ⟨(some 13), none, .mv (.t 0)⟩),
    (1, ⟨(some 14), none, .nilck (.t 13)⟩),
    (2, ⟨(some 15), none, .fadd 1 (.t 14)⟩),
    (3, ⟨(some 16), none, .load none (.t 15)⟩),
    (4, ⟨(some 4), none, .mv (.t 16)⟩)] (some [0, 2, 4])) (.seq (.ops 3 [
    (0, ⟨(some 17), none, .mv (.t 0)⟩),
    (1, ⟨(some 18), none, .call 182 [(.t 17)] (some 0) false⟩),
    (2, ⟨(some 3), none, .mv (.t 18)⟩)] (some [0, 2, 3, 4])) (.ops 6 [
    (0, ⟨(some 19), none, .mv (.t 0)⟩),
    (1, ⟨(some 20), none, .mv (.t 3)⟩),
    (2, ⟨(some 21), none, .mv (.t 2)⟩),
    (3, ⟨(some 22), none, .arith .geq (.t 20) (.t 21)⟩),
    (4, ⟨(some 23), none, .mv (.t 4)⟩),
    (5, ⟨(some 24), none, .call 150 [(.t 19), (.t 22), (.t 23)] none false⟩)] (some [0, 2, 3])))) .skip))) .skip)) (.seq (.ops 2 [
    (0, ⟨(some 25), none, .mv (.t 0)⟩),
    (1, ⟨(some 26), none, .call 178 [(.t 25), (.k (.d (.val (.int .u8 125))))] (some 0) false⟩)] (some [2, 3])) (.seq (.ops 4 [
    (0, ⟨(some 27), none, .mv (.t 2)⟩),
    (1, ⟨(some 28), none, .mv (.t 3)⟩),
    (2, ⟨(some 2), none, .mv (.t 27)⟩),
    (3, ⟨(some 3), none, .mv (.t 28)⟩)] (some [2, 3])) .ret))))))
def md177 : FuncId → Option Nat × Bool
  | 163 => (some 0, false)
  | 178 => (some 0, false)
  | 182 => (some 0, false)
  | _ => (none, false)
def od177 : Nat → List (List Nat) × List Nat × Option (List Nat)
  | 0 => ([], [], some [0])
  | 1 => ([], [], some [0, 2])
  | 2 => ([], [], some [0, 2, 3])
  | 3 => ([], [], some [0, 2, 3, 9])
  | 4 => ([], [], some [0, 2, 3])
  | 5 => ([], [], some [0, 2, 3, 12])
  | 6 => ([], [], some [0, 2, 4])
  | 7 => ([], [], some [0, 2, 3, 4])
  | 8 => ([], [], some [0, 2, 3])
  | 9 => ([], [], some [2, 3])
  | 10 => ([], [], some [2, 3])
  | _ => ([], [], none)
theorem b177 {ags : List AV} {row : Option (List DV)} {r : AV} {row' nw : Option (List DV)} (hal : ags.length ≤ 29) (hrow : row'.isSome = true → row.isSome = true) (h : xwp Try.prog x177 (retK [.tmp 2, .tmp 3] row.isSome r row' nw) (St.init ags row)) : Good Try.prog 177 ags row r row' nw :=
  good_of_body' (md := md177) (od := od177) Try.f177 (by kernel_rfl) (by kernel_rfl) (by kernel_rfl) (by kernel_rfl) (by kernel_rfl) hal hrow h

def x178 : XC := (.seq (.ops 4 [
    (0, ⟨(some 5), none, .mv (.t 0)⟩),
    (1, ⟨(some 6), none, .mv (.t 1)⟩),
    (2, ⟨(some 7), none, .call 163 [(.t 5), (.t 6)] (some 0) false⟩),
    (3, ⟨(some 4), none, .mv (.t 7)⟩)] (some [0, 4])) (.ops 7 [
    (0, ⟨(some 8), none, .mv (.t 0)⟩),
    (1, ⟨(some 9), none, .mv (.t 4)⟩),
    (2, ⟨(some 10), none, .mv (.t 0)⟩),
    (3, ⟨(some 11), none, .nilck (.t 10)⟩),
    (4, ⟨(some 12), none, .fadd 1 (.t 11)⟩),
    (5, ⟨(some 13), none, .load none (.t 12)⟩),
    (6, ⟨(some 14), none, .call 150 [(.t 8), (.t 9), (.t 13)] none false⟩)] (some [])))
def md178 : FuncId → Option Nat × Bool
  | 163 => (some 0, false)
  | _ => (none, false)
def od178 : Nat → List (List Nat) × List Nat × Option (List Nat)
  | 0 => ([], [], some [0, 4])
  | 1 => ([], [], some [])
  | _ => ([], [], none)
theorem b178 {ags : List AV} {row : Option (List DV)} {r : AV} {row' nw : Option (List DV)} (hal : ags.length ≤ 15) (hrow : row'.isSome = true → row.isSome = true) (h : xwp Try.prog x178 (retK [] row.isSome r row' nw) (St.init ags row)) : Good Try.prog 178 ags row r row' nw :=
  good_of_body' (md := md178) (od := od178) Try.f178 (by kernel_rfl) (by kernel_rfl) (by kernel_rfl) (by kernel_rfl) (by kernel_rfl) hal hrow h

def x179 : XC := (.seq (.ops 1 [
    (0, ⟨(some 2), none, .alloc [(.int .u64 0), (.int .u64 0), (.int .u64 0), (.int .u64 0)]⟩)] (some [0, 2])) (.seq (.ops 3 [
    (0, ⟨(some 4), none, .mv (.t 0)⟩),
    (1, ⟨(some 5), none, .call 163 [(.t 4), (.k (.d (.val (.int .u8 94))))] (some 0) false⟩),
    (2, ⟨(some 3), none, .mv (.t 5)⟩)] (some [0, 2, 3])) (.seq (.block 0 (.loop (.seq (.seq (.ops 3 [
    (0, ⟨(some 6), none, .mv (.t 0)⟩),
    (1, ⟨(some 7), none, .call 172 [(.t 6)] none false⟩),
    (2, ⟨(some 8), none, .arith .neq (.t 7) (.k (.d (.val (.int .i64 93))))⟩)] (some [0, 2, 3, 8])) (.cond (.t 8) .skip (.exit 0))) (.block 1 (.ops 5 [
    (0, ⟨(some 9), none, .load (some 4) (.t 2)⟩),
    (1, ⟨(some 10), none, .mv (.t 0)⟩),
    (2, ⟨(some 11), none, .callA 183 [(.t 10)] 0 [2]⟩),
    (3, ⟨(some 12), none, .call 73 [(.t 9), (.t 11)] none false⟩),
    (4, ⟨none, none, .store 4 (.t 2) (.t 12)⟩)] (some [0, 2, 3])))))) (.seq (.ops 2 [
    (0, ⟨(some 13), none, .mv (.t 0)⟩),
    (1, ⟨(some 14), none, .call 178 [(.t 13), (.k (.d (.val (.int .u8 93))))] (some 0) false⟩)] (some [2, 3])) (.seq (.seq (.ops 1 [
    (0, ⟨(some 15), none, .mv (.t 3)⟩)] (some [2, 15])) (.cond (.t 15) (.ops 3 [
    (0, ⟨(some 16), none, .load (some 4) (.t 2)⟩),
    (1, ⟨(some 17), none, .call 184 [(.t 16)] none false⟩),
    (2, ⟨none, none, .store 4 (.t 2) (.t 17)⟩)] (some [2])) .skip)) (.seq (.ops 2 [
    (0, ⟨(some 18), none, .load (some 4) (.t 2)⟩),
    (1, ⟨none, none, .store 4 (.t 2) (.t 18)⟩)] (some [2])) .ret))))))
def md179 : FuncId → Option Nat × Bool
  | 163 => (some 0, false)
  | 178 => (some 0, false)
  | 183 => (some 0, false)
  | _ => (none, false)
def od179 : Nat → List (List Nat) × List Nat × Option (List Nat)
  | 0 => ([], [], some [0, 2])
  | 1 => ([], [], some [0, 2, 3])
  | 2 => ([], [], some [0, 2, 3, 8])
  | 3 => ([[], [], [1], [0, 1, 2], [0, 1, 2, 3]], [0, 1, 2, 3, 4], some [0, 2, 3])
  | 4 => ([], [], some [2, 3])
  | 5 => ([], [], some [2, 15])
  | 6 => ([], [], some [2])
  | 7 => ([], [], some [2])
  | _ => ([], [], none)
theorem b179 {ags : List AV} {row : Option (List DV)} {r : AV} {row' nw : Option (List DV)} (hal : ags.length ≤ 19) (hrow : row'.isSome = true → row.isSome = true) (h : xwp Try.prog x179 (retK [.cell 2 (some 4)] row.isSome r row' nw) (St.init ags row)) : Good Try.prog 179 ags row r row' nw :=
  good_of_body' (md := md179) (od := od179) Try.f179 (by kernel_rfl) (by kernel_rfl) (by kernel_rfl) (by kernel_rfl) (by kernel_rfl) hal hrow h

def x180 : XC := (.seq (.ops 1 [
    (0, ⟨(some 2), none, .alloc [(.int .u64 0), (.int .u64 0), (.int .u64 0), (.int .u64 0)]⟩)] (some [0, 2])) (.seq (.ops 7 [
    (0, ⟨(some 3), none, .mv (.t 0)⟩),
    (1, ⟨(some 4), none, .arith .quo (.t 3) (.k (.d (.val (.int .u8 64))))⟩),
    (2, ⟨(some 5), none, .mv (.t 0)⟩),
    (3, ⟨(some 6), none, .arith .rem (.t 5) (.k (.d (.val (.int .u8 64))))⟩),
    (4, ⟨(some 7), none, .arith .shl (.k (.d (.val (.int .u64 1)))) (.t 6)⟩),
    (5, ⟨(some 8), none, .idxP 4 1 (.t 2) (.t 4)⟩),
    (6, ⟨none, none, .store 1 (.t 8) (.t 7)⟩)] (some [2])) (.seq (.ops 2 [
    (0, ⟨(some 9), none, .load (some 4) (.t 2)⟩),
    (1, ⟨none, none, .store 4 (.t 2) (.t 9)⟩)] (some [2])) .ret)))
def md180 : FuncId → Option Nat × Bool
  | _ => (none, false)
def od180 : Nat → List (List Nat) × List Nat × Option (List Nat)
  | 0 => ([], [], some [0, 2])
  | 1 => ([], [], some [2])
  | 2 => ([], [], some [2])
  | _ => ([], [], none)
theorem b180 {ags : List AV} {row : Option (List DV)} {r : AV} {row' nw : Option (List DV)} (hal : ags.length ≤ 10) (hrow : row'.isSome = true → row.isSome = true) (h : xwp Try.prog x180 (retK [.cell 2 (some 4)] row.isSome r row' nw) (St.init ags row)) : Good Try.prog 180 ags row r row' nw :=
  good_of_body' (md := md180) (od := od180) Try.f180 (by kernel_rfl) (by kernel_rfl) (by kernel_rfl) (by kernel_rfl) (by kernel_rfl) hal hrow h

def x181 : XC := (.seq (.ops 1 [
    (0, ⟨(some 2), none, .mv (.k (.d (.val (.int .u8 0))))⟩)] (some [0])) (.seq (.ops 3 [
    (0, ⟨(some 4), none, .mv (.t 0)⟩),
    (1, ⟨(some 5), none, .call 172 [(.t 4)] none false⟩),
    (2, ⟨(some 3), none, .mv (.t 5)⟩)] (some [0, 3])) (.seq (.seq (.ops 2 [
    (0, ⟨(some 6), none, .mv (.t 0)⟩),
    (1, ⟨(some 7), none, .call 163 [(.t 6), (.k (.d (.val (.int .u8 92))))] (some 0) false⟩)] (some [0, 3, 7])) (.cond (.t 7) (.seq (.ops 3 [
    (0, ⟨(some 8), none, .mv (.t 0)⟩),
    (1, ⟨(some 9), none, .call 185 [(.t 8)] (some 0) false⟩),
    (2, ⟨(some 2), none, .mv (.t 9)⟩)] (some [2])) .ret) .skip)) (.seq (.ops 15 [
    (0, ⟨(some 10), none, .mv (.t 0)⟩),
    (1, ⟨(some 11), none, .mv (.t 3)⟩),
    (2, ⟨(some 12), none, .arith .geq (.t 11) (.k (.d (.val (.int .i64 0))))⟩),
    (3, ⟨(some 13), none, .mv (.t 12)⟩),
    (4, ⟨(some 14), (some (13, true)), .mv (.t 3)⟩),
    (5, ⟨(some 15), (some (13, true)), .conv .u8 (.t 14)⟩),
    (6, ⟨(some 16), (some (13, true)), .call 186 [(.t 15)] none false⟩),
    (7, ⟨(some 17), (some (13, true)), .lenT (.t 16)⟩),
    (8, ⟨(some 18), (some (13, true)), .arith .eql (.t 17) (.k (.d (.val (.int .i64 1))))⟩),
    (9, ⟨(some 19), none, .pick (.t 13) (.t 18) (.k (.d (.val (.bool false))))⟩),
    (10, ⟨(some 20), none, .mv (.t 0)⟩),
    (11, ⟨(some 21), none, .nilck (.t 20)⟩),
    (12, ⟨(some 22), none, .fadd 1 (.t 21)⟩),
    (13, ⟨(some 23), none, .load none (.t 22)⟩),
    (14, ⟨(some 24), none, .call 150 [(.t 10), (.t 19), (.t 23)] none false⟩)] (some [0, 3])) (.seq (.ops 8 [
    (0, ⟨(some 25), none, .mv (.t 0)⟩),
    (1, ⟨(some 26), none, .nilck (.t 25)⟩),
    (2, ⟨(some 27), none, .fadd 1 (.t 26)⟩),
    (3, ⟨(some 28), none, .load none (.t 27)⟩),
    (4, ⟨(some 29), none, .arith .add (.t 28) (.k (.d (.val (.int .i64 1))))⟩),
    (5, ⟨(some 30), none, .nilck (.t 25)⟩),
    (6, ⟨(some 31), none, .fadd 1 (.t 30)⟩),
    (7, ⟨none, none, .store 1 (.t 31) (.t 29)⟩)] (some [3])) (.seq (.ops 3 [
    (0, ⟨(some 32), none, .mv (.t 3)⟩),
    (1, ⟨(some 33), none, .conv .u8 (.t 32)⟩),
    (2, ⟨(some 2), none, .mv (.t 33)⟩)] (some [2])) .ret))))))
def md181 : FuncId → Option Nat × Bool
  | 163 => (some 0, false)
  | 185 => (some 0, false)
  | _ => (none, false)
def od181 : Nat → List (List Nat) × List Nat × Option (List Nat)
  | 0 => ([], [], some [0])
  | 1 => ([], [], some [0, 3])
  | 2 => ([], [], some [0, 3, 7])
  | 3 => ([], [], some [2])
  | 4 => ([[], [], [1], [1, 2], [1, 2, 3], [1, 2, 3, 4], [1, 2, 3, 4, 5], [1, 2, 3, 4, 5, 6], [1, 2, 3, 4, 5, 6, 7], [1, 2, 3, 4, 5, 6, 7, 8], [], [10], [10, 11], [10, 11, 12], [0, 1, 2, 3, 4, 5, 6, 7, 8, 9, 10, 11, 12, 13]], [0, 1, 2, 3, 4, 5, 6, 7, 8, 9, 10, 11, 12, 13, 14], some [0, 3])
  | 5 => ([], [], some [3])
  | 6 => ([], [], some [2])
  | _ => ([], [], none)
theorem b181 {ags : List AV} {row : Option (List DV)} {r : AV} {row' nw : Option (List DV)} (hal : ags.length ≤ 34) (hrow : row'.isSome = true → row.isSome = true) (h : xwp Try.prog x181 (retK [.tmp 2] row.isSome r row' nw) (St.init ags row)) : Good Try.prog 181 ags row r row' nw :=
  good_of_body' (md := md181) (od := od181) Try.f181 (by kernel_rfl) (by kernel_rfl) (by kernel_rfl) (by kernel_rfl) (by kernel_rfl) hal hrow h

def x182 : XC := (.seq (.ops 1 [
    (0, ⟨(some 2), none, .mv (.k (.d (.val (.int .i64 0))))⟩)] (some [0, 2])) (.seq (.ops 5 [
    (0, ⟨(some 5), none, .mv (.t 0)⟩),
    (1, ⟨(some 6), none, .nilck (.t 5)⟩),
    (2, ⟨(some 7), none, .fadd 1 (.t 6)⟩),
    (3, ⟨(some 8), none, .load none (.t 7)⟩),
    (4, ⟨(some 3), none, .mv (.t 8)⟩)] (some [0, 2, 3])) (.seq (.seq (.ops 3 [
    (0, ⟨(some 9), none, .mv (.t 0)⟩),
    (1, ⟨(some 10), none, .call 172 [(.t 9)] none false⟩),
    (2, ⟨(some 4), none, .mv (.t 10)⟩)] (some [0, 2, 3, 4])) (.block 0 (.loop (.seq (.seq (.ops 15 [
    (0, ⟨(some 11), none, .mv (.t 4)⟩),
    (1, ⟨(some 12), none, .arith .geq (.t 11) (.k (.d (.val (.int .i64 48))))⟩),
    (2, ⟨(some 13), none, .mv (.t 12)⟩),
    (3, ⟨(some 14), (some (13, true)), .mv (.t 4)⟩),
    (4, ⟨(some 15), (some (13, true)), .arith .leq (.t 14) (.k (.d (.val (.int .i64 57))))⟩),
    (5, ⟨(some 16), none, .pick (.t 13) (.t 15) (.k (.d (.val (.bool false))))⟩),
    (6, ⟨(some 17), none, .mv (.t 16)⟩),
    (7, ⟨(some 18), (some (17, true)), .mv (.t 0)⟩),
    (8, ⟨(some 19), (some (17, true)), .nilck (.t 18)⟩),
    (9, ⟨(some 20), (some (17, true)), .fadd 1 (.t 19)⟩),
    (10, ⟨(some 21), (some (17, true)), .load none (.t 20)⟩),
    (11, ⟨(some 22), (some (17, true)), .mv (.t 3)⟩),
    (12, ⟨(some 23), (some (17, true)), .arith .sub (.t 21) (.t 22)⟩),
    (13, ⟨(some 24), (some (17, true)), .arith .lss (.t 23) (.k (.d (.val (.int .i64 2))))⟩),
    (14, ⟨(some 25), none, .pick (.t 17) (.t 24) (.k (.d (.val (.bool false))))⟩)] (some [0, 2, 3, 4, 25])) (.cond (.t 25) .skip (.exit 0))) (.seq (.block 1 (.seq (.ops 6 [
    (0, ⟨(some 28), none, .mv (.t 2)⟩),
    (1, ⟨(some 29), none, .arith .mul (.k (.d (.val (.int .i64 10)))) (.t 28)⟩),
    (2, ⟨(some 30), none, .mv (.t 4)⟩),
    (3, ⟨(some 31), none, .arith .add (.t 29) (.t 30)⟩),
    (4, ⟨(some 32), none, .arith .sub (.t 31) (.k (.d (.val (.int .i64 48))))⟩),
    (5, ⟨(some 2), none, .mv (.t 32)⟩)] (some [0, 2, 3])) (.ops 8 [
    (0, ⟨(some 33), none, .mv (.t 0)⟩),
    (1, ⟨(some 34), none, .nilck (.t 33)⟩),
    (2, ⟨(some 35), none, .fadd 1 (.t 34)⟩),
    (3, ⟨(some 36), none, .load none (.t 35)⟩),
    (4, ⟨(some 37), none, .arith .add (.t 36) (.k (.d (.val (.int .i64 1))))⟩),
    (5, ⟨(some 38), none, .nilck (.t 33)⟩),
    (6, ⟨(some 39), none, .fadd 1 (.t 38)⟩),
    (7, ⟨none, none, .store 1 (.t 39) (.t 37)⟩)] (some [0, 2, 3])))) (.ops 3 [
    (0, ⟨(some 26), none, .mv (.t 0)⟩),
    (1, ⟨(some 27), none, .call 172 [(.t 26)] none false⟩),
    (2, ⟨(some 4), none, .mv (.t 27)⟩)] (some [0, 2, 3, 4]))))))) (.seq (.ops 13 [
    (0, ⟨(some 40), none, .mv (.t 0)⟩),
    (1, ⟨(some 41), none, .mv (.t 0)⟩),
    (2, ⟨(some 42), none, .nilck (.t 41)⟩),
    (3, ⟨(some 43), none, .fadd 1 (.t 42)⟩),
    (4, ⟨(some 44), none, .load none (.t 43)⟩),
    (5, ⟨(some 45), none, .mv (.t 3)⟩),
    (6, ⟨(some 46), none, .arith .gtr (.t 44) (.t 45)⟩),
    (7, ⟨(some 47), none, .mv (.t 46)⟩),
    (8, ⟨(some 48), (some (47, true)), .mv (.t 2)⟩),
    (9, ⟨(some 49), (some (47, true)), .arith .leq (.t 48) (.k (.d (.val (.int .i64 20))))⟩),
    (10, ⟨(some 50), none, .pick (.t 47) (.t 49) (.k (.d (.val (.bool false))))⟩),
    (11, ⟨(some 51), none, .mv (.t 3)⟩),
    (12, ⟨(some 52), none, .call 150 [(.t 40), (.t 50), (.t 51)] none false⟩)] (some [2])) (.seq (.ops 2 [
    (0, ⟨(some 53), none, .mv (.t 2)⟩),
    (1, ⟨(some 2), none, .mv (.t 53)⟩)] (some [2])) .ret)))))
def md182 : FuncId → Option Nat × Bool
  | _ => (none, false)
def od182 : Nat → List (List Nat) × List Nat × Option (List Nat)
  | 0 => ([], [], some [0, 2])
  | 1 => ([], [], some [0, 2, 3])
  | 2 => ([], [], some [0, 2, 3, 4])
  | 3 => ([], [], some [0, 2, 3, 4, 25])
  | 4 => ([], [], some [0, 2, 3, 4])
  | 5 => ([], [], some [0, 2, 3])
  | 6 => ([], [], some [0, 2, 3])
  | 7 => ([], [], some [2])
  | 8 => ([], [], some [2])
  | _ => ([], [], none)
theorem b182 {ags : List AV} {row : Option (List DV)} {r : AV} {row' nw : Option (List DV)} (hal : ags.length ≤ 54) (hrow : row'.isSome = true → row.isSome = true) (h : xwp Try.prog x182 (retK [.tmp 2] row.isSome r row' nw) (St.init ags row)) : Good Try.prog 182 ags row r row' nw :=
  good_of_body' (md := md182) (od := od182) Try.f182 (by kernel_rfl) (by kernel_rfl) (by kernel_rfl) (by kernel_rfl) (by kernel_rfl) hal hrow h

def x183 : XC := (.seq (.ops 1 [
    (0, ⟨(some 2), none, .alloc [(.int .u64 0), (.int .u64 0), (.int .u64 0), (.int .u64 0)]⟩)] (some [0, 2])) (.seq (.ops 3 [
    (0, ⟨(some 6), none, .mv (.t 0)⟩),
    (1, ⟨(some 7), none, .call 181 [(.t 6)] (some 0) false⟩),
    (2, ⟨(some 3), none, .mv (.t 7)⟩)] (some [0, 2, 3])) (.seq (.seq (.ops 3 [
    (0, ⟨(some 8), none, .mv (.t 0)⟩),
    (1, ⟨(some 9), none, .call 163 [(.t 8), (.k (.d (.val (.int .u8 45))))] (some 0) false⟩),
    (2, ⟨(some 10), none, .un .not (.t 9)⟩)] (some [0, 2, 3, 10])) (.cond (.t 10) (.seq (.ops 3 [
    (0, ⟨(some 11), none, .mv (.t 3)⟩),
    (1, ⟨(some 12), none, .call 180 [(.t 11)] none false⟩),
    (2, ⟨none, none, .store 4 (.t 2) (.t 12)⟩)] (some [2])) .ret) .skip)) (.seq (.ops 5 [
    (0, ⟨(some 13), none, .mv (.t 0)⟩),
    (1, ⟨(some 14), none, .nilck (.t 13)⟩),
    (2, ⟨(some 15), none, .fadd 1 (.t 14)⟩),
    (3, ⟨(some 16), none, .load none (.t 15)⟩),
    (4, ⟨(some 4), none, .mv (.t 16)⟩)] (some [0, 2, 3, 4])) (.seq (.ops 3 [
    (0, ⟨(some 17), none, .mv (.t 0)⟩),
    (1, ⟨(some 18), none, .call 181 [(.t 17)] (some 0) false⟩),
    (2, ⟨(some 5), none, .mv (.t 18)⟩)] (some [0, 2, 3, 4, 5])) (.seq (.ops 6 [
    (0, ⟨(some 19), none, .mv (.t 0)⟩),
    (1, ⟨(some 20), none, .mv (.t 5)⟩),
    (2, ⟨(some 21), none, .mv (.t 3)⟩),
    (3, ⟨(some 22), none, .arith .geq (.t 20) (.t 21)⟩),
    (4, ⟨(some 23), none, .mv (.t 4)⟩),
    (5, ⟨(some 24), none, .call 150 [(.t 19), (.t 22), (.t 23)] none false⟩)] (some [2, 3, 5])) (.seq (.ops 4 [
    (0, ⟨(some 25), none, .mv (.t 3)⟩),
    (1, ⟨(some 26), none, .mv (.t 5)⟩),
    (2, ⟨(some 27), none, .call 119 [(.t 25), (.t 26)] none false⟩),
    (3, ⟨none, none, .store 4 (.t 2) (.t 27)⟩)] (some [2])) .ret)))))))
def md183 : FuncId → Option Nat × Bool
  | 163 => (some 0, false)
  | 181 => (some 0, false)
  | _ => (none, false)
def od183 : Nat → List (List Nat) × List Nat × Option (List Nat)
  | 0 => ([], [], some [0, 2])
  | 1 => ([], [], some [0, 2, 3])
  | 2 => ([], [], some [0, 2, 3, 10])
  | 3 => ([], [], some [2])
  | 4 => ([], [], some [0, 2, 3, 4])
  | 5 => ([], [], some [0, 2, 3, 4, 5])
  | 6 => ([], [], some [2, 3, 5])
  | 7 => ([], [], some [2])
  | _ => ([], [], none)
theorem b183 {ags : List AV} {row : Option (List DV)} {r : AV} {row' nw : Option (List DV)} (hal : ags.length ≤ 28) (hrow : row'.isSome = true → row.isSome = true) (h : xwp Try.prog x183 (retK [.cell 2 (some 4)] row.isSome r row' nw) (St.init ags row)) : Good Try.prog 183 ags row r row' nw :=
  good_of_body' (md := md183) (od := od183) Try.f183 (by kernel_rfl) (by kernel_rfl) (by kernel_rfl) (by kernel_rfl) (by kernel_rfl) hal hrow h

def x184 : XC := (.seq (.ops 2 [
    (0, ⟨(some 1), none, .box (.t 0)⟩),
    (1, ⟨(some 2), none, .alloc [(.int .u64 0), (.int .u64 0), (.int .u64 0), (.int .u64 0)]⟩)] (some [1, 2])) (.seq (.seq (.ops 1 [
    (0, ⟨(some 4), none, .mv (.k (.d (.val (.int .i64 0))))⟩)] (some [1, 2, 4])) (.block 0 (.loop (.seq (.ops 1 [
    (0, ⟨(some 5), none, .arith .lss (.t 4) (.k (.d (.val (.int .i64 4))))⟩)] (some [1, 2, 4, 5])) (.seq (.cond (.t 5) .skip (.exit 0)) (.seq (.block 1 (.seq (.ops 2 [
    (0, ⟨(some 6), none, .mv (.t 4)⟩),
    (1, ⟨(some 3), none, .mv (.t 6)⟩)] (some [1, 2, 3, 4])) (.ops 7 [
    (0, ⟨(some 7), none, .mv (.t 3)⟩),
    (1, ⟨(some 8), none, .mv (.t 3)⟩),
    (2, ⟨(some 9), none, .idxP 4 1 (.t 1) (.t 8)⟩),
    (3, ⟨(some 10), none, .load none (.t 9)⟩),
    (4, ⟨(some 11), none, .un .xor (.t 10)⟩),
    (5, ⟨(some 12), none, .idxP 4 1 (.t 1) (.t 7)⟩),
    (6, ⟨none, none, .store 1 (.t 12) (.t 11)⟩)] (some [1, 2, 4])))) (.ops 2 [
    (0, ⟨(some 13), none, .arith .add (.t 4) (.k (.d (.val (.int .i64 1))))⟩),
    (1, ⟨(some 4), none, .mv (.t 13)⟩)] (some [1, 2, 4])))))))) (.seq (.ops 2 [
    (0, ⟨(some 14), none, .load (some 4) (.t 1)⟩),
    (1, ⟨none, none, .store 4 (.t 2) (.t 14)⟩)] (some [2])) .ret)))
def md184 : FuncId → Option Nat × Bool
  | _ => (none, false)
def od184 : Nat → List (List Nat) × List Nat × Option (List Nat)
  | 0 => ([], [], some [1, 2])
  | 1 => ([], [], some [1, 2, 4])
  | 2 => ([], [], some [1, 2, 4, 5])
  | 3 => ([], [], some [1, 2, 3, 4])
  | 4 => ([], [], some [1, 2, 4])
  | 5 => ([], [], some [1, 2, 4])
  | 6 => ([], [], some [2])
  | _ => ([], [], none)
theorem b184 {ags : List AV} {row : Option (List DV)} {r : AV} {row' nw : Option (List DV)} (hal : ags.length ≤ 15) (hrow : row'.isSome = true → row.isSome = true) (h : xwp Try.prog x184 (retK [.cell 2 (some 4)] row.isSome r row' nw) (St.init ags row)) : Good Try.prog 184 ags row r row' nw :=
  good_of_body' (md := md184) (od := od184) Try.f184 (by kernel_rfl) (by kernel_rfl) (by kernel_rfl) (by kernel_rfl) (by kernel_rfl) hal hrow h

def x185 : XC := (.seq (.ops 1 [
    (0, ⟨(some 2), none, .mv (.k (.d (.val (.int .u8 0))))⟩)] (some [0])) (.seq (.ops 3 [
    (0, ⟨(some 5), none, .mv (.t 0)⟩),
    (1, ⟨(some 6), none, .call 172 [(.t 5)] none false⟩),
    (2, ⟨(some 3), none, .mv (.t 6)⟩)] (some [0, 3])) (.seq (.ops 8 [
    (0, ⟨(some 7), none, .mv (.t 0)⟩),
    (1, ⟨(some 8), none, .mv (.t 3)⟩),
    (2, ⟨(some 9), none, .arith .geq (.t 8) (.k (.d (.val (.int .i64 0))))⟩),
    (3, ⟨(some 10), none, .mv (.t 0)⟩),
    (4, ⟨(some 11), none, .nilck (.t 10)⟩),
    (5, ⟨(some 12), none, .fadd 1 (.t 11)⟩),
    (6, ⟨(some 13), none, .load none (.t 12)⟩),
    (7, ⟨(some 14), none, .call 150 [(.t 7), (.t 9), (.t 13)] none false⟩)] (some [0, 3])) (.seq (.ops 8 [
    (0, ⟨(some 15), none, .mv (.t 0)⟩),
    (1, ⟨(some 16), none, .nilck (.t 15)⟩),
    (2, ⟨(some 17), none, .fadd 1 (.t 16)⟩),
    (3, ⟨(some 18), none, .load none (.t 17)⟩),
    (4, ⟨(some 19), none, .arith .add (.t 18) (.k (.d (.val (.int .i64 1))))⟩),
    (5, ⟨(some 20), none, .nilck (.t 15)⟩),
    (6, ⟨(some 21), none, .fadd 1 (.t 20)⟩),
    (7, ⟨none, none, .store 1 (.t 21) (.t 19)⟩)] (some [0, 3])) (.seq (.seq (.ops 1 [
    (0, ⟨(some 22), none, .mv (.t 3)⟩)] (some [0, 3, 22])) (.block 0 (.seq (.ops 2 [
    (0, ⟨(some 24), none, .arith .eql (.t 22) (.k (.d (.val (.int .i64 120))))⟩),
    (1, ⟨(some 23), none, .mv (.t 24)⟩)] (some [0, 3, 22, 23])) (.cond (.t 23) (.seq (.ops 4 [
    (0, ⟨(some 25), none, .mv (.t 0)⟩),
    (1, ⟨(some 26), none, .call 187 [(.t 25)] (some 0) false⟩),
    (2, ⟨(some 27), none, .arith .shl (.t 26) (.k (.d (.val (.int .u64 4))))⟩),
    (3, ⟨(some 4), none, .mv (.t 27)⟩)] (some [0, 4])) (.seq (.ops 6 [
    (0, ⟨(some 28), none, .mv (.t 4)⟩),
    (1, ⟨(some 29), none, .mv (.t 0)⟩),
    (2, ⟨(some 30), none, .call 187 [(.t 29)] (some 0) false⟩),
    (3, ⟨(some 31), none, .arith .or (.t 28) (.t 30)⟩),
    (4, ⟨(some 32), none, .conv .u8 (.t 31)⟩),
    (5, ⟨(some 2), none, .mv (.t 32)⟩)] (some [2])) .ret)) (.seq (.ops 2 [
    (0, ⟨(some 34), none, .arith .eql (.t 22) (.k (.d (.val (.int .i64 110))))⟩),
    (1, ⟨(some 33), none, .mv (.t 34)⟩)] (some [0, 3, 22, 33])) (.cond (.t 33) (.seq (.ops 1 [
    (0, ⟨(some 2), none, .mv (.k (.d (.val (.int .u8 10))))⟩)] (some [2])) .ret) (.seq (.ops 2 [
    (0, ⟨(some 36), none, .arith .eql (.t 22) (.k (.d (.val (.int .i64 116))))⟩),
    (1, ⟨(some 35), none, .mv (.t 36)⟩)] (some [0, 3, 35])) (.cond (.t 35) (.seq (.ops 1 [
    (0, ⟨(some 2), none, .mv (.k (.d (.val (.int .u8 9))))⟩)] (some [2])) .ret) .skip)))))))) (.seq (.ops 11 [
    (0, ⟨(some 37), none, .mv (.t 0)⟩),
    (1, ⟨(some 38), none, .mv (.t 3)⟩),
    (2, ⟨(some 39), none, .conv .u8 (.t 38)⟩),
    (3, ⟨(some 40), none, .call 188 [(.k (.d (.val (.string ⟨#[124, 42, 43, 63, 40, 41, 91, 93, 123, 125, 46, 92, 94, 36, 45]⟩)))), (.t 39)] none false⟩),
    (4, ⟨(some 41), none, .arith .geq (.t 40) (.k (.d (.val (.int .i64 0))))⟩),
    (5, ⟨(some 42), none, .mv (.t 0)⟩),
    (6, ⟨(some 43), none, .nilck (.t 42)⟩),
    (7, ⟨(some 44), none, .fadd 1 (.t 43)⟩),
    (8, ⟨(some 45), none, .load none (.t 44)⟩),
    (9, ⟨(some 46), none, .arith .sub (.t 45) (.k (.d (.val (.int .i64 1))))⟩),
    (10, ⟨(some 47), none, .call 150 [(.t 37), (.t 41), (.t 46)] none false⟩)] (some [3])) (.seq (.ops 3 [
    (0, ⟨(some 48), none, .mv (.t 3)⟩),
    (1, ⟨(some 49), none, .conv .u8 (.t 48)⟩),
    (2, ⟨(some 2), none, .mv (.t 49)⟩)] (some [2])) .ret)))))))
def md185 : FuncId → Option Nat × Bool
  | 187 => (some 0, false)
  | _ => (none, false)
def od185 : Nat → List (List Nat) × List Nat × Option (List Nat)
  | 0 => ([], [], some [0])
  | 1 => ([], [], some [0, 3])
  | 2 => ([], [], some [0, 3])
  | 3 => ([], [], some [0, 3])
  | 4 => ([], [], some [0, 3, 22])
  | 5 => ([], [], some [0, 3, 22, 23])
  | 6 => ([], [], some [0, 4])
  | 7 => ([], [], some [2])
  | 8 => ([], [], some [0, 3, 22, 33])
  | 9 => ([], [], some [2])
  | 10 => ([], [], some [0, 3, 35])
  | 11 => ([], [], some [2])
  | 12 => ([[], [], [1], [1, 2], [1, 2, 3], [], [5], [5, 6], [5, 6, 7], [5, 6, 7, 8], [0, 1, 2, 3, 4, 5, 6, 7, 8, 9]], [0, 1, 2, 3, 4, 5, 6, 7, 8, 9, 10], some [3])
  | 13 => ([], [], some [2])
  | _ => ([], [], none)
theorem b185 {ags : List AV} {row : Option (List DV)} {r : AV} {row' nw : Option (List DV)} (hal : ags.length ≤ 50) (hrow : row'.isSome = true → row.isSome = true) (h : xwp Try.prog x185 (retK [.tmp 2] row.isSome r row' nw) (St.init ags row)) : Good Try.prog 185 ags row r row' nw :=
  good_of_body' (md := md185) (od := od185) Try.f185 (by kernel_rfl) (by kernel_rfl) (by kernel_rfl) (by kernel_rfl) (by kernel_rfl) hal hrow h

def x186 : XC := (.seq (.ops 1 [
    (0, ⟨(some 2), none, .mv (.k (.d (.val (.string ⟨#[]⟩))))⟩)] (some [0])) (.seq (.seq (.ops 2 [
    (0, ⟨(some 3), none, .mv (.t 0)⟩),
    (1, ⟨(some 4), none, .call 189 [(.t 3)] none false⟩)] (some [0, 4])) (.cond (.t 4) (.seq (.ops 4 [
    (0, ⟨(some 5), none, .mv (.t 0)⟩),
    (1, ⟨(some 6), none, .mkrow [(.int .u8 0)] 1 1 [(0, 1, (.t 5))]⟩),
    (2, ⟨(some 7), none, .strB (.t 6)⟩),
    (3, ⟨(some 2), none, .mv (.t 7)⟩)] (some [2])) .ret) .skip)) (.seq (.ops 15 [
    (0, ⟨(some 8), none, .mv (.t 0)⟩),
    (1, ⟨(some 9), none, .arith .shr (.t 8) (.k (.d (.val (.int .u64 4))))⟩),
    (2, ⟨(some 10), none, .mv (.t 0)⟩),
    (3, ⟨(some 11), none, .arith .shr (.t 10) (.k (.d (.val (.int .u64 4))))⟩),
    (4, ⟨(some 12), none, .arith .add (.t 11) (.k (.d (.val (.int .u8 1))))⟩),
    (5, ⟨(some 13), none, .slT (.k (.d (.val (.string ⟨#[48, 49, 50, 51, 52, 53, 54, 55, 56, 57, 97, 98, 99, 100, 101, 102]⟩)))) (some (.t 9)) (some (.t 12))⟩),
    (6, ⟨(some 14), none, .arith .add (.k (.d (.val (.string ⟨#[92, 120]⟩)))) (.t 13)⟩),
    (7, ⟨(some 15), none, .mv (.t 0)⟩),
    (8, ⟨(some 16), none, .arith .and (.t 15) (.k (.d (.val (.int .u8 15))))⟩),
    (9, ⟨(some 17), none, .mv (.t 0)⟩),
    (10, ⟨(some 18), none, .arith .and (.t 17) (.k (.d (.val (.int .u8 15))))⟩),
    (11, ⟨(some 19), none, .arith .add (.t 18) (.k (.d (.val (.int .u8 1))))⟩),
    (12, ⟨(some 20), none, .slT (.k (.d (.val (.string ⟨#[48, 49, 50, 51, 52, 53, 54, 55, 56, 57, 97, 98, 99, 100, 101, 102]⟩)))) (some (.t 16)) (some (.t 19))⟩),
    (13, ⟨(some 21), none, .arith .add (.t 14) (.t 20)⟩),
    (14, ⟨(some 2), none, .mv (.t 21)⟩)] (some [2])) .ret)))
def md186 : FuncId → Option Nat × Bool
  | _ => (none, false)
def od186 : Nat → List (List Nat) × List Nat × Option (List Nat)
  | 0 => ([], [], some [0])
  | 1 => ([], [], some [0, 4])
  | 2 => ([], [], some [2])
  | 3 => ([[], [0], [], [2], [2, 3], [0, 1, 2, 3, 4], [0, 1, 2, 3, 4, 5], [], [7], [], [9], [9, 10], [7, 8, 9, 10, 11], [0, 1, 2, 3, 4, 5, 6, 7, 8, 9, 10, 11, 12], [0, 1, 2, 3, 4, 5, 6, 7, 8, 9, 10, 11, 12, 13]], [0, 1, 2, 3, 4, 5, 6, 7, 8, 9, 10, 11, 12, 13, 14], some [2])
  | _ => ([], [], none)
theorem b186 {ags : List AV} {row : Option (List DV)} {r : AV} {row' nw : Option (List DV)} (hal : ags.length ≤ 22) (hrow : row'.isSome = true → row.isSome = true) (h : xwp Try.prog x186 (retK [.tmp 2] row.isSome r row' nw) (St.init ags row)) : Good Try.prog 186 ags row r row' nw :=
  good_of_body' (md := md186) (od := od186) Try.f186 (by kernel_rfl) (by kernel_rfl) (by kernel_rfl) (by kernel_rfl) (by kernel_rfl) hal hrow h

def x187 : XC := (.seq (.ops 1 [
    (0, ⟨(some 2), none, .mv (.k (.d (.val (.int .i64 0))))⟩)] (some [0])) (.seq (.ops 3 [
    (0, ⟨(some 5), none, .mv (.t 0)⟩),
    (1, ⟨(some 6), none, .call 172 [(.t 5)] none false⟩),
    (2, ⟨(some 3), none, .mv (.t 6)⟩)] (some [0, 3])) (.seq (.ops 1 [
    (0, ⟨(some 4), none, .mv (.k (.d (.val (.int .i64 (-1)))))⟩)] (some [0, 3, 4])) (.seq (.seq (.ops 2 [
    (0, ⟨(some 7), none, .mv (.t 3)⟩),
    (1, ⟨(some 8), none, .arith .geq (.t 7) (.k (.d (.val (.int .i64 0))))⟩)] (some [0, 3, 4, 8])) (.cond (.t 8) (.ops 4 [
    (0, ⟨(some 9), none, .mv (.t 3)⟩),
    (1, ⟨(some 10), none, .conv .u8 (.t 9)⟩),
    (2, ⟨(some 11), none, .call 188 [(.k (.d (.val (.string ⟨#[48, 49, 50, 51, 52, 53, 54, 55, 56, 57, 97, 98, 99, 100, 101, 102]⟩)))), (.t 10)] none false⟩),
    (3, ⟨(some 4), none, .mv (.t 11)⟩)] (some [0, 4])) .skip)) (.seq (.ops 8 [
    (0, ⟨(some 12), none, .mv (.t 0)⟩),
    (1, ⟨(some 13), none, .mv (.t 4)⟩),
    (2, ⟨(some 14), none, .arith .geq (.t 13) (.k (.d (.val (.int .i64 0))))⟩),
    (3, ⟨(some 15), none, .mv (.t 0)⟩),
    (4, ⟨(some 16), none, .nilck (.t 15)⟩),
    (5, ⟨(some 17), none, .fadd 1 (.t 16)⟩),
    (6, ⟨(some 18), none, .load none (.t 17)⟩),
    (7, ⟨(some 19), none, .call 150 [(.t 12), (.t 14), (.t 18)] none false⟩)] (some [0, 4])) (.seq (.ops 8 [
    (0, ⟨(some 20), none, .mv (.t 0)⟩),
    (1, ⟨(some 21), none, .nilck (.t 20)⟩),
    (2, ⟨(some 22), none, .fadd 1 (.t 21)⟩),
    (3, ⟨(some 23), none, .load none (.t 22)⟩),
    (4, ⟨(some 24), none, .arith .add (.t 23) (.k (.d (.val (.int .i64 1))))⟩),
    (5, ⟨(some 25), none, .nilck (.t 20)⟩),
    (6, ⟨(some 26), none, .fadd 1 (.t 25)⟩),
    (7, ⟨none, none, .store 1 (.t 26) (.t 24)⟩)] (some [4])) (.seq (.ops 2 [
    (0, ⟨(some 27), none, .mv (.t 4)⟩),
    (1, ⟨(some 2), none, .mv (.t 27)⟩)] (some [2])) .ret)))))))
def md187 : FuncId → Option Nat × Bool
  | _ => (none, false)
def od187 : Nat → List (List Nat) × List Nat × Option (List Nat)
  | 0 => ([], [], some [0])
  | 1 => ([], [], some [0, 3])
  | 2 => ([], [], some [0, 3, 4])
  | 3 => ([], [], some [0, 3, 4, 8])
  | 4 => ([], [], some [0, 4])
  | 5 => ([], [], some [0, 4])
  | 6 => ([], [], some [4])
  | 7 => ([], [], some [2])
  | _ => ([], [], none)
theorem b187 {ags : List AV} {row : Option (List DV)} {r : AV} {row' nw : Option (List DV)} (hal : ags.length ≤ 28) (hrow : row'.isSome = true → row.isSome = true) (h : xwp Try.prog x187 (retK [.tmp 2] row.isSome r row' nw) (St.init ags row)) : Good Try.prog 187 ags row r row' nw :=
  good_of_body' (md := md187) (od := od187) Try.f187 (by kernel_rfl) (by kernel_rfl) (by kernel_rfl) (by kernel_rfl) (by kernel_rfl) hal hrow h

def x188 : XC := (.seq (.ops 1 [
    (0, ⟨(some 4), none, .mv (.k (.d (.val (.int .i64 0))))⟩)] (some [0, 1])) (.seq (.ops 4 [
    (0, ⟨(some 5), none, .mv (.t 0)⟩),
    (1, ⟨(some 6), none, .mv (.t 1)⟩),
    (2, ⟨(some 7), none, .call 190 [(.t 5), (.t 6)] none false⟩),
    (3, ⟨(some 4), none, .mv (.t 7)⟩)] (some [4])) .ret))
def md188 : FuncId → Option Nat × Bool
  | _ => (none, false)
def od188 : Nat → List (List Nat) × List Nat × Option (List Nat)
  | 0 => ([], [], some [0, 1])
  | 1 => ([], [], some [4])
  | _ => ([], [], none)
theorem b188 {ags : List AV} {row : Option (List DV)} {r : AV} {row' nw : Option (List DV)} (hal : ags.length ≤ 8) (hrow : row'.isSome = true → row.isSome = true) (h : xwp Try.prog x188 (retK [.tmp 4] row.isSome r row' nw) (St.init ags row)) : Good Try.prog 188 ags row r row' nw :=
  good_of_body' (md := md188) (od := od188) Try.f188 (by kernel_rfl) (by kernel_rfl) (by kernel_rfl) (by kernel_rfl) (by kernel_rfl) hal hrow h

def x189 : XC := (.seq (.ops 1 [
    (0, ⟨(some 2), none, .mv (.k (.d (.val (.bool false))))⟩)] (some [0])) (.seq (.ops 22 [
    (0, ⟨(some 3), none, .mv (.t 0)⟩),
    (1, ⟨(some 4), none, .arith .or (.t 3) (.k (.d (.val (.int .u8 32))))⟩),
    (2, ⟨(some 5), none, .arith .geq (.t 4) (.k (.d (.val (.int .u8 97))))⟩),
    (3, ⟨(some 6), none, .mv (.t 5)⟩),
    (4, ⟨(some 7), (some (6, true)), .mv (.t 0)⟩),
    (5, ⟨(some 8), (some (6, true)), .arith .or (.t 7) (.k (.d (.val (.int .u8 32))))⟩),
    (6, ⟨(some 9), (some (6, true)), .arith .leq (.t 8) (.k (.d (.val (.int .u8 122))))⟩),
    (7, ⟨(some 10), none, .pick (.t 6) (.t 9) (.k (.d (.val (.bool false))))⟩),
    (8, ⟨(some 11), none, .mv (.t 10)⟩),
    (9, ⟨(some 12), (some (11, false)), .mv (.t 0)⟩),
    (10, ⟨(some 13), (some (11, false)), .arith .geq (.t 12) (.k (.d (.val (.int .u8 48))))⟩),
    (11, ⟨(some 14), (some (11, false)), .mv (.t 13)⟩),
    (12, ⟨(some 15), (some (14, true)), .mv (.t 0)⟩),
    (13, ⟨(some 16), (some (14, true)), .arith .leq (.t 15) (.k (.d (.val (.int .u8 57))))⟩),
    (14, ⟨(some 17), (some (11, false)), .pick (.t 14) (.t 16) (.k (.d (.val (.bool false))))⟩),
    (15, ⟨(some 18), none, .pick (.t 11) (.k (.d (.val (.bool true)))) (.t 17)⟩),
    (16, ⟨(some 19), none, .mv (.t 18)⟩),
    (17, ⟨(some 20), (some (19, false)), .mv (.t 0)⟩),
    (18, ⟨(some 21), (some (19, false)), .call 188 [(.k (.d (.val (.string ⟨#[32, 33, 34, 35, 37, 38, 39, 44, 47, 58, 59, 60, 61, 62, 64, 95, 96, 126]⟩)))), (.t 20)] none false⟩),
    (19, ⟨(some 22), (some (19, false)), .arith .geq (.t 21) (.k (.d (.val (.int .i64 0))))⟩),
    (20, ⟨(some 23), none, .pick (.t 19) (.k (.d (.val (.bool true)))) (.t 22)⟩),
    (21, ⟨(some 2), none, .mv (.t 23)⟩)] (some [2])) .ret))
def md189 : FuncId → Option Nat × Bool
  | _ => (none, false)
def od189 : Nat → List (List Nat) × List Nat × Option (List Nat)
  | 0 => ([], [], some [0])
  | 1 => ([], [], some [2])
  | _ => ([], [], none)
theorem b189 {ags : List AV} {row : Option (List DV)} {r : AV} {row' nw : Option (List DV)} (hal : ags.length ≤ 24) (hrow : row'.isSome = true → row.isSome = true) (h : xwp Try.prog x189 (retK [.tmp 2] row.isSome r row' nw) (St.init ags row)) : Good Try.prog 189 ags row r row' nw :=
  good_of_body' (md := md189) (od := od189) Try.f189 (by kernel_rfl) (by kernel_rfl) (by kernel_rfl) (by kernel_rfl) (by kernel_rfl) hal hrow h

def x190 : XC := (.seq (.ops 1 [
    (0, ⟨(some 4), none, .mv (.k (.d (.val (.int .i64 0))))⟩)] (some [0, 1])) (.seq (.ops 4 [
    (0, ⟨(some 5), none, .mv (.t 0)⟩),
    (1, ⟨(some 6), none, .mv (.t 1)⟩),
    (2, ⟨(some 7), none, .call 191 [(.t 5), (.t 6)] none false⟩),
    (3, ⟨(some 4), none, .mv (.t 7)⟩)] (some [4])) .ret))
def md190 : FuncId → Option Nat × Bool
  | _ => (none, false)
def od190 : Nat → List (List Nat) × List Nat × Option (List Nat)
  | 0 => ([], [], some [0, 1])
  | 1 => ([], [], some [4])
  | _ => ([], [], none)
theorem b190 {ags : List AV} {row : Option (List DV)} {r : AV} {row' nw : Option (List DV)} (hal : ags.length ≤ 8) (hrow : row'.isSome = true → row.isSome = true) (h : xwp Try.prog x190 (retK [.tmp 4] row.isSome r row' nw) (St.init ags row)) : Good Try.prog 190 ags row r row' nw :=
  good_of_body' (md := md190) (od := od190) Try.f190 (by kernel_rfl) (by kernel_rfl) (by kernel_rfl) (by kernel_rfl) (by kernel_rfl) hal hrow h

def x73 : XC := (.seq (.ops 3 [
    (0, ⟨(some 2), none, .box (.t 0)⟩),
    (1, ⟨(some 3), none, .box (.t 1)⟩),
    (2, ⟨(some 4), none, .alloc [(.int .u64 0), (.int .u64 0), (.int .u64 0), (.int .u64 0)]⟩)] (some [2, 3, 4])) (.seq (.seq (.ops 1 [
    (0, ⟨(some 6), none, .mv (.k (.d (.val (.int .i64 0))))⟩)] (some [2, 3, 4, 6])) (.block 0 (.loop (.seq (.ops 1 [
    (0, ⟨(some 7), none, .arith .lss (.t 6) (.k (.d (.val (.int .i64 4))))⟩)] (some [2, 3, 4, 6, 7])) (.seq (.cond (.t 7) .skip (.exit 0)) (.seq (.block 1 (.seq (.ops 2 [
    (0, ⟨(some 8), none, .mv (.t 6)⟩),
    (1, ⟨(some 5), none, .mv (.t 8)⟩)] (some [2, 3, 4, 5, 6])) (.ops 9 [
    (0, ⟨(some 9), none, .mv (.t 5)⟩),
    (1, ⟨(some 10), none, .idxP 4 1 (.t 2) (.t 9)⟩),
    (2, ⟨(some 11), none, .load none (.t 10)⟩),
    (3, ⟨(some 12), none, .mv (.t 5)⟩),
    (4, ⟨(some 13), none, .idxP 4 1 (.t 3) (.t 12)⟩),
    (5, ⟨(some 14), none, .load none (.t 13)⟩),
    (6, ⟨(some 15), none, .arith .or (.t 11) (.t 14)⟩),
    (7, ⟨(some 16), none, .idxP 4 1 (.t 2) (.t 9)⟩),
    (8, ⟨none, none, .store 1 (.t 16) (.t 15)⟩)] (some [2, 3, 4, 6])))) (.ops 2 [
    (0, ⟨(some 17), none, .arith .add (.t 6) (.k (.d (.val (.int .i64 1))))⟩),
    (1, ⟨(some 6), none, .mv (.t 17)⟩)] (some [2, 3, 4, 6])))))))) (.seq (.ops 2 [
    (0, ⟨(some 18), none, .load (some 4) (.t 2)⟩),
    (1, ⟨none, none, .store 4 (.t 4) (.t 18)⟩)] (some [4])) .ret)))
def md73 : FuncId → Option Nat × Bool
  | _ => (none, false)
def od73 : Nat → List (List Nat) × List Nat × Option (List Nat)
  | 0 => ([], [], some [2, 3, 4])
  | 1 => ([], [], some [2, 3, 4, 6])
  | 2 => ([], [], some [2, 3, 4, 6, 7])
  | 3 => ([], [], some [2, 3, 4, 5, 6])
  | 4 => ([[], [0], [0, 1], [], [3], [3, 4], [0, 1, 2, 3, 4, 5], [0, 1, 2, 3, 4, 5, 6], [0, 1, 2, 3, 4, 5, 6, 7]], [0, 1, 2, 3, 4, 5, 6, 7, 8], some [2, 3, 4, 6])
  | 5 => ([], [], some [2, 3, 4, 6])
  | 6 => ([], [], some [4])
  | _ => ([], [], none)
theorem b73 {ags : List AV} {row : Option (List DV)} {r : AV} {row' nw : Option (List DV)} (hal : ags.length ≤ 19) (hrow : row'.isSome = true → row.isSome = true) (h : xwp Try.prog x73 (retK [.cell 4 (some 4)] row.isSome r row' nw) (St.init ags row)) : Good Try.prog 73 ags row r row' nw :=
  good_of_body' (md := md73) (od := od73) Try.f73 (by kernel_rfl) (by kernel_rfl) (by kernel_rfl) (by kernel_rfl) (by kernel_rfl) hal hrow h

def tabA : Tab
  | 29 => some ⟨x29, [.tmp 0], 104, false⟩
  | 31 => some ⟨x31, [.tmp 6, .tmp 7], 47, false⟩
  | 33 => some ⟨x33, [.tmp 4], 11, false⟩
  | 34 => some ⟨x34, [.tmp 6], 25, false⟩
  | 35 => some ⟨x35, [.tmp 4], 26, false⟩
  | 42 => some ⟨x42, [.tmp 6, .tmp 7, .tmp 8], 36, false⟩
  | 84 => some ⟨x84, [.tmp 2], 4, false⟩
  | 85 => some ⟨x85, [.tmp 2], 7, true⟩
  | 86 => some ⟨x86, [.tmp 6], 74, false⟩
  | 132 => some ⟨x132, [.tmp 4], 46, false⟩
  | 133 => some ⟨x133, [.tmp 6], 46, false⟩
  | 134 => some ⟨x134, [.tmp 4], 27, false⟩
  | 135 => some ⟨x135, [.tmp 6], 65, false⟩
  | 156 => some ⟨x156, [.tmp 2], 121, false⟩
  | 157 => some ⟨x157, [.tmp 4], 24, false⟩
  | 158 => some ⟨x158, [.tmp 2], 13, false⟩
  | 83 => some ⟨x83, [.cell 2 (some 8)], 13, false⟩
  | 119 => some ⟨x119, [.cell 4 (some 4)], 24, false⟩
  | 149 => some ⟨x149, [.cell 2 (some 8)], 16, false⟩
  | 150 => some ⟨x150, [], 10, false⟩
  | 162 => some ⟨x162, [.cell 2 (some 8)], 14, false⟩
  | 163 => some ⟨x163, [.tmp 4], 17, false⟩
  | 164 => some ⟨x164, [.cell 4 (some 8)], 20, false⟩
  | 170 => some ⟨x170, [.tmp 2], 16, false⟩
  | 171 => some ⟨x171, [.cell 2 (some 8)], 33, false⟩
  | 172 => some ⟨x172, [.tmp 2], 23, false⟩
  | 176 => some ⟨x176, [.cell 2 (some 8)], 60, false⟩
  | 177 => some ⟨x177, [.tmp 2, .tmp 3], 29, false⟩
  | 178 => some ⟨x178, [], 15, false⟩
  | 179 => some ⟨x179, [.cell 2 (some 4)], 19, false⟩
  | 180 => some ⟨x180, [.cell 2 (some 4)], 10, false⟩
  | 181 => some ⟨x181, [.tmp 2], 34, false⟩
  | 182 => some ⟨x182, [.tmp 2], 54, false⟩
  | 183 => some ⟨x183, [.cell 2 (some 4)], 28, false⟩
  | 184 => some ⟨x184, [.cell 2 (some 4)], 15, false⟩
  | 185 => some ⟨x185, [.tmp 2], 50, false⟩
  | 186 => some ⟨x186, [.tmp 2], 22, false⟩
  | 187 => some ⟨x187, [.tmp 2], 28, false⟩
  | 188 => some ⟨x188, [.tmp 4], 8, false⟩
  | 189 => some ⟨x189, [.tmp 2], 24, false⟩
  | 190 => some ⟨x190, [.tmp 4], 8, false⟩
  | 73 => some ⟨x73, [.cell 4 (some 4)], 19, false⟩
  | _ => none
theorem tabA_ok : TabOK Try.prog tabA := by
  intro f t h ags row r row' nw hal hrow hx
  unfold tabA at h
  split at h
  · cases h; exact b29 hal hrow hx
  · cases h; exact b31 hal hrow hx
  · cases h; exact b33 hal hrow hx
  · cases h; exact b34 hal hrow hx
  · cases h; exact b35 hal hrow hx
  · cases h; exact b42 hal hrow hx
  · cases h; exact b84 hal hrow hx
  · cases h; exact b85 hal hrow hx
  · cases h; exact b86 hal hrow hx
  · cases h; exact b132 hal hrow hx
  · cases h; exact b133 hal hrow hx
  · cases h; exact b134 hal hrow hx
  · cases h; exact b135 hal hrow hx
  · cases h; exact b156 hal hrow hx
  · cases h; exact b157 hal hrow hx
  · cases h; exact b158 hal hrow hx
  · cases h; exact b83 hal hrow hx
  · cases h; exact b119 hal hrow hx
  · cases h; exact b149 hal hrow hx
  · cases h; exact b150 hal hrow hx
  · cases h; exact b162 hal hrow hx
  · cases h; exact b163 hal hrow hx
  · cases h; exact b164 hal hrow hx
  · cases h; exact b170 hal hrow hx
  · cases h; exact b171 hal hrow hx
  · cases h; exact b172 hal hrow hx
  · cases h; exact b176 hal hrow hx
  · cases h; exact b177 hal hrow hx
  · cases h; exact b178 hal hrow hx
  · cases h; exact b179 hal hrow hx
  · cases h; exact b180 hal hrow hx
  · cases h; exact b181 hal hrow hx
  · cases h; exact b182 hal hrow hx
  · cases h; exact b183 hal hrow hx
  · cases h; exact b184 hal hrow hx
  · cases h; exact b185 hal hrow hx
  · cases h; exact b186 hal hrow hx
  · cases h; exact b187 hal hrow hx
  · cases h; exact b188 hal hrow hx
  · cases h; exact b189 hal hrow hx
  · cases h; exact b190 hal hrow hx
  · cases h; exact b73 hal hrow hx
  · cases h

def spP (n : Nat) : CallF → CallF := fun cf f ags row =>
  if f = 118 ∧ row.isNone = true ∧ ags.length ≤ 26 then
    match evC cf n xa118 (LS.init ags none) with
    | some (.normal, s1) => match frOf s1.fr 6 with
      | .dead => match evC cf n xb118 s1 with
        | some (.normal, s) => (resVals (frOf s.fr) (heapOf s.C) rs118).bind fun vs => evRet (heapOf s.C) (zOf s.Z) (tupOf vs) false false
        | some (.ret, s) => (resVals (frOf s.fr) (heapOf s.C) rs118).bind fun vs => evRet (heapOf s.C) (zOf s.Z) (tupOf vs) false false
        | _ => none
      | _ => none
    | _ => none
  else none
theorem evRet_data {C : Heap} {Z : Frz} {v : AV} {r : AV} {row' nr : Option (List DV)} (h : evRet C Z v false false = some (r, row', nr)) : row' = none ∧ nr = none := by
  simp only [evRet, Bool.false_eq_true, if_false] at h
  obtain ⟨r', _, h3⟩ := Option.map_eq_some_iff.1 h
  cases h3; exact ⟨rfl, rfl⟩
theorem spP_ok (n : Nat) (cf : CallF) (hcf : ∀ f ags row r row' nw, cf f ags row = some (r, row', nw) → Good Try.prog f ags row r row' nw) (f : FuncId) (ags : List AV) (row : Option (List DV)) (r : AV) (row' nw : Option (List DV)) (h : spP n cf f ags row = some (r, row', nw)) : Good Try.prog f ags row r row' nw := by
  unfold spP at h
  split at h
  case isFalse => cases h
  rename_i hc
  obtain ⟨rfl, hr, hal⟩ := hc
  have hr' : row = none := by cases row <;> simp_all
  subst hr'
  split at h
  case h_2 => cases h
  rename_i s1 h1
  split at h
  case h_2 => cases h
  rename_i h6
  have fin : ∀ e s, evC cf n xb118 s1 = some (e, s) → (e = .normal ∨ e = .ret) → ((resVals (frOf s.fr) (heapOf s.C) rs118).bind fun vs => evRet (heapOf s.C) (zOf s.Z) (tupOf vs) false false) = some (r, row', nw) → Good Try.prog 118 ags none r row' nw := by
    intro e s h2 he h3
    obtain ⟨vs, h4, h5⟩ := Option.bind_eq_some_iff.1 h3
    obtain ⟨rfl, rfl⟩ := evRet_data h5
    refine parse_of hal ?_
    rw [← LS.init_eq]
    refine evC_sound hcf n _ _ _ _ h1 _ ⟨rfl, h6, ?_⟩
    refine evC_sound hcf n _ _ _ _ h2 _ ?_
    rcases he with rfl | rfl
    · exact ⟨vs, h4, evRet_sound h5⟩
    · exact ⟨vs, h4, evRet_sound h5⟩
  split at h
  · rename_i s h2; exact fin _ _ h2 (.inl rfl) h
  · rename_i s h2; exact fin _ _ h2 (.inr rfl) h
  · cases h
end Go.Sv
namespace Go.Sv
open Go Go.Proofs Go.Proofs.Ytcnlgmajkclgjaa Go.ChangeShapes Go.WideShapes Go.ChangeAt Go.RowKit
set_option linter.unusedVariables false
set_option maxRecDepth 100000

theorem try_own : ownKnob Try.prog.godebug = none := by kernel_rfl
theorem try_laidOut : laidOutB Try.prog = true := by kernel_rfl
theorem rowed : ∀ t ∈ [27, 9, 3, 5, 41], Try.prog.readableRec t = true ∧ t < Try.prog.types.size := by
  intro t ht
  simp only [List.mem_cons, List.not_mem_nil, or_false] at ht
  rcases ht with rfl | rfl | rfl | rfl | rfl
  all_goals exact ⟨by kernel_rfl, of_decide_eq_true (by kernel_rfl)⟩

section
variable {H : Type} {enc : TypeId × Value → H}
theorem stays_all {W W' : World} {sp : Nat → Bool} (hsame : ∀ p : MemPlace, p.block < W.heap.size → W.sameAt W' p) : ∀ {ts : List TypeId} {vs : List Value} {ds : List (DataW H)} {ps : List MemPlace}, (∀ t ∈ ts, Try.prog.readableRec t = true ∧ t < Try.prog.types.size) →
    DataW.TrodAll enc Try.prog W 0 (fun _ => true) true ts vs ds ps → (∀ p ∈ ps, p.block < W.heap.size) → (∀ p ∈ ps, sp p.block = true) → DataW.TrodAll enc Try.prog W' 0 sp true ts vs ds ps
  | [], [], [], ps, _, h, _, _ => h
  | t :: ts, v :: vs, d :: ds, ps, hr, h, hl, hs => by
    obtain ⟨p, q, h1, h2, rfl⟩ := h
    refine ⟨p, q, WideElems.Trod_stays try_laidOut (hr t (by simp)).1 (hr t (by simp)).2 h1 (fun x hx => hsame x (hl x (by simp [hx]))) (fun x hx => hs x (by simp [hx])), ?_, rfl⟩
    exact stays_all hsame (fun t ht => hr t (by simp [ht])) h2 (fun x hx => hl x (by simp [hx])) (fun x hx => hs x (by simp [hx]))

theorem law_post {s : ChangeSpec} {f : Func} {W W' : World} {args : Array Value} {ds gs : List (DataW H)} {before : List MemPlace} (hW : DataW.Whole enc Try.prog f.params.toList s.vars false W args.toList ds gs before) (hsv : s.vars = [])
    (h1 : (s.fn H (ds ++ gs)).results = [.lit (.bool true)]) (h2 : (s.fn H (ds ++ gs)).args = ds) (h3 : (s.fn H (ds ++ gs)).vars = []) (hrt : f.resultTypes = #[4]) (hb : Below W.heap.size W W')
    (hr : ∀ t ∈ f.params.toList, Try.prog.readableRec t = true ∧ t < Try.prog.types.size) : s.post enc Try.prog f false true false false W args (.bool true) W' := by
  have hlt := hW.lt
  have hW0 := hW
  obtain ⟨p, q, hA, hV, rfl, _, _⟩ := hW
  rw [hsv] at hV
  obtain ⟨rfl, rfl⟩ := trodVars_none hV
  have hlt' : ∀ x ∈ p, x.block < W.heap.size := fun x hx => by simpa using hlt x (by simp [hx])
  refine ⟨ds, [], p ++ [], [], p, [], hW0, ?_, ?_, ?_, hb.frame _, fun h => by cases h⟩
  · rw [hrt, h1]
    exact trodAll_mk1 (shut_bool Try.underlying4 true)
  · rw [h2]
    exact stays_all (fun x hx => hb.same hx) hr hA hlt' (fun x hx => by simpa using hlt' x hx)
  · rw [hsv, h3]; rfl

theorem Kept.below {w w' : World} (h : Kept w w' (fun k => (none : Option (List DV)).isSome = true ∧ (none : Option Nat) = some k)) : Below w.heap.size w w' :=
  ⟨h.os, h.tape, h.output, h.size, fun k hk => h.keep k hk (by simp)⟩

theorem law_calls {f : FuncId} {ags : List AV} (hg : Good Try.prog f ags none (.b true) none none) {W : World} {args : Array Value} (ha : RAs W NoA (fun _ => none) NoA args ags) : Calls Try.prog f args W fun e W' => e = .returned (.bool true) ∧ Below W.heap.size W W' := by
  have hNo : (fun k => NoA k ∨ ((none : Option (List DV)).isSome = true ∧ (none : Option Nat) = some k)) = NoA := by
    funext k; simp [NoA]
  have hU : (fun b : Nat => (none : Option (List DV)).isSome = true ∧ b = 0) = NoA := by
    funext k; simp [NoA]
  have := hg.2.2 W NoA none args (fun k h => h.elim) (fun k h => by simp at h) (fun ds h => by cases h) (by rw [hNo, hU]; exact ha)
  refine this.mono fun e W' ⟨v, nm, he, hk, _, _, _, hv⟩ => ?_
  have := hv.val_eq
  subst this
  exact ⟨he, hk.below⟩
theorem RAs.nil {W : World} : RAs W NoA (fun _ => none) NoA #[] [] := ⟨rfl, fun j h => by simp at h⟩
theorem RAs.mk : ∀ {W : World} {vs : List Value} {ags : List AV}, vs.length = ags.length → (∀ (j : Nat) v a, vs[j]? = some v → ags[j]? = some a → RA W NoA (fun _ => none) NoA v a) → RAs W NoA (fun _ => none) NoA vs.toArray ags := by
  intro W vs ags hl h
  refine ⟨by simpa using hl, fun j hj => ?_⟩
  have hj2 : j < vs.length := by omega
  have : vs.toArray.getD j undef = vs[j] := by simp [Array.getD, hj2]
  rw [this]
  exact h j _ _ (List.getElem?_eq_getElem hj2) (List.getElem?_eq_getElem hj)
theorem RDs.toA {W : World} {vs : List Value} {ds : List DV} (h : RDs W vs ds) : RA W NoA (fun _ => none) NoA (.agg vs.toArray) (.agg (ds.map AV.d)) := by
  refine .agg _ _ (by simpa using h.1) fun j hj => ?_
  have hj1 : j < ds.length := by simpa using hj
  have hj2 : j < vs.length := by rw [h.1]; exact hj1
  have : vs.toArray.getD j undef = vs[j] := by simp [Array.getD, hj2]
  rw [this, List.getElem_map]
  exact .d _ _ (h.2 j _ _ (List.getElem?_eq_getElem hj2) (List.getElem?_eq_getElem hj1))
theorem arg_node {W : World} {base : Nat} {v : Value} {d : DataW H} {p : List MemPlace} (hok : Value.okWide Try.prog W .any base 27 v) (h : DataW.Trod enc Try.prog W 0 (fun _ => true) true 27 v d p) : ∃ t : T, inT t ∧ RA W NoA (fun _ => none) NoA v (nodeA t) := by
  obtain ⟨n, hn⟩ := h
  obtain ⟨t, h1, h2⟩ := node_open n _ _ hn
  have hs : ∃ cs, v = .agg cs := by
    unfold Value.okWide at hok
    rw [Try.underlying27] at hok
    obtain ⟨cs, h, _⟩ := hok
    exact ⟨cs, h⟩
  obtain ⟨cs, rfl⟩ := hs
  exact ⟨t, h1, h2.toA⟩
theorem arg_int {W : World} {n : Int} {k : IntKind} : RA W NoA (fun _ => none) NoA (.int k n) (.d (.val (.int k n))) := .d _ _ (.val _ rfl)
theorem arg_str {W : World} {s : ByteArray} : RA W NoA (fun _ => none) NoA (.string s) (.d (.val (.string s))) := .d _ _ (.val _ rfl)
end
theorem weights_str {H : Type} {P : Program} : ∀ {ts : List TypeId} {ds : List (DataW H)} (j : Nat) {t : TypeId} {s : ByteArray}, (DataW.weightsEach P ts ds).all (· ≤ reachBytes) = true → ts[j]? = some t → ds[j]? = some (.lit (.string s.data.toList)) → s.size ≤ 140737488355328
  | [], _, j, t, s, _, h, _ => by simp at h
  | _ :: _, [], j, t, s, _, _, h => by simp at h
  | t0 :: ts, d :: ds, 0, t, s, h, h1, h2 => by
    simp at h1 h2
    subst h2
    simp only [DataW.weightsEach, DataW.weights, List.all_append, List.all_cons, Bool.and_eq_true, decide_eq_true_eq] at h
    have h3 := h.1.1
    have e : s.data.toList.length = s.size := by simp
    rw [e] at h3
    unfold reachBytes at h3
    omega
  | t0 :: ts, d :: ds, j + 1, t, s, h, h1, h2 => by
    simp only [DataW.weightsEach, List.all_append, Bool.and_eq_true] at h
    exact weights_str j h.2 (by simpa using h1) (by simpa using h2)
theorem joined_of {P : Program} {f : FuncId} {fn : Func} {s : ChangeSpec} {c : OpenClaim}
    (k1 : (c.wf (OpenSpec.ofChange s) && laidOutB P && mapsRowed P && fn.params.all (P.readableRec ·) && namedTie P c.named s.vars && (c.stops == []) && (P.stops == []) && (c.knobs == []) && (P.stopKnobs == [])) = true)
    (k2 : (c.inPlace == P.inPlace f) = true) (k3 : (c.unfollowed == P.unfollowed f) = true) (k4 : (c.recurses == P.recurses f) = true) (k5 : (c.named == P.varsNamed f) = true)
    (k6 : ((c.maps == (fn.params.toList ++ s.plain.varTypes P).any (P.mapsRec ·)) && (c.ifaces == (fn.params.toList ++ s.plain.varTypes P).any (P.ifacesRec ·)) && (c.mapsOut == P.mapsAmong fn.resultTypes.toList) &&
  (c.loops == (fn.params.toList ++ s.plain.varTypes P).any (P.loopsFrom ·)) && (c.wideKeys == (fn.params.toList ++ s.plain.varTypes P ++ fn.resultTypes.toList).any (P.wideKeysFrom ·)) &&
  s.vars.all (P.varReadable ·) && fn.resultTypes.all (fun t => P.readableRec t && decide (t < P.types.size)) && (c.ifacesOut == fn.resultTypes.toList.any (P.ifacesRec ·)) && (c.loopsOut == fn.resultTypes.toList.any (P.loopsFrom ·))) = true)
    (hm : P.mayEnter = true) (hl : P.liftsFinal = c.lifted) (hk : P.make = some c.make) (k7 : ((c.plainKeys == P.plainKeys) && c.shortTexts.isNone && P.stopsHeard && (c.kinds == (if c.domain.isEmpty then [] else fn.params.toList.map fun t => match P.underlying t with | some (.int k) => some k | _ => none)) && (c.pinned == c.pinnedBy) &&
  (c.veiled == (fn.params.toList ++ s.plain.varTypes P ++ fn.resultTypes.toList).any (P.veiledRec ·)) && c.veiledFits P fn.params.toList (fn.params.toList ++ s.plain.varTypes P ++ fn.resultTypes.toList)) = true) : joinedFacts P f fn s c = true := by
  unfold joinedFacts
  simp only [Bool.and_eq_true] at k1 k6 k7 ⊢
  obtain ⟨⟨⟨⟨⟨⟨⟨⟨a1, a2⟩, a3⟩, a4⟩, a5⟩, a6⟩, a7⟩, a8⟩, a9⟩ := k1
  obtain ⟨⟨⟨⟨⟨⟨⟨⟨b1, b2⟩, b3⟩, b4⟩, b5⟩, b6⟩, b7⟩, b8⟩, b9⟩ := k6
  obtain ⟨⟨⟨⟨⟨⟨c1, c2⟩, c3⟩, c4⟩, c5⟩, c6⟩, c7⟩ := k7
  have d1 : (c.lifted == P.liftsFinal) = true := by rw [hl]; exact beq_self_eq_true _
  have d2 : (P.make == some c.make) = true := by rw [hk]; exact beq_self_eq_true _
  repeat' apply And.intro
  all_goals assumption
end Go.Sv
namespace Go.Sv
open Go Go.Proofs Go.Proofs.Ytcnlgmajkclgjaa
set_option maxRecDepth 100000
def orderN : List Nat := [104, 97, 114, 110, 101, 115, 115, 32, 52, 100, 99, 102, 50, 98, 101, 99, 57, 54, 53, 101, 49, 53, 55, 56, 102, 100, 97, 52, 56, 101, 99, 52, 97, 101, 57, 98, 98, 50, 100, 98, 101, 100, 51, 97, 52, 98, 99, 100, 100, 51, 97, 57, 56, 98, 50, 102, 51, 57, 102, 50, 50, 101, 97, 100, 48, 54, 49, 51, 100, 51, 56, 56, 32, 99, 117, 116, 32, 97, 116, 32, 115, 105, 101, 118, 101, 47, 115, 105, 101, 118, 101, 108, 97, 119, 49, 49, 46, 69, 110, 100, 115, 84, 101, 108, 108, 32, 115, 105, 101, 118, 101, 47, 115, 105, 101, 118, 101, 108, 97, 119, 49, 49, 46, 69, 110, 100, 115, 77, 97, 116, 99, 104, 32, 115, 105, 101, 118, 101, 47, 115, 105, 101, 118, 101, 108, 97, 119, 49, 49, 46, 69, 110, 100, 115, 83, 105, 109, 112, 108, 101, 32, 115, 105, 101, 118, 101, 47, 115, 105, 101, 118, 101, 108, 97, 119, 49, 49, 46, 69, 110, 100, 115, 66, 101, 115, 116, 32, 115, 105, 101, 118, 101, 47, 115, 105, 101, 118, 101, 108, 97, 119, 49, 49, 46, 69, 110, 100, 115, 76, 111, 110, 103, 101, 114, 32, 115, 105, 101, 118, 101, 47, 115, 105, 101, 118, 101, 108, 97, 119, 49, 49, 46, 69, 110, 100, 115, 80, 97, 114, 116, 115, 32, 115, 105, 101, 118, 101, 47, 115, 105, 101, 118, 101, 108, 97, 119, 49, 49, 46, 69, 110, 100, 115, 83, 116, 97, 114, 32, 115, 105, 101, 118, 101, 47, 115, 105, 101, 118, 101, 108, 97, 119, 49, 48, 46, 83, 105, 109, 112, 108, 105, 102, 121, 84, 101, 108, 108, 115, 32, 115, 105, 101, 118, 101, 47, 115, 105, 101, 118, 101, 108, 97, 119, 49, 48, 46, 83, 105, 109, 112, 108, 105, 102, 121, 65, 103, 97, 105, 110, 32, 115, 105, 101, 118, 101, 47, 115, 105, 101, 118, 101, 108, 97, 119, 49, 48, 46, 83, 105, 109, 112, 108, 105, 102, 121, 75, 101, 101, 112, 115, 32, 115, 105, 101, 118, 101, 47, 115, 105, 101, 118, 101, 108, 97, 119, 49, 48, 46, 83, 105, 109, 112, 108, 105, 102, 121, 79, 110, 101, 32, 115, 105, 101, 118, 101, 47, 115, 105, 101, 118, 101, 108, 97, 119, 49, 51, 46, 69, 120, 112, 97, 110, 100, 84, 101, 108, 108, 115, 32, 115, 105, 101, 118, 101, 47, 115, 105, 101, 118, 101, 108, 97, 119, 49, 51, 46, 69, 120, 112, 97, 110, 100, 83, 97, 109, 101, 32, 115, 105, 101, 118, 101, 47, 115, 105, 101, 118, 101, 108, 97, 119, 49, 51, 46, 69, 120, 112, 97, 110, 100, 80, 108, 97, 105, 110, 32, 115, 105, 101, 118, 101, 47, 115, 105, 101, 118, 101, 108, 97, 119, 49, 51, 46, 69, 120, 112, 97, 110, 100, 66, 117, 100, 103, 101, 116, 32, 115, 105, 101, 118, 101, 47, 115, 105, 101, 118, 101, 108, 97, 119, 49, 51, 46, 69, 120, 112, 97, 110, 100, 70, 105, 114, 115, 116, 32, 115, 105, 101, 118, 101, 47, 115, 105, 101, 118, 101, 108, 97, 119, 48, 57, 46, 77, 101, 97, 115, 117, 114, 101, 84, 101, 108, 108, 115, 32, 115, 105, 101, 118, 101, 47, 115, 105, 101, 118, 101, 108, 97, 119, 48, 57, 46, 77, 101, 97, 115, 117, 114, 101, 75, 110, 111, 119, 115, 32, 115, 105, 101, 118, 101, 47, 115, 105, 101, 118, 101, 108, 97, 119, 48, 57, 46, 77, 101, 97, 115, 117, 114, 101, 76, 101, 110, 103, 116, 104, 115, 32, 115, 105, 101, 118, 101, 47, 115, 105, 101, 118, 101, 108, 97, 119, 48, 57, 46, 77, 101, 97, 115, 117, 114, 101, 80, 97, 114, 116, 115, 32, 115, 105, 101, 118, 101, 47, 115, 105, 101, 118, 101, 108, 97, 119, 48, 57, 46, 77, 101, 97, 115, 117, 114, 101, 82, 101, 112, 32, 115, 105, 101, 118, 101, 47, 115, 105, 101, 118, 101, 108, 97, 119, 49, 50, 46, 68, 101, 114, 105, 118, 101, 84, 101, 108, 108, 115, 32, 115, 105, 101, 118, 101, 47, 115, 105, 101, 118, 101, 108, 97, 119, 49, 50, 46, 68, 101, 114, 105, 118, 101, 76, 111, 110, 103, 101, 115, 116, 32, 115, 105, 101, 118, 101, 47, 115, 105, 101, 118, 101, 108, 97, 119, 49, 50, 46, 68, 101, 114, 105, 118, 101, 87, 111, 114, 100, 115, 32, 115, 105, 101, 118, 101, 47, 115, 105, 101, 118, 101, 108, 97, 119, 49, 50, 46, 68, 101, 114, 105, 118, 101, 70, 105, 114, 115, 116, 32, 115, 105, 101, 118, 101, 47, 115, 105, 101, 118, 101, 108, 97, 119, 49, 50, 46, 68, 101, 114, 105, 118, 101, 83, 105, 109, 112, 108, 101]
theorem order_eq : Try.prog.initOrder = String.ofList (orderN.map Char.ofNat) := by kernel_rfl
theorem order_list : Try.prog.initOrder.toList = orderN.map Char.ofNat := by rw [order_eq, String.toList_ofList]
theorem order_words : (behindMainWord (wordsSigns (orderN.map Char.ofNat))).take 2 = [[99, 117, 116].map Char.ofNat, [97, 116].map Char.ofNat] := by kernel_rfl
theorem ow1 : (stripLifts liftWords (behindMainWord (wordsSigns (orderN.map Char.ofNat)))).1 = [] := by kernel_rfl
theorem ow2 : ((stripLifts liftWords (behindMainWord (wordsSigns (orderN.map Char.ofNat)))).2.head? == some "cut".toList) = true := by kernel_rfl
theorem ow3 : ((behindMainWord (wordsSigns (orderN.map Char.ofNat))).isEmpty = false) := by kernel_rfl
theorem ow4 : ((behindMainWord (wordsSigns (orderN.map Char.ofNat))).head? == some "cut".toList) = true := by kernel_rfl
theorem ow5 : ((behindMainWord (wordsSigns (orderN.map Char.ofNat))).head? == some "carried".toList) = false := by kernel_rfl
theorem ow6 : ((behindMainWord (wordsSigns (orderN.map Char.ofNat))).head? == some "gc".toList) = false := by kernel_rfl
theorem ow7 : ((behindMainWord (wordsSigns (orderN.map Char.ofNat))).head? == some "spec".toList) = false := by kernel_rfl
theorem try_lays : Try.prog.laysLater = false := by kernel_rfl
theorem try_refl : Try.prog.bearsReflect = false := by kernel_rfl
theorem try_door : Try.prog.doorFits [] = true := by kernel_rfl
theorem headLifts_of {P : Program} {l : List Char} (h : P.initOrder.toList = l) (h1 : (stripLifts liftWords (behindMainWord (wordsSigns l))).1 = []) (h2 : ((stripLifts liftWords (behindMainWord (wordsSigns l))).2.head? == some "cut".toList) = true) : P.headLifts = [] := by
  subst h
  unfold Program.headLifts
  simp only [h2, if_true, h1]
theorem try_headLifts : Try.prog.headLifts = [] := headLifts_of order_list ow1 ow2
theorem mayEnter_of {P : Program} {l : List Char} (h : P.initOrder.toList = l) (h1 : (stripLifts liftWords (behindMainWord (wordsSigns l))).1 = []) (h2 : ((stripLifts liftWords (behindMainWord (wordsSigns l))).2.head? == some "cut".toList) = true)
    (h3 : (behindMainWord (wordsSigns l)).isEmpty = false) (k1 : P.laysLater = false) (k2 : P.bearsReflect = false) (k3 : P.doorFits [] = true) : P.mayEnter = true := by
  subst h
  unfold Program.mayEnter
  generalize behindMainWord (wordsSigns P.initOrder.toList) = q at h1 h2 h3 ⊢
  cases q with
  | nil => cases h3
  | cons c rest =>
    have e1 : ([] : List String).contains "finals" = false := rfl
    have e2 : ([] : List String).contains "reflectrows" = false := rfl
    have e3 : ([] : List String).contains "leanrows" = false := rfl
    simp only [h1, h2, k1, k2, k3, e1, e2, e3, Bool.not_false, Bool.or_true, Bool.and_true, Bool.or_self, Bool.and_self]
theorem try_mayEnter : Try.prog.mayEnter = true := mayEnter_of order_list ow1 ow2 ow3 try_lays try_refl try_door
theorem lifts_of {P : Program} {l : List Char} (h : P.initOrder.toList = l) (h5 : ((behindMainWord (wordsSigns l)).head? == some "carried".toList) = false) (k : P.headLifts = []) : P.liftsFinal = false := by
  subst h
  unfold Program.liftsFinal
  rw [k]
  have e1 : ([] : List String).contains "finals" = false := rfl
  simp only [h5, e1, Bool.false_and, Bool.or_self]
theorem try_lifts : Try.prog.liftsFinal = false := lifts_of order_list ow5 try_headLifts
theorem make_of {P : Program} {l : List Char} (h : P.initOrder.toList = l) (h3 : (behindMainWord (wordsSigns l)).isEmpty = false) (h4 : ((behindMainWord (wordsSigns l)).head? == some "cut".toList) = true)
    (h6 : ((behindMainWord (wordsSigns l)).head? == some "gc".toList) = false) (h7 : ((behindMainWord (wordsSigns l)).head? == some "spec".toList) = false) : P.make = some .cut := by
  subst h
  unfold Program.make
  generalize behindMainWord (wordsSigns P.initOrder.toList) = q at h3 h4 h6 h7 ⊢
  cases q with
  | nil => cases h3
  | cons c rest =>
    simp only [List.head?_cons] at h4 h6 h7
    have g : ∀ x : List Char, (some c == some x) = (c == x) := fun x => rfl
    rw [g] at h4 h6 h7
    simp only [h4, h6, h7, Bool.or_self, Bool.false_eq_true, if_false, Bool.true_or, if_true]
theorem try_make : Try.prog.make = some .cut := make_of order_list ow3 ow4 ow6 ow7
end Go.Sv
