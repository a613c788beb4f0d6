/- A part of the proof of the law EndsSimple: that it answers true for every input, and that the input reads behind the call as before (no condition). -/
import Derived.Test.YtcnlgmajkclgjaaEndsSimpleG4
import Derived.Tactics
import Derived.Tactics2
import Derived.Laws.Pointers
set_option linter.all false
set_option linter.unusedSectionVars false
set_option linter.unusedVariables false
set_option linter.unusedSimpArgs false
namespace Go.Sv
open Go Go.Proofs
def x34 : XC := (.seq (.ops 2 [
    (0, ⟨(some 3), none, .box (.t 0)⟩),
    (1, ⟨(some 6), none, .mv (.k (.d (.val (.int .i64 0))))⟩)] (some [1, 2, 3])) (.seq (.ops 9 [
    (0, ⟨(some 10), none, .load (some 8) (.t 3)⟩),
    (1, ⟨(some 11), none, .mv (.t 1)⟩),
    (2, ⟨(some 12), none, .mv (.t 2)⟩),
    (3, ⟨(some 13), none, .call 31 [(.t 10), (.t 11), (.t 12)] none false⟩),
    (4, ⟨(some 9), none, .mv (.t 13)⟩),
    (5, ⟨(some 14), none, .ext (.t 9) 0⟩),
    (6, ⟨(some 15), none, .ext (.t 9) 1⟩),
    (7, ⟨(some 7), none, .mv (.t 14)⟩),
    (8, ⟨(some 8), none, .mv (.t 15)⟩)] (some [7])) (.seq (.seq (.ops 3 [
    (0, ⟨(some 16), none, .mv (.t 7)⟩),
    (1, ⟨(some 17), none, .lenS (.t 16)⟩),
    (2, ⟨(some 18), none, .arith .eql (.t 17) (.k (.d (.val (.int .i64 0))))⟩)] (some [7, 18])) (.cond (.t 18) (.seq (.ops 1 [
    (0, ⟨(some 6), none, .mv (.k (.d (.val (.int .i64 (-1)))))⟩)] (some [6])) .ret) .skip)) (.seq (.ops 7 [
    (0, ⟨(some 19), none, .mv (.t 7)⟩),
    (1, ⟨(some 20), none, .mv (.t 7)⟩),
    (2, ⟨(some 21), none, .lenS (.t 20)⟩),
    (3, ⟨(some 22), none, .arith .sub (.t 21) (.k (.d (.val (.int .i64 1))))⟩),
    (4, ⟨(some 23), none, .idxS 1 (.t 19) (.t 22)⟩),
    (5, ⟨(some 24), none, .load none (.t 23)⟩),
    (6, ⟨(some 6), none, .mv (.t 24)⟩)] (some [6])) .ret))))
def md34 : FuncId → Option Nat × Bool
  | _ => (none, false)
def od34 : Nat → List (List Nat) × List Nat × Option (List Nat)
  | 0 => ([], [], some [1, 2, 3])
  | 1 => ([], [], some [7])
  | 2 => ([], [], some [7, 18])
  | 3 => ([], [], some [6])
  | 4 => ([], [], some [6])
  | _ => ([], [], none)
theorem b34 {ags : List AV} {row : Option (List DV)} {r : AV} {row' nw : Option (List DV)} (hal : ags.length ≤ 25) (hrow : row'.isSome = true → row.isSome = true) (h : xwp Try.prog x34 (retK [.tmp 6] row.isSome r row' nw) (St.init ags row)) : Good Try.prog 34 ags row r row' nw :=
  good_of_body' (md := md34) (od := od34) Try.f34 (by kernel_rfl) (by kernel_rfl) (by kernel_rfl) (by kernel_rfl) (by kernel_rfl) hal hrow h

def x33 : XC := (.seq (.ops 2 [
    (0, ⟨(some 2), none, .box (.t 0)⟩),
    (1, ⟨(some 4), none, .mv (.k (.d (.val (.bool false))))⟩)] (some [1, 2])) (.seq (.ops 7 [
    (0, ⟨(some 5), none, .load (some 8) (.t 2)⟩),
    (1, ⟨(some 6), none, .mv (.t 1)⟩),
    (2, ⟨(some 7), none, .call 34 [(.t 5), (.t 6), (.k (.d (.val (.int .i64 0))))] none false⟩),
    (3, ⟨(some 8), none, .mv (.t 1)⟩),
    (4, ⟨(some 9), none, .lenT (.t 8)⟩),
    (5, ⟨(some 10), none, .arith .eql (.t 7) (.t 9)⟩),
    (6, ⟨(some 4), none, .mv (.t 10)⟩)] (some [4])) .ret))
def md33 : FuncId → Option Nat × Bool
  | _ => (none, false)
def od33 : Nat → List (List Nat) × List Nat × Option (List Nat)
  | 0 => ([], [], some [1, 2])
  | 1 => ([], [], some [4])
  | _ => ([], [], none)
theorem b33 {ags : List AV} {row : Option (List DV)} {r : AV} {row' nw : Option (List DV)} (hal : ags.length ≤ 11) (hrow : row'.isSome = true → row.isSome = true) (h : xwp Try.prog x33 (retK [.tmp 4] row.isSome r row' nw) (St.init ags row)) : Good Try.prog 33 ags row r row' nw :=
  good_of_body' (md := md33) (od := od33) Try.f33 (by kernel_rfl) (by kernel_rfl) (by kernel_rfl) (by kernel_rfl) (by kernel_rfl) hal hrow h

section
variable {P : Program} {Q : Cont} {fr : Fr} {C : Heap} {Z : Frz} {nx : Nat} {base n d : Nat} {l : List (Nat × XO)} {kp : Option (List Nat)} {x i y s : X}
theorem r_ixI {L : List Int} {m j : Nat} {e : Int} (hx : x.ev fr = .d (.sl (encI L) m)) (hi : i.ev fr = .i e) (he : e = (j : Nat)) (hm : L.length = m) (hj : j < m) (k : R P l base kp Q nx (fr.put d (.d (.ptr (encI L) j))) C Z) : R P ((n, ⟨some d, none, .idxS 1 x i⟩) :: l) base kp Q nx fr C Z := by
  subst hm he
  refine r_p ?_ k
  have hne : encI L ≠ [] := fun h => by
    have := congrArg List.length h
    rw [encI_len, List.length_nil] at this; omega
  simp [xp, hx, hi, hne, intIn, hj]
theorem r_ldI {L : List Int} {j : Nat} {v : Int} (hx : x.ev fr = .d (.ptr (encI L) j)) (hb : L[j]? = some v) (k : R P l base kp Q nx (fr.put d (.i v)) C Z) : R P ((n, ⟨some d, none, .load none x⟩) :: l) base kp Q nx fr C Z := by
  refine r_l ?_ k
  simp [xl, hx, rowOf, subA, encI, hb]
end
set_option maxRecDepth 100000
set_option maxHeartbeats 4000000
attribute [local irreducible] W E R KP thenK blockK retK Good xwp aRun
end Go.Sv
namespace Go.Sv
open Go Go.Proofs
set_option maxRecDepth 100000
def xa118 : XC := (.ops 3 [
    (0, ⟨(some 2), none, .alloc [(.int .i64 0), (.int .u64 0), (.int .u64 0), (.int .u64 0), (.int .u64 0), (.int .i64 0), (.int .i64 0), (.slice none 0 0)]⟩),
    (1, ⟨(some 3), none, .alloc [(.int .i64 0)]⟩),
    (2, ⟨(some 4), none, .alloc [(.int .i64 0)]⟩)] (some [0, 2, 3, 4]))
def xb118 : XC := (.seq (.ops 4 [
    (0, ⟨(some 7), none, .mv (.t 0)⟩),
    (1, ⟨(some 8), none, .build [(.string ⟨#[]⟩), (.int .i64 0), (.int .i64 0)] [(0, 1, (.t 7))]⟩),
    (2, ⟨(some 9), none, .box (.t 8)⟩),
    (3, ⟨(some 5), none, .mv (.t 9)⟩)] (some [0, 2, 3, 4, 5])) (.seq (.ops 3 [
    (0, ⟨(some 10), none, .mv (.t 5)⟩),
    (1, ⟨(some 11), none, .call 149 [(.t 10)] (some 0) false⟩),
    (2, ⟨none, none, .store 8 (.t 2) (.t 11)⟩)] (some [0, 2, 3, 4, 5])) (.seq (.ops 13 [
    (0, ⟨(some 12), none, .mv (.t 5)⟩),
    (1, ⟨(some 13), none, .mv (.t 5)⟩),
    (2, ⟨(some 14), none, .nilck (.t 13)⟩),
    (3, ⟨(some 15), none, .fadd 1 (.t 14)⟩),
    (4, ⟨(some 16), none, .load none (.t 15)⟩),
    (5, ⟨(some 17), none, .mv (.t 0)⟩),
    (6, ⟨(some 18), none, .lenT (.t 17)⟩),
    (7, ⟨(some 19), none, .arith .eql (.t 16) (.t 18)⟩),
    (8, ⟨(some 20), none, .mv (.t 5)⟩),
    (9, ⟨(some 21), none, .nilck (.t 20)⟩),
    (10, ⟨(some 22), none, .fadd 1 (.t 21)⟩),
    (11, ⟨(some 23), none, .load none (.t 22)⟩),
    (12, ⟨(some 24), none, .call 150 [(.t 12), (.t 19), (.t 23)] none false⟩)] (some [2, 3, 4])) (.seq (.ops 4 [
    (0, ⟨(some 25), none, .load (some 8) (.t 2)⟩),
    (1, ⟨none, none, .store 8 (.t 2) (.t 25)⟩),
    (2, ⟨none, none, .store 1 (.t 3) (.k (.d (.val (.int .i64 0))))⟩),
    (3, ⟨none, none, .store 1 (.t 4) (.k (.d (.val (.int .i64 0))))⟩)] (some [2, 3, 4])) .ret))))
def md118 : FuncId → Option Nat × Bool
  | 149 => (some 0, false)
  | _ => (none, false)
def od118 : Nat → List (List Nat) × List Nat × Option (List Nat)
  | 0 => ([], [], some [0, 2, 3, 4])
  | 2 => ([], [], some [0, 2, 3, 4, 5])
  | 3 => ([], [], some [0, 2, 3, 4, 5])
  | 4 => ([[], [], [1], [1, 2], [1, 2, 3], [], [5], [1, 2, 3, 4, 5, 6], [], [8], [8, 9], [8, 9, 10], [0, 1, 2, 3, 4, 5, 6, 7, 8, 9, 10, 11]], [0, 1, 2, 3, 4, 5, 6, 7, 8, 9, 10, 11, 12], some [2, 3, 4])
  | 5 => ([], [], some [2, 3, 4])
  | _ => ([], [], none)
def rs118 : List XRes := [.cell 2 (some 8), .cell 3 none, .cell 4 none]

theorem run_nilnil (w : World) : (binOp BinOp.eql 20 Value.nilIface Value.nilIface).run Try.prog w = .ok (.bool true) w := by
  kernel_rfl
theorem catch_idle (v0 v1 v2 : Value) (w : World) : CallsD Try.prog 148 #[v0, v1, v2] .returning w fun e u' w' => e = .returned (.tuple #[]) ∧ u' = .returning ∧ w' = w := by
  refine callsD_of_wpS Try.func148 rfl fun c₀ cs hu => ?_
  apply wpS_seq
  apply wpS_region
  simp [wpOpsS, go_sem, recoverD, hu, Try.ntmps148, Exit.thenS]
  refine wpS_of_wp (wp_block (wp_seq (wp_region ?_)))
  simp [wpOps, go_sem, run_nilnil, Exit.then]
  refine Or.inl ?_
  refine wp_cond (t := true) ?_ ?_
  · simp [Act.eval]
  simp only [if_true]
  refine wp_region ?_
  simp [wpOps, go_sem, Exit.inBlock, bodyPostS, results, Try.results148]
  refine Or.inl ?_
  cases c₀
  simp_all
theorem p118 : ∃ r0 rest o0 o1, Try.f118.body = some (.seq r0 (.seq (.region 1 #[o0, o1] false) rest)) ∧ compC Try.prog md118 od118 26 r0 = some xa118 ∧ compC Try.prog md118 od118 26 rest = some xb118 ∧
    o0.op = .makeFunc (.func 148) #[] #[.tmp 2, .tmp 3, .tmp 4] ∧ o0.dst = some 6 ∧ o0.guard = none ∧ o1.op = .defer { callee := .value (.tmp 6), args := #[], argTypes := #[] } ∧ o1.dst = none ∧ o1.guard = none :=
  ⟨_, _, _, _, rfl, by kernel_rfl, by kernel_rfl, rfl, rfl, rfl, rfl, rfl, rfl⟩
theorem parse_of {ags : List AV} {r : AV} (hal : ags.length ≤ 26)
    (h : xwp Try.prog xa118 (fun e st => e = .normal ∧ st.fr 6 = .dead ∧ xwp Try.prog xb118 (retK rs118 false r none none) st) (St.init ags none)) : Good Try.prog 118 ags none r none none := by
  obtain ⟨r0, rest, o0, o1, hb, h0, h1, g1, g2, g3, g4, g5, g6⟩ := p118
  refine good_of_wp (nt := 26) (rs := rs118) Try.func118 hb (by kernel_rfl) (by kernel_rfl) (by kernel_rfl) hal (by simp) fun w0 S Wr pb a w R hS hsim hR => ?_
  refine wp_seq (xwp_sound (D := []) hS h0 h hsim ?_)
  rintro e st a w ⟨rfl, h6, hx⟩ hs
  show (Code.seq _ rest).wp _ _ _ _
  have hd := hs.defers
  have hsz := hs.size
  refine wp_seq (wp_region ?_)
  have hl : List.range (#[o0, o1] : Array Oper).size = [0, 1] := rfl
  rw [hl]
  let fv : Value := .func (.func 148) #[] #[a.tmps.getD 2 undef, a.tmps.getD 3 undef, a.tmps.getD 4 undef]
  let a1 : Act := { tmps := a.tmps.setIfInBounds 6 fv, defers := a.defers }
  let dd : Deferred := { target := .fn (.func 148) #[a.tmps.getD 2 undef, a.tmps.getD 3 undef, a.tmps.getD 4 undef], args := #[] }
  have e0 : (execOp a.eval o0).run Try.prog w = .ok (.value fv) w := by
    simp [execOp, g1, Instr.makeFunc, Act.eval, fv]
  have ev6 : a1.eval (.tmp 6) = fv := by
    simp [Act.eval, a1, Array.getD, hsz]
  have e1 : (execOp a1.eval o1).run Try.prog w = .ok (.defer dd) w := by
    simp [execOp, g4, resolve, ev6, Deferred.ofValue, fv, dd]
  have w0' : Region.wanted o0 (yielded #[o0, o1] a.tmps) = true := by simp [Region.wanted, g3]
  have w1' : Region.wanted o1 (yielded #[o0, o1] a1.tmps) = true := by simp [Region.wanted, g6]
  have hp0 : a.put o0.dst fv = a1 := by rw [g2]; rfl
  let a2 : Act := { tmps := a1.tmps, defers := [dd] }
  suffices hq : rest.wp Try.prog (bodyPostD Try.prog Try.f118 R) a2 w by
    show (if Region.wanted o0 (yielded #[o0, o1] a.tmps) = true then _ else _)
    rw [if_pos w0']
    refine Or.inl ?_
    show Oper.upon Try.prog o0 a _ _ ((execOp a.eval o0).run Try.prog w)
    rw [e0, Oper.upon_value, hp0]
    show (if Region.wanted o1 (yielded #[o0, o1] a1.tmps) = true then _ else _)
    rw [if_pos w1']
    refine Or.inl ?_
    show Oper.upon Try.prog o1 a1 _ _ ((execOp a1.eval o1).run Try.prog w)
    rw [e1, Oper.upon_defer, g5]
    show rest.wp Try.prog (bodyPostD Try.prog Try.f118 R) { tmps := a1.tmps, defers := dd :: a.defers } w
    rw [hd]
    exact hq
  have hs2 : Sim [dd] pb w0 S Wr 26 (fun b => b < st.nx) st.fr st.C st.Z a2 w := by
    obtain ⟨⟨μ, U, k1, k2, k3, k4⟩, k5, k6⟩ := hs
    refine ⟨⟨μ, U, k1, fun s => ?_, k3, k4⟩, by simp [a2, a1, k5], rfl⟩
    by_cases h : s = 6
    · subst h; rw [h6]; exact .dead _
    · have : a2.tmps.getD s undef = a.tmps.getD s undef := by
        simp only [a2, a1, Array.getD_eq_getD_getElem?]
        rw [Array.getElem?_setIfInBounds_ne (Ne.symm h)]
      rw [this]; exact k2 s
  refine xwp_sound (D := [dd]) hS h1 hx hs2 ?_
  intro e st3 a3 w3 hq hs3
  have hd3 := hs3.defers
  have key : (∃ vs, resVals st3.fr st3.C rs118 = some vs ∧ RetOK st3.C st3.Z (tupOf vs) (none : Option (List DV)).isSome r none none) → Leaves Try.prog Try.f118 a3.tmps R a3.defers .returning w3 := by
    intro hv
    rw [hd3]
    refine leaves_cons (f := 148) (args := #[a.tmps.getD 2 undef, a.tmps.getD 3 undef, a.tmps.getD 4 undef]) (by simp) ?_ ((catch_idle _ _ _ w3).mono ?_)
    · have := run_callFunc (P := Try.prog) (f := 148) ⟨Try.f148, Try.func148, by kernel_rfl, by kernel_rfl⟩ #[a.tmps.getD 2 undef, a.tmps.getD 3 undef, a.tmps.getD 4 undef] w3
      simpa [invoke] using this
    · rintro e u' w' ⟨rfl, rfl, rfl⟩
      exact hR [dd] st3 a3 w' hv hs3
  cases e with
  | normal => exact key hq
  | ret => exact key hq
  | _ => exact hq.elim
end Go.Sv
namespace Go.Sv
open Go Go.Proofs
def x35 : XC := (.seq (.ops 1 [
    (0, ⟨(some 4), none, .mv (.k (.d (.val (.bool false))))⟩)] (some [0, 1])) (.seq (.seq (.ops 5 [
    (0, ⟨(some 6), none, .mv (.t 0)⟩),
    (1, ⟨(some 7), none, .lenS (.t 6)⟩),
    (2, ⟨(some 8), none, .mv (.t 1)⟩),
    (3, ⟨(some 9), none, .lenS (.t 8)⟩),
    (4, ⟨(some 10), none, .arith .neq (.t 7) (.t 9)⟩)] (some [0, 1, 10])) (.cond (.t 10) (.seq (.ops 1 [
    (0, ⟨(some 4), none, .mv (.k (.d (.val (.bool false))))⟩)] (some [4])) .ret) .skip)) (.seq (.seq (.ops 1 [
    (0, ⟨(some 5), none, .mv (.k (.d (.val (.int .i64 0))))⟩)] (some [0, 1, 5])) (.block 0 (.loop (.seq (.seq (.ops 4 [
    (0, ⟨(some 11), none, .mv (.t 5)⟩),
    (1, ⟨(some 12), none, .mv (.t 0)⟩),
    (2, ⟨(some 13), none, .lenS (.t 12)⟩),
    (3, ⟨(some 14), none, .arith .lss (.t 11) (.t 13)⟩)] (some [0, 1, 5, 14])) (.cond (.t 14) .skip (.exit 0))) (.seq (.block 1 (.seq (.ops 9 [
    (0, ⟨(some 17), none, .mv (.t 0)⟩),
    (1, ⟨(some 18), none, .mv (.t 5)⟩),
    (2, ⟨(some 19), none, .idxS 1 (.t 17) (.t 18)⟩),
    (3, ⟨(some 20), none, .load none (.t 19)⟩),
    (4, ⟨(some 21), none, .mv (.t 1)⟩),
    (5, ⟨(some 22), none, .mv (.t 5)⟩),
    (6, ⟨(some 23), none, .idxS 1 (.t 21) (.t 22)⟩),
    (7, ⟨(some 24), none, .load none (.t 23)⟩),
    (8, ⟨(some 25), none, .arith .neq (.t 20) (.t 24)⟩)] (some [0, 1, 5, 25])) (.cond (.t 25) (.seq (.ops 1 [
    (0, ⟨(some 4), none, .mv (.k (.d (.val (.bool false))))⟩)] (some [4])) .ret) .skip))) (.ops 3 [
    (0, ⟨(some 15), none, .mv (.t 5)⟩),
    (1, ⟨(some 16), none, .arith .add (.t 15) (.k (.d (.val (.int .i64 1))))⟩),
    (2, ⟨(some 5), none, .mv (.t 16)⟩)] (some [0, 1, 5]))))))) (.seq (.ops 1 [
    (0, ⟨(some 4), none, .mv (.k (.d (.val (.bool true))))⟩)] (some [4])) .ret))))
def md35 : FuncId → Option Nat × Bool
  | _ => (none, false)
def od35 : Nat → List (List Nat) × List Nat × Option (List Nat)
  | 0 => ([], [], some [0, 1])
  | 1 => ([], [], some [0, 1, 10])
  | 2 => ([], [], some [4])
  | 3 => ([], [], some [0, 1, 5])
  | 4 => ([], [], some [0, 1, 5, 14])
  | 5 => ([], [], some [0, 1, 5])
  | 6 => ([[], [], [0, 1], [0, 1, 2], [], [], [4, 5], [4, 5, 6], [0, 1, 2, 3, 4, 5, 6, 7]], [0, 1, 2, 3, 4, 5, 6, 7, 8], some [0, 1, 5, 25])
  | 7 => ([], [], some [4])
  | 8 => ([], [], some [4])
  | _ => ([], [], none)
theorem b35 {ags : List AV} {row : Option (List DV)} {r : AV} {row' nw : Option (List DV)} (hal : ags.length ≤ 26) (hrow : row'.isSome = true → row.isSome = true) (h : xwp Try.prog x35 (retK [.tmp 4] row.isSome r row' nw) (St.init ags row)) : Good Try.prog 35 ags row r row' nw :=
  good_of_body' (md := md35) (od := od35) Try.f35 (by kernel_rfl) (by kernel_rfl) (by kernel_rfl) (by kernel_rfl) (by kernel_rfl) hal hrow h

def x140 : XC := (.seq (.ops 2 [
    (0, ⟨(some 2), none, .box (.t 0)⟩),
    (1, ⟨(some 4), none, .mv (.k (.d (.val (.int .i64 0))))⟩)] (some [1, 2])) (.seq (.ops 1 [
    (0, ⟨(some 5), none, .mv (.k (.d (.val (.int .i64 1))))⟩)] (some [1, 2, 5])) (.seq (.seq (.ops 1 [
    (0, ⟨(some 6), none, .mv (.k (.d (.val (.int .i64 0))))⟩)] (some [1, 2, 5, 6])) (.block 0 (.loop (.seq (.seq (.ops 10 [
    (0, ⟨(some 7), none, .mv (.t 6)⟩),
    (1, ⟨(some 8), none, .fadd 7 (.t 2)⟩),
    (2, ⟨(some 9), none, .load none (.t 8)⟩),
    (3, ⟨(some 10), none, .lenS (.t 9)⟩),
    (4, ⟨(some 11), none, .arith .lss (.t 7) (.t 10)⟩),
    (5, ⟨(some 12), none, .mv (.t 11)⟩),
    (6, ⟨(some 13), (some (12, true)), .mv (.t 5)⟩),
    (7, ⟨(some 14), (some (12, true)), .mv (.t 1)⟩),
    (8, ⟨(some 15), (some (12, true)), .arith .lss (.t 13) (.t 14)⟩),
    (9, ⟨(some 16), none, .pick (.t 12) (.t 15) (.k (.d (.val (.bool false))))⟩)] (some [1, 2, 5, 6, 16])) (.cond (.t 16) .skip (.exit 0))) (.seq (.block 1 (.ops 12 [
    (0, ⟨(some 19), none, .mv (.t 5)⟩),
    (1, ⟨(some 20), none, .fadd 7 (.t 2)⟩),
    (2, ⟨(some 21), none, .load none (.t 20)⟩),
    (3, ⟨(some 22), none, .mv (.t 6)⟩),
    (4, ⟨(some 23), none, .idxS 8 (.t 21) (.t 22)⟩),
    (5, ⟨(some 24), none, .load (some 8) (.t 23)⟩),
    (6, ⟨(some 25), none, .mv (.t 1)⟩),
    (7, ⟨(some 26), none, .mv (.t 5)⟩),
    (8, ⟨(some 27), none, .arith .sub (.t 25) (.t 26)⟩),
    (9, ⟨(some 28), none, .call 140 [(.t 24), (.t 27)] none false⟩),
    (10, ⟨(some 29), none, .arith .add (.t 19) (.t 28)⟩),
    (11, ⟨(some 5), none, .mv (.t 29)⟩)] (some [1, 2, 5, 6]))) (.ops 3 [
    (0, ⟨(some 17), none, .mv (.t 6)⟩),
    (1, ⟨(some 18), none, .arith .add (.t 17) (.k (.d (.val (.int .i64 1))))⟩),
    (2, ⟨(some 6), none, .mv (.t 18)⟩)] (some [1, 2, 5, 6]))))))) (.seq (.ops 2 [
    (0, ⟨(some 30), none, .mv (.t 5)⟩),
    (1, ⟨(some 4), none, .mv (.t 30)⟩)] (some [4])) .ret))))
def md140 : FuncId → Option Nat × Bool
  | _ => (none, false)
def od140 : Nat → List (List Nat) × List Nat × Option (List Nat)
  | 0 => ([], [], some [1, 2])
  | 1 => ([], [], some [1, 2, 5])
  | 2 => ([], [], some [1, 2, 5, 6])
  | 3 => ([], [], some [1, 2, 5, 6, 16])
  | 4 => ([], [], some [1, 2, 5, 6])
  | 5 => ([], [], some [1, 2, 5, 6])
  | 6 => ([], [], some [4])
  | _ => ([], [], none)
theorem b140 {ags : List AV} {row : Option (List DV)} {r : AV} {row' nw : Option (List DV)} (hal : ags.length ≤ 31) (hrow : row'.isSome = true → row.isSome = true) (h : xwp Try.prog x140 (retK [.tmp 4] row.isSome r row' nw) (St.init ags row)) : Good Try.prog 140 ags row r row' nw :=
  good_of_body' (md := md140) (od := od140) Try.f140 (by kernel_rfl) (by kernel_rfl) (by kernel_rfl) (by kernel_rfl) (by kernel_rfl) hal hrow h

def x96 : XC := (.seq (.ops 2 [
    (0, ⟨(some 1), none, .box (.t 0)⟩),
    (1, ⟨(some 2), none, .mv (.k (.d (.val (.int .i64 0))))⟩)] (some [1])) (.seq (.ops 3 [
    (0, ⟨(some 3), none, .load (some 8) (.t 1)⟩),
    (1, ⟨(some 4), none, .call 140 [(.t 3), (.k (.d (.val (.int .i64 601))))] none false⟩),
    (2, ⟨(some 2), none, .mv (.t 4)⟩)] (some [2])) .ret))
def md96 : FuncId → Option Nat × Bool
  | _ => (none, false)
def od96 : Nat → List (List Nat) × List Nat × Option (List Nat)
  | 0 => ([], [], some [1])
  | 1 => ([], [], some [2])
  | _ => ([], [], none)
theorem b96 {ags : List AV} {row : Option (List DV)} {r : AV} {row' nw : Option (List DV)} (hal : ags.length ≤ 5) (hrow : row'.isSome = true → row.isSome = true) (h : xwp Try.prog x96 (retK [.tmp 2] row.isSome r row' nw) (St.init ags row)) : Good Try.prog 96 ags row r row' nw :=
  good_of_body' (md := md96) (od := od96) Try.f96 (by kernel_rfl) (by kernel_rfl) (by kernel_rfl) (by kernel_rfl) (by kernel_rfl) hal hrow h

def x45 : XC := (.seq (.ops 2 [
    (0, ⟨(some 1), none, .box (.t 0)⟩),
    (1, ⟨(some 2), none, .mv (.k (.d (.val (.bool false))))⟩)] (some [1])) (.seq (.ops 4 [
    (0, ⟨(some 3), none, .load (some 8) (.t 1)⟩),
    (1, ⟨(some 4), none, .call 96 [(.t 3)] none false⟩),
    (2, ⟨(some 5), none, .arith .leq (.t 4) (.k (.d (.val (.int .i64 200))))⟩),
    (3, ⟨(some 2), none, .mv (.t 5)⟩)] (some [2])) .ret))
def md45 : FuncId → Option Nat × Bool
  | _ => (none, false)
def od45 : Nat → List (List Nat) × List Nat × Option (List Nat)
  | 0 => ([], [], some [1])
  | 1 => ([], [], some [2])
  | _ => ([], [], none)
theorem b45 {ags : List AV} {row : Option (List DV)} {r : AV} {row' nw : Option (List DV)} (hal : ags.length ≤ 6) (hrow : row'.isSome = true → row.isSome = true) (h : xwp Try.prog x45 (retK [.tmp 2] row.isSome r row' nw) (St.init ags row)) : Good Try.prog 45 ags row r row' nw :=
  good_of_body' (md := md45) (od := od45) Try.f45 (by kernel_rfl) (by kernel_rfl) (by kernel_rfl) (by kernel_rfl) (by kernel_rfl) hal hrow h

set_option maxRecDepth 100000
set_option maxHeartbeats 4000000
attribute [local irreducible] W E R KP thenK blockK retK Good xwp aRun
theorem same_good (L M : List Int) (hL : L.length ≤ 1000001) : Good Try.prog 35 [.d (.sl (encI L) L.length), .d (.sl (encI M) M.length)] none (.b (decide (L = M))) none none := by
  refine b35 (by simp) (by simp) (w_init ?_)
  unfold x35
  by_cases hlen : L.length = M.length
  case neg =>
    repeat' (first
    | (apply r_mvV; rfl)
    | (apply r_mvP; rfl)
    | (apply r_mvPL; rfl)
    | (apply r_mvS; rfl)
    | (apply r_mvSL; rfl)
    | (apply r_mvA; rfl)
    | (apply r_mvT; rfl)
    | (apply r_mvF; rfl)
    | (apply r_mvD; rfl)
    | (apply r_ldL; rfl; rfl; rfl)
    | (apply r_neq; rfl; rfl; (first | (apply decide_eq_true; omega) | (apply decide_eq_false; omega) | rfl))
    | (apply r_lss; rfl; rfl; (first | (apply decide_eq_true; omega) | (apply decide_eq_false; omega) | rfl))
    | (apply r_add; rfl; rfl; rfl; omega)
    | (apply r_lenD; rfl)
    | (apply r_lenL; rfl)
    | (apply r_len0; rfl)
    | (apply r_p; rfl)
    | (apply r_nilK)
    | (apply r_nil)
    | (apply k_V; rfl)
    | (apply k_P; rfl)
    | (apply k_PL; rfl)
    | (apply k_S; rfl)
    | (apply k_SL; rfl)
    | (apply k_A; rfl)
    | (apply k_T; rfl)
    | (apply k_F; rfl)
    | (apply k_D; rfl; rotate_left; rfl)
    | (apply k_nil)
    | (apply e_ret (vs := [.d (.val _)]); rfl)
    | (apply e_ret; rfl)
    | (apply e_ret' (vs := [.d (.val _)]); rfl)
    | (apply e_ret'; rfl)
    | (apply w_seq)
    | (apply w_ops; ((conv => lhs; simp only [Nat.reduceAdd]) <;> rfl))
    | (apply w_condT; rfl)
    | (apply w_condF; rfl)
    | ((apply w_condS; rfl) <;> (intro h; try simp only [decide_eq_true_eq, decide_eq_false_iff_not, Bool.not_eq_true, Bool.not_eq_false] at h))
    | (apply e_thenN)
    | (apply w_block)
    | (apply e_thenR)
    | (apply e_thenX)
    | (apply e_blkN)
    | (apply e_blkR)
    | (apply e_blkE)
    | (apply w_exit)
    | (apply w_ret)
    | (apply w_skip)
    | (apply e_blkE'; rfl))
    refine retB ?_
    have : L ≠ M := fun e => hlen (by rw [e])
    simp [this]
  repeat' (first
    | (apply r_mvV; rfl)
    | (apply r_mvP; rfl)
    | (apply r_mvPL; rfl)
    | (apply r_mvS; rfl)
    | (apply r_mvSL; rfl)
    | (apply r_mvA; rfl)
    | (apply r_mvT; rfl)
    | (apply r_mvF; rfl)
    | (apply r_mvD; rfl)
    | (apply r_ldL; rfl; rfl; rfl)
    | (apply r_neq; rfl; rfl; (first | (apply decide_eq_true; omega) | (apply decide_eq_false; omega) | rfl))
    | (apply r_lss; rfl; rfl; (first | (apply decide_eq_true; omega) | (apply decide_eq_false; omega) | rfl))
    | (apply r_add; rfl; rfl; rfl; omega)
    | (apply r_lenD; rfl)
    | (apply r_lenL; rfl)
    | (apply r_len0; rfl)
    | (apply r_p; rfl)
    | (apply r_nilK)
    | (apply r_nil)
    | (apply k_V; rfl)
    | (apply k_P; rfl)
    | (apply k_PL; rfl)
    | (apply k_S; rfl)
    | (apply k_SL; rfl)
    | (apply k_A; rfl)
    | (apply k_T; rfl)
    | (apply k_F; rfl)
    | (apply k_D; rfl; rotate_left; rfl)
    | (apply k_nil)
    | (apply e_ret (vs := [.d (.val _)]); rfl)
    | (apply e_ret; rfl)
    | (apply e_ret' (vs := [.d (.val _)]); rfl)
    | (apply e_ret'; rfl)
    | (apply w_seq)
    | (apply w_ops; ((conv => lhs; simp only [Nat.reduceAdd]) <;> rfl))
    | (apply w_condT; rfl)
    | (apply w_condF; rfl)
    | ((apply w_condS; rfl) <;> (intro h; try simp only [decide_eq_true_eq, decide_eq_false_iff_not, Bool.not_eq_true, Bool.not_eq_false] at h))
    | (apply e_thenN)
    | (apply w_block)
    | (apply e_thenR)
    | (apply e_thenX)
    | (apply e_blkN)
    | (apply e_blkR)
    | (apply e_blkE)
    | (apply w_exit)
    | (apply w_ret)
    | (apply w_skip)
    | (apply e_blkE'; rfl))
  apply w_loopI (S := fun i : Nat => ⟨((Fr.nil.put 0 (.d (.sl (encI L) L.length))).put 1 (.d (.sl (encI M) M.length))).put 5 (.i i), Heap.nil, Frz.lo 100, 100⟩) (m := fun i => L.length - i) (I := fun i => i ≤ L.length ∧ L.take i = M.take i) (i0 := 0)
  · exact ⟨Nat.zero_le _, rfl⟩
  · exact wk0 (by omega) (FWk.i rfl rfl (FWk.d rfl rfl (FWk.d rfl rfl FWk.nil)))
  intro i K hi hK
  dsimp only
  rcases Nat.lt_or_ge i L.length with hlt | hge
  · have hlt2 : i < M.length := by omega
    have hg := List.getElem?_eq_getElem hlt
    have hg2 := List.getElem?_eq_getElem hlt2
    repeat' (first
    | (apply r_mvV; rfl)
    | (apply r_mvP; rfl)
    | (apply r_mvPL; rfl)
    | (apply r_mvS; rfl)
    | (apply r_mvSL; rfl)
    | (apply r_mvA; rfl)
    | (apply r_mvT; rfl)
    | (apply r_mvF; rfl)
    | (apply r_mvD; rfl)
    | (apply r_ixI (j := i); rfl; rfl; rfl; rfl; omega)
    | (apply r_ldI; rfl; exact hg)
    | (apply r_ldI; rfl; exact hg2)
    | (apply r_ldL; rfl; rfl; rfl)
    | (apply r_neq; rfl; rfl; (first | (apply decide_eq_true; omega) | (apply decide_eq_false; omega) | rfl))
    | (apply r_lss; rfl; rfl; (first | (apply decide_eq_true; omega) | (apply decide_eq_false; omega) | rfl))
    | (apply r_add; rfl; rfl; rfl; omega)
    | (apply r_lenD; rfl)
    | (apply r_lenL; rfl)
    | (apply r_len0; rfl)
    | (apply r_p; rfl)
    | (apply r_nilK)
    | (apply r_nil)
    | (apply k_V; rfl)
    | (apply k_P; rfl)
    | (apply k_PL; rfl)
    | (apply k_S; rfl)
    | (apply k_SL; rfl)
    | (apply k_A; rfl)
    | (apply k_T; rfl)
    | (apply k_F; rfl)
    | (apply k_D; rfl; rotate_left; rfl)
    | (apply k_nil)
    | (apply e_ret (vs := [.d (.val _)]); rfl)
    | (apply e_ret; rfl)
    | (apply e_ret' (vs := [.d (.val _)]); rfl)
    | (apply e_ret'; rfl)
    | (apply w_seq)
    | (apply w_ops; ((conv => lhs; simp only [Nat.reduceAdd]) <;> rfl))
    | (apply w_condT; rfl)
    | (apply w_condF; rfl)
    | ((apply w_condS; rfl) <;> (intro h; try simp only [decide_eq_true_eq, decide_eq_false_iff_not, Bool.not_eq_true, Bool.not_eq_false] at h))
    | (apply e_thenN)
    | (apply w_block)
    | (apply e_thenR)
    | (apply e_thenX)
    | (apply e_blkN)
    | (apply e_blkR)
    | (apply e_blkE)
    | (apply w_exit)
    | (apply w_ret)
    | (apply w_skip)
    | (apply e_blkE'; rfl))
    · refine retB ?_
      have : L ≠ M := fun e => by subst e; exact absurd rfl h
      simp [this]
    · apply e_thenK
      apply hK (i + 1)
      · refine ⟨by omega, ?_⟩
        rw [List.take_succ_eq_append_getElem hlt, List.take_succ_eq_append_getElem hlt2, hi.2, show L[i] = M[i] by simpa using h]
      · omega
      · exact wk0 (by omega) (FWk.i rfl (by simp) (FWk.d rfl rfl (FWk.d rfl rfl FWk.nil)))
  · repeat' (first
    | (apply r_mvV; rfl)
    | (apply r_mvP; rfl)
    | (apply r_mvPL; rfl)
    | (apply r_mvS; rfl)
    | (apply r_mvSL; rfl)
    | (apply r_mvA; rfl)
    | (apply r_mvT; rfl)
    | (apply r_mvF; rfl)
    | (apply r_mvD; rfl)
    | (apply r_ldL; rfl; rfl; rfl)
    | (apply r_neq; rfl; rfl; (first | (apply decide_eq_true; omega) | (apply decide_eq_false; omega) | rfl))
    | (apply r_lss; rfl; rfl; (first | (apply decide_eq_true; omega) | (apply decide_eq_false; omega) | rfl))
    | (apply r_add; rfl; rfl; rfl; omega)
    | (apply r_lenD; rfl)
    | (apply r_lenL; rfl)
    | (apply r_len0; rfl)
    | (apply r_p; rfl)
    | (apply r_nilK)
    | (apply r_nil)
    | (apply k_V; rfl)
    | (apply k_P; rfl)
    | (apply k_PL; rfl)
    | (apply k_S; rfl)
    | (apply k_SL; rfl)
    | (apply k_A; rfl)
    | (apply k_T; rfl)
    | (apply k_F; rfl)
    | (apply k_D; rfl; rotate_left; rfl)
    | (apply k_nil)
    | (apply e_ret (vs := [.d (.val _)]); rfl)
    | (apply e_ret; rfl)
    | (apply e_ret' (vs := [.d (.val _)]); rfl)
    | (apply e_ret'; rfl)
    | (apply w_seq)
    | (apply w_ops; ((conv => lhs; simp only [Nat.reduceAdd]) <;> rfl))
    | (apply w_condT; rfl)
    | (apply w_condF; rfl)
    | ((apply w_condS; rfl) <;> (intro h; try simp only [decide_eq_true_eq, decide_eq_false_iff_not, Bool.not_eq_true, Bool.not_eq_false] at h))
    | (apply e_thenN)
    | (apply w_block)
    | (apply e_thenR)
    | (apply e_thenX)
    | (apply e_blkN)
    | (apply e_blkR)
    | (apply e_blkE)
    | (apply w_exit)
    | (apply w_ret)
    | (apply w_skip)
    | (apply e_blkE'; rfl))
    refine retB ?_
    have h1 := hi.2
    rw [List.take_of_length_le (by omega), List.take_of_length_le (by omega)] at h1
    simp [h1]
mutual
def sizeT : T → Int → Int
  | .node _ _ _ _ _ _ _ subs, most => sizeL subs most 1
def sizeL : List T → Int → Int → Int
  | [], _, k => k
  | t :: l, most, k => if k < most then sizeL l most (k + sizeT t (most - k)) else k
end
mutual
theorem sizeT_le : ∀ (t : T) (most : Int), 1 ≤ sizeT t most ∧ sizeT t most ≤ max 1 most
  | .node _ _ _ _ _ _ _ subs, most => by
    have := sizeL_le subs most 1
    simp only [sizeT]; omega
theorem sizeL_le : ∀ (l : List T) (most k : Int), k ≤ sizeL l most k ∧ sizeL l most k ≤ max k most
  | [], most, k => by simp only [sizeL]; omega
  | t :: l, most, k => by
    simp only [sizeL]
    split
    · have h1 := sizeT_le t (most - k)
      have h2 := sizeL_le l most (k + sizeT t (most - k))
      omega
    · omega
end
theorem sizeL_drop (l : List T) (most k : Int) (i : Nat) (h : i < l.length) : sizeL (l.drop i) most k = if k < most then sizeL (l.drop (i + 1)) most (k + sizeT l[i] (most - k)) else k := by
  rw [List.drop_eq_getElem_cons h, sizeL]
theorem nrm_TI (t : T) (m : Int) : [nodeA t, AV.i m].all AV.nrm = true := by
  have h2 : AV.nrm (AV.i m) = true := rfl
  simp only [List.all_cons, List.all_nil, nodeA_nrm, h2, Bool.and_self]
theorem size_good : ∀ (n : Nat) (t : T), t.cnt ≤ n → ∀ most : Int, most ≤ 601 → Good Try.prog 140 [nodeA t, .i most] none (.i (sizeT t most)) none none := by
  intro n
  induction n with
  | zero => intro t ht; have := cnt_pos t; omega
  | succ n ih =>
  intro t ht most hmost
  obtain ⟨k, a, b, c, d, mn, mx, subs⟩ := t
  have ih' : ∀ i (h : i < subs.length) (m : Int), m ≤ 601 → Good Try.prog 140 [nodeA subs[i], .i m] none (.i (sizeT subs[i] m)) none none := by
    intro i h m hm
    refine ih _ ?_ m hm
    have := cntL_get subs i h
    simp only [T.cnt] at ht
    omega
  have e0 : nodeA (.node k a b c d mn mx subs) = .agg [.i k, .d (.val (.int .u64 a)), .d (.val (.int .u64 b)), .d (.val (.int .u64 c)), .d (.val (.int .u64 d)), .i mn, .i mx, .d (.sl (encL subs) subs.length)] := rfl
  rw [e0]
  refine b140 (by simp) (by simp) (w_init ?_)
  unfold x140
  repeat' (first
    | (apply r_mvV; rfl)
    | (apply r_mvP; rfl)
    | (apply r_mvPL; rfl)
    | (apply r_mvS; rfl)
    | (apply r_mvSL; rfl)
    | (apply r_mvA; rfl)
    | (apply r_mvT; rfl)
    | (apply r_mvF; rfl)
    | (apply r_mvD; rfl)
    | (apply r_faddD; rfl)
    | (apply r_faddL; rfl)
    | (apply r_l; apply ld_kind; assumption; rfl)
    | (apply r_l; apply ld_mn; assumption; rfl)
    | (apply r_l; apply ld_mx; assumption; rfl)
    | (apply r_l; apply ld_subs; assumption; rfl)
    | (apply r_l; apply ld_set; assumption; rfl)
    | (apply r_l; apply ld_node; assumption; rfl)
    | (apply r_l; apply ld_kind'; assumption; rfl)
    | (apply r_l; apply ld_mn'; assumption; rfl)
    | (apply r_l; apply ld_mx'; assumption; rfl)
    | (apply r_l; apply ld_subs'; assumption; rfl)
    | (apply r_l; apply ld_node'; assumption; rfl)
    | (apply r_ldL; rfl; rfl; rfl)
    | (apply r_lss; rfl; rfl; (first | (apply decide_eq_true; omega) | (apply decide_eq_false; omega) | rfl))
    | (apply r_add; rfl; rfl; rfl; omega)
    | (apply r_sub; rfl; rfl; rfl; omega)
    | (apply r_pickT; rfl)
    | (apply r_pickF; rfl)
    | (apply r_lenD; rfl)
    | (apply r_lenL; rfl)
    | (apply r_len0; rfl)
    | (apply r_gT; rfl)
    | (apply r_gF'; rfl; rfl)
    | (apply r_gN'; rfl)
    | ((apply r_gS (o := default); rfl) <;> (intro h; try simp only [decide_eq_true_eq, decide_eq_false_iff_not, Bool.not_eq_true, Bool.not_eq_false] at h))
    | (apply r_box; ((conv => lhs; simp only [Nat.reduceAdd]) <;> rfl); rfl; rfl; rfl)
    | (apply r_p; rfl)
    | (apply r_nilK)
    | (apply r_nil)
    | (apply k_V; rfl)
    | (apply k_P; rfl)
    | (apply k_PL; rfl)
    | (apply k_S; rfl)
    | (apply k_SL; rfl)
    | (apply k_A; rfl)
    | (apply k_T; rfl)
    | (apply k_F; rfl)
    | (apply k_D; rfl; rotate_left; rfl)
    | (apply k_nil)
    | (apply e_ret (vs := [.d (.val _)]); rfl)
    | (apply e_ret; rfl)
    | (apply e_ret' (vs := [.d (.val _)]); rfl)
    | (apply e_ret'; rfl)
    | (apply w_seq)
    | (apply w_ops; ((conv => lhs; simp only [Nat.reduceAdd]) <;> rfl))
    | (apply w_condT; rfl)
    | (apply w_condF; rfl)
    | ((apply w_condS; rfl) <;> (intro h; try simp only [decide_eq_true_eq, decide_eq_false_iff_not, Bool.not_eq_true, Bool.not_eq_false] at h))
    | (apply e_thenN)
    | (apply w_block)
    | (apply e_thenR)
    | (apply e_thenX)
    | (apply e_blkN)
    | (apply e_blkR)
    | (apply e_blkE)
    | (apply w_exit)
    | (apply w_ret)
    | (apply w_skip)
    | (apply e_blkE'; rfl))
  apply w_loopI (ι := Nat × Int) (S := fun p => ⟨(((Fr.nil.put 1 (.i most)).put 2 (.ptrL 1 0)).put 5 (.i p.2)).put 6 (.i p.1), Heap.nil.put 1 [.i k, .d (.val (.int .u64 a)), .d (.val (.int .u64 b)), .d (.val (.int .u64 c)), .d (.val (.int .u64 d)), .i mn, .i mx, .d (.sl (encL subs) subs.length)], Frz.but 100 1, 100⟩) (m := fun p => subs.length - p.1)
    (I := fun p => p.1 ≤ subs.length ∧ (p.1 : Int) + 1 ≤ p.2 ∧ p.2 ≤ max 1 most ∧ sizeT (.node k a b c d mn mx subs) most = sizeL (subs.drop p.1) most p.2) (i0 := (0, 1))
  · refine ⟨Nat.zero_le _, by simp, by dsimp only; omega, ?_⟩
    simp [sizeT]
  · exact wk1D (by omega) (by omega) rfl rfl rfl (FWk.i rfl rfl (FWk.i rfl rfl (FWk.ptr rfl rfl rfl (by omega) rfl (FWk.i rfl rfl FWk.nil))))
  rintro ⟨i, q⟩ K hi hK
  dsimp only at hi hK ⊢
  rcases Nat.lt_or_ge i subs.length with hlt | hge
  · have hs := NodeAt.sub hlt
    have hd := sizeL_drop subs most q i hlt
    have hb := sizeT_le subs[i] (most - q)
    by_cases hq : q < most
    · rw [if_pos hq] at hd
      repeat' (first
    | (apply r_mvV; rfl)
    | (apply r_mvP; rfl)
    | (apply r_mvPL; rfl)
    | (apply r_mvS; rfl)
    | (apply r_mvSL; rfl)
    | (apply r_mvA; rfl)
    | (apply r_mvT; rfl)
    | (apply r_mvF; rfl)
    | (apply r_mvD; rfl)
    | (apply r_faddD; rfl)
    | (apply r_faddL; rfl)
    | (apply r_l; apply ld_kind; assumption; rfl)
    | (apply r_l; apply ld_mn; assumption; rfl)
    | (apply r_l; apply ld_mx; assumption; rfl)
    | (apply r_l; apply ld_subs; assumption; rfl)
    | (apply r_l; apply ld_set; assumption; rfl)
    | (apply r_l; apply ld_node; assumption; rfl)
    | (apply r_l; apply ld_kind'; assumption; rfl)
    | (apply r_l; apply ld_mn'; assumption; rfl)
    | (apply r_l; apply ld_mx'; assumption; rfl)
    | (apply r_l; apply ld_subs'; assumption; rfl)
    | (apply r_l; apply ld_node'; assumption; rfl)
    | (apply r_p; apply ix_sub; rfl; rfl; omega)
    | (apply r_callA (ags := [nodeA subs[i], .i (most - q)]); rfl; apply nrm_TI; apply ih' i hlt; omega)
    | (apply r_ldL; rfl; rfl; rfl)
    | (apply r_lss; rfl; rfl; (first | (apply decide_eq_true; omega) | (apply decide_eq_false; omega) | rfl))
    | (apply r_add; rfl; rfl; rfl; omega)
    | (apply r_sub; rfl; rfl; rfl; omega)
    | (apply r_pickT; rfl)
    | (apply r_pickF; rfl)
    | (apply r_lenD; rfl)
    | (apply r_lenL; rfl)
    | (apply r_len0; rfl)
    | (apply r_gT; rfl)
    | (apply r_gF'; rfl; rfl)
    | (apply r_gN'; rfl)
    | ((apply r_gS (o := default); rfl) <;> (intro h; try simp only [decide_eq_true_eq, decide_eq_false_iff_not, Bool.not_eq_true, Bool.not_eq_false] at h))
    | (apply r_box; ((conv => lhs; simp only [Nat.reduceAdd]) <;> rfl); rfl; rfl; rfl)
    | (apply r_p; rfl)
    | (apply r_nilK)
    | (apply r_nil)
    | (apply k_V; rfl)
    | (apply k_P; rfl)
    | (apply k_PL; rfl)
    | (apply k_S; rfl)
    | (apply k_SL; rfl)
    | (apply k_A; rfl)
    | (apply k_T; rfl)
    | (apply k_F; rfl)
    | (apply k_D; rfl; rotate_left; rfl)
    | (apply k_nil)
    | (apply e_ret (vs := [.d (.val _)]); rfl)
    | (apply e_ret; rfl)
    | (apply e_ret' (vs := [.d (.val _)]); rfl)
    | (apply e_ret'; rfl)
    | (apply w_seq)
    | (apply w_ops; ((conv => lhs; simp only [Nat.reduceAdd]) <;> rfl))
    | (apply w_condT; rfl)
    | (apply w_condF; rfl)
    | ((apply w_condS; rfl) <;> (intro h; try simp only [decide_eq_true_eq, decide_eq_false_iff_not, Bool.not_eq_true, Bool.not_eq_false] at h))
    | (apply e_thenN)
    | (apply w_block)
    | (apply e_thenR)
    | (apply e_thenX)
    | (apply e_blkN)
    | (apply e_blkR)
    | (apply e_blkE)
    | (apply w_exit)
    | (apply w_ret)
    | (apply w_skip)
    | (apply e_blkE'; rfl))
      apply e_thenK
      apply hK (i + 1, q + sizeT subs[i] (most - q))
      · refine ⟨by omega, by dsimp only; omega, by dsimp only; omega, ?_⟩
        rw [hi.2.2.2, hd]
      · dsimp only; omega
      · exact wk1D (by omega) (by omega) rfl rfl rfl (FWk.i rfl (by simp) (FWk.i rfl rfl (FWk.ptr rfl rfl rfl (by omega) rfl (FWk.i rfl rfl FWk.nil))))
    · rw [if_neg hq] at hd
      repeat' (first
    | (apply r_mvV; rfl)
    | (apply r_mvP; rfl)
    | (apply r_mvPL; rfl)
    | (apply r_mvS; rfl)
    | (apply r_mvSL; rfl)
    | (apply r_mvA; rfl)
    | (apply r_mvT; rfl)
    | (apply r_mvF; rfl)
    | (apply r_mvD; rfl)
    | (apply r_faddD; rfl)
    | (apply r_faddL; rfl)
    | (apply r_l; apply ld_kind; assumption; rfl)
    | (apply r_l; apply ld_mn; assumption; rfl)
    | (apply r_l; apply ld_mx; assumption; rfl)
    | (apply r_l; apply ld_subs; assumption; rfl)
    | (apply r_l; apply ld_set; assumption; rfl)
    | (apply r_l; apply ld_node; assumption; rfl)
    | (apply r_l; apply ld_kind'; assumption; rfl)
    | (apply r_l; apply ld_mn'; assumption; rfl)
    | (apply r_l; apply ld_mx'; assumption; rfl)
    | (apply r_l; apply ld_subs'; assumption; rfl)
    | (apply r_l; apply ld_node'; assumption; rfl)
    | (apply r_ldL; rfl; rfl; rfl)
    | (apply r_lss; rfl; rfl; (first | (apply decide_eq_true; omega) | (apply decide_eq_false; omega) | rfl))
    | (apply r_add; rfl; rfl; rfl; omega)
    | (apply r_sub; rfl; rfl; rfl; omega)
    | (apply r_pickT; rfl)
    | (apply r_pickF; rfl)
    | (apply r_lenD; rfl)
    | (apply r_lenL; rfl)
    | (apply r_len0; rfl)
    | (apply r_gT; rfl)
    | (apply r_gF'; rfl; rfl)
    | (apply r_gN'; rfl)
    | ((apply r_gS (o := default); rfl) <;> (intro h; try simp only [decide_eq_true_eq, decide_eq_false_iff_not, Bool.not_eq_true, Bool.not_eq_false] at h))
    | (apply r_box; ((conv => lhs; simp only [Nat.reduceAdd]) <;> rfl); rfl; rfl; rfl)
    | (apply r_p; rfl)
    | (apply r_nilK)
    | (apply r_nil)
    | (apply k_V; rfl)
    | (apply k_P; rfl)
    | (apply k_PL; rfl)
    | (apply k_S; rfl)
    | (apply k_SL; rfl)
    | (apply k_A; rfl)
    | (apply k_T; rfl)
    | (apply k_F; rfl)
    | (apply k_D; rfl; rotate_left; rfl)
    | (apply k_nil)
    | (apply e_ret (vs := [.d (.val _)]); rfl)
    | (apply e_ret; rfl)
    | (apply e_ret' (vs := [.d (.val _)]); rfl)
    | (apply e_ret'; rfl)
    | (apply w_seq)
    | (apply w_ops; ((conv => lhs; simp only [Nat.reduceAdd]) <;> rfl))
    | (apply w_condT; rfl)
    | (apply w_condF; rfl)
    | ((apply w_condS; rfl) <;> (intro h; try simp only [decide_eq_true_eq, decide_eq_false_iff_not, Bool.not_eq_true, Bool.not_eq_false] at h))
    | (apply e_thenN)
    | (apply w_block)
    | (apply e_thenR)
    | (apply e_thenX)
    | (apply e_blkN)
    | (apply e_blkR)
    | (apply e_blkE)
    | (apply w_exit)
    | (apply w_ret)
    | (apply w_skip)
    | (apply e_blkE'; rfl))
      refine retI ?_
      rw [hi.2.2.2, hd]
  · repeat' (first
    | (apply r_mvV; rfl)
    | (apply r_mvP; rfl)
    | (apply r_mvPL; rfl)
    | (apply r_mvS; rfl)
    | (apply r_mvSL; rfl)
    | (apply r_mvA; rfl)
    | (apply r_mvT; rfl)
    | (apply r_mvF; rfl)
    | (apply r_mvD; rfl)
    | (apply r_faddD; rfl)
    | (apply r_faddL; rfl)
    | (apply r_l; apply ld_kind; assumption; rfl)
    | (apply r_l; apply ld_mn; assumption; rfl)
    | (apply r_l; apply ld_mx; assumption; rfl)
    | (apply r_l; apply ld_subs; assumption; rfl)
    | (apply r_l; apply ld_set; assumption; rfl)
    | (apply r_l; apply ld_node; assumption; rfl)
    | (apply r_l; apply ld_kind'; assumption; rfl)
    | (apply r_l; apply ld_mn'; assumption; rfl)
    | (apply r_l; apply ld_mx'; assumption; rfl)
    | (apply r_l; apply ld_subs'; assumption; rfl)
    | (apply r_l; apply ld_node'; assumption; rfl)
    | (apply r_ldL; rfl; rfl; rfl)
    | (apply r_lss; rfl; rfl; (first | (apply decide_eq_true; omega) | (apply decide_eq_false; omega) | rfl))
    | (apply r_add; rfl; rfl; rfl; omega)
    | (apply r_sub; rfl; rfl; rfl; omega)
    | (apply r_pickT; rfl)
    | (apply r_pickF; rfl)
    | (apply r_lenD; rfl)
    | (apply r_lenL; rfl)
    | (apply r_len0; rfl)
    | (apply r_gT; rfl)
    | (apply r_gF'; rfl; rfl)
    | (apply r_gN'; rfl)
    | ((apply r_gS (o := default); rfl) <;> (intro h; try simp only [decide_eq_true_eq, decide_eq_false_iff_not, Bool.not_eq_true, Bool.not_eq_false] at h))
    | (apply r_box; ((conv => lhs; simp only [Nat.reduceAdd]) <;> rfl); rfl; rfl; rfl)
    | (apply r_p; rfl)
    | (apply r_nilK)
    | (apply r_nil)
    | (apply k_V; rfl)
    | (apply k_P; rfl)
    | (apply k_PL; rfl)
    | (apply k_S; rfl)
    | (apply k_SL; rfl)
    | (apply k_A; rfl)
    | (apply k_T; rfl)
    | (apply k_F; rfl)
    | (apply k_D; rfl; rotate_left; rfl)
    | (apply k_nil)
    | (apply e_ret (vs := [.d (.val _)]); rfl)
    | (apply e_ret; rfl)
    | (apply e_ret' (vs := [.d (.val _)]); rfl)
    | (apply e_ret'; rfl)
    | (apply w_seq)
    | (apply w_ops; ((conv => lhs; simp only [Nat.reduceAdd]) <;> rfl))
    | (apply w_condT; rfl)
    | (apply w_condF; rfl)
    | ((apply w_condS; rfl) <;> (intro h; try simp only [decide_eq_true_eq, decide_eq_false_iff_not, Bool.not_eq_true, Bool.not_eq_false] at h))
    | (apply e_thenN)
    | (apply w_block)
    | (apply e_thenR)
    | (apply e_thenX)
    | (apply e_blkN)
    | (apply e_blkR)
    | (apply e_blkE)
    | (apply w_exit)
    | (apply w_ret)
    | (apply w_skip)
    | (apply e_blkE'; rfl))
    refine retI ?_
    rw [hi.2.2.2, List.drop_of_length_le (by omega), sizeL]
theorem size96_good (t : T) : Good Try.prog 96 [nodeA t] none (.i (sizeT t 601)) none none := by
  have := size_good _ t (Nat.le_refl _) 601 (by omega)
  obtain ⟨k, a, b, c, d, mn, mx, subs⟩ := t
  have e0 : nodeA (.node k a b c d mn mx subs) = .agg [.i k, .d (.val (.int .u64 a)), .d (.val (.int .u64 b)), .d (.val (.int .u64 c)), .d (.val (.int .u64 d)), .i mn, .i mx, .d (.sl (encL subs) subs.length)] := rfl
  rw [e0] at this ⊢
  refine b96 (by simp) (by simp) (w_init ?_)
  unfold x96
  repeat' (first
    | (apply r_mvV; rfl)
    | (apply r_mvP; rfl)
    | (apply r_mvPL; rfl)
    | (apply r_mvS; rfl)
    | (apply r_mvSL; rfl)
    | (apply r_mvA; rfl)
    | (apply r_mvT; rfl)
    | (apply r_mvF; rfl)
    | (apply r_mvD; rfl)
    | (apply r_l; apply ld_kind; assumption; rfl)
    | (apply r_l; apply ld_mn; assumption; rfl)
    | (apply r_l; apply ld_mx; assumption; rfl)
    | (apply r_l; apply ld_subs; assumption; rfl)
    | (apply r_l; apply ld_set; assumption; rfl)
    | (apply r_l; apply ld_node; assumption; rfl)
    | (apply r_l; apply ld_kind'; assumption; rfl)
    | (apply r_l; apply ld_mn'; assumption; rfl)
    | (apply r_l; apply ld_mx'; assumption; rfl)
    | (apply r_l; apply ld_subs'; assumption; rfl)
    | (apply r_l; apply ld_node'; assumption; rfl)
    | (apply r_callA; rfl; rfl; exact this)
    | (apply r_ldL; rfl; rfl; rfl)
    | (apply r_box; ((conv => lhs; simp only [Nat.reduceAdd]) <;> rfl); rfl; rfl; rfl)
    | (apply r_nilK)
    | (apply r_nil)
    | (apply k_V; rfl)
    | (apply k_P; rfl)
    | (apply k_PL; rfl)
    | (apply k_S; rfl)
    | (apply k_SL; rfl)
    | (apply k_A; rfl)
    | (apply k_T; rfl)
    | (apply k_F; rfl)
    | (apply k_D; rfl; rotate_left; rfl)
    | (apply k_nil)
    | (apply e_ret (vs := [.d (.val _)]); rfl)
    | (apply e_ret; rfl)
    | (apply e_ret' (vs := [.d (.val _)]); rfl)
    | (apply e_ret'; rfl)
    | (apply w_seq)
    | (apply w_ops; ((conv => lhs; simp only [Nat.reduceAdd]) <;> rfl))
    | (apply e_thenN)
    | (apply w_block)
    | (apply e_thenR)
    | (apply e_thenX)
    | (apply e_blkN)
    | (apply e_blkR)
    | (apply e_blkE)
    | (apply w_exit)
    | (apply w_ret)
    | (apply w_skip)
    | (apply e_blkE'; rfl))
  exact retI rfl
theorem few_good (t : T) : Good Try.prog 45 [nodeA t] none (.b (decide (sizeT t 601 ≤ 200))) none none := by
  have := size96_good t
  obtain ⟨k, a, b, c, d, mn, mx, subs⟩ := t
  have e0 : nodeA (.node k a b c d mn mx subs) = .agg [.i k, .d (.val (.int .u64 a)), .d (.val (.int .u64 b)), .d (.val (.int .u64 c)), .d (.val (.int .u64 d)), .i mn, .i mx, .d (.sl (encL subs) subs.length)] := rfl
  rw [e0] at this ⊢
  refine b45 (by simp) (by simp) (w_init ?_)
  unfold x45
  repeat' (first
    | (apply r_mvV; rfl)
    | (apply r_mvP; rfl)
    | (apply r_mvPL; rfl)
    | (apply r_mvS; rfl)
    | (apply r_mvSL; rfl)
    | (apply r_mvA; rfl)
    | (apply r_mvT; rfl)
    | (apply r_mvF; rfl)
    | (apply r_mvD; rfl)
    | (apply r_l; apply ld_kind; assumption; rfl)
    | (apply r_l; apply ld_mn; assumption; rfl)
    | (apply r_l; apply ld_mx; assumption; rfl)
    | (apply r_l; apply ld_subs; assumption; rfl)
    | (apply r_l; apply ld_set; assumption; rfl)
    | (apply r_l; apply ld_node; assumption; rfl)
    | (apply r_l; apply ld_kind'; assumption; rfl)
    | (apply r_l; apply ld_mn'; assumption; rfl)
    | (apply r_l; apply ld_mx'; assumption; rfl)
    | (apply r_l; apply ld_subs'; assumption; rfl)
    | (apply r_l; apply ld_node'; assumption; rfl)
    | (apply r_callA; rfl; rfl; exact this)
    | (apply r_ldL; rfl; rfl; rfl)
    | (apply r_leq; rfl; rfl; (first | (apply decide_eq_true; omega) | (apply decide_eq_false; omega) | rfl))
    | (apply r_box; ((conv => lhs; simp only [Nat.reduceAdd]) <;> rfl); rfl; rfl; rfl)
    | (apply r_nilK)
    | (apply r_nil)
    | (apply k_V; rfl)
    | (apply k_P; rfl)
    | (apply k_PL; rfl)
    | (apply k_S; rfl)
    | (apply k_SL; rfl)
    | (apply k_A; rfl)
    | (apply k_T; rfl)
    | (apply k_F; rfl)
    | (apply k_D; rfl; rotate_left; rfl)
    | (apply k_nil)
    | (apply e_ret (vs := [.d (.val _)]); rfl)
    | (apply e_ret; rfl)
    | (apply e_ret' (vs := [.d (.val _)]); rfl)
    | (apply e_ret'; rfl)
    | (apply w_seq)
    | (apply w_ops; ((conv => lhs; simp only [Nat.reduceAdd]) <;> rfl))
    | (apply e_thenN)
    | (apply w_block)
    | (apply e_thenR)
    | (apply e_thenX)
    | (apply e_blkN)
    | (apply e_blkR)
    | (apply e_blkE)
    | (apply w_exit)
    | (apply w_ret)
    | (apply w_skip)
    | (apply e_blkE'; rfl))
  all_goals (refine retB ?_; first | rfl | (simp; omega))
mutual
theorem sizeT_cnt : ∀ (t : T) (most : Int), sizeT t most < most → sizeT t most = t.cnt
  | .node _ _ _ _ _ _ _ subs, most, h => by
    simp only [sizeT] at h ⊢
    rw [sizeL_cnt subs most 1 h, T.cnt]; omega
theorem sizeL_cnt : ∀ (l : List T) (most k : Int), sizeL l most k < most → sizeL l most k = k + cntL l
  | [], most, k, h => by simp [sizeL, cntL]
  | t :: l, most, k, h => by
    simp only [sizeL] at h ⊢
    split at h
    · rename_i hk
      rw [if_pos hk]
      have h2 := sizeL_le l most (k + sizeT t (most - k))
      rw [sizeL_cnt l most _ h, sizeT_cnt t (most - k) (by omega), cntL]
      omega
    · omega
end
end Go.Sv
namespace Go.Sv
open Go Go.Proofs
def x38 : XC := (.seq (.ops 2 [
    (0, ⟨(some 1), none, .box (.t 0)⟩),
    (1, ⟨(some 2), none, .mv (.k (.d (.val (.int .i64 0))))⟩)] (some [1])) (.seq (.ops 1 [
    (0, ⟨(some 3), none, .mv (.k (.d (.val (.int .i64 1))))⟩)] (some [1, 3])) (.seq (.seq (.ops 1 [
    (0, ⟨(some 4), none, .mv (.k (.d (.val (.int .i64 0))))⟩)] (some [1, 3, 4])) (.block 0 (.loop (.seq (.seq (.ops 5 [
    (0, ⟨(some 6), none, .mv (.t 4)⟩),
    (1, ⟨(some 7), none, .fadd 7 (.t 1)⟩),
    (2, ⟨(some 8), none, .load none (.t 7)⟩),
    (3, ⟨(some 9), none, .lenS (.t 8)⟩),
    (4, ⟨(some 10), none, .arith .lss (.t 6) (.t 9)⟩)] (some [1, 3, 4, 10])) (.cond (.t 10) .skip (.exit 0))) (.seq (.block 1 (.seq (.ops 7 [
    (0, ⟨(some 13), none, .fadd 7 (.t 1)⟩),
    (1, ⟨(some 14), none, .load none (.t 13)⟩),
    (2, ⟨(some 15), none, .mv (.t 4)⟩),
    (3, ⟨(some 16), none, .idxS 8 (.t 14) (.t 15)⟩),
    (4, ⟨(some 17), none, .load (some 8) (.t 16)⟩),
    (5, ⟨(some 18), none, .call 38 [(.t 17)] none false⟩),
    (6, ⟨(some 5), none, .mv (.t 18)⟩)] (some [1, 3, 4, 5])) (.seq (.seq (.ops 8 [
    (0, ⟨(some 19), none, .fadd 0 (.t 1)⟩),
    (1, ⟨(some 20), none, .load none (.t 19)⟩),
    (2, ⟨(some 21), none, .arith .eql (.t 20) (.k (.d (.val (.int .i64 5))))⟩),
    (3, ⟨(some 22), none, .mv (.t 21)⟩),
    (4, ⟨(some 23), (some (22, true)), .fadd 6 (.t 1)⟩),
    (5, ⟨(some 24), (some (22, true)), .load none (.t 23)⟩),
    (6, ⟨(some 25), (some (22, true)), .arith .eql (.t 24) (.k (.d (.val (.int .i64 (-1)))))⟩),
    (7, ⟨(some 26), none, .pick (.t 22) (.t 25) (.k (.d (.val (.bool false))))⟩)] (some [1, 3, 4, 5, 26])) (.cond (.t 26) (.ops 7 [
    (0, ⟨(some 27), none, .mv (.t 5)⟩),
    (1, ⟨(some 28), none, .fadd 5 (.t 1)⟩),
    (2, ⟨(some 29), none, .load none (.t 28)⟩),
    (3, ⟨(some 30), none, .arith .add (.t 29) (.k (.d (.val (.int .i64 1))))⟩),
    (4, ⟨(some 31), none, .arith .mul (.t 27) (.t 30)⟩),
    (5, ⟨(some 32), none, .arith .add (.t 31) (.k (.d (.val (.int .i64 1))))⟩),
    (6, ⟨(some 5), none, .mv (.t 32)⟩)] (some [1, 3, 4, 5])) (.seq (.ops 3 [
    (0, ⟨(some 33), none, .fadd 0 (.t 1)⟩),
    (1, ⟨(some 34), none, .load none (.t 33)⟩),
    (2, ⟨(some 35), none, .arith .eql (.t 34) (.k (.d (.val (.int .i64 5))))⟩)] (some [1, 3, 4, 5, 35])) (.cond (.t 35) (.ops 6 [
    (0, ⟨(some 36), none, .mv (.t 5)⟩),
    (1, ⟨(some 37), none, .arith .add (.t 36) (.k (.d (.val (.int .i64 2))))⟩),
    (2, ⟨(some 38), none, .fadd 6 (.t 1)⟩),
    (3, ⟨(some 39), none, .load none (.t 38)⟩),
    (4, ⟨(some 40), none, .arith .mul (.t 37) (.t 39)⟩),
    (5, ⟨(some 5), none, .mv (.t 40)⟩)] (some [1, 3, 4, 5])) .skip)))) (.ops 5 [
    (0, ⟨(some 41), none, .mv (.t 3)⟩),
    (1, ⟨(some 42), none, .mv (.t 5)⟩),
    (2, ⟨(some 43), none, .arith .add (.t 41) (.t 42)⟩),
    (3, ⟨(some 44), none, .min [(.t 43), (.k (.d (.val (.int .i64 1073741824))))]⟩),
    (4, ⟨(some 3), none, .mv (.t 44)⟩)] (some [1, 3, 4]))))) (.ops 3 [
    (0, ⟨(some 11), none, .mv (.t 4)⟩),
    (1, ⟨(some 12), none, .arith .add (.t 11) (.k (.d (.val (.int .i64 1))))⟩),
    (2, ⟨(some 4), none, .mv (.t 12)⟩)] (some [1, 3, 4]))))))) (.seq (.ops 2 [
    (0, ⟨(some 45), none, .mv (.t 3)⟩),
    (1, ⟨(some 2), none, .mv (.t 45)⟩)] (some [2])) .ret))))
def md38 : FuncId → Option Nat × Bool
  | _ => (none, false)
def od38 : Nat → List (List Nat) × List Nat × Option (List Nat)
  | 0 => ([], [], some [1])
  | 1 => ([], [], some [1, 3])
  | 2 => ([], [], some [1, 3, 4])
  | 3 => ([], [], some [1, 3, 4, 10])
  | 4 => ([], [], some [1, 3, 4])
  | 5 => ([], [], some [1, 3, 4, 5])
  | 6 => ([], [], some [1, 3, 4, 5, 26])
  | 7 => ([], [], some [1, 3, 4, 5])
  | 8 => ([], [], some [1, 3, 4, 5, 35])
  | 9 => ([], [], some [1, 3, 4, 5])
  | 10 => ([], [], some [1, 3, 4])
  | 11 => ([], [], some [2])
  | _ => ([], [], none)
theorem b38 {ags : List AV} {row : Option (List DV)} {r : AV} {row' nw : Option (List DV)} (hal : ags.length ≤ 46) (hrow : row'.isSome = true → row.isSome = true) (h : xwp Try.prog x38 (retK [.tmp 2] row.isSome r row' nw) (St.init ags row)) : Good Try.prog 38 ags row r row' nw :=
  good_of_body' (md := md38) (od := od38) Try.f38 (by kernel_rfl) (by kernel_rfl) (by kernel_rfl) (by kernel_rfl) (by kernel_rfl) hal hrow h

section
variable {P : Program} {Q : Cont} {fr : Fr} {C : Heap} {Z : Frz} {nx : Nat} {base n d : Nat} {l : List (Nat × XO)} {kp : Option (List Nat)} {x i y s : X}
theorem r_mul {a b c : Int} (hx : x.ev fr = .i a) (hy : y.ev fr = .i b) (hc : a * b = c) (hr : -9223372036854775808 ≤ c ∧ c < 9223372036854775808) (k : R P l base kp Q nx (fr.put d (.i c)) C Z) : R P ((n, ⟨some d, none, .arith .mul x y⟩) :: l) base kp Q nx fr C Z :=
  s_p (by simp [xp, hx, hy, arith, hc, wrap_in hr]) k
theorem mul_in {a b u v : Int} (ha : 0 ≤ a ∧ a ≤ u) (hb : 0 ≤ b ∧ b ≤ v) : 0 ≤ a * b ∧ a * b ≤ u * v :=
  ⟨Int.mul_nonneg ha.1 hb.1, Int.mul_le_mul ha.2 hb.2 hb.1 (Int.le_trans ha.1 ha.2)⟩
end
set_option maxRecDepth 100000
set_option maxHeartbeats 4000000
attribute [local irreducible] W E R KP thenK blockK retK Good xwp aRun
def wideQ (k mn mx q : Int) : Int := if k = 5 then (if mx = -1 then q * (mn + 1) + 1 else (q + 2) * mx) else q
mutual
def wideT : T → Int
  | .node k _ _ _ _ mn mx subs => wideL k mn mx subs 1
def wideL (k mn mx : Int) : List T → Int → Int
  | [], w => w
  | t :: l, w => wideL k mn mx l (min (w + wideQ k mn mx (wideT t)) 1073741824)
end
theorem wideL_drop (k mn mx : Int) (l : List T) (w : Int) (i : Nat) (h : i < l.length) : wideL k mn mx (l.drop i) w = wideL k mn mx (l.drop (i + 1)) (min (w + wideQ k mn mx (wideT l[i])) 1073741824) := by
  rw [List.drop_eq_getElem_cons h, wideL]
def okR (k mn mx : Int) : Prop := k = 5 → (0 ≤ mn ∧ mn ≤ 20) ∧ (mx = -1 ∨ (mn ≤ mx ∧ mx ≤ 20))
theorem okT_R {k a b c d mn mx : Int} {subs : List T} (h : okT (.node k a b c d mn mx subs)) : okR k mn mx := by
  intro hk
  simp only [okT, okN] at h
  have hpl := h.1.2.2.2.2
  simp [plainT, hk] at hpl
  omega
theorem wideQ_in {k mn mx q : Int} (h : okR k mn mx) (hq : 0 ≤ q ∧ q ≤ 1073741824) : 0 ≤ wideQ k mn mx q ∧ wideQ k mn mx q ≤ 30000000000 := by
  unfold wideQ
  split
  · rename_i hk
    have := h hk
    split
    · have := mul_in hq (show 0 ≤ mn + 1 ∧ mn + 1 ≤ 21 by omega)
      omega
    · have := mul_in (show 0 ≤ q + 2 ∧ q + 2 ≤ 1073741826 by omega) (show 0 ≤ mx ∧ mx ≤ 20 by omega)
      omega
  · omega
mutual
theorem wideT_in : ∀ t : T, okT t → 1 ≤ wideT t ∧ wideT t ≤ 1073741824
  | .node k a b c d mn mx subs, h => by
    have h1 := okT_R h
    simp only [okT] at h
    have := wideL_in k mn mx h1 subs 1 h.2 (by omega)
    simp only [wideT]; omega
theorem wideL_in (k mn mx : Int) (hr : okR k mn mx) : ∀ (l : List T) (w : Int), okL l → (1 ≤ w ∧ w ≤ 1073741824) → w ≤ wideL k mn mx l w ∧ wideL k mn mx l w ≤ 1073741824
  | [], w, _, h => by simp only [wideL]; omega
  | t :: l, w, h, hw => by
    simp only [okL] at h
    have h1 := wideT_in t h.1
    have h2 := wideQ_in hr (q := wideT t) (by omega)
    have h3 := wideL_in k mn mx hr l (min (w + wideQ k mn mx (wideT t)) 1073741824) h.2 (by omega)
    simp only [wideL]; omega
end
theorem wide_good : ∀ (n : Nat) (t : T), t.cnt ≤ n → n ≤ 1000000 → okT t → Good Try.prog 38 [nodeA t] none (.i (wideT t)) none none := by
  intro n
  induction n with
  | zero => intro t ht; have := cnt_pos t; omega
  | succ n ih =>
  intro t ht hc hok
  obtain ⟨k, a, b, c, d, mn, mx, subs⟩ := t
  have hR := okT_R hok
  have hoks : okL subs := by simp only [okT] at hok; exact hok.2
  have ih' : ∀ i (h : i < subs.length), Good Try.prog 38 [nodeA subs[i]] none (.i (wideT subs[i])) none none := by
    intro i h
    refine ih _ ?_ (by omega) (okL_get subs i h hoks)
    have := cntL_get subs i h
    simp only [T.cnt] at ht
    omega
  have hlen : subs.length ≤ 1000000 := by
    have := cntL_len subs
    simp only [T.cnt] at ht
    omega
  have e0 : nodeA (.node k a b c d mn mx subs) = .agg [.i k, .d (.val (.int .u64 a)), .d (.val (.int .u64 b)), .d (.val (.int .u64 c)), .d (.val (.int .u64 d)), .i mn, .i mx, .d (.sl (encL subs) subs.length)] := rfl
  rw [e0]
  refine b38 (by simp) (by simp) (w_init ?_)
  unfold x38
  repeat' (first
    | (apply r_mvV; rfl)
    | (apply r_mvP; rfl)
    | (apply r_mvPL; rfl)
    | (apply r_mvS; rfl)
    | (apply r_mvSL; rfl)
    | (apply r_mvA; rfl)
    | (apply r_mvT; rfl)
    | (apply r_mvF; rfl)
    | (apply r_mvD; rfl)
    | (apply r_faddD; rfl)
    | (apply r_faddL; rfl)
    | (apply r_l; apply ld_kind; assumption; rfl)
    | (apply r_l; apply ld_mn; assumption; rfl)
    | (apply r_l; apply ld_mx; assumption; rfl)
    | (apply r_l; apply ld_subs; assumption; rfl)
    | (apply r_l; apply ld_set; assumption; rfl)
    | (apply r_l; apply ld_node; assumption; rfl)
    | (apply r_l; apply ld_kind'; assumption; rfl)
    | (apply r_l; apply ld_mn'; assumption; rfl)
    | (apply r_l; apply ld_mx'; assumption; rfl)
    | (apply r_l; apply ld_subs'; assumption; rfl)
    | (apply r_l; apply ld_node'; assumption; rfl)
    | (apply r_ldL; rfl; rfl; rfl)
    | (apply r_eql; rfl; rfl; (first | (apply decide_eq_true; omega) | (apply decide_eq_false; omega) | rfl))
    | (apply r_lss; rfl; rfl; (first | (apply decide_eq_true; omega) | (apply decide_eq_false; omega) | rfl))
    | (apply r_add; rfl; rfl; rfl; omega)
    | (apply r_min2; rfl; rfl; rfl)
    | (apply r_pickT; rfl)
    | (apply r_pickF; rfl)
    | (apply r_lenD; rfl)
    | (apply r_lenL; rfl)
    | (apply r_len0; rfl)
    | (apply r_gT; rfl)
    | (apply r_gF'; rfl; rfl)
    | (apply r_gN'; rfl)
    | ((apply r_gS (o := default); rfl) <;> (intro h; try simp only [decide_eq_true_eq, decide_eq_false_iff_not, Bool.not_eq_true, Bool.not_eq_false] at h))
    | (apply r_box; ((conv => lhs; simp only [Nat.reduceAdd]) <;> rfl); rfl; rfl; rfl)
    | (apply r_p; rfl)
    | (apply r_nilK)
    | (apply r_nil)
    | (apply k_V; rfl)
    | (apply k_P; rfl)
    | (apply k_PL; rfl)
    | (apply k_S; rfl)
    | (apply k_SL; rfl)
    | (apply k_A; rfl)
    | (apply k_T; rfl)
    | (apply k_F; rfl)
    | (apply k_D; rfl; rotate_left; rfl)
    | (apply k_nil)
    | (apply e_ret (vs := [.d (.val _)]); rfl)
    | (apply e_ret; rfl)
    | (apply e_ret' (vs := [.d (.val _)]); rfl)
    | (apply e_ret'; rfl)
    | (apply w_seq)
    | (apply w_ops; ((conv => lhs; simp only [Nat.reduceAdd]) <;> rfl))
    | (apply w_condT; rfl)
    | (apply w_condF; rfl)
    | ((apply w_condS; rfl) <;> (intro h; try simp only [decide_eq_true_eq, decide_eq_false_iff_not, Bool.not_eq_true, Bool.not_eq_false] at h))
    | (apply e_thenN)
    | (apply w_block)
    | (apply e_thenR)
    | (apply e_thenX)
    | (apply e_blkN)
    | (apply e_blkR)
    | (apply e_blkE)
    | (apply w_exit)
    | (apply w_ret)
    | (apply w_skip)
    | (apply e_blkE'; rfl))
  apply w_loopI (ι := Nat × Int) (S := fun p => ⟨((Fr.nil.put 1 (.ptrL 1 0)).put 3 (.i p.2)).put 4 (.i p.1), Heap.nil.put 1 [.i k, .d (.val (.int .u64 a)), .d (.val (.int .u64 b)), .d (.val (.int .u64 c)), .d (.val (.int .u64 d)), .i mn, .i mx, .d (.sl (encL subs) subs.length)], Frz.but 100 1, 100⟩) (m := fun p => subs.length - p.1)
    (I := fun p => p.1 ≤ subs.length ∧ (1 ≤ p.2 ∧ p.2 ≤ 1073741824) ∧ wideT (.node k a b c d mn mx subs) = wideL k mn mx (subs.drop p.1) p.2) (i0 := (0, 1))
  · refine ⟨Nat.zero_le _, by simp, ?_⟩
    simp [wideT]
  · exact wk1D (by omega) (by omega) rfl rfl rfl (FWk.i rfl rfl (FWk.i rfl rfl (FWk.ptr rfl rfl rfl (by omega) rfl FWk.nil)))
  rintro ⟨i, w⟩ K hi hK
  dsimp only at hi hK ⊢
  rcases Nat.lt_or_ge i subs.length with hlt | hge
  · have hs := NodeAt.sub hlt
    have hd := wideL_drop k mn mx subs w i hlt
    have hb := wideT_in subs[i] (okL_get subs i hlt hoks)
    have hq := wideQ_in hR (q := wideT subs[i]) (by omega)
    have fin : ∀ fr C Z nx, Wk ⟨fr, C, Z, nx⟩ ⟨((Fr.nil.put 1 (.ptrL 1 0)).put 3 (.i (min (w + wideQ k mn mx (wideT subs[i])) 1073741824))).put 4 (.i ((i + 1 : Nat) : Int)), Heap.nil.put 1 [.i k, .d (.val (.int .u64 a)), .d (.val (.int .u64 b)), .d (.val (.int .u64 c)), .d (.val (.int .u64 d)), .i mn, .i mx, .d (.sl (encL subs) subs.length)], Frz.but 100 1, 100⟩ → K ⟨fr, C, Z, nx⟩ := by
      intro fr C Z nx hw
      refine hK (i + 1, _) fr C Z nx ⟨by omega, by dsimp only; omega, ?_⟩ (by dsimp only; omega) hw
      rw [hi.2.2, hd]
    by_cases h5 : k = 5
    · have hr5 := hR h5
      by_cases hm : mx = -1
      · have hmul := mul_in (show 0 ≤ wideT subs[i] ∧ wideT subs[i] ≤ 1073741824 by omega) (show 0 ≤ mn + 1 ∧ mn + 1 ≤ 21 by omega)
        have eq : wideQ k mn mx (wideT subs[i]) = wideT subs[i] * (mn + 1) + 1 := by rw [wideQ, if_pos h5, if_pos hm]
        rw [eq] at fin hq
        repeat' (first
    | (apply r_mvV; rfl)
    | (apply r_mvP; rfl)
    | (apply r_mvPL; rfl)
    | (apply r_mvS; rfl)
    | (apply r_mvSL; rfl)
    | (apply r_mvA; rfl)
    | (apply r_mvT; rfl)
    | (apply r_mvF; rfl)
    | (apply r_mvD; rfl)
    | (apply r_faddD; rfl)
    | (apply r_faddL; rfl)
    | (apply r_l; apply ld_kind; assumption; rfl)
    | (apply r_l; apply ld_mn; assumption; rfl)
    | (apply r_l; apply ld_mx; assumption; rfl)
    | (apply r_l; apply ld_subs; assumption; rfl)
    | (apply r_l; apply ld_set; assumption; rfl)
    | (apply r_l; apply ld_node; assumption; rfl)
    | (apply r_l; apply ld_kind'; assumption; rfl)
    | (apply r_l; apply ld_mn'; assumption; rfl)
    | (apply r_l; apply ld_mx'; assumption; rfl)
    | (apply r_l; apply ld_subs'; assumption; rfl)
    | (apply r_l; apply ld_node'; assumption; rfl)
    | (apply r_p; apply ix_sub; rfl; rfl; omega)
    | (apply r_callA (ags := [nodeA subs[i]]); rfl; simp [nodeA_nrm]; apply ih' i hlt)
    | (apply r_mul; rfl; rfl; rfl; omega)
    | (apply r_ldL; rfl; rfl; rfl)
    | (apply r_eql; rfl; rfl; (first | (apply decide_eq_true; omega) | (apply decide_eq_false; omega) | rfl))
    | (apply r_lss; rfl; rfl; (first | (apply decide_eq_true; omega) | (apply decide_eq_false; omega) | rfl))
    | (apply r_add; rfl; rfl; rfl; omega)
    | (apply r_min2; rfl; rfl; rfl)
    | (apply r_pickT; rfl)
    | (apply r_pickF; rfl)
    | (apply r_lenD; rfl)
    | (apply r_lenL; rfl)
    | (apply r_len0; rfl)
    | (apply r_gT; rfl)
    | (apply r_gF'; rfl; rfl)
    | (apply r_gN'; rfl)
    | ((apply r_gS (o := default); rfl) <;> (intro h; try simp only [decide_eq_true_eq, decide_eq_false_iff_not, Bool.not_eq_true, Bool.not_eq_false] at h))
    | (apply r_box; ((conv => lhs; simp only [Nat.reduceAdd]) <;> rfl); rfl; rfl; rfl)
    | (apply r_p; rfl)
    | (apply r_nilK)
    | (apply r_nil)
    | (apply k_V; rfl)
    | (apply k_P; rfl)
    | (apply k_PL; rfl)
    | (apply k_S; rfl)
    | (apply k_SL; rfl)
    | (apply k_A; rfl)
    | (apply k_T; rfl)
    | (apply k_F; rfl)
    | (apply k_D; rfl; rotate_left; rfl)
    | (apply k_nil)
    | (apply e_ret (vs := [.d (.val _)]); rfl)
    | (apply e_ret; rfl)
    | (apply e_ret' (vs := [.d (.val _)]); rfl)
    | (apply e_ret'; rfl)
    | (apply w_seq)
    | (apply w_ops; ((conv => lhs; simp only [Nat.reduceAdd]) <;> rfl))
    | (apply w_condT; rfl)
    | (apply w_condF; rfl)
    | ((apply w_condS; rfl) <;> (intro h; try simp only [decide_eq_true_eq, decide_eq_false_iff_not, Bool.not_eq_true, Bool.not_eq_false] at h))
    | (apply e_thenN)
    | (apply w_block)
    | (apply e_thenR)
    | (apply e_thenX)
    | (apply e_blkN)
    | (apply e_blkR)
    | (apply e_blkE)
    | (apply w_exit)
    | (apply w_ret)
    | (apply w_skip)
    | (apply e_blkE'; rfl))
        apply e_thenK; apply fin
        exact wk1D (by omega) (by omega) rfl rfl rfl (FWk.i rfl (by simp) (FWk.i rfl rfl (FWk.ptr rfl rfl rfl (by omega) rfl FWk.nil)))
      · have hmul := mul_in (show 0 ≤ wideT subs[i] + 2 ∧ wideT subs[i] + 2 ≤ 1073741826 by omega) (show 0 ≤ mx ∧ mx ≤ 20 by omega)
        have eq : wideQ k mn mx (wideT subs[i]) = (wideT subs[i] + 2) * mx := by rw [wideQ, if_pos h5, if_neg hm]
        rw [eq] at fin hq
        repeat' (first
    | (apply r_mvV; rfl)
    | (apply r_mvP; rfl)
    | (apply r_mvPL; rfl)
    | (apply r_mvS; rfl)
    | (apply r_mvSL; rfl)
    | (apply r_mvA; rfl)
    | (apply r_mvT; rfl)
    | (apply r_mvF; rfl)
    | (apply r_mvD; rfl)
    | (apply r_faddD; rfl)
    | (apply r_faddL; rfl)
    | (apply r_l; apply ld_kind; assumption; rfl)
    | (apply r_l; apply ld_mn; assumption; rfl)
    | (apply r_l; apply ld_mx; assumption; rfl)
    | (apply r_l; apply ld_subs; assumption; rfl)
    | (apply r_l; apply ld_set; assumption; rfl)
    | (apply r_l; apply ld_node; assumption; rfl)
    | (apply r_l; apply ld_kind'; assumption; rfl)
    | (apply r_l; apply ld_mn'; assumption; rfl)
    | (apply r_l; apply ld_mx'; assumption; rfl)
    | (apply r_l; apply ld_subs'; assumption; rfl)
    | (apply r_l; apply ld_node'; assumption; rfl)
    | (apply r_p; apply ix_sub; rfl; rfl; omega)
    | (apply r_callA (ags := [nodeA subs[i]]); rfl; simp [nodeA_nrm]; apply ih' i hlt)
    | (apply r_mul; rfl; rfl; rfl; omega)
    | (apply r_ldL; rfl; rfl; rfl)
    | (apply r_eql; rfl; rfl; (first | (apply decide_eq_true; omega) | (apply decide_eq_false; omega) | rfl))
    | (apply r_lss; rfl; rfl; (first | (apply decide_eq_true; omega) | (apply decide_eq_false; omega) | rfl))
    | (apply r_add; rfl; rfl; rfl; omega)
    | (apply r_min2; rfl; rfl; rfl)
    | (apply r_pickT; rfl)
    | (apply r_pickF; rfl)
    | (apply r_lenD; rfl)
    | (apply r_lenL; rfl)
    | (apply r_len0; rfl)
    | (apply r_gT; rfl)
    | (apply r_gF'; rfl; rfl)
    | (apply r_gN'; rfl)
    | ((apply r_gS (o := default); rfl) <;> (intro h; try simp only [decide_eq_true_eq, decide_eq_false_iff_not, Bool.not_eq_true, Bool.not_eq_false] at h))
    | (apply r_box; ((conv => lhs; simp only [Nat.reduceAdd]) <;> rfl); rfl; rfl; rfl)
    | (apply r_p; rfl)
    | (apply r_nilK)
    | (apply r_nil)
    | (apply k_V; rfl)
    | (apply k_P; rfl)
    | (apply k_PL; rfl)
    | (apply k_S; rfl)
    | (apply k_SL; rfl)
    | (apply k_A; rfl)
    | (apply k_T; rfl)
    | (apply k_F; rfl)
    | (apply k_D; rfl; rotate_left; rfl)
    | (apply k_nil)
    | (apply e_ret (vs := [.d (.val _)]); rfl)
    | (apply e_ret; rfl)
    | (apply e_ret' (vs := [.d (.val _)]); rfl)
    | (apply e_ret'; rfl)
    | (apply w_seq)
    | (apply w_ops; ((conv => lhs; simp only [Nat.reduceAdd]) <;> rfl))
    | (apply w_condT; rfl)
    | (apply w_condF; rfl)
    | ((apply w_condS; rfl) <;> (intro h; try simp only [decide_eq_true_eq, decide_eq_false_iff_not, Bool.not_eq_true, Bool.not_eq_false] at h))
    | (apply e_thenN)
    | (apply w_block)
    | (apply e_thenR)
    | (apply e_thenX)
    | (apply e_blkN)
    | (apply e_blkR)
    | (apply e_blkE)
    | (apply w_exit)
    | (apply w_ret)
    | (apply w_skip)
    | (apply e_blkE'; rfl))
        apply e_thenK; apply fin
        exact wk1D (by omega) (by omega) rfl rfl rfl (FWk.i rfl (by simp) (FWk.i rfl rfl (FWk.ptr rfl rfl rfl (by omega) rfl FWk.nil)))
    · have eq : wideQ k mn mx (wideT subs[i]) = wideT subs[i] := by rw [wideQ, if_neg h5]
      rw [eq] at fin hq
      repeat' (first
    | (apply r_mvV; rfl)
    | (apply r_mvP; rfl)
    | (apply r_mvPL; rfl)
    | (apply r_mvS; rfl)
    | (apply r_mvSL; rfl)
    | (apply r_mvA; rfl)
    | (apply r_mvT; rfl)
    | (apply r_mvF; rfl)
    | (apply r_mvD; rfl)
    | (apply r_faddD; rfl)
    | (apply r_faddL; rfl)
    | (apply r_l; apply ld_kind; assumption; rfl)
    | (apply r_l; apply ld_mn; assumption; rfl)
    | (apply r_l; apply ld_mx; assumption; rfl)
    | (apply r_l; apply ld_subs; assumption; rfl)
    | (apply r_l; apply ld_set; assumption; rfl)
    | (apply r_l; apply ld_node; assumption; rfl)
    | (apply r_l; apply ld_kind'; assumption; rfl)
    | (apply r_l; apply ld_mn'; assumption; rfl)
    | (apply r_l; apply ld_mx'; assumption; rfl)
    | (apply r_l; apply ld_subs'; assumption; rfl)
    | (apply r_l; apply ld_node'; assumption; rfl)
    | (apply r_p; apply ix_sub; rfl; rfl; omega)
    | (apply r_callA (ags := [nodeA subs[i]]); rfl; simp [nodeA_nrm]; apply ih' i hlt)
    | (apply r_mul; rfl; rfl; rfl; omega)
    | (apply r_ldL; rfl; rfl; rfl)
    | (apply r_eql; rfl; rfl; (first | (apply decide_eq_true; omega) | (apply decide_eq_false; omega) | rfl))
    | (apply r_lss; rfl; rfl; (first | (apply decide_eq_true; omega) | (apply decide_eq_false; omega) | rfl))
    | (apply r_add; rfl; rfl; rfl; omega)
    | (apply r_min2; rfl; rfl; rfl)
    | (apply r_pickT; rfl)
    | (apply r_pickF; rfl)
    | (apply r_lenD; rfl)
    | (apply r_lenL; rfl)
    | (apply r_len0; rfl)
    | (apply r_gT; rfl)
    | (apply r_gF'; rfl; rfl)
    | (apply r_gN'; rfl)
    | ((apply r_gS (o := default); rfl) <;> (intro h; try simp only [decide_eq_true_eq, decide_eq_false_iff_not, Bool.not_eq_true, Bool.not_eq_false] at h))
    | (apply r_box; ((conv => lhs; simp only [Nat.reduceAdd]) <;> rfl); rfl; rfl; rfl)
    | (apply r_p; rfl)
    | (apply r_nilK)
    | (apply r_nil)
    | (apply k_V; rfl)
    | (apply k_P; rfl)
    | (apply k_PL; rfl)
    | (apply k_S; rfl)
    | (apply k_SL; rfl)
    | (apply k_A; rfl)
    | (apply k_T; rfl)
    | (apply k_F; rfl)
    | (apply k_D; rfl; rotate_left; rfl)
    | (apply k_nil)
    | (apply e_ret (vs := [.d (.val _)]); rfl)
    | (apply e_ret; rfl)
    | (apply e_ret' (vs := [.d (.val _)]); rfl)
    | (apply e_ret'; rfl)
    | (apply w_seq)
    | (apply w_ops; ((conv => lhs; simp only [Nat.reduceAdd]) <;> rfl))
    | (apply w_condT; rfl)
    | (apply w_condF; rfl)
    | ((apply w_condS; rfl) <;> (intro h; try simp only [decide_eq_true_eq, decide_eq_false_iff_not, Bool.not_eq_true, Bool.not_eq_false] at h))
    | (apply e_thenN)
    | (apply w_block)
    | (apply e_thenR)
    | (apply e_thenX)
    | (apply e_blkN)
    | (apply e_blkR)
    | (apply e_blkE)
    | (apply w_exit)
    | (apply w_ret)
    | (apply w_skip)
    | (apply e_blkE'; rfl))
      apply e_thenK; apply fin
      exact wk1D (by omega) (by omega) rfl rfl rfl (FWk.i rfl (by simp) (FWk.i rfl rfl (FWk.ptr rfl rfl rfl (by omega) rfl FWk.nil)))
  · repeat' (first
    | (apply r_mvV; rfl)
    | (apply r_mvP; rfl)
    | (apply r_mvPL; rfl)
    | (apply r_mvS; rfl)
    | (apply r_mvSL; rfl)
    | (apply r_mvA; rfl)
    | (apply r_mvT; rfl)
    | (apply r_mvF; rfl)
    | (apply r_mvD; rfl)
    | (apply r_faddD; rfl)
    | (apply r_faddL; rfl)
    | (apply r_l; apply ld_kind; assumption; rfl)
    | (apply r_l; apply ld_mn; assumption; rfl)
    | (apply r_l; apply ld_mx; assumption; rfl)
    | (apply r_l; apply ld_subs; assumption; rfl)
    | (apply r_l; apply ld_set; assumption; rfl)
    | (apply r_l; apply ld_node; assumption; rfl)
    | (apply r_l; apply ld_kind'; assumption; rfl)
    | (apply r_l; apply ld_mn'; assumption; rfl)
    | (apply r_l; apply ld_mx'; assumption; rfl)
    | (apply r_l; apply ld_subs'; assumption; rfl)
    | (apply r_l; apply ld_node'; assumption; rfl)
    | (apply r_ldL; rfl; rfl; rfl)
    | (apply r_eql; rfl; rfl; (first | (apply decide_eq_true; omega) | (apply decide_eq_false; omega) | rfl))
    | (apply r_lss; rfl; rfl; (first | (apply decide_eq_true; omega) | (apply decide_eq_false; omega) | rfl))
    | (apply r_add; rfl; rfl; rfl; omega)
    | (apply r_min2; rfl; rfl; rfl)
    | (apply r_pickT; rfl)
    | (apply r_pickF; rfl)
    | (apply r_lenD; rfl)
    | (apply r_lenL; rfl)
    | (apply r_len0; rfl)
    | (apply r_gT; rfl)
    | (apply r_gF'; rfl; rfl)
    | (apply r_gN'; rfl)
    | ((apply r_gS (o := default); rfl) <;> (intro h; try simp only [decide_eq_true_eq, decide_eq_false_iff_not, Bool.not_eq_true, Bool.not_eq_false] at h))
    | (apply r_box; ((conv => lhs; simp only [Nat.reduceAdd]) <;> rfl); rfl; rfl; rfl)
    | (apply r_p; rfl)
    | (apply r_nilK)
    | (apply r_nil)
    | (apply k_V; rfl)
    | (apply k_P; rfl)
    | (apply k_PL; rfl)
    | (apply k_S; rfl)
    | (apply k_SL; rfl)
    | (apply k_A; rfl)
    | (apply k_T; rfl)
    | (apply k_F; rfl)
    | (apply k_D; rfl; rotate_left; rfl)
    | (apply k_nil)
    | (apply e_ret (vs := [.d (.val _)]); rfl)
    | (apply e_ret; rfl)
    | (apply e_ret' (vs := [.d (.val _)]); rfl)
    | (apply e_ret'; rfl)
    | (apply w_seq)
    | (apply w_ops; ((conv => lhs; simp only [Nat.reduceAdd]) <;> rfl))
    | (apply w_condT; rfl)
    | (apply w_condF; rfl)
    | ((apply w_condS; rfl) <;> (intro h; try simp only [decide_eq_true_eq, decide_eq_false_iff_not, Bool.not_eq_true, Bool.not_eq_false] at h))
    | (apply e_thenN)
    | (apply w_block)
    | (apply e_thenR)
    | (apply e_thenX)
    | (apply e_blkN)
    | (apply e_blkR)
    | (apply e_blkE)
    | (apply w_exit)
    | (apply w_ret)
    | (apply w_skip)
    | (apply e_blkE'; rfl))
    refine retI ?_
    rw [hi.2.2, List.drop_of_length_le (by omega), wideL]
end Go.Sv
namespace Go.Sv
open Go Go.Proofs
set_option maxRecDepth 100000
def x29 : XC := (.seq (.ops 1 [
    (0, ⟨(some 0), none, .mv (.k (.d (.val (.bool false))))⟩)] (some [])) (.seq (.ops 7 [
    (0, ⟨(some 16), none, .call 83 [(.k (.d (.val (.string ⟨#[97, 42, 124, 97, 98]⟩))))] none false⟩),
    (1, ⟨(some 17), none, .call 31 [(.t 16), (.k (.d (.val (.string ⟨#[97, 97, 98]⟩)))), (.k (.d (.val (.int .i64 0))))] none false⟩),
    (2, ⟨(some 15), none, .mv (.t 17)⟩),
    (3, ⟨(some 18), none, .ext (.t 15) 0⟩),
    (4, ⟨(some 19), none, .ext (.t 15) 1⟩),
    (5, ⟨(some 1), none, .mv (.t 18)⟩),
    (6, ⟨(some 2), none, .mv (.t 19)⟩)] (some [1, 2])) (.seq (.ops 7 [
    (0, ⟨(some 21), none, .call 83 [(.k (.d (.val (.string ⟨#[97, 42, 124, 97, 98]⟩))))] none false⟩),
    (1, ⟨(some 22), none, .call 31 [(.t 21), (.k (.d (.val (.string ⟨#[97, 97, 98]⟩)))), (.k (.d (.val (.int .i64 1))))] none false⟩),
    (2, ⟨(some 20), none, .mv (.t 22)⟩),
    (3, ⟨(some 23), none, .ext (.t 20) 0⟩),
    (4, ⟨(some 24), none, .ext (.t 20) 1⟩),
    (5, ⟨(some 3), none, .mv (.t 23)⟩),
    (6, ⟨(some 4), none, .mv (.t 24)⟩)] (some [1, 2, 3])) (.seq (.ops 7 [
    (0, ⟨(some 26), none, .call 83 [(.k (.d (.val (.string ⟨#[97]⟩))))] none false⟩),
    (1, ⟨(some 27), none, .call 31 [(.t 26), (.k (.d (.val (.string ⟨#[]⟩)))), (.k (.d (.val (.int .i64 1))))] none false⟩),
    (2, ⟨(some 25), none, .mv (.t 27)⟩),
    (3, ⟨(some 28), none, .ext (.t 25) 0⟩),
    (4, ⟨(some 29), none, .ext (.t 25) 1⟩),
    (5, ⟨(some 5), none, .mv (.t 28)⟩),
    (6, ⟨(some 6), none, .mv (.t 29)⟩)] (some [1, 2, 3, 6])) (.seq (.ops 7 [
    (0, ⟨(some 31), none, .build [(.int .i64 0), (.int .u64 0), (.int .u64 0), (.int .u64 0), (.int .u64 0), (.int .i64 0), (.int .i64 0), (.slice none 0 0)] []⟩),
    (1, ⟨(some 32), none, .call 31 [(.t 31), (.k (.d (.val (.string ⟨#[]⟩)))), (.k (.d (.val (.int .i64 0))))] none false⟩),
    (2, ⟨(some 30), none, .mv (.t 32)⟩),
    (3, ⟨(some 33), none, .ext (.t 30) 0⟩),
    (4, ⟨(some 34), none, .ext (.t 30) 1⟩),
    (5, ⟨(some 7), none, .mv (.t 33)⟩),
    (6, ⟨(some 8), none, .mv (.t 34)⟩)] (some [1, 2, 3, 6, 8])) (.seq (.ops 15 [
    (0, ⟨(some 36), none, .call 83 [(.k (.d (.val (.string ⟨#[97]⟩))))] none false⟩),
    (1, ⟨(some 37), none, .build [(.string ⟨#[]⟩), (.int .i64 0), (.int .u64 0), (.int .u64 0), (.int .u64 0), (.int .u64 0), (.int .i64 0), (.int .i64 0), (.slice none 0 0)] [(1, 8, (.t 36))]⟩),
    (2, ⟨(some 38), none, .call 83 [(.k (.d (.val (.string ⟨#[97, 43]⟩))))] none false⟩),
    (3, ⟨(some 39), none, .build [(.string ⟨#[]⟩), (.int .i64 0), (.int .u64 0), (.int .u64 0), (.int .u64 0), (.int .u64 0), (.int .i64 0), (.int .i64 0), (.slice none 0 0)] [(1, 8, (.t 38))]⟩),
    (4, ⟨(some 40), none, .call 83 [(.k (.d (.val (.string ⟨#[97, 97]⟩))))] none false⟩),
    (5, ⟨(some 41), none, .build [(.string ⟨#[]⟩), (.int .i64 0), (.int .u64 0), (.int .u64 0), (.int .u64 0), (.int .u64 0), (.int .i64 0), (.int .i64 0), (.slice none 0 0)] [(1, 8, (.t 40))]⟩),
    (6, ⟨(some 42), none, .mkrow [(.string ⟨#[]⟩), (.int .i64 0), (.int .u64 0), (.int .u64 0), (.int .u64 0), (.int .u64 0), (.int .i64 0), (.int .i64 0), (.slice none 0 0)] 3 9 [(0, 9, (.t 37)), (9, 9, (.t 39)), (18, 9, (.t 41))]⟩),
    (7, ⟨(some 43), none, .call 42 [(.t 42), (.k (.d (.val (.string ⟨#[97, 97, 98]⟩)))), (.k (.d (.val (.int .i64 0))))] none false⟩),
    (8, ⟨(some 35), none, .mv (.t 43)⟩),
    (9, ⟨(some 44), none, .ext (.t 35) 0⟩),
    (10, ⟨(some 45), none, .ext (.t 35) 1⟩),
    (11, ⟨(some 46), none, .ext (.t 35) 2⟩),
    (12, ⟨(some 9), none, .mv (.t 44)⟩),
    (13, ⟨(some 10), none, .mv (.t 45)⟩),
    (14, ⟨(some 11), none, .mv (.t 46)⟩)] (some [1, 2, 3, 6, 8, 9, 10, 11])) (.seq (.ops 11 [
    (0, ⟨(some 48), none, .call 83 [(.k (.d (.val (.string ⟨#[97, 42]⟩))))] none false⟩),
    (1, ⟨(some 49), none, .build [(.string ⟨#[]⟩), (.int .i64 0), (.int .u64 0), (.int .u64 0), (.int .u64 0), (.int .u64 0), (.int .i64 0), (.int .i64 0), (.slice none 0 0)] [(1, 8, (.t 48))]⟩),
    (2, ⟨(some 50), none, .mkrow [(.string ⟨#[]⟩), (.int .i64 0), (.int .u64 0), (.int .u64 0), (.int .u64 0), (.int .u64 0), (.int .i64 0), (.int .i64 0), (.slice none 0 0)] 1 9 [(0, 9, (.t 49))]⟩),
    (3, ⟨(some 51), none, .call 42 [(.t 50), (.k (.d (.val (.string ⟨#[98]⟩)))), (.k (.d (.val (.int .i64 0))))] none false⟩),
    (4, ⟨(some 47), none, .mv (.t 51)⟩),
    (5, ⟨(some 52), none, .ext (.t 47) 0⟩),
    (6, ⟨(some 53), none, .ext (.t 47) 1⟩),
    (7, ⟨(some 54), none, .ext (.t 47) 2⟩),
    (8, ⟨(some 12), none, .mv (.t 52)⟩),
    (9, ⟨(some 13), none, .mv (.t 53)⟩),
    (10, ⟨(some 14), none, .mv (.t 54)⟩)] (some [1, 2, 3, 6, 8, 9, 10, 11, 14])) (.seq (.ops 50 [
    (0, ⟨(some 55), none, .mv (.t 1)⟩),
    (1, ⟨(some 56), none, .mkrow [(.int .i64 0)] 3 1 [(0, 1, (.k (.d (.val (.int .i64 0))))), (1, 1, (.k (.d (.val (.int .i64 1))))), (2, 1, (.k (.d (.val (.int .i64 2)))))]⟩),
    (2, ⟨(some 57), none, .call 35 [(.t 55), (.t 56)] none false⟩),
    (3, ⟨(some 58), none, .mv (.t 57)⟩),
    (4, ⟨(some 59), (some (58, true)), .mv (.t 3)⟩),
    (5, ⟨(some 60), (some (58, true)), .mkrow [(.int .i64 0)] 3 1 [(0, 1, (.k (.d (.val (.int .i64 1))))), (1, 1, (.k (.d (.val (.int .i64 2))))), (2, 1, (.k (.d (.val (.int .i64 3)))))]⟩),
    (6, ⟨(some 61), (some (58, true)), .call 35 [(.t 59), (.t 60)] none false⟩),
    (7, ⟨(some 62), none, .pick (.t 58) (.t 61) (.k (.d (.val (.bool false))))⟩),
    (8, ⟨(some 63), none, .mv (.t 62)⟩),
    (9, ⟨(some 64), (some (63, true)), .mv (.t 2)⟩),
    (10, ⟨(some 65), (some (63, true)), .arith .eql (.t 64) (.k (.d (.val (.int .i64 0))))⟩),
    (11, ⟨(some 66), none, .pick (.t 63) (.t 65) (.k (.d (.val (.bool false))))⟩),
    (12, ⟨(some 67), none, .mv (.t 66)⟩),
    (13, ⟨(some 68), (some (67, true)), .mv (.t 6)⟩),
    (14, ⟨(some 69), (some (67, true)), .arith .eql (.t 68) (.k (.d (.val (.int .i64 2))))⟩),
    (15, ⟨(some 70), none, .pick (.t 67) (.t 69) (.k (.d (.val (.bool false))))⟩),
    (16, ⟨(some 71), none, .mv (.t 70)⟩),
    (17, ⟨(some 72), (some (71, true)), .mv (.t 8)⟩),
    (18, ⟨(some 73), (some (71, true)), .arith .eql (.t 72) (.k (.d (.val (.int .i64 1))))⟩),
    (19, ⟨(some 74), none, .pick (.t 71) (.t 73) (.k (.d (.val (.bool false))))⟩),
    (20, ⟨(some 75), none, .mv (.t 74)⟩),
    (21, ⟨(some 76), (some (75, true)), .mv (.t 9)⟩),
    (22, ⟨(some 77), (some (75, true)), .arith .eql (.t 76) (.k (.d (.val (.int .i64 1))))⟩),
    (23, ⟨(some 78), none, .pick (.t 75) (.t 77) (.k (.d (.val (.bool false))))⟩),
    (24, ⟨(some 79), none, .mv (.t 78)⟩),
    (25, ⟨(some 80), (some (79, true)), .mv (.t 10)⟩),
    (26, ⟨(some 81), (some (79, true)), .arith .eql (.t 80) (.k (.d (.val (.int .i64 2))))⟩),
    (27, ⟨(some 82), none, .pick (.t 79) (.t 81) (.k (.d (.val (.bool false))))⟩),
    (28, ⟨(some 83), none, .mv (.t 82)⟩),
    (29, ⟨(some 84), (some (83, true)), .mv (.t 11)⟩),
    (30, ⟨(some 85), none, .pick (.t 83) (.t 84) (.k (.d (.val (.bool false))))⟩),
    (31, ⟨(some 86), none, .mv (.t 85)⟩),
    (32, ⟨(some 87), (some (86, true)), .mv (.t 14)⟩),
    (33, ⟨(some 88), (some (86, true)), .un .not (.t 87)⟩),
    (34, ⟨(some 89), none, .pick (.t 86) (.t 88) (.k (.d (.val (.bool false))))⟩),
    (35, ⟨(some 90), none, .mv (.t 89)⟩),
    (36, ⟨(some 91), (some (90, true)), .call 83 [(.k (.d (.val (.string ⟨#[97, 98, 63]⟩))))] none false⟩),
    (37, ⟨(some 92), (some (90, true)), .call 33 [(.t 91), (.k (.d (.val (.string ⟨#[97]⟩))))] none false⟩),
    (38, ⟨(some 93), none, .pick (.t 90) (.t 92) (.k (.d (.val (.bool false))))⟩),
    (39, ⟨(some 94), none, .mv (.t 93)⟩),
    (40, ⟨(some 95), (some (94, true)), .call 83 [(.k (.d (.val (.string ⟨#[97, 98, 63]⟩))))] none false⟩),
    (41, ⟨(some 96), (some (94, true)), .call 33 [(.t 95), (.k (.d (.val (.string ⟨#[]⟩))))] none false⟩),
    (42, ⟨(some 97), (some (94, true)), .un .not (.t 96)⟩),
    (43, ⟨(some 98), none, .pick (.t 94) (.t 97) (.k (.d (.val (.bool false))))⟩),
    (44, ⟨(some 99), none, .mv (.t 98)⟩),
    (45, ⟨(some 100), (some (99, true)), .call 83 [(.k (.d (.val (.string ⟨#[98]⟩))))] none false⟩),
    (46, ⟨(some 101), (some (99, true)), .call 34 [(.t 100), (.k (.d (.val (.string ⟨#[97]⟩)))), (.k (.d (.val (.int .i64 0))))] none false⟩),
    (47, ⟨(some 102), (some (99, true)), .arith .eql (.t 101) (.k (.d (.val (.int .i64 (-1)))))⟩),
    (48, ⟨(some 103), none, .pick (.t 99) (.t 102) (.k (.d (.val (.bool false))))⟩),
    (49, ⟨(some 0), none, .mv (.t 103)⟩)] (some [0])) .ret))))))))
def md29 : FuncId → Option Nat × Bool
  | _ => (none, false)
def od29 : Nat → List (List Nat) × List Nat × Option (List Nat)
  | 0 => ([], [], some [])
  | 1 => ([], [], some [1, 2])
  | 2 => ([], [], some [1, 2, 3])
  | 3 => ([], [], some [1, 2, 3, 6])
  | 4 => ([], [], some [1, 2, 3, 6, 8])
  | 5 => ([], [], some [1, 2, 3, 6, 8, 9, 10, 11])
  | 6 => ([], [], some [1, 2, 3, 6, 8, 9, 10, 11, 14])
  | 7 => ([], [], some [0])
  | _ => ([], [], none)
theorem b29 {ags : List AV} {row : Option (List DV)} {r : AV} {row' nw : Option (List DV)} (hal : ags.length ≤ 104) (hrow : row'.isSome = true → row.isSome = true) (h : xwp Try.prog x29 (retK [.tmp 0] row.isSome r row' nw) (St.init ags row)) : Good Try.prog 29 ags row r row' nw :=
  good_of_body' (md := md29) (od := od29) Try.f29 (by kernel_rfl) (by kernel_rfl) (by kernel_rfl) (by kernel_rfl) (by kernel_rfl) hal hrow h

def x42 : XC := (.seq (.ops 3 [
    (0, ⟨(some 6), none, .mv (.k (.d (.val (.int .i64 0))))⟩),
    (1, ⟨(some 7), none, .mv (.k (.d (.val (.int .i64 0))))⟩),
    (2, ⟨(some 8), none, .mv (.k (.d (.val (.bool false))))⟩)] (some [0, 1, 2])) (.seq (.ops 2 [
    (0, ⟨(some 6), none, .mv (.k (.d (.val (.int .i64 (-1)))))⟩),
    (1, ⟨(some 7), none, .mv (.k (.d (.val (.int .i64 (-1)))))⟩)] (some [0, 1, 2, 6, 7])) (.seq (.seq (.ops 3 [
    (0, ⟨(some 12), none, .mv (.t 0)⟩),
    (1, ⟨(some 13), none, .lenS (.t 12)⟩),
    (2, ⟨(some 14), none, .mv (.k (.d (.val (.int .i64 0))))⟩)] (some [1, 2, 6, 7, 12, 13, 14])) (.block 0 (.loop (.seq (.ops 1 [
    (0, ⟨(some 15), none, .arith .lss (.t 14) (.t 13)⟩)] (some [1, 2, 6, 7, 12, 13, 14, 15])) (.seq (.cond (.t 15) .skip (.exit 0)) (.seq (.block 1 (.seq (.ops 6 [
    (0, ⟨(some 16), none, .mv (.t 14)⟩),
    (1, ⟨(some 17), none, .idxS 9 (.t 12) (.t 14)⟩),
    (2, ⟨(some 18), none, .load (some 9) (.t 17)⟩),
    (3, ⟨(some 10), none, .alloc [(.string ⟨#[]⟩), (.int .i64 0), (.int .u64 0), (.int .u64 0), (.int .u64 0), (.int .u64 0), (.int .i64 0), (.int .i64 0), (.slice none 0 0)]⟩),
    (4, ⟨(some 9), none, .mv (.t 16)⟩),
    (5, ⟨none, none, .store 9 (.t 10) (.t 18)⟩)] (some [1, 2, 6, 7, 9, 10, 12, 13, 14])) (.seq (.ops 6 [
    (0, ⟨(some 19), none, .fadd 1 (.t 10)⟩),
    (1, ⟨(some 20), none, .load (some 8) (.t 19)⟩),
    (2, ⟨(some 21), none, .mv (.t 1)⟩),
    (3, ⟨(some 22), none, .mv (.t 2)⟩),
    (4, ⟨(some 23), none, .call 34 [(.t 20), (.t 21), (.t 22)] none false⟩),
    (5, ⟨(some 11), none, .mv (.t 23)⟩)] (some [1, 2, 6, 7, 9, 11, 12, 13, 14])) (.seq (.ops 5 [
    (0, ⟨(some 24), none, .mv (.t 11)⟩),
    (1, ⟨(some 25), none, .mv (.t 2)⟩),
    (2, ⟨(some 26), none, .mv (.t 7)⟩),
    (3, ⟨(some 27), none, .max [(.t 25), (.t 26)]⟩),
    (4, ⟨(some 28), none, .arith .gtr (.t 24) (.t 27)⟩)] (some [1, 2, 6, 7, 9, 11, 12, 13, 14, 28])) (.cond (.t 28) (.ops 4 [
    (0, ⟨(some 29), none, .mv (.t 9)⟩),
    (1, ⟨(some 30), none, .mv (.t 11)⟩),
    (2, ⟨(some 6), none, .mv (.t 29)⟩),
    (3, ⟨(some 7), none, .mv (.t 30)⟩)] (some [1, 2, 6, 7, 12, 13, 14])) .skip))))) (.ops 2 [
    (0, ⟨(some 31), none, .arith .add (.t 14) (.k (.d (.val (.int .i64 1))))⟩),
    (1, ⟨(some 14), none, .mv (.t 31)⟩)] (some [1, 2, 6, 7, 12, 13, 14])))))))) (.seq (.ops 7 [
    (0, ⟨(some 32), none, .mv (.t 6)⟩),
    (1, ⟨(some 33), none, .mv (.t 7)⟩),
    (2, ⟨(some 34), none, .mv (.t 6)⟩),
    (3, ⟨(some 35), none, .arith .geq (.t 34) (.k (.d (.val (.int .i64 0))))⟩),
    (4, ⟨(some 6), none, .mv (.t 32)⟩),
    (5, ⟨(some 7), none, .mv (.t 33)⟩),
    (6, ⟨(some 8), none, .mv (.t 35)⟩)] (some [6, 7, 8])) .ret))))
def md42 : FuncId → Option Nat × Bool
  | _ => (none, false)
def od42 : Nat → List (List Nat) × List Nat × Option (List Nat)
  | 0 => ([], [], some [0, 1, 2])
  | 1 => ([], [], some [0, 1, 2, 6, 7])
  | 2 => ([], [], some [1, 2, 6, 7, 12, 13, 14])
  | 3 => ([], [], some [1, 2, 6, 7, 12, 13, 14, 15])
  | 4 => ([], [], some [1, 2, 6, 7, 9, 10, 12, 13, 14])
  | 5 => ([], [], some [1, 2, 6, 7, 9, 11, 12, 13, 14])
  | 6 => ([], [], some [1, 2, 6, 7, 9, 11, 12, 13, 14, 28])
  | 7 => ([], [], some [1, 2, 6, 7, 12, 13, 14])
  | 8 => ([], [], some [1, 2, 6, 7, 12, 13, 14])
  | 9 => ([], [], some [6, 7, 8])
  | _ => ([], [], none)
theorem b42 {ags : List AV} {row : Option (List DV)} {r : AV} {row' nw : Option (List DV)} (hal : ags.length ≤ 36) (hrow : row'.isSome = true → row.isSome = true) (h : xwp Try.prog x42 (retK [.tmp 6, .tmp 7, .tmp 8] row.isSome r row' nw) (St.init ags row)) : Good Try.prog 42 ags row r row' nw :=
  good_of_body' (md := md42) (od := od42) Try.f42 (by kernel_rfl) (by kernel_rfl) (by kernel_rfl) (by kernel_rfl) (by kernel_rfl) hal hrow h

def x83 : XC := (.seq (.ops 1 [
    (0, ⟨(some 2), none, .alloc [(.int .i64 0), (.int .u64 0), (.int .u64 0), (.int .u64 0), (.int .u64 0), (.int .i64 0), (.int .i64 0), (.slice none 0 0)]⟩)] (some [0, 2])) (.seq (.ops 10 [
    (0, ⟨(some 7), none, .mv (.t 0)⟩),
    (1, ⟨(some 8), none, .call 118 [(.t 7)] none false⟩),
    (2, ⟨(some 6), none, .mv (.t 8)⟩),
    (3, ⟨(some 9), none, .ext (.t 6) 0⟩),
    (4, ⟨(some 10), none, .ext (.t 6) 1⟩),
    (5, ⟨(some 11), none, .ext (.t 6) 2⟩),
    (6, ⟨(some 3), none, .alloc [(.int .i64 0), (.int .u64 0), (.int .u64 0), (.int .u64 0), (.int .u64 0), (.int .i64 0), (.int .i64 0), (.slice none 0 0)]⟩),
    (7, ⟨none, none, .store 8 (.t 3) (.t 9)⟩),
    (8, ⟨(some 4), none, .mv (.t 10)⟩),
    (9, ⟨(some 5), none, .mv (.t 11)⟩)] (some [2, 3])) (.seq (.ops 2 [
    (0, ⟨(some 12), none, .load (some 8) (.t 3)⟩),
    (1, ⟨none, none, .store 8 (.t 2) (.t 12)⟩)] (some [2])) .ret)))
def md83 : FuncId → Option Nat × Bool
  | _ => (none, false)
def od83 : Nat → List (List Nat) × List Nat × Option (List Nat)
  | 0 => ([], [], some [0, 2])
  | 1 => ([], [], some [2, 3])
  | 2 => ([], [], some [2])
  | _ => ([], [], none)
theorem b83 {ags : List AV} {row : Option (List DV)} {r : AV} {row' nw : Option (List DV)} (hal : ags.length ≤ 13) (hrow : row'.isSome = true → row.isSome = true) (h : xwp Try.prog x83 (retK [.cell 2 (some 8)] row.isSome r row' nw) (St.init ags row)) : Good Try.prog 83 ags row r row' nw :=
  good_of_body' (md := md83) (od := od83) Try.f83 (by kernel_rfl) (by kernel_rfl) (by kernel_rfl) (by kernel_rfl) (by kernel_rfl) hal hrow h

def x119 : XC := (.seq (.ops 1 [
    (0, ⟨(some 4), none, .alloc [(.int .u64 0), (.int .u64 0), (.int .u64 0), (.int .u64 0)]⟩)] (some [0, 1, 4])) (.seq (.seq (.ops 3 [
    (0, ⟨(some 6), none, .mv (.t 0)⟩),
    (1, ⟨(some 7), none, .conv .i64 (.t 6)⟩),
    (2, ⟨(some 5), none, .mv (.t 7)⟩)] (some [1, 4, 5])) (.block 0 (.loop (.seq (.seq (.ops 4 [
    (0, ⟨(some 8), none, .mv (.t 5)⟩),
    (1, ⟨(some 9), none, .mv (.t 1)⟩),
    (2, ⟨(some 10), none, .conv .i64 (.t 9)⟩),
    (3, ⟨(some 11), none, .arith .leq (.t 8) (.t 10)⟩)] (some [1, 4, 5, 11])) (.cond (.t 11) .skip (.exit 0))) (.seq (.block 1 (.ops 10 [
    (0, ⟨(some 14), none, .mv (.t 5)⟩),
    (1, ⟨(some 15), none, .arith .quo (.t 14) (.k (.d (.val (.int .i64 64))))⟩),
    (2, ⟨(some 16), none, .idxP 4 1 (.t 4) (.t 15)⟩),
    (3, ⟨(some 17), none, .load none (.t 16)⟩),
    (4, ⟨(some 18), none, .mv (.t 5)⟩),
    (5, ⟨(some 19), none, .arith .rem (.t 18) (.k (.d (.val (.int .i64 64))))⟩),
    (6, ⟨(some 20), none, .arith .shl (.k (.d (.val (.int .u64 1)))) (.t 19)⟩),
    (7, ⟨(some 21), none, .arith .or (.t 17) (.t 20)⟩),
    (8, ⟨(some 22), none, .idxP 4 1 (.t 4) (.t 15)⟩),
    (9, ⟨none, none, .store 1 (.t 22) (.t 21)⟩)] (some [1, 4, 5]))) (.ops 3 [
    (0, ⟨(some 12), none, .mv (.t 5)⟩),
    (1, ⟨(some 13), none, .arith .add (.t 12) (.k (.d (.val (.int .i64 1))))⟩),
    (2, ⟨(some 5), none, .mv (.t 13)⟩)] (some [1, 4, 5]))))))) (.seq (.ops 2 [
    (0, ⟨(some 23), none, .load (some 4) (.t 4)⟩),
    (1, ⟨none, none, .store 4 (.t 4) (.t 23)⟩)] (some [4])) .ret)))
def md119 : FuncId → Option Nat × Bool
  | _ => (none, false)
def od119 : Nat → List (List Nat) × List Nat × Option (List Nat)
  | 0 => ([], [], some [0, 1, 4])
  | 1 => ([], [], some [1, 4, 5])
  | 2 => ([], [], some [1, 4, 5, 11])
  | 3 => ([], [], some [1, 4, 5])
  | 4 => ([[], [0], [0, 1], [0, 1, 2], [], [4], [4, 5], [0, 1, 2, 3, 4, 5, 6], [0, 1, 2, 3, 4, 5, 6, 7], [0, 1, 2, 3, 4, 5, 6, 7, 8]], [0, 1, 2, 3, 4, 5, 6, 7, 8, 9], some [1, 4, 5])
  | 5 => ([], [], some [4])
  | _ => ([], [], none)
theorem b119 {ags : List AV} {row : Option (List DV)} {r : AV} {row' nw : Option (List DV)} (hal : ags.length ≤ 24) (hrow : row'.isSome = true → row.isSome = true) (h : xwp Try.prog x119 (retK [.cell 4 (some 4)] row.isSome r row' nw) (St.init ags row)) : Good Try.prog 119 ags row r row' nw :=
  good_of_body' (md := md119) (od := od119) Try.f119 (by kernel_rfl) (by kernel_rfl) (by kernel_rfl) (by kernel_rfl) (by kernel_rfl) hal hrow h

def x149 : XC := (.seq (.ops 1 [
    (0, ⟨(some 2), none, .alloc [(.int .i64 0), (.int .u64 0), (.int .u64 0), (.int .u64 0), (.int .u64 0), (.int .i64 0), (.int .i64 0), (.slice none 0 0)]⟩)] (some [0, 2])) (.seq (.ops 4 [
    (0, ⟨(some 4), none, .mv (.t 0)⟩),
    (1, ⟨(some 5), none, .call 162 [(.t 4)] (some 0) false⟩),
    (2, ⟨(some 6), none, .mkrow [(.int .i64 0), (.int .u64 0), (.int .u64 0), (.int .u64 0), (.int .u64 0), (.int .i64 0), (.int .i64 0), (.slice none 0 0)] 1 8 [(0, 8, (.t 5))]⟩),
    (3, ⟨(some 3), none, .mv (.t 6)⟩)] (some [0, 2, 3])) (.seq (.block 0 (.loop (.seq (.seq (.ops 2 [
    (0, ⟨(some 7), none, .mv (.t 0)⟩),
    (1, ⟨(some 8), none, .call 163 [(.t 7), (.k (.d (.val (.int .u8 124))))] (some 0) false⟩)] (some [0, 2, 3, 8])) (.cond (.t 8) .skip (.exit 0))) (.block 1 (.ops 6 [
    (0, ⟨(some 9), none, .mv (.t 3)⟩),
    (1, ⟨(some 10), none, .mv (.t 0)⟩),
    (2, ⟨(some 11), none, .call 162 [(.t 10)] (some 0) false⟩),
    (3, ⟨(some 12), none, .mkrow [(.int .i64 0), (.int .u64 0), (.int .u64 0), (.int .u64 0), (.int .u64 0), (.int .i64 0), (.int .i64 0), (.slice none 0 0)] 1 8 [(0, 8, (.t 11))]⟩),
    (4, ⟨(some 13), none, .app [(.int .i64 0), (.int .u64 0), (.int .u64 0), (.int .u64 0), (.int .u64 0), (.int .i64 0), (.int .i64 0), (.slice none 0 0)] 80 (.t 9) (.t 12)⟩),
    (5, ⟨(some 3), none, .mv (.t 13)⟩)] (some [0, 2, 3])))))) (.seq (.ops 3 [
    (0, ⟨(some 14), none, .mv (.t 3)⟩),
    (1, ⟨(some 15), none, .call 164 [(.k (.d (.val (.int .i64 4)))), (.t 14)] none false⟩),
    (2, ⟨none, none, .store 8 (.t 2) (.t 15)⟩)] (some [2])) .ret))))
def md149 : FuncId → Option Nat × Bool
  | 162 => (some 0, false)
  | 163 => (some 0, false)
  | _ => (none, false)
def od149 : Nat → List (List Nat) × List Nat × Option (List Nat)
  | 0 => ([], [], some [0, 2])
  | 1 => ([], [], some [0, 2, 3])
  | 2 => ([], [], some [0, 2, 3, 8])
  | 3 => ([], [], some [0, 2, 3])
  | 4 => ([], [], some [2])
  | _ => ([], [], none)
theorem b149 {ags : List AV} {row : Option (List DV)} {r : AV} {row' nw : Option (List DV)} (hal : ags.length ≤ 16) (hrow : row'.isSome = true → row.isSome = true) (h : xwp Try.prog x149 (retK [.cell 2 (some 8)] row.isSome r row' nw) (St.init ags row)) : Good Try.prog 149 ags row r row' nw :=
  good_of_body' (md := md149) (od := od149) Try.f149 (by kernel_rfl) (by kernel_rfl) (by kernel_rfl) (by kernel_rfl) (by kernel_rfl) hal hrow h

def x150 : XC := (.seq (.ops 2 [
    (0, ⟨(some 6), none, .mv (.t 1)⟩),
    (1, ⟨(some 7), none, .un .not (.t 6)⟩)] (some [2, 7])) (.cond (.t 7) (.ops 3 [
    (0, ⟨(some 8), none, .mv (.t 2)⟩),
    (1, ⟨(some 9), none, .bad⟩),
    (2, ⟨none, none, .bad⟩)] (some [])) .skip))
def md150 : FuncId → Option Nat × Bool
  | _ => (none, false)
def od150 : Nat → List (List Nat) × List Nat × Option (List Nat)
  | 0 => ([], [], some [2, 7])
  | 1 => ([], [], some [])
  | _ => ([], [], none)
theorem b150 {ags : List AV} {row : Option (List DV)} {r : AV} {row' nw : Option (List DV)} (hal : ags.length ≤ 10) (hrow : row'.isSome = true → row.isSome = true) (h : xwp Try.prog x150 (retK [] row.isSome r row' nw) (St.init ags row)) : Good Try.prog 150 ags row r row' nw :=
  good_of_body' (md := md150) (od := od150) Try.f150 (by kernel_rfl) (by kernel_rfl) (by kernel_rfl) (by kernel_rfl) (by kernel_rfl) hal hrow h

def x162 : XC := (.seq (.ops 1 [
    (0, ⟨(some 2), none, .alloc [(.int .i64 0), (.int .u64 0), (.int .u64 0), (.int .u64 0), (.int .u64 0), (.int .i64 0), (.int .i64 0), (.slice none 0 0)]⟩)] (some [0, 2])) (.seq (.ops 1 [
    (0, ⟨(some 3), none, .mv (.k (.d (.val (.slice none 0 0))))⟩)] (some [0, 2, 3])) (.seq (.block 0 (.loop (.seq (.seq (.ops 3 [
    (0, ⟨(some 4), none, .mv (.t 0)⟩),
    (1, ⟨(some 5), none, .call 170 [(.t 4)] none false⟩),
    (2, ⟨(some 6), none, .un .not (.t 5)⟩)] (some [0, 2, 3, 6])) (.cond (.t 6) .skip (.exit 0))) (.block 1 (.ops 6 [
    (0, ⟨(some 7), none, .mv (.t 3)⟩),
    (1, ⟨(some 8), none, .mv (.t 0)⟩),
    (2, ⟨(some 9), none, .call 171 [(.t 8)] (some 0) false⟩),
    (3, ⟨(some 10), none, .mkrow [(.int .i64 0), (.int .u64 0), (.int .u64 0), (.int .u64 0), (.int .u64 0), (.int .i64 0), (.int .i64 0), (.slice none 0 0)] 1 8 [(0, 8, (.t 9))]⟩),
    (4, ⟨(some 11), none, .app [(.int .i64 0), (.int .u64 0), (.int .u64 0), (.int .u64 0), (.int .u64 0), (.int .i64 0), (.int .i64 0), (.slice none 0 0)] 80 (.t 7) (.t 10)⟩),
    (5, ⟨(some 3), none, .mv (.t 11)⟩)] (some [0, 2, 3])))))) (.seq (.ops 3 [
    (0, ⟨(some 12), none, .mv (.t 3)⟩),
    (1, ⟨(some 13), none, .call 164 [(.k (.d (.val (.int .i64 3)))), (.t 12)] none false⟩),
    (2, ⟨none, none, .store 8 (.t 2) (.t 13)⟩)] (some [2])) .ret))))
def md162 : FuncId → Option Nat × Bool
  | 171 => (some 0, false)
  | _ => (none, false)
def od162 : Nat → List (List Nat) × List Nat × Option (List Nat)
  | 0 => ([], [], some [0, 2])
  | 1 => ([], [], some [0, 2, 3])
  | 2 => ([], [], some [0, 2, 3, 6])
  | 3 => ([], [], some [0, 2, 3])
  | 4 => ([], [], some [2])
  | _ => ([], [], none)
theorem b162 {ags : List AV} {row : Option (List DV)} {r : AV} {row' nw : Option (List DV)} (hal : ags.length ≤ 14) (hrow : row'.isSome = true → row.isSome = true) (h : xwp Try.prog x162 (retK [.cell 2 (some 8)] row.isSome r row' nw) (St.init ags row)) : Good Try.prog 162 ags row r row' nw :=
  good_of_body' (md := md162) (od := od162) Try.f162 (by kernel_rfl) (by kernel_rfl) (by kernel_rfl) (by kernel_rfl) (by kernel_rfl) hal hrow h

def x163 : XC := (.seq (.ops 1 [
    (0, ⟨(some 4), none, .mv (.k (.d (.val (.bool false))))⟩)] (some [0, 1])) (.seq (.seq (.ops 5 [
    (0, ⟨(some 5), none, .mv (.t 0)⟩),
    (1, ⟨(some 6), none, .call 172 [(.t 5)] none false⟩),
    (2, ⟨(some 7), none, .mv (.t 1)⟩),
    (3, ⟨(some 8), none, .conv .i64 (.t 7)⟩),
    (4, ⟨(some 9), none, .arith .neq (.t 6) (.t 8)⟩)] (some [0, 9])) (.cond (.t 9) (.seq (.ops 1 [
    (0, ⟨(some 4), none, .mv (.k (.d (.val (.bool false))))⟩)] (some [4])) .ret) .skip)) (.seq (.ops 8 [
    (0, ⟨(some 10), none, .mv (.t 0)⟩),
    (1, ⟨(some 11), none, .nilck (.t 10)⟩),
    (2, ⟨(some 12), none, .fadd 1 (.t 11)⟩),
    (3, ⟨(some 13), none, .load none (.t 12)⟩),
    (4, ⟨(some 14), none, .arith .add (.t 13) (.k (.d (.val (.int .i64 1))))⟩),
    (5, ⟨(some 15), none, .nilck (.t 10)⟩),
    (6, ⟨(some 16), none, .fadd 1 (.t 15)⟩),
    (7, ⟨none, none, .store 1 (.t 16) (.t 14)⟩)] (some [])) (.seq (.ops 1 [
    (0, ⟨(some 4), none, .mv (.k (.d (.val (.bool true))))⟩)] (some [4])) .ret))))
def md163 : FuncId → Option Nat × Bool
  | _ => (none, false)
def od163 : Nat → List (List Nat) × List Nat × Option (List Nat)
  | 0 => ([], [], some [0, 1])
  | 1 => ([], [], some [0, 9])
  | 2 => ([], [], some [4])
  | 3 => ([], [], some [])
  | 4 => ([], [], some [4])
  | _ => ([], [], none)
theorem b163 {ags : List AV} {row : Option (List DV)} {r : AV} {row' nw : Option (List DV)} (hal : ags.length ≤ 17) (hrow : row'.isSome = true → row.isSome = true) (h : xwp Try.prog x163 (retK [.tmp 4] row.isSome r row' nw) (St.init ags row)) : Good Try.prog 163 ags row r row' nw :=
  good_of_body' (md := md163) (od := od163) Try.f163 (by kernel_rfl) (by kernel_rfl) (by kernel_rfl) (by kernel_rfl) (by kernel_rfl) hal hrow h

def x164 : XC := (.seq (.ops 1 [
    (0, ⟨(some 4), none, .alloc [(.int .i64 0), (.int .u64 0), (.int .u64 0), (.int .u64 0), (.int .u64 0), (.int .i64 0), (.int .i64 0), (.slice none 0 0)]⟩)] (some [0, 1, 4])) (.seq (.block 0 (.seq (.ops 4 [
    (0, ⟨(some 6), none, .mv (.t 1)⟩),
    (1, ⟨(some 7), none, .lenS (.t 6)⟩),
    (2, ⟨(some 8), none, .arith .eql (.t 7) (.k (.d (.val (.int .i64 0))))⟩),
    (3, ⟨(some 5), none, .mv (.t 8)⟩)] (some [0, 1, 4, 5])) (.cond (.t 5) (.seq (.ops 2 [
    (0, ⟨(some 9), none, .build [(.int .i64 0), (.int .u64 0), (.int .u64 0), (.int .u64 0), (.int .u64 0), (.int .i64 0), (.int .i64 0), (.slice none 0 0)] [(0, 1, (.k (.d (.val (.int .i64 1)))))]⟩),
    (1, ⟨none, none, .store 8 (.t 4) (.t 9)⟩)] (some [4])) .ret) (.seq (.ops 4 [
    (0, ⟨(some 11), none, .mv (.t 1)⟩),
    (1, ⟨(some 12), none, .lenS (.t 11)⟩),
    (2, ⟨(some 13), none, .arith .eql (.t 12) (.k (.d (.val (.int .i64 1))))⟩),
    (3, ⟨(some 10), none, .mv (.t 13)⟩)] (some [0, 1, 4, 10])) (.cond (.t 10) (.seq (.ops 4 [
    (0, ⟨(some 14), none, .mv (.t 1)⟩),
    (1, ⟨(some 15), none, .idxS 8 (.t 14) (.k (.d (.val (.int .i64 0))))⟩),
    (2, ⟨(some 16), none, .load (some 8) (.t 15)⟩),
    (3, ⟨none, none, .store 8 (.t 4) (.t 16)⟩)] (some [4])) .ret) .skip))))) (.seq (.ops 4 [
    (0, ⟨(some 17), none, .mv (.t 0)⟩),
    (1, ⟨(some 18), none, .mv (.t 1)⟩),
    (2, ⟨(some 19), none, .build [(.int .i64 0), (.int .u64 0), (.int .u64 0), (.int .u64 0), (.int .u64 0), (.int .i64 0), (.int .i64 0), (.slice none 0 0)] [(0, 1, (.t 17)), (7, 1, (.t 18))]⟩),
    (3, ⟨none, none, .store 8 (.t 4) (.t 19)⟩)] (some [4])) .ret)))
def md164 : FuncId → Option Nat × Bool
  | _ => (none, false)
def od164 : Nat → List (List Nat) × List Nat × Option (List Nat)
  | 0 => ([], [], some [0, 1, 4])
  | 1 => ([], [], some [0, 1, 4, 5])
  | 2 => ([], [], some [4])
  | 3 => ([], [], some [0, 1, 4, 10])
  | 4 => ([], [], some [4])
  | 5 => ([], [], some [4])
  | _ => ([], [], none)
theorem b164 {ags : List AV} {row : Option (List DV)} {r : AV} {row' nw : Option (List DV)} (hal : ags.length ≤ 20) (hrow : row'.isSome = true → row.isSome = true) (h : xwp Try.prog x164 (retK [.cell 4 (some 8)] row.isSome r row' nw) (St.init ags row)) : Good Try.prog 164 ags row r row' nw :=
  good_of_body' (md := md164) (od := od164) Try.f164 (by kernel_rfl) (by kernel_rfl) (by kernel_rfl) (by kernel_rfl) (by kernel_rfl) hal hrow h

def x170 : XC := (.seq (.ops 1 [
    (0, ⟨(some 2), none, .mv (.k (.d (.val (.bool false))))⟩)] (some [0])) (.seq (.ops 3 [
    (0, ⟨(some 4), none, .mv (.t 0)⟩),
    (1, ⟨(some 5), none, .call 172 [(.t 4)] none false⟩),
    (2, ⟨(some 3), none, .mv (.t 5)⟩)] (some [3])) (.seq (.ops 11 [
    (0, ⟨(some 6), none, .mv (.t 3)⟩),
    (1, ⟨(some 7), none, .arith .lss (.t 6) (.k (.d (.val (.int .i64 0))))⟩),
    (2, ⟨(some 8), none, .mv (.t 7)⟩),
    (3, ⟨(some 9), (some (8, false)), .mv (.t 3)⟩),
    (4, ⟨(some 10), (some (8, false)), .arith .eql (.t 9) (.k (.d (.val (.int .i64 124))))⟩),
    (5, ⟨(some 11), none, .pick (.t 8) (.k (.d (.val (.bool true)))) (.t 10)⟩),
    (6, ⟨(some 12), none, .mv (.t 11)⟩),
    (7, ⟨(some 13), (some (12, false)), .mv (.t 3)⟩),
    (8, ⟨(some 14), (some (12, false)), .arith .eql (.t 13) (.k (.d (.val (.int .i64 41))))⟩),
    (9, ⟨(some 15), none, .pick (.t 12) (.k (.d (.val (.bool true)))) (.t 14)⟩),
    (10, ⟨(some 2), none, .mv (.t 15)⟩)] (some [2])) .ret)))
def md170 : FuncId → Option Nat × Bool
  | _ => (none, false)
def od170 : Nat → List (List Nat) × List Nat × Option (List Nat)
  | 0 => ([], [], some [0])
  | 1 => ([], [], some [3])
  | 2 => ([], [], some [2])
  | _ => ([], [], none)
theorem b170 {ags : List AV} {row : Option (List DV)} {r : AV} {row' nw : Option (List DV)} (hal : ags.length ≤ 16) (hrow : row'.isSome = true → row.isSome = true) (h : xwp Try.prog x170 (retK [.tmp 2] row.isSome r row' nw) (St.init ags row)) : Good Try.prog 170 ags row r row' nw :=
  good_of_body' (md := md170) (od := od170) Try.f170 (by kernel_rfl) (by kernel_rfl) (by kernel_rfl) (by kernel_rfl) (by kernel_rfl) hal hrow h

def x171 : XC := (.seq (.ops 1 [
    (0, ⟨(some 2), none, .alloc [(.int .i64 0), (.int .u64 0), (.int .u64 0), (.int .u64 0), (.int .u64 0), (.int .i64 0), (.int .i64 0), (.slice none 0 0)]⟩)] (some [0, 2])) (.seq (.ops 4 [
    (0, ⟨(some 5), none, .mv (.t 0)⟩),
    (1, ⟨(some 6), none, .call 176 [(.t 5)] (some 0) false⟩),
    (2, ⟨(some 3), none, .alloc [(.int .i64 0), (.int .u64 0), (.int .u64 0), (.int .u64 0), (.int .u64 0), (.int .i64 0), (.int .i64 0), (.slice none 0 0)]⟩),
    (3, ⟨none, none, .store 8 (.t 3) (.t 6)⟩)] (some [0, 2, 3])) (.seq (.ops 5 [
    (0, ⟨(some 7), none, .load (some 8) (.t 3)⟩),
    (1, ⟨(some 8), none, .mkrow [(.int .i64 0), (.int .u64 0), (.int .u64 0), (.int .u64 0), (.int .u64 0), (.int .i64 0), (.int .i64 0), (.slice none 0 0)] 1 8 [(0, 8, (.t 7))]⟩),
    (2, ⟨(some 9), none, .build [(.int .i64 0), (.int .u64 0), (.int .u64 0), (.int .u64 0), (.int .u64 0), (.int .i64 0), (.int .i64 0), (.slice none 0 0)] [(0, 1, (.k (.d (.val (.int .i64 5))))), (6, 1, (.k (.d (.val (.int .i64 (-1)))))), (7, 1, (.t 8))]⟩),
    (3, ⟨(some 4), none, .alloc [(.int .i64 0), (.int .u64 0), (.int .u64 0), (.int .u64 0), (.int .u64 0), (.int .i64 0), (.int .i64 0), (.slice none 0 0)]⟩),
    (4, ⟨none, none, .store 8 (.t 4) (.t 9)⟩)] (some [0, 2, 3, 4])) (.seq (.block 0 (.seq (.ops 3 [
    (0, ⟨(some 12), none, .mv (.t 0)⟩),
    (1, ⟨(some 13), none, .call 163 [(.t 12), (.k (.d (.val (.int .u8 42))))] (some 0) false⟩),
    (2, ⟨(some 11), none, .mv (.t 13)⟩)] (some [0, 2, 3, 4, 11])) (.cond (.t 11) .skip (.seq (.ops 3 [
    (0, ⟨(some 15), none, .mv (.t 0)⟩),
    (1, ⟨(some 16), none, .call 163 [(.t 15), (.k (.d (.val (.int .u8 43))))] (some 0) false⟩),
    (2, ⟨(some 14), none, .mv (.t 16)⟩)] (some [0, 2, 3, 4, 14])) (.cond (.t 14) (.ops 2 [
    (0, ⟨(some 17), none, .fadd 5 (.t 4)⟩),
    (1, ⟨none, none, .store 1 (.t 17) (.k (.d (.val (.int .i64 1))))⟩)] (some [2, 4])) (.seq (.ops 3 [
    (0, ⟨(some 19), none, .mv (.t 0)⟩),
    (1, ⟨(some 20), none, .call 163 [(.t 19), (.k (.d (.val (.int .u8 63))))] (some 0) false⟩),
    (2, ⟨(some 18), none, .mv (.t 20)⟩)] (some [0, 2, 3, 4, 18])) (.cond (.t 18) (.ops 2 [
    (0, ⟨(some 21), none, .fadd 6 (.t 4)⟩),
    (1, ⟨none, none, .store 1 (.t 21) (.k (.d (.val (.int .i64 1))))⟩)] (some [2, 4])) (.seq (.ops 3 [
    (0, ⟨(some 23), none, .mv (.t 0)⟩),
    (1, ⟨(some 24), none, .call 163 [(.t 23), (.k (.d (.val (.int .u8 123))))] (some 0) false⟩),
    (2, ⟨(some 22), none, .mv (.t 24)⟩)] (some [0, 2, 3, 4, 22])) (.cond (.t 22) (.ops 9 [
    (0, ⟨(some 26), none, .mv (.t 0)⟩),
    (1, ⟨(some 27), none, .call 177 [(.t 26)] (some 0) false⟩),
    (2, ⟨(some 25), none, .mv (.t 27)⟩),
    (3, ⟨(some 28), none, .ext (.t 25) 0⟩),
    (4, ⟨(some 29), none, .ext (.t 25) 1⟩),
    (5, ⟨(some 30), none, .fadd 5 (.t 4)⟩),
    (6, ⟨none, none, .store 1 (.t 30) (.t 28)⟩),
    (7, ⟨(some 31), none, .fadd 6 (.t 4)⟩),
    (8, ⟨none, none, .store 1 (.t 31) (.t 29)⟩)] (some [2, 4])) (.seq (.ops 2 [
    (0, ⟨(some 10), none, .load (some 8) (.t 3)⟩),
    (1, ⟨none, none, .store 8 (.t 2) (.t 10)⟩)] (some [2])) .ret)))))))))) (.seq (.ops 2 [
    (0, ⟨(some 32), none, .load (some 8) (.t 4)⟩),
    (1, ⟨none, none, .store 8 (.t 2) (.t 32)⟩)] (some [2])) .ret)))))
def md171 : FuncId → Option Nat × Bool
  | 163 => (some 0, false)
  | 176 => (some 0, false)
  | 177 => (some 0, false)
  | _ => (none, false)
def od171 : Nat → List (List Nat) × List Nat × Option (List Nat)
  | 0 => ([], [], some [0, 2])
  | 1 => ([], [], some [0, 2, 3])
  | 2 => ([], [], some [0, 2, 3, 4])
  | 3 => ([], [], some [2])
  | 4 => ([], [], some [0, 2, 3, 4, 11])
  | 5 => ([], [], some [0, 2, 3, 4, 14])
  | 6 => ([], [], some [2, 4])
  | 7 => ([], [], some [0, 2, 3, 4, 18])
  | 8 => ([], [], some [2, 4])
  | 9 => ([], [], some [0, 2, 3, 4, 22])
  | 10 => ([], [], some [2, 4])
  | 11 => ([], [], some [2])
  | _ => ([], [], none)
theorem b171 {ags : List AV} {row : Option (List DV)} {r : AV} {row' nw : Option (List DV)} (hal : ags.length ≤ 33) (hrow : row'.isSome = true → row.isSome = true) (h : xwp Try.prog x171 (retK [.cell 2 (some 8)] row.isSome r row' nw) (St.init ags row)) : Good Try.prog 171 ags row r row' nw :=
  good_of_body' (md := md171) (od := od171) Try.f171 (by kernel_rfl) (by kernel_rfl) (by kernel_rfl) (by kernel_rfl) (by kernel_rfl) hal hrow h

def x172 : XC := (.seq (.ops 1 [
    (0, ⟨(some 2), none, .mv (.k (.d (.val (.int .i64 0))))⟩)] (some [0])) (.seq (.seq (.ops 10 [
    (0, ⟨(some 3), none, .mv (.t 0)⟩),
    (1, ⟨(some 4), none, .nilck (.t 3)⟩),
    (2, ⟨(some 5), none, .fadd 1 (.t 4)⟩),
    (3, ⟨(some 6), none, .load none (.t 5)⟩),
    (4, ⟨(some 7), none, .mv (.t 0)⟩),
    (5, ⟨(some 8), none, .nilck (.t 7)⟩),
    (6, ⟨(some 9), none, .fadd 0 (.t 8)⟩),
    (7, ⟨(some 10), none, .load none (.t 9)⟩),
    (8, ⟨(some 11), none, .lenT (.t 10)⟩),
    (9, ⟨(some 12), none, .arith .geq (.t 6) (.t 11)⟩)] (some [0, 12])) (.cond (.t 12) (.seq (.ops 1 [
    (0, ⟨(some 2), none, .mv (.k (.d (.val (.int .i64 (-1)))))⟩)] (some [2])) .ret) .skip)) (.seq (.ops 11 [
    (0, ⟨(some 13), none, .mv (.t 0)⟩),
    (1, ⟨(some 14), none, .nilck (.t 13)⟩),
    (2, ⟨(some 15), none, .fadd 0 (.t 14)⟩),
    (3, ⟨(some 16), none, .load none (.t 15)⟩),
    (4, ⟨(some 17), none, .mv (.t 0)⟩),
    (5, ⟨(some 18), none, .nilck (.t 17)⟩),
    (6, ⟨(some 19), none, .fadd 1 (.t 18)⟩),
    (7, ⟨(some 20), none, .load none (.t 19)⟩),
    (8, ⟨(some 21), none, .idxT (.t 16) (.t 20)⟩),
    (9, ⟨(some 22), none, .conv .i64 (.t 21)⟩),
    (10, ⟨(some 2), none, .mv (.t 22)⟩)] (some [2])) .ret)))
def md172 : FuncId → Option Nat × Bool
  | _ => (none, false)
def od172 : Nat → List (List Nat) × List Nat × Option (List Nat)
  | 0 => ([], [], some [0])
  | 1 => ([[], [0], [0, 1], [0, 1, 2], [], [4], [4, 5], [4, 5, 6], [4, 5, 6, 7], [0, 1, 2, 3, 4, 5, 6, 7, 8]], [0, 1, 2, 3, 4, 5, 6, 7, 8, 9], some [0, 12])
  | 2 => ([], [], some [2])
  | 3 => ([[], [0], [0, 1], [0, 1, 2], [], [4], [4, 5], [4, 5, 6], [0, 1, 2, 3, 4, 5, 6, 7], [0, 1, 2, 3, 4, 5, 6, 7, 8], [0, 1, 2, 3, 4, 5, 6, 7, 8, 9]], [0, 1, 2, 3, 4, 5, 6, 7, 8, 9, 10], some [2])
  | _ => ([], [], none)
theorem b172 {ags : List AV} {row : Option (List DV)} {r : AV} {row' nw : Option (List DV)} (hal : ags.length ≤ 23) (hrow : row'.isSome = true → row.isSome = true) (h : xwp Try.prog x172 (retK [.tmp 2] row.isSome r row' nw) (St.init ags row)) : Good Try.prog 172 ags row r row' nw :=
  good_of_body' (md := md172) (od := od172) Try.f172 (by kernel_rfl) (by kernel_rfl) (by kernel_rfl) (by kernel_rfl) (by kernel_rfl) hal hrow h

def x176 : XC := (.seq (.ops 1 [
    (0, ⟨(some 2), none, .alloc [(.int .i64 0), (.int .u64 0), (.int .u64 0), (.int .u64 0), (.int .u64 0), (.int .i64 0), (.int .i64 0), (.slice none 0 0)]⟩)] (some [0, 2])) (.seq (.block 0 (.seq (.ops 4 [
    (0, ⟨(some 5), none, .mv (.t 0)⟩),
    (1, ⟨(some 6), none, .call 172 [(.t 5)] none false⟩),
    (2, ⟨(some 7), none, .arith .eql (.t 6) (.k (.d (.val (.int .i64 40))))⟩),
    (3, ⟨(some 4), none, .mv (.t 7)⟩)] (some [0, 2, 4])) (.cond (.t 4) (.seq (.ops 11 [
    (0, ⟨(some 8), none, .mv (.t 0)⟩),
    (1, ⟨(some 9), none, .mv (.t 0)⟩),
    (2, ⟨(some 10), none, .nilck (.t 9)⟩),
    (3, ⟨(some 11), none, .fadd 2 (.t 10)⟩),
    (4, ⟨(some 12), none, .load none (.t 11)⟩),
    (5, ⟨(some 13), none, .arith .lss (.t 12) (.k (.d (.val (.int .i64 12))))⟩),
    (6, ⟨(some 14), none, .mv (.t 0)⟩),
    (7, ⟨(some 15), none, .nilck (.t 14)⟩),
    (8, ⟨(some 16), none, .fadd 1 (.t 15)⟩),
    (9, ⟨(some 17), none, .load none (.t 16)⟩),
    (10, ⟨(some 18), none, .call 150 [(.t 8), (.t 13), (.t 17)] none false⟩)] (some [0, 2])) (.seq (.ops 8 [
    (0, ⟨(some 19), none, .mv (.t 0)⟩),
    (1, ⟨(some 20), none, .nilck (.t 19)⟩),
    (2, ⟨(some 21), none, .fadd 1 (.t 20)⟩),
    (3, ⟨(some 22), none, .load none (.t 21)⟩),
    (4, ⟨(some 23), none, .arith .add (.t 22) (.k (.d (.val (.int .i64 1))))⟩),
    (5, ⟨(some 24), none, .nilck (.t 19)⟩),
    (6, ⟨(some 25), none, .fadd 1 (.t 24)⟩),
    (7, ⟨none, none, .store 1 (.t 25) (.t 23)⟩)] (some [0, 2])) (.seq (.ops 8 [
    (0, ⟨(some 26), none, .mv (.t 0)⟩),
    (1, ⟨(some 27), none, .nilck (.t 26)⟩),
    (2, ⟨(some 28), none, .fadd 2 (.t 27)⟩),
    (3, ⟨(some 29), none, .load none (.t 28)⟩),
    (4, ⟨(some 30), none, .arith .add (.t 29) (.k (.d (.val (.int .i64 1))))⟩),
    (5, ⟨(some 31), none, .nilck (.t 26)⟩),
    (6, ⟨(some 32), none, .fadd 2 (.t 31)⟩),
    (7, ⟨none, none, .store 1 (.t 32) (.t 30)⟩)] (some [0, 2])) (.seq (.ops 4 [
    (0, ⟨(some 33), none, .mv (.t 0)⟩),
    (1, ⟨(some 34), none, .call 149 [(.t 33)] (some 0) false⟩),
    (2, ⟨(some 3), none, .alloc [(.int .i64 0), (.int .u64 0), (.int .u64 0), (.int .u64 0), (.int .u64 0), (.int .i64 0), (.int .i64 0), (.slice none 0 0)]⟩),
    (3, ⟨none, none, .store 8 (.t 3) (.t 34)⟩)] (some [0, 2, 3])) (.seq (.ops 8 [
    (0, ⟨(some 35), none, .mv (.t 0)⟩),
    (1, ⟨(some 36), none, .nilck (.t 35)⟩),
    (2, ⟨(some 37), none, .fadd 2 (.t 36)⟩),
    (3, ⟨(some 38), none, .load none (.t 37)⟩),
    (4, ⟨(some 39), none, .arith .sub (.t 38) (.k (.d (.val (.int .i64 1))))⟩),
    (5, ⟨(some 40), none, .nilck (.t 35)⟩),
    (6, ⟨(some 41), none, .fadd 2 (.t 40)⟩),
    (7, ⟨none, none, .store 1 (.t 41) (.t 39)⟩)] (some [0, 2, 3])) (.seq (.ops 2 [
    (0, ⟨(some 42), none, .mv (.t 0)⟩),
    (1, ⟨(some 43), none, .call 178 [(.t 42), (.k (.d (.val (.int .u8 41))))] (some 0) false⟩)] (some [2, 3])) (.seq (.ops 2 [
    (0, ⟨(some 44), none, .load (some 8) (.t 3)⟩),
    (1, ⟨none, none, .store 8 (.t 2) (.t 44)⟩)] (some [2])) .ret))))))) (.seq (.ops 3 [
    (0, ⟨(some 46), none, .mv (.t 0)⟩),
    (1, ⟨(some 47), none, .call 163 [(.t 46), (.k (.d (.val (.int .u8 46))))] (some 0) false⟩),
    (2, ⟨(some 45), none, .mv (.t 47)⟩)] (some [0, 2, 45])) (.cond (.t 45) (.seq (.ops 3 [
    (0, ⟨(some 48), none, .call 119 [(.k (.d (.val (.int .u8 0)))), (.k (.d (.val (.int .u8 255))))] none false⟩),
    (1, ⟨(some 49), none, .build [(.int .i64 0), (.int .u64 0), (.int .u64 0), (.int .u64 0), (.int .u64 0), (.int .i64 0), (.int .i64 0), (.slice none 0 0)] [(0, 1, (.k (.d (.val (.int .i64 2))))), (1, 4, (.t 48))]⟩),
    (2, ⟨none, none, .store 8 (.t 2) (.t 49)⟩)] (some [2])) .ret) (.seq (.ops 3 [
    (0, ⟨(some 51), none, .mv (.t 0)⟩),
    (1, ⟨(some 52), none, .call 163 [(.t 51), (.k (.d (.val (.int .u8 91))))] (some 0) false⟩),
    (2, ⟨(some 50), none, .mv (.t 52)⟩)] (some [0, 2, 50])) (.cond (.t 50) (.seq (.ops 4 [
    (0, ⟨(some 53), none, .mv (.t 0)⟩),
    (1, ⟨(some 54), none, .call 179 [(.t 53)] (some 0) false⟩),
    (2, ⟨(some 55), none, .build [(.int .i64 0), (.int .u64 0), (.int .u64 0), (.int .u64 0), (.int .u64 0), (.int .i64 0), (.int .i64 0), (.slice none 0 0)] [(0, 1, (.k (.d (.val (.int .i64 2))))), (1, 4, (.t 54))]⟩),
    (3, ⟨none, none, .store 8 (.t 2) (.t 55)⟩)] (some [2])) .ret) .skip))))))) (.seq (.ops 5 [
    (0, ⟨(some 56), none, .mv (.t 0)⟩),
    (1, ⟨(some 57), none, .call 181 [(.t 56)] (some 0) false⟩),
    (2, ⟨(some 58), none, .call 180 [(.t 57)] none false⟩),
    (3, ⟨(some 59), none, .build [(.int .i64 0), (.int .u64 0), (.int .u64 0), (.int .u64 0), (.int .u64 0), (.int .i64 0), (.int .i64 0), (.slice none 0 0)] [(0, 1, (.k (.d (.val (.int .i64 2))))), (1, 4, (.t 58))]⟩),
    (4, ⟨none, none, .store 8 (.t 2) (.t 59)⟩)] (some [2])) .ret)))
def md176 : FuncId → Option Nat × Bool
  | 149 => (some 0, false)
  | 163 => (some 0, false)
  | 178 => (some 0, false)
  | 179 => (some 0, false)
  | 181 => (some 0, false)
  | _ => (none, false)
def od176 : Nat → List (List Nat) × List Nat × Option (List Nat)
  | 0 => ([], [], some [0, 2])
  | 1 => ([], [], some [0, 2, 4])
  | 2 => ([[], [], [1], [1, 2], [1, 2, 3], [1, 2, 3, 4], [], [6], [6, 7], [6, 7, 8], [0, 1, 2, 3, 4, 5, 6, 7, 8, 9]], [0, 1, 2, 3, 4, 5, 6, 7, 8, 9, 10], some [0, 2])
  | 3 => ([], [], some [0, 2])
  | 4 => ([], [], some [0, 2])
  | 5 => ([], [], some [0, 2, 3])
  | 6 => ([], [], some [0, 2, 3])
  | 7 => ([], [], some [2, 3])
  | 8 => ([], [], some [2])
  | 9 => ([], [], some [0, 2, 45])
  | 10 => ([], [], some [2])
  | 11 => ([], [], some [0, 2, 50])
  | 12 => ([], [], some [2])
  | 13 => ([], [], some [2])
  | _ => ([], [], none)
theorem b176 {ags : List AV} {row : Option (List DV)} {r : AV} {row' nw : Option (List DV)} (hal : ags.length ≤ 60) (hrow : row'.isSome = true → row.isSome = true) (h : xwp Try.prog x176 (retK [.cell 2 (some 8)] row.isSome r row' nw) (St.init ags row)) : Good Try.prog 176 ags row r row' nw :=
  good_of_body' (md := md176) (od := od176) Try.f176 (by kernel_rfl) (by kernel_rfl) (by kernel_rfl) (by kernel_rfl) (by kernel_rfl) hal hrow h

def x177 : XC := (.seq (.ops 2 [
    (0, ⟨(some 2), none, .mv (.k (.d (.val (.int .i64 0))))⟩),
    (1, ⟨(some 3), none, .mv (.k (.d (.val (.int .i64 0))))⟩)] (some [0])) (.seq (.ops 3 [
    (0, ⟨(some 5), none, .mv (.t 0)⟩),
    (1, ⟨(some 6), none, .call 182 [(.t 5)] (some 0) false⟩),
    (2, ⟨(some 2), none, .mv (.t 6)⟩)] (some [0, 2])) (.seq (.ops 2 [
    (0, ⟨(some 7), none, .mv (.t 2)⟩),
    (1, ⟨(some 3), none, .mv (.t 7)⟩)] (some [0, 2, 3])) (.seq (.seq (.ops 2 [
    (0, ⟨(some 8), none, .mv (.t 0)⟩),
    (1, ⟨(some 9), none, .call 163 [(.t 8), (.k (.d (.val (.int .u8 44))))] (some 0) false⟩)] (some [0, 2, 3, 9])) (.cond (.t 9) (.seq (.ops 1 [
    (0, ⟨(some 3), none, .mv (.k (.d (.val (.int .i64 (-1)))))⟩)] (some [0, 2, 3])) (.seq (.ops 3 [
    (0, ⟨(some 10), none, .mv (.t 0)⟩),
    (1, ⟨(some 11), none, .call 172 [(.t 10)] none false⟩),
    (2, ⟨(some 12), none, .arith .neq (.t 11) (.k (.d (.val (.int .i64 125))))⟩)] (some [0, 2, 3, 12])) (.cond (.t 12) (.seq (.ops 5 [
    (0, ⟨(some 13), none, .mv (.t 0)⟩),
    (1, ⟨(some 14), none, .nilck (.t 13)⟩),
    (2, ⟨(some 15), none, .fadd 1 (.t 14)⟩),
    (3, ⟨(some 16), none, .load none (.t 15)⟩),
    (4, ⟨(some 4), none, .mv (.t 16)⟩)] (some [0, 2, 4])) (.seq (.ops 3 [
    (0, ⟨(some 17), none, .mv (.t 0)⟩),
    (1, ⟨(some 18), none, .call 182 [(.t 17)] (some 0) false⟩),
    (2, ⟨(some 3), none, .mv (.t 18)⟩)] (some [0, 2, 3, 4])) (.ops 6 [
    (0, ⟨(some 19), none, .mv (.t 0)⟩),
    (1, ⟨(some 20), none, .mv (.t 3)⟩),
    (2, ⟨(some 21), none, .mv (.t 2)⟩),
    (3, ⟨(some 22), none, .arith .geq (.t 20) (.t 21)⟩),
    (4, ⟨(some 23), none, .mv (.t 4)⟩),
    (5, ⟨(some 24), none, .call 150 [(.t 19), (.t 22), (.t 23)] none false⟩)] (some [0, 2, 3])))) .skip))) .skip)) (.seq (.ops 2 [
    (0, ⟨(some 25), none, .mv (.t 0)⟩),
    (1, ⟨(some 26), none, .call 178 [(.t 25), (.k (.d (.val (.int .u8 125))))] (some 0) false⟩)] (some [2, 3])) (.seq (.ops 4 [
    (0, ⟨(some 27), none, .mv (.t 2)⟩),
    (1, ⟨(some 28), none, .mv (.t 3)⟩),
    (2, ⟨(some 2), none, .mv (.t 27)⟩),
    (3, ⟨(some 3), none, .mv (.t 28)⟩)] (some [2, 3])) .ret))))))
def md177 : FuncId → Option Nat × Bool
  | 163 => (some 0, false)
  | 178 => (some 0, false)
  | 182 => (some 0, false)
  | _ => (none, false)
def od177 : Nat → List (List Nat) × List Nat × Option (List Nat)
  | 0 => ([], [], some [0])
  | 1 => ([], [], some [0, 2])
  | 2 => ([], [], some [0, 2, 3])
  | 3 => ([], [], some [0, 2, 3, 9])
  | 4 => ([], [], some [0, 2, 3])
  | 5 => ([], [], some [0, 2, 3, 12])
  | 6 => ([], [], some [0, 2, 4])
  | 7 => ([], [], some [0, 2, 3, 4])
  | 8 => ([], [], some [0, 2, 3])
  | 9 => ([], [], some [2, 3])
  | 10 => ([], [], some [2, 3])
  | _ => ([], [], none)
theorem b177 {ags : List AV} {row : Option (List DV)} {r : AV} {row' nw : Option (List DV)} (hal : ags.length ≤ 29) (hrow : row'.isSome = true → row.isSome = true) (h : xwp Try.prog x177 (retK [.tmp 2, .tmp 3] row.isSome r row' nw) (St.init ags row)) : Good Try.prog 177 ags row r row' nw :=
  good_of_body' (md := md177) (od := od177) Try.f177 (by kernel_rfl) (by kernel_rfl) (by kernel_rfl) (by kernel_rfl) (by kernel_rfl) hal hrow h

def x178 : XC := (.seq (.ops 4 [
    (0, ⟨(some 5), none, .mv (.t 0)⟩),
    (1, ⟨(some 6), none, .mv (.t 1)⟩),
    (2, ⟨(some 7), none, .call 163 [(.t 5), (.t 6)] (some 0) false⟩),
    (3, ⟨(some 4), none, .mv (.t 7)⟩)] (some [0, 4])) (.ops 7 [
    (0, ⟨(some 8), none, .mv (.t 0)⟩),
    (1, ⟨(some 9), none, .mv (.t 4)⟩),
    (2, ⟨(some 10), none, .mv (.t 0)⟩),
    (3, ⟨(some 11), none, .nilck (.t 10)⟩),
    (4, ⟨(some 12), none, .fadd 1 (.t 11)⟩),
    (5, ⟨(some 13), none, .load none (.t 12)⟩),
    (6, ⟨(some 14), none, .call 150 [(.t 8), (.t 9), (.t 13)] none false⟩)] (some [])))
def md178 : FuncId → Option Nat × Bool
  | 163 => (some 0, false)
  | _ => (none, false)
def od178 : Nat → List (List Nat) × List Nat × Option (List Nat)
  | 0 => ([], [], some [0, 4])
  | 1 => ([], [], some [])
  | _ => ([], [], none)
theorem b178 {ags : List AV} {row : Option (List DV)} {r : AV} {row' nw : Option (List DV)} (hal : ags.length ≤ 15) (hrow : row'.isSome = true → row.isSome = true) (h : xwp Try.prog x178 (retK [] row.isSome r row' nw) (St.init ags row)) : Good Try.prog 178 ags row r row' nw :=
  good_of_body' (md := md178) (od := od178) Try.f178 (by kernel_rfl) (by kernel_rfl) (by kernel_rfl) (by kernel_rfl) (by kernel_rfl) hal hrow h

def x179 : XC := (.seq (.ops 1 [
    (0, ⟨(some 2), none, .alloc [(.int .u64 0), (.int .u64 0), (.int .u64 0), (.int .u64 0)]⟩)] (some [0, 2])) (.seq (.ops 3 [
    (0, ⟨(some 4), none, .mv (.t 0)⟩),
    (1, ⟨(some 5), none, .call 163 [(.t 4), (.k (.d (.val (.int .u8 94))))] (some 0) false⟩),
    (2, ⟨(some 3), none, .mv (.t 5)⟩)] (some [0, 2, 3])) (.seq (.block 0 (.loop (.seq (.seq (.ops 3 [
    (0, ⟨(some 6), none, .mv (.t 0)⟩),
    (1, ⟨(some 7), none, .call 172 [(.t 6)] none false⟩),
    (2, ⟨(some 8), none, .arith .neq (.t 7) (.k (.d (.val (.int .i64 93))))⟩)] (some [0, 2, 3, 8])) (.cond (.t 8) .skip (.exit 0))) (.block 1 (.ops 5 [
    (0, ⟨(some 9), none, .load (some 4) (.t 2)⟩),
    (1, ⟨(some 10), none, .mv (.t 0)⟩),
    (2, ⟨(some 11), none, .callA 183 [(.t 10)] 0 [2]⟩),
    (3, ⟨(some 12), none, .call 73 [(.t 9), (.t 11)] none false⟩),
    (4, ⟨none, none, .store 4 (.t 2) (.t 12)⟩)] (some [0, 2, 3])))))) (.seq (.ops 2 [
    (0, ⟨(some 13), none, .mv (.t 0)⟩),
    (1, ⟨(some 14), none, .call 178 [(.t 13), (.k (.d (.val (.int .u8 93))))] (some 0) false⟩)] (some [2, 3])) (.seq (.seq (.ops 1 [
    (0, ⟨(some 15), none, .mv (.t 3)⟩)] (some [2, 15])) (.cond (.t 15) (.ops 3 [
    (0, ⟨(some 16), none, .load (some 4) (.t 2)⟩),
    (1, ⟨(some 17), none, .call 184 [(.t 16)] none false⟩),
    (2, ⟨none, none, .store 4 (.t 2) (.t 17)⟩)] (some [2])) .skip)) (.seq (.ops 2 [
    (0, ⟨(some 18), none, .load (some 4) (.t 2)⟩),
    (1, ⟨none, none, .store 4 (.t 2) (.t 18)⟩)] (some [2])) .ret))))))
def md179 : FuncId → Option Nat × Bool
  | 163 => (some 0, false)
  | 178 => (some 0, false)
  | 183 => (some 0, false)
  | _ => (none, false)
def od179 : Nat → List (List Nat) × List Nat × Option (List Nat)
  | 0 => ([], [], some [0, 2])
  | 1 => ([], [], some [0, 2, 3])
  | 2 => ([], [], some [0, 2, 3, 8])
  | 3 => ([[], [], [1], [0, 1, 2], [0, 1, 2, 3]], [0, 1, 2, 3, 4], some [0, 2, 3])
  | 4 => ([], [], some [2, 3])
  | 5 => ([], [], some [2, 15])
  | 6 => ([], [], some [2])
  | 7 => ([], [], some [2])
  | _ => ([], [], none)
theorem b179 {ags : List AV} {row : Option (List DV)} {r : AV} {row' nw : Option (List DV)} (hal : ags.length ≤ 19) (hrow : row'.isSome = true → row.isSome = true) (h : xwp Try.prog x179 (retK [.cell 2 (some 4)] row.isSome r row' nw) (St.init ags row)) : Good Try.prog 179 ags row r row' nw :=
  good_of_body' (md := md179) (od := od179) Try.f179 (by kernel_rfl) (by kernel_rfl) (by kernel_rfl) (by kernel_rfl) (by kernel_rfl) hal hrow h

def x180 : XC := (.seq (.ops 1 [
    (0, ⟨(some 2), none, .alloc [(.int .u64 0), (.int .u64 0), (.int .u64 0), (.int .u64 0)]⟩)] (some [0, 2])) (.seq (.ops 7 [
    (0, ⟨(some 3), none, .mv (.t 0)⟩),
    (1, ⟨(some 4), none, .arith .quo (.t 3) (.k (.d (.val (.int .u8 64))))⟩),
    (2, ⟨(some 5), none, .mv (.t 0)⟩),
    (3, ⟨(some 6), none, .arith .rem (.t 5) (.k (.d (.val (.int .u8 64))))⟩),
    (4, ⟨(some 7), none, .arith .shl (.k (.d (.val (.int .u64 1)))) (.t 6)⟩),
    (5, ⟨(some 8), none, .idxP 4 1 (.t 2) (.t 4)⟩),
    (6, ⟨none, none, .store 1 (.t 8) (.t 7)⟩)] (some [2])) (.seq (.ops 2 [
    (0, ⟨(some 9), none, .load (some 4) (.t 2)⟩),
    (1, ⟨none, none, .store 4 (.t 2) (.t 9)⟩)] (some [2])) .ret)))
def md180 : FuncId → Option Nat × Bool
  | _ => (none, false)
def od180 : Nat → List (List Nat) × List Nat × Option (List Nat)
  | 0 => ([], [], some [0, 2])
  | 1 => ([], [], some [2])
  | 2 => ([], [], some [2])
  | _ => ([], [], none)
theorem b180 {ags : List AV} {row : Option (List DV)} {r : AV} {row' nw : Option (List DV)} (hal : ags.length ≤ 10) (hrow : row'.isSome = true → row.isSome = true) (h : xwp Try.prog x180 (retK [.cell 2 (some 4)] row.isSome r row' nw) (St.init ags row)) : Good Try.prog 180 ags row r row' nw :=
  good_of_body' (md := md180) (od := od180) Try.f180 (by kernel_rfl) (by kernel_rfl) (by kernel_rfl) (by kernel_rfl) (by kernel_rfl) hal hrow h

def x181 : XC := (.seq (.ops 1 [
    (0, ⟨(some 2), none, .mv (.k (.d (.val (.int .u8 0))))⟩)] (some [0])) (.seq (.ops 3 [
    (0, ⟨(some 4), none, .mv (.t 0)⟩),
    (1, ⟨(some 5), none, .call 172 [(.t 4)] none false⟩),
    (2, ⟨(some 3), none, .mv (.t 5)⟩)] (some [0, 3])) (.seq (.seq (.ops 2 [
    (0, ⟨(some 6), none, .mv (.t 0)⟩),
    (1, ⟨(some 7), none, .call 163 [(.t 6), (.k (.d (.val (.int .u8 92))))] (some 0) false⟩)] (some [0, 3, 7])) (.cond (.t 7) (.seq (.ops 3 [
    (0, ⟨(some 8), none, .mv (.t 0)⟩),
    (1, ⟨(some 9), none, .call 185 [(.t 8)] (some 0) false⟩),
    (2, ⟨(some 2), none, .mv (.t 9)⟩)] (some [2])) .ret) .skip)) (.seq (.ops 15 [
    (0, ⟨(some 10), none, .mv (.t 0)⟩),
    (1, ⟨(some 11), none, .mv (.t 3)⟩),
    (2, ⟨(some 12), none, .arith .geq (.t 11) (.k (.d (.val (.int .i64 0))))⟩),
    (3, ⟨(some 13), none, .mv (.t 12)⟩),
    (4, ⟨(some 14), (some (13, true)), .mv (.t 3)⟩),
    (5, ⟨(some 15), (some (13, true)), .conv .u8 (.t 14)⟩),
    (6, ⟨(some 16), (some (13, true)), .call 186 [(.t 15)] none false⟩),
    (7, ⟨(some 17), (some (13, true)), .lenT (.t 16)⟩),
    (8, ⟨(some 18), (some (13, true)), .arith .eql (.t 17) (.k (.d (.val (.int .i64 1))))⟩),
    (9, ⟨(some 19), none, .pick (.t 13) (.t 18) (.k (.d (.val (.bool false))))⟩),
    (10, ⟨(some 20), none, .mv (.t 0)⟩),
    (11, ⟨(some 21), none, .nilck (.t 20)⟩),
    (12, ⟨(some 22), none, .fadd 1 (.t 21)⟩),
    (13, ⟨(some 23), none, .load none (.t 22)⟩),
    (14, ⟨(some 24), none, .call 150 [(.t 10), (.t 19), (.t 23)] none false⟩)] (some [0, 3])) (.seq (.ops 8 [
    (0, ⟨(some 25), none, .mv (.t 0)⟩),
    (1, ⟨(some 26), none, .nilck (.t 25)⟩),
    (2, ⟨(some 27), none, .fadd 1 (.t 26)⟩),
    (3, ⟨(some 28), none, .load none (.t 27)⟩),
    (4, ⟨(some 29), none, .arith .add (.t 28) (.k (.d (.val (.int .i64 1))))⟩),
    (5, ⟨(some 30), none, .nilck (.t 25)⟩),
    (6, ⟨(some 31), none, .fadd 1 (.t 30)⟩),
    (7, ⟨none, none, .store 1 (.t 31) (.t 29)⟩)] (some [3])) (.seq (.ops 3 [
    (0, ⟨(some 32), none, .mv (.t 3)⟩),
    (1, ⟨(some 33), none, .conv .u8 (.t 32)⟩),
    (2, ⟨(some 2), none, .mv (.t 33)⟩)] (some [2])) .ret))))))
def md181 : FuncId → Option Nat × Bool
  | 163 => (some 0, false)
  | 185 => (some 0, false)
  | _ => (none, false)
def od181 : Nat → List (List Nat) × List Nat × Option (List Nat)
  | 0 => ([], [], some [0])
  | 1 => ([], [], some [0, 3])
  | 2 => ([], [], some [0, 3, 7])
  | 3 => ([], [], some [2])
  | 4 => ([[], [], [1], [1, 2], [1, 2, 3], [1, 2, 3, 4], [1, 2, 3, 4, 5], [1, 2, 3, 4, 5, 6], [1, 2, 3, 4, 5, 6, 7], [1, 2, 3, 4, 5, 6, 7, 8], [], [10], [10, 11], [10, 11, 12], [0, 1, 2, 3, 4, 5, 6, 7, 8, 9, 10, 11, 12, 13]], [0, 1, 2, 3, 4, 5, 6, 7, 8, 9, 10, 11, 12, 13, 14], some [0, 3])
  | 5 => ([], [], some [3])
  | 6 => ([], [], some [2])
  | _ => ([], [], none)
theorem b181 {ags : List AV} {row : Option (List DV)} {r : AV} {row' nw : Option (List DV)} (hal : ags.length ≤ 34) (hrow : row'.isSome = true → row.isSome = true) (h : xwp Try.prog x181 (retK [.tmp 2] row.isSome r row' nw) (St.init ags row)) : Good Try.prog 181 ags row r row' nw :=
  good_of_body' (md := md181) (od := od181) Try.f181 (by kernel_rfl) (by kernel_rfl) (by kernel_rfl) (by kernel_rfl) (by kernel_rfl) hal hrow h

def x182 : XC := (.seq (.ops 1 [
    (0, ⟨(some 2), none, .mv (.k (.d (.val (.int .i64 0))))⟩)] (some [0, 2])) (.seq (.ops 5 [
    (0, ⟨(some 5), none, .mv (.t 0)⟩),
    (1, ⟨(some 6), none, .nilck (.t 5)⟩),
    (2, ⟨(some 7), none, .fadd 1 (.t 6)⟩),
    (3, ⟨(some 8), none, .load none (.t 7)⟩),
    (4, ⟨(some 3), none, .mv (.t 8)⟩)] (some [0, 2, 3])) (.seq (.seq (.ops 3 [
    (0, ⟨(some 9), none, .mv (.t 0)⟩),
    (1, ⟨(some 10), none, .call 172 [(.t 9)] none false⟩),
    (2, ⟨(some 4), none, .mv (.t 10)⟩)] (some [0, 2, 3, 4])) (.block 0 (.loop (.seq (.seq (.ops 15 [
    (0, ⟨(some 11), none, .mv (.t 4)⟩),
    (1, ⟨(some 12), none, .arith .geq (.t 11) (.k (.d (.val (.int .i64 48))))⟩),
    (2, ⟨(some 13), none, .mv (.t 12)⟩),
    (3, ⟨(some 14), (some (13, true)), .mv (.t 4)⟩),
    (4, ⟨(some 15), (some (13, true)), .arith .leq (.t 14) (.k (.d (.val (.int .i64 57))))⟩),
    (5, ⟨(some 16), none, .pick (.t 13) (.t 15) (.k (.d (.val (.bool false))))⟩),
    (6, ⟨(some 17), none, .mv (.t 16)⟩),
    (7, ⟨(some 18), (some (17, true)), .mv (.t 0)⟩),
    (8, ⟨(some 19), (some (17, true)), .nilck (.t 18)⟩),
    (9, ⟨(some 20), (some (17, true)), .fadd 1 (.t 19)⟩),
    (10, ⟨(some 21), (some (17, true)), .load none (.t 20)⟩),
    (11, ⟨(some 22), (some (17, true)), .mv (.t 3)⟩),
    (12, ⟨(some 23), (some (17, true)), .arith .sub (.t 21) (.t 22)⟩),
    (13, ⟨(some 24), (some (17, true)), .arith .lss (.t 23) (.k (.d (.val (.int .i64 2))))⟩),
    (14, ⟨(some 25), none, .pick (.t 17) (.t 24) (.k (.d (.val (.bool false))))⟩)] (some [0, 2, 3, 4, 25])) (.cond (.t 25) .skip (.exit 0))) (.seq (.block 1 (.seq (.ops 6 [
    (0, ⟨(some 28), none, .mv (.t 2)⟩),
    (1, ⟨(some 29), none, .arith .mul (.k (.d (.val (.int .i64 10)))) (.t 28)⟩),
    (2, ⟨(some 30), none, .mv (.t 4)⟩),
    (3, ⟨(some 31), none, .arith .add (.t 29) (.t 30)⟩),
    (4, ⟨(some 32), none, .arith .sub (.t 31) (.k (.d (.val (.int .i64 48))))⟩),
    (5, ⟨(some 2), none, .mv (.t 32)⟩)] (some [0, 2, 3])) (.ops 8 [
    (0, ⟨(some 33), none, .mv (.t 0)⟩),
    (1, ⟨(some 34), none, .nilck (.t 33)⟩),
    (2, ⟨(some 35), none, .fadd 1 (.t 34)⟩),
    (3, ⟨(some 36), none, .load none (.t 35)⟩),
    (4, ⟨(some 37), none, .arith .add (.t 36) (.k (.d (.val (.int .i64 1))))⟩),
    (5, ⟨(some 38), none, .nilck (.t 33)⟩),
    (6, ⟨(some 39), none, .fadd 1 (.t 38)⟩),
    (7, ⟨none, none, .store 1 (.t 39) (.t 37)⟩)] (some [0, 2, 3])))) (.ops 3 [
    (0, ⟨(some 26), none, .mv (.t 0)⟩),
    (1, ⟨(some 27), none, .call 172 [(.t 26)] none false⟩),
    (2, ⟨(some 4), none, .mv (.t 27)⟩)] (some [0, 2, 3, 4]))))))) (.seq (.ops 13 [
    (0, ⟨(some 40), none, .mv (.t 0)⟩),
    (1, ⟨(some 41), none, .mv (.t 0)⟩),
    (2, ⟨(some 42), none, .nilck (.t 41)⟩),
    (3, ⟨(some 43), none, .fadd 1 (.t 42)⟩),
    (4, ⟨(some 44), none, .load none (.t 43)⟩),
    (5, ⟨(some 45), none, .mv (.t 3)⟩),
    (6, ⟨(some 46), none, .arith .gtr (.t 44) (.t 45)⟩),
    (7, ⟨(some 47), none, .mv (.t 46)⟩),
    (8, ⟨(some 48), (some (47, true)), .mv (.t 2)⟩),
    (9, ⟨(some 49), (some (47, true)), .arith .leq (.t 48) (.k (.d (.val (.int .i64 20))))⟩),
    (10, ⟨(some 50), none, .pick (.t 47) (.t 49) (.k (.d (.val (.bool false))))⟩),
    (11, ⟨(some 51), none, .mv (.t 3)⟩),
    (12, ⟨(some 52), none, .call 150 [(.t 40), (.t 50), (.t 51)] none false⟩)] (some [2])) (.seq (.ops 2 [
    (0, ⟨(some 53), none, .mv (.t 2)⟩),
    (1, ⟨(some 2), none, .mv (.t 53)⟩)] (some [2])) .ret)))))
def md182 : FuncId → Option Nat × Bool
  | _ => (none, false)
def od182 : Nat → List (List Nat) × List Nat × Option (List Nat)
  | 0 => ([], [], some [0, 2])
  | 1 => ([], [], some [0, 2, 3])
  | 2 => ([], [], some [0, 2, 3, 4])
  | 3 => ([], [], some [0, 2, 3, 4, 25])
  | 4 => ([], [], some [0, 2, 3, 4])
  | 5 => ([], [], some [0, 2, 3])
  | 6 => ([], [], some [0, 2, 3])
  | 7 => ([], [], some [2])
  | 8 => ([], [], some [2])
  | _ => ([], [], none)
theorem b182 {ags : List AV} {row : Option (List DV)} {r : AV} {row' nw : Option (List DV)} (hal : ags.length ≤ 54) (hrow : row'.isSome = true → row.isSome = true) (h : xwp Try.prog x182 (retK [.tmp 2] row.isSome r row' nw) (St.init ags row)) : Good Try.prog 182 ags row r row' nw :=
  good_of_body' (md := md182) (od := od182) Try.f182 (by kernel_rfl) (by kernel_rfl) (by kernel_rfl) (by kernel_rfl) (by kernel_rfl) hal hrow h

def x183 : XC := (.seq (.ops 1 [
    (0, ⟨(some 2), none, .alloc [(.int .u64 0), (.int .u64 0), (.int .u64 0), (.int .u64 0)]⟩)] (some [0, 2])) (.seq (.ops 3 [
    (0, ⟨(some 6), none, .mv (.t 0)⟩),
    (1, ⟨(some 7), none, .call 181 [(.t 6)] (some 0) false⟩),
    (2, ⟨(some 3), none, .mv (.t 7)⟩)] (some [0, 2, 3])) (.seq (.seq (.ops 3 [
    (0, ⟨(some 8), none, .mv (.t 0)⟩),
    (1, ⟨(some 9), none, .call 163 [(.t 8), (.k (.d (.val (.int .u8 45))))] (some 0) false⟩),
    (2, ⟨(some 10), none, .un .not (.t 9)⟩)] (some [0, 2, 3, 10])) (.cond (.t 10) (.seq (.ops 3 [
    (0, ⟨(some 11), none, .mv (.t 3)⟩),
    (1, ⟨(some 12), none, .call 180 [(.t 11)] none false⟩),
    (2, ⟨none, none, .store 4 (.t 2) (.t 12)⟩)] (some [2])) .ret) .skip)) (.seq (.ops 5 [
    (0, ⟨(some 13), none, .mv (.t 0)⟩),
    (1, ⟨(some 14), none, .nilck (.t 13)⟩),
    (2, ⟨(some 15), none, .fadd 1 (.t 14)⟩),
    (3, ⟨(some 16), none, .load none (.t 15)⟩),
    (4, ⟨(some 4), none, .mv (.t 16)⟩)] (some [0, 2, 3, 4])) (.seq (.ops 3 [
    (0, ⟨(some 17), none, .mv (.t 0)⟩),
    (1, ⟨(some 18), none, .call 181 [(.t 17)] (some 0) false⟩),
    (2, ⟨(some 5), none, .mv (.t 18)⟩)] (some [0, 2, 3, 4, 5])) (.seq (.ops 6 [
    (0, ⟨(some 19), none, .mv (.t 0)⟩),
    (1, ⟨(some 20), none, .mv (.t 5)⟩),
    (2, ⟨(some 21), none, .mv (.t 3)⟩),
    (3, ⟨(some 22), none, .arith .geq (.t 20) (.t 21)⟩),
    (4, ⟨(some 23), none, .mv (.t 4)⟩),
    (5, ⟨(some 24), none, .call 150 [(.t 19), (.t 22), (.t 23)] none false⟩)] (some [2, 3, 5])) (.seq (.ops 4 [
    (0, ⟨(some 25), none, .mv (.t 3)⟩),
    (1, ⟨(some 26), none, .mv (.t 5)⟩),
    (2, ⟨(some 27), none, .call 119 [(.t 25), (.t 26)] none false⟩),
    (3, ⟨none, none, .store 4 (.t 2) (.t 27)⟩)] (some [2])) .ret)))))))
def md183 : FuncId → Option Nat × Bool
  | 163 => (some 0, false)
  | 181 => (some 0, false)
  | _ => (none, false)
def od183 : Nat → List (List Nat) × List Nat × Option (List Nat)
  | 0 => ([], [], some [0, 2])
  | 1 => ([], [], some [0, 2, 3])
  | 2 => ([], [], some [0, 2, 3, 10])
  | 3 => ([], [], some [2])
  | 4 => ([], [], some [0, 2, 3, 4])
  | 5 => ([], [], some [0, 2, 3, 4, 5])
  | 6 => ([], [], some [2, 3, 5])
  | 7 => ([], [], some [2])
  | _ => ([], [], none)
theorem b183 {ags : List AV} {row : Option (List DV)} {r : AV} {row' nw : Option (List DV)} (hal : ags.length ≤ 28) (hrow : row'.isSome = true → row.isSome = true) (h : xwp Try.prog x183 (retK [.cell 2 (some 4)] row.isSome r row' nw) (St.init ags row)) : Good Try.prog 183 ags row r row' nw :=
  good_of_body' (md := md183) (od := od183) Try.f183 (by kernel_rfl) (by kernel_rfl) (by kernel_rfl) (by kernel_rfl) (by kernel_rfl) hal hrow h

def x184 : XC := (.seq (.ops 2 [
    (0, ⟨(some 1), none, .box (.t 0)⟩),
    (1, ⟨(some 2), none, .alloc [(.int .u64 0), (.int .u64 0), (.int .u64 0), (.int .u64 0)]⟩)] (some [1, 2])) (.seq (.seq (.ops 1 [
    (0, ⟨(some 4), none, .mv (.k (.d (.val (.int .i64 0))))⟩)] (some [1, 2, 4])) (.block 0 (.loop (.seq (.ops 1 [
    (0, ⟨(some 5), none, .arith .lss (.t 4) (.k (.d (.val (.int .i64 4))))⟩)] (some [1, 2, 4, 5])) (.seq (.cond (.t 5) .skip (.exit 0)) (.seq (.block 1 (.seq (.ops 2 [
    (0, ⟨(some 6), none, .mv (.t 4)⟩),
    (1, ⟨(some 3), none, .mv (.t 6)⟩)] (some [1, 2, 3, 4])) (.ops 7 [
    (0, ⟨(some 7), none, .mv (.t 3)⟩),
    (1, ⟨(some 8), none, .mv (.t 3)⟩),
    (2, ⟨(some 9), none, .idxP 4 1 (.t 1) (.t 8)⟩),
    (3, ⟨(some 10), none, .load none (.t 9)⟩),
    (4, ⟨(some 11), none, .un .xor (.t 10)⟩),
    (5, ⟨(some 12), none, .idxP 4 1 (.t 1) (.t 7)⟩),
    (6, ⟨none, none, .store 1 (.t 12) (.t 11)⟩)] (some [1, 2, 4])))) (.ops 2 [
    (0, ⟨(some 13), none, .arith .add (.t 4) (.k (.d (.val (.int .i64 1))))⟩),
    (1, ⟨(some 4), none, .mv (.t 13)⟩)] (some [1, 2, 4])))))))) (.seq (.ops 2 [
    (0, ⟨(some 14), none, .load (some 4) (.t 1)⟩),
    (1, ⟨none, none, .store 4 (.t 2) (.t 14)⟩)] (some [2])) .ret)))
def md184 : FuncId → Option Nat × Bool
  | _ => (none, false)
def od184 : Nat → List (List Nat) × List Nat × Option (List Nat)
  | 0 => ([], [], some [1, 2])
  | 1 => ([], [], some [1, 2, 4])
  | 2 => ([], [], some [1, 2, 4, 5])
  | 3 => ([], [], some [1, 2, 3, 4])
  | 4 => ([], [], some [1, 2, 4])
  | 5 => ([], [], some [1, 2, 4])
  | 6 => ([], [], some [2])
  | _ => ([], [], none)
theorem b184 {ags : List AV} {row : Option (List DV)} {r : AV} {row' nw : Option (List DV)} (hal : ags.length ≤ 15) (hrow : row'.isSome = true → row.isSome = true) (h : xwp Try.prog x184 (retK [.cell 2 (some 4)] row.isSome r row' nw) (St.init ags row)) : Good Try.prog 184 ags row r row' nw :=
  good_of_body' (md := md184) (od := od184) Try.f184 (by kernel_rfl) (by kernel_rfl) (by kernel_rfl) (by kernel_rfl) (by kernel_rfl) hal hrow h

def x185 : XC := (.seq (.ops 1 [
    (0, ⟨(some 2), none, .mv (.k (.d (.val (.int .u8 0))))⟩)] (some [0])) (.seq (.ops 3 [
    (0, ⟨(some 5), none, .mv (.t 0)⟩),
    (1, ⟨(some 6), none, .call 172 [(.t 5)] none false⟩),
    (2, ⟨(some 3), none, .mv (.t 6)⟩)] (some [0, 3])) (.seq (.ops 8 [
    (0, ⟨(some 7), none, .mv (.t 0)⟩),
    (1, ⟨(some 8), none, .mv (.t 3)⟩),
    (2, ⟨(some 9), none, .arith .geq (.t 8) (.k (.d (.val (.int .i64 0))))⟩),
    (3, ⟨(some 10), none, .mv (.t 0)⟩),
    (4, ⟨(some 11), none, .nilck (.t 10)⟩),
    (5, ⟨(some 12), none, .fadd 1 (.t 11)⟩),
    (6, ⟨(some 13), none, .load none (.t 12)⟩),
    (7, ⟨(some 14), none, .call 150 [(.t 7), (.t 9), (.t 13)] none false⟩)] (some [0, 3])) (.seq (.ops 8 [
    (0, ⟨(some 15), none, .mv (.t 0)⟩),
    (1, ⟨(some 16), none, .nilck (.t 15)⟩),
    (2, ⟨(some 17), none, .fadd 1 (.t 16)⟩),
    (3, ⟨(some 18), none, .load none (.t 17)⟩),
    (4, ⟨(some 19), none, .arith .add (.t 18) (.k (.d (.val (.int .i64 1))))⟩),
    (5, ⟨(some 20), none, .nilck (.t 15)⟩),
    (6, ⟨(some 21), none, .fadd 1 (.t 20)⟩),
    (7, ⟨none, none, .store 1 (.t 21) (.t 19)⟩)] (some [0, 3])) (.seq (.seq (.ops 1 [
    (0, ⟨(some 22), none, .mv (.t 3)⟩)] (some [0, 3, 22])) (.block 0 (.seq (.ops 2 [
    (0, ⟨(some 24), none, .arith .eql (.t 22) (.k (.d (.val (.int .i64 120))))⟩),
    (1, ⟨(some 23), none, .mv (.t 24)⟩)] (some [0, 3, 22, 23])) (.cond (.t 23) (.seq (.ops 4 [
    (0, ⟨(some 25), none, .mv (.t 0)⟩),
    (1, ⟨(some 26), none, .call 187 [(.t 25)] (some 0) false⟩),
    (2, ⟨(some 27), none, .arith .shl (.t 26) (.k (.d (.val (.int .u64 4))))⟩),
    (3, ⟨(some 4), none, .mv (.t 27)⟩)] (some [0, 4])) (.seq (.ops 6 [
    (0, ⟨(some 28), none, .mv (.t 4)⟩),
    (1, ⟨(some 29), none, .mv (.t 0)⟩),
    (2, ⟨(some 30), none, .call 187 [(.t 29)] (some 0) false⟩),
    (3, ⟨(some 31), none, .arith .or (.t 28) (.t 30)⟩),
    (4, ⟨(some 32), none, .conv .u8 (.t 31)⟩),
    (5, ⟨(some 2), none, .mv (.t 32)⟩)] (some [2])) .ret)) (.seq (.ops 2 [
    (0, ⟨(some 34), none, .arith .eql (.t 22) (.k (.d (.val (.int .i64 110))))⟩),
    (1, ⟨(some 33), none, .mv (.t 34)⟩)] (some [0, 3, 22, 33])) (.cond (.t 33) (.seq (.ops 1 [
    (0, ⟨(some 2), none, .mv (.k (.d (.val (.int .u8 10))))⟩)] (some [2])) .ret) (.seq (.ops 2 [
    (0, ⟨(some 36), none, .arith .eql (.t 22) (.k (.d (.val (.int .i64 116))))⟩),
    (1, ⟨(some 35), none, .mv (.t 36)⟩)] (some [0, 3, 35])) (.cond (.t 35) (.seq (.ops 1 [
    (0, ⟨(some 2), none, .mv (.k (.d (.val (.int .u8 9))))⟩)] (some [2])) .ret) .skip)))))))) (.seq (.ops 11 [
    (0, ⟨(some 37), none, .mv (.t 0)⟩),
    (1, ⟨(some 38), none, .mv (.t 3)⟩),
    (2, ⟨(some 39), none, .conv .u8 (.t 38)⟩),
    (3, ⟨(some 40), none, .call 188 [(.k (.d (.val (.string ⟨#[124, 42, 43, 63, 40, 41, 91, 93, 123, 125, 46, 92, 94, 36, 45]⟩)))), (.t 39)] none false⟩),
    (4, ⟨(some 41), none, .arith .geq (.t 40) (.k (.d (.val (.int .i64 0))))⟩),
    (5, ⟨(some 42), none, .mv (.t 0)⟩),
    (6, ⟨(some 43), none, .nilck (.t 42)⟩),
    (7, ⟨(some 44), none, .fadd 1 (.t 43)⟩),
    (8, ⟨(some 45), none, .load none (.t 44)⟩),
    (9, ⟨(some 46), none, .arith .sub (.t 45) (.k (.d (.val (.int .i64 1))))⟩),
    (10, ⟨(some 47), none, .call 150 [(.t 37), (.t 41), (.t 46)] none false⟩)] (some [3])) (.seq (.ops 3 [
    (0, ⟨(some 48), none, .mv (.t 3)⟩),
    (1, ⟨(some 49), none, .conv .u8 (.t 48)⟩),
    (2, ⟨(some 2), none, .mv (.t 49)⟩)] (some [2])) .ret)))))))
def md185 : FuncId → Option Nat × Bool
  | 187 => (some 0, false)
  | _ => (none, false)
def od185 : Nat → List (List Nat) × List Nat × Option (List Nat)
  | 0 => ([], [], some [0])
  | 1 => ([], [], some [0, 3])
  | 2 => ([], [], some [0, 3])
  | 3 => ([], [], some [0, 3])
  | 4 => ([], [], some [0, 3, 22])
  | 5 => ([], [], some [0, 3, 22, 23])
  | 6 => ([], [], some [0, 4])
  | 7 => ([], [], some [2])
  | 8 => ([], [], some [0, 3, 22, 33])
  | 9 => ([], [], some [2])
  | 10 => ([], [], some [0, 3, 35])
  | 11 => ([], [], some [2])
  | 12 => ([[], [], [1], [1, 2], [1, 2, 3], [], [5], [5, 6], [5, 6, 7], [5, 6, 7, 8], [0, 1, 2, 3, 4, 5, 6, 7, 8, 9]], [0, 1, 2, 3, 4, 5, 6, 7, 8, 9, 10], some [3])
  | 13 => ([], [], some [2])
  | _ => ([], [], none)
theorem b185 {ags : List AV} {row : Option (List DV)} {r : AV} {row' nw : Option (List DV)} (hal : ags.length ≤ 50) (hrow : row'.isSome = true → row.isSome = true) (h : xwp Try.prog x185 (retK [.tmp 2] row.isSome r row' nw) (St.init ags row)) : Good Try.prog 185 ags row r row' nw :=
  good_of_body' (md := md185) (od := od185) Try.f185 (by kernel_rfl) (by kernel_rfl) (by kernel_rfl) (by kernel_rfl) (by kernel_rfl) hal hrow h

def x186 : XC := (.seq (.ops 1 [
    (0, ⟨(some 2), none, .mv (.k (.d (.val (.string ⟨#[]⟩))))⟩)] (some [0])) (.seq (.seq (.ops 2 [
    (0, ⟨(some 3), none, .mv (.t 0)⟩),
    (1, ⟨(some 4), none, .call 189 [(.t 3)] none false⟩)] (some [0, 4])) (.cond (.t 4) (.seq (.ops 4 [
    (0, ⟨(some 5), none, .mv (.t 0)⟩),
    (1, ⟨(some 6), none, .mkrow [(.int .u8 0)] 1 1 [(0, 1, (.t 5))]⟩),
    (2, ⟨(some 7), none, .strB (.t 6)⟩),
    (3, ⟨(some 2), none, .mv (.t 7)⟩)] (some [2])) .ret) .skip)) (.seq (.ops 15 [
    (0, ⟨(some 8), none, .mv (.t 0)⟩),
    (1, ⟨(some 9), none, .arith .shr (.t 8) (.k (.d (.val (.int .u64 4))))⟩),
    (2, ⟨(some 10), none, .mv (.t 0)⟩),
    (3, ⟨(some 11), none, .arith .shr (.t 10) (.k (.d (.val (.int .u64 4))))⟩),
    (4, ⟨(some 12), none, .arith .add (.t 11) (.k (.d (.val (.int .u8 1))))⟩),
    (5, ⟨(some 13), none, .slT (.k (.d (.val (.string ⟨#[48, 49, 50, 51, 52, 53, 54, 55, 56, 57, 97, 98, 99, 100, 101, 102]⟩)))) (some (.t 9)) (some (.t 12))⟩),
    (6, ⟨(some 14), none, .arith .add (.k (.d (.val (.string ⟨#[92, 120]⟩)))) (.t 13)⟩),
    (7, ⟨(some 15), none, .mv (.t 0)⟩),
    (8, ⟨(some 16), none, .arith .and (.t 15) (.k (.d (.val (.int .u8 15))))⟩),
    (9, ⟨(some 17), none, .mv (.t 0)⟩),
    (10, ⟨(some 18), none, .arith .and (.t 17) (.k (.d (.val (.int .u8 15))))⟩),
    (11, ⟨(some 19), none, .arith .add (.t 18) (.k (.d (.val (.int .u8 1))))⟩),
    (12, ⟨(some 20), none, .slT (.k (.d (.val (.string ⟨#[48, 49, 50, 51, 52, 53, 54, 55, 56, 57, 97, 98, 99, 100, 101, 102]⟩)))) (some (.t 16)) (some (.t 19))⟩),
    (13, ⟨(some 21), none, .arith .add (.t 14) (.t 20)⟩),
    (14, ⟨(some 2), none, .mv (.t 21)⟩)] (some [2])) .ret)))
def md186 : FuncId → Option Nat × Bool
  | _ => (none, false)
def od186 : Nat → List (List Nat) × List Nat × Option (List Nat)
  | 0 => ([], [], some [0])
  | 1 => ([], [], some [0, 4])
  | 2 => ([], [], some [2])
  | 3 => ([[], [0], [], [2], [2, 3], [0, 1, 2, 3, 4], [0, 1, 2, 3, 4, 5], [], [7], [], [9], [9, 10], [7, 8, 9, 10, 11], [0, 1, 2, 3, 4, 5, 6, 7, 8, 9, 10, 11, 12], [0, 1, 2, 3, 4, 5, 6, 7, 8, 9, 10, 11, 12, 13]], [0, 1, 2, 3, 4, 5, 6, 7, 8, 9, 10, 11, 12, 13, 14], some [2])
  | _ => ([], [], none)
theorem b186 {ags : List AV} {row : Option (List DV)} {r : AV} {row' nw : Option (List DV)} (hal : ags.length ≤ 22) (hrow : row'.isSome = true → row.isSome = true) (h : xwp Try.prog x186 (retK [.tmp 2] row.isSome r row' nw) (St.init ags row)) : Good Try.prog 186 ags row r row' nw :=
  good_of_body' (md := md186) (od := od186) Try.f186 (by kernel_rfl) (by kernel_rfl) (by kernel_rfl) (by kernel_rfl) (by kernel_rfl) hal hrow h

def x187 : XC := (.seq (.ops 1 [
    (0, ⟨(some 2), none, .mv (.k (.d (.val (.int .i64 0))))⟩)] (some [0])) (.seq (.ops 3 [
    (0, ⟨(some 5), none, .mv (.t 0)⟩),
    (1, ⟨(some 6), none, .call 172 [(.t 5)] none false⟩),
    (2, ⟨(some 3), none, .mv (.t 6)⟩)] (some [0, 3])) (.seq (.ops 1 [
    (0, ⟨(some 4), none, .mv (.k (.d (.val (.int .i64 (-1)))))⟩)] (some [0, 3, 4])) (.seq (.seq (.ops 2 [
    (0, ⟨(some 7), none, .mv (.t 3)⟩),
    (1, ⟨(some 8), none, .arith .geq (.t 7) (.k (.d (.val (.int .i64 0))))⟩)] (some [0, 3, 4, 8])) (.cond (.t 8) (.ops 4 [
    (0, ⟨(some 9), none, .mv (.t 3)⟩),
    (1, ⟨(some 10), none, .conv .u8 (.t 9)⟩),
    (2, ⟨(some 11), none, .call 188 [(.k (.d (.val (.string ⟨#[48, 49, 50, 51, 52, 53, 54, 55, 56, 57, 97, 98, 99, 100, 101, 102]⟩)))), (.t 10)] none false⟩),
    (3, ⟨(some 4), none, .mv (.t 11)⟩)] (some [0, 4])) .skip)) (.seq (.ops 8 [
    (0, ⟨(some 12), none, .mv (.t 0)⟩),
    (1, ⟨(some 13), none, .mv (.t 4)⟩),
    (2, ⟨(some 14), none, .arith .geq (.t 13) (.k (.d (.val (.int .i64 0))))⟩),
    (3, ⟨(some 15), none, .mv (.t 0)⟩),
    (4, ⟨(some 16), none, .nilck (.t 15)⟩),
    (5, ⟨(some 17), none, .fadd 1 (.t 16)⟩),
    (6, ⟨(some 18), none, .load none (.t 17)⟩),
    (7, ⟨(some 19), none, .call 150 [(.t 12), (.t 14), (.t 18)] none false⟩)] (some [0, 4])) (.seq (.ops 8 [
    (0, ⟨(some 20), none, .mv (.t 0)⟩),
    (1, ⟨(some 21), none, .nilck (.t 20)⟩),
    (2, ⟨(some 22), none, .fadd 1 (.t 21)⟩),
    (3, ⟨(some 23), none, .load none (.t 22)⟩),
    (4, ⟨(some 24), none, .arith .add (.t 23) (.k (.d (.val (.int .i64 1))))⟩),
    (5, ⟨(some 25), none, .nilck (.t 20)⟩),
    (6, ⟨(some 26), none, .fadd 1 (.t 25)⟩),
    (7, ⟨none, none, .store 1 (.t 26) (.t 24)⟩)] (some [4])) (.seq (.ops 2 [
    (0, ⟨(some 27), none, .mv (.t 4)⟩),
    (1, ⟨(some 2), none, .mv (.t 27)⟩)] (some [2])) .ret)))))))
def md187 : FuncId → Option Nat × Bool
  | _ => (none, false)
def od187 : Nat → List (List Nat) × List Nat × Option (List Nat)
  | 0 => ([], [], some [0])
  | 1 => ([], [], some [0, 3])
  | 2 => ([], [], some [0, 3, 4])
  | 3 => ([], [], some [0, 3, 4, 8])
  | 4 => ([], [], some [0, 4])
  | 5 => ([], [], some [0, 4])
  | 6 => ([], [], some [4])
  | 7 => ([], [], some [2])
  | _ => ([], [], none)
theorem b187 {ags : List AV} {row : Option (List DV)} {r : AV} {row' nw : Option (List DV)} (hal : ags.length ≤ 28) (hrow : row'.isSome = true → row.isSome = true) (h : xwp Try.prog x187 (retK [.tmp 2] row.isSome r row' nw) (St.init ags row)) : Good Try.prog 187 ags row r row' nw :=
  good_of_body' (md := md187) (od := od187) Try.f187 (by kernel_rfl) (by kernel_rfl) (by kernel_rfl) (by kernel_rfl) (by kernel_rfl) hal hrow h

def x188 : XC := (.seq (.ops 1 [
    (0, ⟨(some 4), none, .mv (.k (.d (.val (.int .i64 0))))⟩)] (some [0, 1])) (.seq (.ops 4 [
    (0, ⟨(some 5), none, .mv (.t 0)⟩),
    (1, ⟨(some 6), none, .mv (.t 1)⟩),
    (2, ⟨(some 7), none, .call 190 [(.t 5), (.t 6)] none false⟩),
    (3, ⟨(some 4), none, .mv (.t 7)⟩)] (some [4])) .ret))
def md188 : FuncId → Option Nat × Bool
  | _ => (none, false)
def od188 : Nat → List (List Nat) × List Nat × Option (List Nat)
  | 0 => ([], [], some [0, 1])
  | 1 => ([], [], some [4])
  | _ => ([], [], none)
theorem b188 {ags : List AV} {row : Option (List DV)} {r : AV} {row' nw : Option (List DV)} (hal : ags.length ≤ 8) (hrow : row'.isSome = true → row.isSome = true) (h : xwp Try.prog x188 (retK [.tmp 4] row.isSome r row' nw) (St.init ags row)) : Good Try.prog 188 ags row r row' nw :=
  good_of_body' (md := md188) (od := od188) Try.f188 (by kernel_rfl) (by kernel_rfl) (by kernel_rfl) (by kernel_rfl) (by kernel_rfl) hal hrow h

def x189 : XC := (.seq (.ops 1 [
    (0, ⟨(some 2), none, .mv (.k (.d (.val (.bool false))))⟩)] (some [0])) (.seq (.ops 22 [
    (0, ⟨(some 3), none, .mv (.t 0)⟩),
    (1, ⟨(some 4), none, .arith .or (.t 3) (.k (.d (.val (.int .u8 32))))⟩),
    (2, ⟨(some 5), none, .arith .geq (.t 4) (.k (.d (.val (.int .u8 97))))⟩),
    (3, ⟨(some 6), none, .mv (.t 5)⟩),
    (4, ⟨(some 7), (some (6, true)), .mv (.t 0)⟩),
    (5, ⟨(some 8), (some (6, true)), .arith .or (.t 7) (.k (.d (.val (.int .u8 32))))⟩),
    (6, ⟨(some 9), (some (6, true)), .arith .leq (.t 8) (.k (.d (.val (.int .u8 122))))⟩),
    (7, ⟨(some 10), none, .pick (.t 6) (.t 9) (.k (.d (.val (.bool false))))⟩),
    (8, ⟨(some 11), none, .mv (.t 10)⟩),
    (9, ⟨(some 12), (some (11, false)), .mv (.t 0)⟩),
    (10, ⟨(some 13), (some (11, false)), .arith .geq (.t 12) (.k (.d (.val (.int .u8 48))))⟩),
    (11, ⟨(some 14), (some (11, false)), .mv (.t 13)⟩),
    (12, ⟨(some 15), (some (14, true)), .mv (.t 0)⟩),
    (13, ⟨(some 16), (some (14, true)), .arith .leq (.t 15) (.k (.d (.val (.int .u8 57))))⟩),
    (14, ⟨(some 17), (some (11, false)), .pick (.t 14) (.t 16) (.k (.d (.val (.bool false))))⟩),
    (15, ⟨(some 18), none, .pick (.t 11) (.k (.d (.val (.bool true)))) (.t 17)⟩),
    (16, ⟨(some 19), none, .mv (.t 18)⟩),
    (17, ⟨(some 20), (some (19, false)), .mv (.t 0)⟩),
    (18, ⟨(some 21), (some (19, false)), .call 188 [(.k (.d (.val (.string ⟨#[32, 33, 34, 35, 37, 38, 39, 44, 47, 58, 59, 60, 61, 62, 64, 95, 96, 126]⟩)))), (.t 20)] none false⟩),
    (19, ⟨(some 22), (some (19, false)), .arith .geq (.t 21) (.k (.d (.val (.int .i64 0))))⟩),
    (20, ⟨(some 23), none, .pick (.t 19) (.k (.d (.val (.bool true)))) (.t 22)⟩),
    (21, ⟨(some 2), none, .mv (.t 23)⟩)] (some [2])) .ret))
def md189 : FuncId → Option Nat × Bool
  | _ => (none, false)
def od189 : Nat → List (List Nat) × List Nat × Option (List Nat)
  | 0 => ([], [], some [0])
  | 1 => ([], [], some [2])
  | _ => ([], [], none)
theorem b189 {ags : List AV} {row : Option (List DV)} {r : AV} {row' nw : Option (List DV)} (hal : ags.length ≤ 24) (hrow : row'.isSome = true → row.isSome = true) (h : xwp Try.prog x189 (retK [.tmp 2] row.isSome r row' nw) (St.init ags row)) : Good Try.prog 189 ags row r row' nw :=
  good_of_body' (md := md189) (od := od189) Try.f189 (by kernel_rfl) (by kernel_rfl) (by kernel_rfl) (by kernel_rfl) (by kernel_rfl) hal hrow h

def x190 : XC := (.seq (.ops 1 [
    (0, ⟨(some 4), none, .mv (.k (.d (.val (.int .i64 0))))⟩)] (some [0, 1])) (.seq (.ops 4 [
    (0, ⟨(some 5), none, .mv (.t 0)⟩),
    (1, ⟨(some 6), none, .mv (.t 1)⟩),
    (2, ⟨(some 7), none, .call 191 [(.t 5), (.t 6)] none false⟩),
    (3, ⟨(some 4), none, .mv (.t 7)⟩)] (some [4])) .ret))
def md190 : FuncId → Option Nat × Bool
  | _ => (none, false)
def od190 : Nat → List (List Nat) × List Nat × Option (List Nat)
  | 0 => ([], [], some [0, 1])
  | 1 => ([], [], some [4])
  | _ => ([], [], none)
theorem b190 {ags : List AV} {row : Option (List DV)} {r : AV} {row' nw : Option (List DV)} (hal : ags.length ≤ 8) (hrow : row'.isSome = true → row.isSome = true) (h : xwp Try.prog x190 (retK [.tmp 4] row.isSome r row' nw) (St.init ags row)) : Good Try.prog 190 ags row r row' nw :=
  good_of_body' (md := md190) (od := od190) Try.f190 (by kernel_rfl) (by kernel_rfl) (by kernel_rfl) (by kernel_rfl) (by kernel_rfl) hal hrow h

def x73 : XC := (.seq (.ops 3 [
    (0, ⟨(some 2), none, .box (.t 0)⟩),
    (1, ⟨(some 3), none, .box (.t 1)⟩),
    (2, ⟨(some 4), none, .alloc [(.int .u64 0), (.int .u64 0), (.int .u64 0), (.int .u64 0)]⟩)] (some [2, 3, 4])) (.seq (.seq (.ops 1 [
    (0, ⟨(some 6), none, .mv (.k (.d (.val (.int .i64 0))))⟩)] (some [2, 3, 4, 6])) (.block 0 (.loop (.seq (.ops 1 [
    (0, ⟨(some 7), none, .arith .lss (.t 6) (.k (.d (.val (.int .i64 4))))⟩)] (some [2, 3, 4, 6, 7])) (.seq (.cond (.t 7) .skip (.exit 0)) (.seq (.block 1 (.seq (.ops 2 [
    (0, ⟨(some 8), none, .mv (.t 6)⟩),
    (1, ⟨(some 5), none, .mv (.t 8)⟩)] (some [2, 3, 4, 5, 6])) (.ops 9 [
    (0, ⟨(some 9), none, .mv (.t 5)⟩),
    (1, ⟨(some 10), none, .idxP 4 1 (.t 2) (.t 9)⟩),
    (2, ⟨(some 11), none, .load none (.t 10)⟩),
    (3, ⟨(some 12), none, .mv (.t 5)⟩),
    (4, ⟨(some 13), none, .idxP 4 1 (.t 3) (.t 12)⟩),
    (5, ⟨(some 14), none, .load none (.t 13)⟩),
    (6, ⟨(some 15), none, .arith .or (.t 11) (.t 14)⟩),
    (7, ⟨(some 16), none, .idxP 4 1 (.t 2) (.t 9)⟩),
    (8, ⟨none, none, .store 1 (.t 16) (.t 15)⟩)] (some [2, 3, 4, 6])))) (.ops 2 [
    (0, ⟨(some 17), none, .arith .add (.t 6) (.k (.d (.val (.int .i64 1))))⟩),
    (1, ⟨(some 6), none, .mv (.t 17)⟩)] (some [2, 3, 4, 6])))))))) (.seq (.ops 2 [
    (0, ⟨(some 18), none, .load (some 4) (.t 2)⟩),
    (1, ⟨none, none, .store 4 (.t 4) (.t 18)⟩)] (some [4])) .ret)))
def md73 : FuncId → Option Nat × Bool
  | _ => (none, false)
def od73 : Nat → List (List Nat) × List Nat × Option (List Nat)
  | 0 => ([], [], some [2, 3, 4])
  | 1 => ([], [], some [2, 3, 4, 6])
  | 2 => ([], [], some [2, 3, 4, 6, 7])
  | 3 => ([], [], some [2, 3, 4, 5, 6])
  | 4 => ([[], [0], [0, 1], [], [3], [3, 4], [0, 1, 2, 3, 4, 5], [0, 1, 2, 3, 4, 5, 6], [0, 1, 2, 3, 4, 5, 6, 7]], [0, 1, 2, 3, 4, 5, 6, 7, 8], some [2, 3, 4, 6])
  | 5 => ([], [], some [2, 3, 4, 6])
  | 6 => ([], [], some [4])
  | _ => ([], [], none)
theorem b73 {ags : List AV} {row : Option (List DV)} {r : AV} {row' nw : Option (List DV)} (hal : ags.length ≤ 19) (hrow : row'.isSome = true → row.isSome = true) (h : xwp Try.prog x73 (retK [.cell 4 (some 4)] row.isSome r row' nw) (St.init ags row)) : Good Try.prog 73 ags row r row' nw :=
  good_of_body' (md := md73) (od := od73) Try.f73 (by kernel_rfl) (by kernel_rfl) (by kernel_rfl) (by kernel_rfl) (by kernel_rfl) hal hrow h

def tabA : Tab
  | 29 => some ⟨x29, [.tmp 0], 104, false⟩
  | 31 => some ⟨x31, [.tmp 6, .tmp 7], 47, false⟩
  | 33 => some ⟨x33, [.tmp 4], 11, false⟩
  | 34 => some ⟨x34, [.tmp 6], 25, false⟩
  | 35 => some ⟨x35, [.tmp 4], 26, false⟩
  | 42 => some ⟨x42, [.tmp 6, .tmp 7, .tmp 8], 36, false⟩
  | 84 => some ⟨x84, [.tmp 2], 4, false⟩
  | 85 => some ⟨x85, [.tmp 2], 7, true⟩
  | 86 => some ⟨x86, [.tmp 6], 74, false⟩
  | 132 => some ⟨x132, [.tmp 4], 46, false⟩
  | 133 => some ⟨x133, [.tmp 6], 46, false⟩
  | 134 => some ⟨x134, [.tmp 4], 27, false⟩
  | 135 => some ⟨x135, [.tmp 6], 65, false⟩
  | 156 => some ⟨x156, [.tmp 2], 121, false⟩
  | 157 => some ⟨x157, [.tmp 4], 24, false⟩
  | 158 => some ⟨x158, [.tmp 2], 13, false⟩
  | 83 => some ⟨x83, [.cell 2 (some 8)], 13, false⟩
  | 119 => some ⟨x119, [.cell 4 (some 4)], 24, false⟩
  | 149 => some ⟨x149, [.cell 2 (some 8)], 16, false⟩
  | 150 => some ⟨x150, [], 10, false⟩
  | 162 => some ⟨x162, [.cell 2 (some 8)], 14, false⟩
  | 163 => some ⟨x163, [.tmp 4], 17, false⟩
  | 164 => some ⟨x164, [.cell 4 (some 8)], 20, false⟩
  | 170 => some ⟨x170, [.tmp 2], 16, false⟩
  | 171 => some ⟨x171, [.cell 2 (some 8)], 33, false⟩
  | 172 => some ⟨x172, [.tmp 2], 23, false⟩
  | 176 => some ⟨x176, [.cell 2 (some 8)], 60, false⟩
  | 177 => some ⟨x177, [.tmp 2, .tmp 3], 29, false⟩
  | 178 => some ⟨x178, [], 15, false⟩
  | 179 => some ⟨x179, [.cell 2 (some 4)], 19, false⟩
  | 180 => some ⟨x180, [.cell 2 (some 4)], 10, false⟩
  | 181 => some ⟨x181, [.tmp 2], 34, false⟩
  | 182 => some ⟨x182, [.tmp 2], 54, false⟩
  | 183 => some ⟨x183, [.cell 2 (some 4)], 28, false⟩
  | 184 => some ⟨x184, [.cell 2 (some 4)], 15, false⟩
  | 185 => some ⟨x185, [.tmp 2], 50, false⟩
  | 186 => some ⟨x186, [.tmp 2], 22, false⟩
  | 187 => some ⟨x187, [.tmp 2], 28, false⟩
  | 188 => some ⟨x188, [.tmp 4], 8, false⟩
  | 189 => some ⟨x189, [.tmp 2], 24, false⟩
  | 190 => some ⟨x190, [.tmp 4], 8, false⟩
  | 73 => some ⟨x73, [.cell 4 (some 4)], 19, false⟩
  | _ => none
theorem tabA_ok : TabOK Try.prog tabA := by
  intro f t h ags row r row' nw hal hrow hx
  unfold tabA at h
  split at h
  · cases h; exact b29 hal hrow hx
  · cases h; exact b31 hal hrow hx
  · cases h; exact b33 hal hrow hx
  · cases h; exact b34 hal hrow hx
  · cases h; exact b35 hal hrow hx
  · cases h; exact b42 hal hrow hx
  · cases h; exact b84 hal hrow hx
  · cases h; exact b85 hal hrow hx
  · cases h; exact b86 hal hrow hx
  · cases h; exact b132 hal hrow hx
  · cases h; exact b133 hal hrow hx
  · cases h; exact b134 hal hrow hx
  · cases h; exact b135 hal hrow hx
  · cases h; exact b156 hal hrow hx
  · cases h; exact b157 hal hrow hx
  · cases h; exact b158 hal hrow hx
  · cases h; exact b83 hal hrow hx
  · cases h; exact b119 hal hrow hx
  · cases h; exact b149 hal hrow hx
  · cases h; exact b150 hal hrow hx
  · cases h; exact b162 hal hrow hx
  · cases h; exact b163 hal hrow hx
  · cases h; exact b164 hal hrow hx
  · cases h; exact b170 hal hrow hx
  · cases h; exact b171 hal hrow hx
  · cases h; exact b172 hal hrow hx
  · cases h; exact b176 hal hrow hx
  · cases h; exact b177 hal hrow hx
  · cases h; exact b178 hal hrow hx
  · cases h; exact b179 hal hrow hx
  · cases h; exact b180 hal hrow hx
  · cases h; exact b181 hal hrow hx
  · cases h; exact b182 hal hrow hx
  · cases h; exact b183 hal hrow hx
  · cases h; exact b184 hal hrow hx
  · cases h; exact b185 hal hrow hx
  · cases h; exact b186 hal hrow hx
  · cases h; exact b187 hal hrow hx
  · cases h; exact b188 hal hrow hx
  · cases h; exact b189 hal hrow hx
  · cases h; exact b190 hal hrow hx
  · cases h; exact b73 hal hrow hx
  · cases h

def spP (n : Nat) : CallF → CallF := fun cf f ags row =>
  if f = 118 ∧ row.isNone = true ∧ ags.length ≤ 26 then
    match evC cf n xa118 (LS.init ags none) with
    | some (.normal, s1) => match frOf s1.fr 6 with
      | .dead => match evC cf n xb118 s1 with
        | some (.normal, s) => (resVals (frOf s.fr) (heapOf s.C) rs118).bind fun vs => evRet (heapOf s.C) (zOf s.Z) (tupOf vs) false false
        | some (.ret, s) => (resVals (frOf s.fr) (heapOf s.C) rs118).bind fun vs => evRet (heapOf s.C) (zOf s.Z) (tupOf vs) false false
        | _ => none
      | _ => none
    | _ => none
  else none
theorem evRet_data {C : Heap} {Z : Frz} {v : AV} {r : AV} {row' nr : Option (List DV)} (h : evRet C Z v false false = some (r, row', nr)) : row' = none ∧ nr = none := by
  simp only [evRet, Bool.false_eq_true, if_false] at h
  obtain ⟨r', _, h3⟩ := Option.map_eq_some_iff.1 h
  cases h3; exact ⟨rfl, rfl⟩
theorem spP_ok (n : Nat) (cf : CallF) (hcf : ∀ f ags row r row' nw, cf f ags row = some (r, row', nw) → Good Try.prog f ags row r row' nw) (f : FuncId) (ags : List AV) (row : Option (List DV)) (r : AV) (row' nw : Option (List DV)) (h : spP n cf f ags row = some (r, row', nw)) : Good Try.prog f ags row r row' nw := by
  unfold spP at h
  split at h
  case isFalse => cases h
  rename_i hc
  obtain ⟨rfl, hr, hal⟩ := hc
  have hr' : row = none := by cases row <;> simp_all
  subst hr'
  split at h
  case h_2 => cases h
  rename_i s1 h1
  split at h
  case h_2 => cases h
  rename_i h6
  have fin : ∀ e s, evC cf n xb118 s1 = some (e, s) → (e = .normal ∨ e = .ret) → ((resVals (frOf s.fr) (heapOf s.C) rs118).bind fun vs => evRet (heapOf s.C) (zOf s.Z) (tupOf vs) false false) = some (r, row', nw) → Good Try.prog 118 ags none r row' nw := by
    intro e s h2 he h3
    obtain ⟨vs, h4, h5⟩ := Option.bind_eq_some_iff.1 h3
    obtain ⟨rfl, rfl⟩ := evRet_data h5
    refine parse_of hal ?_
    rw [← LS.init_eq]
    refine evC_sound hcf n _ _ _ _ h1 _ ⟨rfl, h6, ?_⟩
    refine evC_sound hcf n _ _ _ _ h2 _ ?_
    rcases he with rfl | rfl
    · exact ⟨vs, h4, evRet_sound h5⟩
    · exact ⟨vs, h4, evRet_sound h5⟩
  split at h
  · rename_i s h2; exact fin _ _ h2 (.inl rfl) h
  · rename_i s h2; exact fin _ _ h2 (.inr rfl) h
  · cases h
end Go.Sv
namespace Go.Sv
open Go Go.Proofs
set_option maxRecDepth 100000
def x47 : XC := (.seq (.ops 3 [
    (0, ⟨(some 2), none, .box (.t 0)⟩),
    (1, ⟨(some 3), none, .box (.t 1)⟩),
    (2, ⟨(some 4), none, .mv (.k (.d (.val (.bool false))))⟩)] (some [2, 3])) (.seq (.seq (.ops 35 [
    (0, ⟨(some 6), none, .fadd 0 (.t 2)⟩),
    (1, ⟨(some 7), none, .load none (.t 6)⟩),
    (2, ⟨(some 8), none, .fadd 0 (.t 3)⟩),
    (3, ⟨(some 9), none, .load none (.t 8)⟩),
    (4, ⟨(some 10), none, .arith .neq (.t 7) (.t 9)⟩),
    (5, ⟨(some 11), none, .mv (.t 10)⟩),
    (6, ⟨(some 12), (some (11, false)), .fadd 1 (.t 2)⟩),
    (7, ⟨(some 13), (some (11, false)), .load (some 4) (.t 12)⟩),
    (8, ⟨(some 14), (some (11, false)), .fadd 1 (.t 3)⟩),
    (9, ⟨(some 15), (some (11, false)), .load (some 4) (.t 14)⟩),
    (10, ⟨(some 16), (some (11, false)), .eqAgg 4 true (.t 13) (.t 15)⟩),
    (11, ⟨(some 17), none, .pick (.t 11) (.k (.d (.val (.bool true)))) (.t 16)⟩),
    (12, ⟨(some 18), none, .mv (.t 17)⟩),
    (13, ⟨(some 19), (some (18, false)), .fadd 5 (.t 2)⟩),
    (14, ⟨(some 20), (some (18, false)), .load none (.t 19)⟩),
    (15, ⟨(some 21), (some (18, false)), .fadd 5 (.t 3)⟩),
    (16, ⟨(some 22), (some (18, false)), .load none (.t 21)⟩),
    (17, ⟨(some 23), (some (18, false)), .arith .neq (.t 20) (.t 22)⟩),
    (18, ⟨(some 24), none, .pick (.t 18) (.k (.d (.val (.bool true)))) (.t 23)⟩),
    (19, ⟨(some 25), none, .mv (.t 24)⟩),
    (20, ⟨(some 26), (some (25, false)), .fadd 6 (.t 2)⟩),
    (21, ⟨(some 27), (some (25, false)), .load none (.t 26)⟩),
    (22, ⟨(some 28), (some (25, false)), .fadd 6 (.t 3)⟩),
    (23, ⟨(some 29), (some (25, false)), .load none (.t 28)⟩),
    (24, ⟨(some 30), (some (25, false)), .arith .neq (.t 27) (.t 29)⟩),
    (25, ⟨(some 31), none, .pick (.t 25) (.k (.d (.val (.bool true)))) (.t 30)⟩),
    (26, ⟨(some 32), none, .mv (.t 31)⟩),
    (27, ⟨(some 33), (some (32, false)), .fadd 7 (.t 2)⟩),
    (28, ⟨(some 34), (some (32, false)), .load none (.t 33)⟩),
    (29, ⟨(some 35), (some (32, false)), .lenS (.t 34)⟩),
    (30, ⟨(some 36), (some (32, false)), .fadd 7 (.t 3)⟩),
    (31, ⟨(some 37), (some (32, false)), .load none (.t 36)⟩),
    (32, ⟨(some 38), (some (32, false)), .lenS (.t 37)⟩),
    (33, ⟨(some 39), (some (32, false)), .arith .neq (.t 35) (.t 38)⟩),
    (34, ⟨(some 40), none, .pick (.t 32) (.k (.d (.val (.bool true)))) (.t 39)⟩)] (some [2, 3, 40])) (.cond (.t 40) (.seq (.ops 1 [
    (0, ⟨(some 4), none, .mv (.k (.d (.val (.bool false))))⟩)] (some [4])) .ret) .skip)) (.seq (.seq (.ops 1 [
    (0, ⟨(some 5), none, .mv (.k (.d (.val (.int .i64 0))))⟩)] (some [2, 3, 5])) (.block 0 (.loop (.seq (.seq (.ops 5 [
    (0, ⟨(some 41), none, .mv (.t 5)⟩),
    (1, ⟨(some 42), none, .fadd 7 (.t 2)⟩),
    (2, ⟨(some 43), none, .load none (.t 42)⟩),
    (3, ⟨(some 44), none, .lenS (.t 43)⟩),
    (4, ⟨(some 45), none, .arith .lss (.t 41) (.t 44)⟩)] (some [2, 3, 5, 45])) (.cond (.t 45) .skip (.exit 0))) (.seq (.block 1 (.seq (.ops 12 [
    (0, ⟨(some 48), none, .fadd 7 (.t 2)⟩),
    (1, ⟨(some 49), none, .load none (.t 48)⟩),
    (2, ⟨(some 50), none, .mv (.t 5)⟩),
    (3, ⟨(some 51), none, .idxS 8 (.t 49) (.t 50)⟩),
    (4, ⟨(some 52), none, .load (some 8) (.t 51)⟩),
    (5, ⟨(some 53), none, .fadd 7 (.t 3)⟩),
    (6, ⟨(some 54), none, .load none (.t 53)⟩),
    (7, ⟨(some 55), none, .mv (.t 5)⟩),
    (8, ⟨(some 56), none, .idxS 8 (.t 54) (.t 55)⟩),
    (9, ⟨(some 57), none, .load (some 8) (.t 56)⟩),
    (10, ⟨(some 58), none, .call 47 [(.t 52), (.t 57)] none false⟩),
    (11, ⟨(some 59), none, .un .not (.t 58)⟩)] (some [2, 3, 5, 59])) (.cond (.t 59) (.seq (.ops 1 [
    (0, ⟨(some 4), none, .mv (.k (.d (.val (.bool false))))⟩)] (some [4])) .ret) .skip))) (.ops 3 [
    (0, ⟨(some 46), none, .mv (.t 5)⟩),
    (1, ⟨(some 47), none, .arith .add (.t 46) (.k (.d (.val (.int .i64 1))))⟩),
    (2, ⟨(some 5), none, .mv (.t 47)⟩)] (some [2, 3, 5]))))))) (.seq (.ops 1 [
    (0, ⟨(some 4), none, .mv (.k (.d (.val (.bool true))))⟩)] (some [4])) .ret))))
def md47 : FuncId → Option Nat × Bool
  | _ => (none, false)
def od47 : Nat → List (List Nat) × List Nat × Option (List Nat)
  | 0 => ([], [], some [2, 3])
  | 1 => ([], [], some [2, 3, 40])
  | 2 => ([], [], some [4])
  | 3 => ([], [], some [2, 3, 5])
  | 4 => ([], [], some [2, 3, 5, 45])
  | 5 => ([], [], some [2, 3, 5])
  | 6 => ([[], [0], [], [0, 1, 2], [0, 1, 2, 3], [], [5], [], [5, 6, 7], [5, 6, 7, 8], [0, 1, 2, 3, 4, 5, 6, 7, 8, 9], [0, 1, 2, 3, 4, 5, 6, 7, 8, 9, 10]], [0, 1, 2, 3, 4, 5, 6, 7, 8, 9, 10, 11], some [2, 3, 5, 59])
  | 7 => ([], [], some [4])
  | 8 => ([], [], some [4])
  | _ => ([], [], none)
theorem b47 {ags : List AV} {row : Option (List DV)} {r : AV} {row' nw : Option (List DV)} (hal : ags.length ≤ 60) (hrow : row'.isSome = true → row.isSome = true) (h : xwp Try.prog x47 (retK [.tmp 4] row.isSome r row' nw) (St.init ags row)) : Good Try.prog 47 ags row r row' nw :=
  good_of_body' (md := md47) (od := od47) Try.f47 (by kernel_rfl) (by kernel_rfl) (by kernel_rfl) (by kernel_rfl) (by kernel_rfl) hal hrow h

end Go.Sv
namespace Go.Sv
open Go Go.Proofs
set_option maxRecDepth 100000
def zsN : List Value := [.int .i64 0, .int .u64 0, .int .u64 0, .int .u64 0, .int .u64 0, .int .i64 0, .int .i64 0, .slice none 0 0]
section
variable {P : Program} {Q : Cont} {fr : Fr} {C : Heap} {Z : Frz} {nx : Nat} {base n d : Nat} {l : List (Nat × XO)} {kp : Option (List Nat)} {x i y s : X}
end
set_option maxHeartbeats 4000000
attribute [local irreducible] W E R KP thenK blockK retK Good xwp aRun
end Go.Sv
namespace Go.Sv
open Go Go.Proofs
theorem encL_app : ∀ (l r : List T), encL (l ++ r) = encL l ++ encL r
  | [], r => rfl
  | t :: l, r => by rw [List.cons_append, encL, encL_app l r, encL, List.append_assoc]
theorem encN_norm (t : T) : (encN t).map DV.norm = encN t := by cases t; rfl
theorem encL_norm : ∀ l : List T, (encL l).map DV.norm = encL l
  | [] => rfl
  | t :: l => by rw [encL, List.map_append, encN_norm, encL_norm l]
theorem encL_length : ∀ l : List T, (encL l).length = l.length * 8
  | [] => rfl
  | t :: l => by rw [encL, List.length_append, encN_len, encL_length l, List.length_cons]; omega
theorem mapO_app (g : AV → Option (DV × List Nat)) : ∀ (a b : List AV) (x y : List DV) (u v : List Nat), mapO g a = some (x, u) → mapO g b = some (y, v) → mapO g (a ++ b) = some (x ++ y, u ++ v)
  | [], b, x, y, u, v, h1, h2 => by cases h1; exact h2
  | c :: a, b, x, y, u, v, h1, h2 => by
    simp only [mapO] at h1
    obtain ⟨⟨p, q⟩, h3, h4⟩ := Option.bind_eq_some_iff.1 h1
    obtain ⟨⟨p', q'⟩, h5, h6⟩ := Option.map_eq_some_iff.1 h4
    cases h6
    simp only [List.cons_append, mapO, h3, Option.bind_some, mapO_app g a b p' y q' v h5 h2, Option.map_some, List.append_assoc]
theorem mapO_encL {C : Heap} {ex : Nat → Bool} (l : List T) : mapO (convC C ex 8) ((encL l).map AV.d) = some (encL l, []) := by
  rw [mapO_d, encL_norm]
theorem one_encL (l : List T) : ((encL l).map AV.d).all AV.one = true := by
  rw [List.all_map]; simp [AV.one]
section
variable {P : Program} {Q : Cont} {fr : Fr} {C : Heap} {Z : Frz} {nx : Nat} {base n d : Nat} {l : List (Nat × XO)} {kp : Option (List Nat)} {x i y s : X}
theorem r_appN {b c id m j : Nat} {r src : List AV} (hs : s.ev fr = .slL b 0 m 8) (hx : x.ev fr = .slL c 0 j 8) (hC : C b = some r) (hCc : C c = some src) (hr : r.length = m * 8) (hsl : src.length = j * 8) (h1 : src.all AV.one = true) (hz : Z b = false) (hid : base + n = id) (hb : m + j ≤ 1000000)
    (k : R P l base kp Q nx (fr.put d (.slL id 0 (m + j) 8)) ((C.del b).put id (r ++ src)) Z) : R P ((n, ⟨some d, none, .app [.int .i64 0, .int .u64 0, .int .u64 0, .int .u64 0, .int .u64 0, .int .i64 0, .int .i64 0, .slice none 0 0] 80 s x⟩) :: l) base kp Q nx fr C Z := by
  subst hid
  refine r_w (v := .slL (base + n) 0 (m + j) 8) (C' := (C.del b).put (base + n) (r ++ src)) ?_ k
  have h2 : srcOf C 8 (.slL c 0 j 8) = some (src, j) := by
    simp only [srcOf, if_true, hCc, Option.bind_some]
    rw [if_pos (by omega), List.drop_zero, List.take_of_length_le (by omega)]
  simp only [xw, List.length_cons, List.length_nil, Nat.zero_add, Nat.reduceAdd, hx, h2, Option.bind_some, hs, hC]
  rw [if_pos h1, if_pos ⟨trivial, hz, by omega, by omega⟩, List.take_of_length_le (by omega)]
end
set_option maxRecDepth 100000
set_option maxHeartbeats 4000000
attribute [local irreducible] W E R KP thenK blockK retK Good xwp aRun
theorem conv_row {C : Heap} {ex : Nat → Bool} {k id m : Nat} {row : List AV} {ds : List DV} {us : List Nat} (hC : C id = some row) (hm : row.length = m * 8) (h0 : 0 < m) (hex : ex id = false) (hr : mapO (convC C ex k) row = some (ds, us)) : convC C ex (k + 1) (.slL id 0 m 8) = some (.sl ds m, id :: us) := by
  simp only [convC]
  rw [if_neg (by omega), if_neg (by simp [hex])]
  simp only [hC, Option.bind_some]
  rw [if_pos (by omega), List.drop_zero, List.take_of_length_le (by omega), hr]
  rfl
end Go.Sv
namespace Go.Sv
open Go Go.Proofs
set_option maxRecDepth 100000
set_option maxHeartbeats 4000000
attribute [local irreducible] W E R KP thenK blockK retK Good xwp aRun
end Go.Sv
namespace Go.Sv
open Go Go.Proofs
set_option maxRecDepth 100000
set_option maxHeartbeats 4000000
attribute [local irreducible] W E R KP thenK blockK retK Good xwp aRun
end Go.Sv
namespace Go.Sv
open Go Go.Proofs
section
variable {P : Program} {Q : Cont} {fr : Fr} {C : Heap} {Z : Frz} {nx : Nat} {base n d0 : Nat} {l : List (Nat × XO)} {kp : Option (List Nat)} {x y : X}
end
set_option maxRecDepth 100000
set_option maxHeartbeats 4000000
attribute [local irreducible] W E R KP thenK blockK retK Good xwp aRun
end Go.Sv
namespace Go.Sv
open Go Go.Proofs
set_option maxRecDepth 100000
set_option maxHeartbeats 4000000
attribute [local irreducible] W E R KP thenK blockK retK Good xwp aRun
end Go.Sv
namespace Go.Sv
open Go Go.Proofs
set_option maxRecDepth 100000
end Go.Sv
namespace Go.Sv
open Go Go.Proofs
set_option maxRecDepth 100000
set_option maxHeartbeats 4000000
attribute [local irreducible] W E R KP thenK blockK retK Good xwp aRun
end Go.Sv
namespace Go.Sv
open Go Go.Proofs
section
variable {P : Program} {Q : Cont} {fr : Fr} {C : Heap} {Z : Frz} {nx : Nat} {base n d : Nat} {l : List (Nat × XO)} {kp : Option (List Nat)} {x i y s : X} {j c : Nat}
theorem r_rem2 {w : Int} (hx : x.ev fr = .d (.val (.int .u64 w))) (hy : y.ev fr = .d (.val (.int .u64 2))) (hw : 0 ≤ w) (k : R P l base kp Q nx (fr.put d (.d (.val (.int .u64 (w % 2))))) C Z) : R P ((n, ⟨some d, none, .arith .rem x y⟩) :: l) base kp Q nx fr C Z := by
  refine r_p ?_ k
  have e : Int.tmod w 2 = w % 2 := Int.tmod_eq_emod_of_nonneg hw
  simp only [xp, hx, hy, arith]
  exact congrArg (fun z => some (AV.d (DV.val (Value.int .u64 z)))) e
theorem r_ixPL {m b off : Nat} {kd : IntKind} (hx : x.ev fr = .ptrL b off) (hi : i.ev fr = .d (.val (.int kd (j : Nat)))) (hj : j < m) (k : R P l base kp Q nx (fr.put d (.ptrL b (off + j))) C Z) : R P ((n, ⟨some d, none, .idxP m 1 x i⟩) :: l) base kp Q nx fr C Z := by
  refine r_p ?_ k
  simp [xp, hx, hi, intIn, hj]
theorem r_ldWL {b : Nat} {w0 w1 w2 w3 : Int} (hx : x.ev fr = .ptrL b (0 + j)) (hr : C b = some [.d (.val (.int .u64 w0)), .d (.val (.int .u64 w1)), .d (.val (.int .u64 w2)), .d (.val (.int .u64 w3))]) (hj : j < 4) (k : R P l base kp Q nx (fr.put d (.d (.val (.int .u64 ([w0, w1, w2, w3].getD j 0))))) C Z) : R P ((n, ⟨some d, none, .load none x⟩) :: l) base kp Q nx fr C Z := by
  refine r_l ?_ k
  simp only [xl, hx, rowOf, hr, Option.map_some, Option.bind_some, subA, Nat.zero_add]
  match j, hj with
  | 0, _ => rfl
  | 1, _ => rfl
  | 2, _ => rfl
  | 3, _ => rfl
end
set_option maxRecDepth 100000
set_option maxHeartbeats 4000000
attribute [local irreducible] W E R KP thenK blockK retK Good xwp aRun
def setA (a b c d : Int) : AV := .agg [.d (.val (.int .u64 a)), .d (.val (.int .u64 b)), .d (.val (.int .u64 c)), .d (.val (.int .u64 d))]
end Go.Sv
namespace Go.Sv
open Go Go.Proofs
end Go.Sv
namespace Go.Sv
open Go

def word (s : ByteArray) (i j : Nat) : List Nat := (List.range' i (j - i)).map (byteN s)
theorem word_nil (s : ByteArray) (i : Nat) : word s i i = [] := by simp [word]
theorem word_one (s : ByteArray) (i : Nat) : word s i (i + 1) = [byteN s i] := by
  simp [word, Nat.add_sub_cancel_left]
theorem word_len (s : ByteArray) (i j : Nat) : (word s i j).length = j - i := by simp [word]
theorem word_app (s : ByteArray) {i j k : Nat} (h : i ≤ j) (h2 : j ≤ k) : word s i j ++ word s j k = word s i k := by
  unfold word
  rw [← List.map_append]
  congr 1
  have e : j = i + (j - i) := by omega
  conv => lhs; rhs; arg 1; rw [e]
  rw [List.range'_append_1]
  congr 1; omega
theorem word_split (s : ByteArray) {i k : Nat} (h : i ≤ k) {u v : List Nat} (e : word s i k = u ++ v) : i + u.length ≤ k ∧ u = word s i (i + u.length) ∧ v = word s (i + u.length) k := by
  have hl := congrArg List.length e
  rw [word_len, List.length_append] at hl
  have h1 : i + u.length ≤ k := by omega
  rw [← word_app s (Nat.le_add_right i u.length) h1] at e
  have := List.append_inj e (by rw [word_len]; omega)
  exact ⟨h1, this.1.symm, this.2.symm⟩

def powL (P : List Nat → Prop) : Nat → List Nat → Prop
  | 0, w => w = []
  | n + 1, w => ∃ u v, w = u ++ v ∧ P u ∧ powL P n v

mutual
def L : T → List Nat → Prop
  | .node k a b c d mn mx subs, w =>
    if k = 1 then w = []
    else if k = 2 then ∃ x, w = [x] ∧ inG a b c d x = true
    else if k = 3 then catL subs w
    else if k = 4 then altL subs w
    else if k = 5 then ∃ r : Nat, mn ≤ r ∧ (mx < 0 ∨ (r : Int) ≤ mx) ∧ powL (fstL subs) r w
    else False
def catL : List T → List Nat → Prop
  | [], w => w = []
  | t :: l, w => ∃ u v, w = u ++ v ∧ L t u ∧ catL l v
def altL : List T → List Nat → Prop
  | [], _ => False
  | t :: l, w => L t w ∨ altL l w
def fstL : List T → List Nat → Prop
  | [], w => w = []
  | t :: _, w => L t w
end

def At (p : List Bool) (j : Nat) : Prop := p.getD j false = true
theorem At.lt {p : List Bool} {j : Nat} (h : At p j) : j < p.length := by
  unfold At at h
  rcases Nat.lt_or_ge j p.length with h' | h'
  · exact h'
  · rw [List.getD_eq_getElem?_getD, List.getElem?_eq_none h'] at h; simp at h
theorem at_rep (m j : Nat) : ¬ At (List.replicate m false) j := by
  intro h
  have := h.lt
  unfold At at h
  rw [List.getD_eq_getElem?_getD, List.getElem?_eq_getElem this] at h
  simp at h
theorem at_set {p : List Bool} {i : Nat} {v : Bool} (j : Nat) (hi : i < p.length) : At (p.set i v) j ↔ (j = i ∧ v = true) ∨ (j ≠ i ∧ At p j) := by
  unfold At
  rw [List.getD_eq_getElem?_getD, List.getD_eq_getElem?_getD, List.getElem?_set]
  by_cases h : i = j
  · subst h; simp [hi]
  · simp [h, Ne.symm h]
theorem at_ext {p q : List Bool} (hl : p.length = q.length) (h : ∀ j, At p j ↔ At q j) : p = q := by
  refine List.ext_getElem hl fun j h1 h2 => ?_
  have := h j
  unfold At at this
  rw [List.getD_eq_getElem?_getD, List.getD_eq_getElem?_getD, List.getElem?_eq_getElem h1, List.getElem?_eq_getElem h2] at this
  simp only [Option.getD_some] at this
  exact Bool.eq_iff_iff.2 this

theorem at_addTo {p q : List Bool} : ∀ (m : Nat), m ≤ p.length → ∀ j, At (addTo p q m).1 j ↔ At p j ∨ (j < m ∧ At q j)
  | 0, _, j => by simp [addTo]
  | m + 1, h, j => by
    have ih := at_addTo (p := p) (q := q) m (by omega)
    have hl : m < (addTo p q m).1.length := by rw [addTo_len]; omega
    simp only [addTo]
    split
    · rename_i hc
      simp only [at_set j hl, ih j]
      constructor
      · rintro (⟨rfl, _⟩ | ⟨_, h | ⟨h1, h2⟩⟩)
        · exact .inr ⟨by omega, hc.1⟩
        · exact .inl h
        · exact .inr ⟨by omega, h2⟩
      · intro h
        by_cases hj : j = m
        · exact .inl (by simp [hj])
        · rcases h with h | ⟨h1, h2⟩
          · exact .inr ⟨hj, .inl h⟩
          · exact .inr ⟨hj, .inr ⟨by omega, h2⟩⟩
    · rename_i hc
      rw [ih j]
      constructor
      · rintro (h | ⟨h1, h2⟩)
        · exact .inl h
        · exact .inr ⟨by omega, h2⟩
      · rintro (h | ⟨h1, h2⟩)
        · exact .inl h
        · by_cases hj : j = m
          · subst hj
            have h3 : At (addTo p q j).1 j := by
              unfold At
              cases hb : (addTo p q j).1.getD j false with
              | true => rfl
              | false => exact absurd ⟨h2, hb⟩ hc
            rcases (ih j).1 h3 with h | ⟨h1, _⟩
            · exact .inl h
            · omega
          · exact .inr ⟨by omega, h2⟩
theorem addTo_new {p q : List Bool} : ∀ (m : Nat), m ≤ p.length → ((addTo p q m).2 = true ↔ ∃ j, j < m ∧ At q j ∧ ¬ At p j)
  | 0, _ => by simp [addTo]
  | m + 1, h => by
    have ih := addTo_new (p := p) (q := q) m (by omega)
    have ha := at_addTo (p := p) (q := q) m (by omega) m
    simp only [addTo]
    split
    · rename_i hc
      simp only [true_iff]
      refine ⟨m, by omega, hc.1, fun hp => ?_⟩
      have := ha.2 (.inl hp)
      unfold At at this
      rw [hc.2] at this; cases this
    · rename_i hc
      rw [ih]
      constructor
      · rintro ⟨j, h1, h2, h3⟩; exact ⟨j, by omega, h2, h3⟩
      · rintro ⟨j, h1, h2, h3⟩
        by_cases hj : j = m
        · subst hj
          exfalso
          refine hc ⟨h2, ?_⟩
          cases hb : (addTo p q j).1.getD j false with
          | false => rfl
          | true =>
            rcases ha.1 hb with h | ⟨h, _⟩
            · exact absurd h h3
            · omega
        · exact ⟨j, by omega, h2, h3⟩

def Goes (s : ByteArray) (f : List Bool → List Bool) (P : List Nat → Prop) : Prop :=
  ∀ p, p.length = s.size + 1 → (f p).length = s.size + 1 ∧ ∀ j, At (f p) j ↔ ∃ i, i ≤ j ∧ At p i ∧ j ≤ s.size ∧ P (word s i j)

def iter (f : List Bool → List Bool) : Nat → List Bool → List Bool
  | 0, p => p
  | n + 1, p => iter f n (f p)
theorem iter_len {s : ByteArray} {f : List Bool → List Bool} {P : List Nat → Prop} (hf : Goes s f P) : ∀ (n : Nat) (p : List Bool), p.length = s.size + 1 → (iter f n p).length = s.size + 1
  | 0, p, h => h
  | n + 1, p, h => iter_len hf n _ (hf p h).1
theorem iter_goes {s : ByteArray} {f : List Bool → List Bool} {P : List Nat → Prop} (hf : Goes s f P) : ∀ n, Goes s (iter f n) (powL P n)
  | 0 => fun p hp => ⟨hp, fun j => by
      simp only [iter, powL]
      constructor
      · intro h; exact ⟨j, Nat.le_refl _, h, by have := h.lt; omega, word_nil s j⟩
      · rintro ⟨i, h1, h2, h3, h4⟩
        have := congrArg List.length h4
        rw [word_len] at this
        simp at this
        rw [show j = i by omega]; exact h2⟩
  | n + 1 => fun p hp => by
    obtain ⟨h1, h2⟩ := hf p hp
    obtain ⟨h3, h4⟩ := iter_goes hf n (f p) h1
    refine ⟨h3, fun j => ?_⟩
    simp only [iter, powL]
    rw [h4 j]
    constructor
    · rintro ⟨i, g1, g2, g3, g4⟩
      obtain ⟨i0, k1, k2, k3, k4⟩ := (h2 i).1 g2
      exact ⟨i0, by omega, k2, g3, _, _, (word_app s k1 g1).symm, k4, g4⟩
    · rintro ⟨i, g1, g2, g3, u, v, e, g4, g5⟩
      obtain ⟨k1, k2, k3⟩ := word_split s g1 e
      refine ⟨i + u.length, k1, (h2 _).2 ⟨i, by omega, g2, by omega, k2 ▸ g4⟩, g3, k3 ▸ g5⟩
def Sub (p q : List Bool) : Prop := ∀ j, At p j → At q j
theorem Goes.mono {s : ByteArray} {f : List Bool → List Bool} {P : List Nat → Prop} (hf : Goes s f P) {p q : List Bool} (hp : p.length = s.size + 1) (hq : q.length = s.size + 1) (h : Sub p q) : Sub (f p) (f q) := by
  intro j hj
  obtain ⟨i, h1, h2, h3, h4⟩ := ((hf p hp).2 j).1 hj
  exact ((hf q hq).2 j).2 ⟨i, h1, h i h2, h3, h4⟩
theorem Goes.step {s : ByteArray} {f : List Bool → List Bool} {P : List Nat → Prop} (hf : Goes s f P) {p q r : List Bool} (hp : p.length = s.size + 1) (hq : q.length = s.size + 1) (hr : r.length = s.size + 1) (h : ∀ j, At r j → At p j ∨ At q j) : ∀ j, At (f r) j → At (f p) j ∨ At (f q) j := by
  intro j hj
  obtain ⟨i, h1, h2, h3, h4⟩ := ((hf r hr).2 j).1 hj
  rcases h i h2 with h | h
  · exact .inl (((hf p hp).2 j).2 ⟨i, h1, h, h3, h4⟩)
  · exact .inr (((hf q hq).2 j).2 ⟨i, h1, h, h3, h4⟩)
theorem iter_sub {s : ByteArray} {f : List Bool → List Bool} {P : List Nat → Prop} (hf : Goes s f P) {out : List Bool} (ho : out.length = s.size + 1) (hc : Sub (f out) out) : ∀ (n : Nat) (p : List Bool), p.length = s.size + 1 → Sub p out → Sub (iter f n p) out
  | 0, p, _, h => h
  | n + 1, p, hp, h => iter_sub hf ho hc n (f p) (hf p hp).1 fun j hj => hc j (hf.mono hp ho h j hj)

theorem moreG_spec {s : ByteArray} {f : List Bool → List Bool} {P : List Nat → Prop} (hf : Goes s f P) (mx : Int) : ∀ (n : Nat) (k : Int) (p out : List Bool), p.length = s.size + 1 → out.length = s.size + 1 → falses out < n →
    (∀ j, At (f out) j → At out j ∨ At (f p) j) → ∀ j, At (moreG f mx n k p out) j ↔ At out j ∨ ∃ r : Nat, 1 ≤ r ∧ (mx < 0 ∨ k + r ≤ mx) ∧ At (iter f r p) j
  | 0, _, _, _, _, _, h, _, _ => by omega
  | n + 1, k, p, out, hp, ho, hn, hc, j => by
    have hfp := (hf p hp).1
    simp only [moreG]
    rw [hfp]
    split
    case isFalse hk =>
      constructor
      · exact .inl
      · rintro (h | ⟨r, h1, h2, _⟩)
        · exact h
        · omega
    rename_i hk
    have hl2 : (addTo out (f p) (s.size + 1)).1.length = s.size + 1 := by rw [addTo_len]; exact ho
    have hat : ∀ j, At (addTo out (f p) (s.size + 1)).1 j ↔ At out j ∨ At (f p) j := fun j => by
      rw [at_addTo _ (by omega)]
      exact or_congr Iff.rfl ⟨fun h => h.2, fun h => ⟨by have := h.lt; omega, h⟩⟩
    have hnew := addTo_new (p := out) (q := f p) (s.size + 1) (by omega)
    have hfs := addTo_falses out (f p) (s.size + 1) (by omega)
    split
    · rename_i hcame
      have hc' : ∀ j, At (f (addTo out (f p) (s.size + 1)).1) j → At (addTo out (f p) (s.size + 1)).1 j ∨ At (f (f p)) j := fun j hj => by
        rcases hf.step ho hfp hl2 (fun j hj => (hat j).1 hj) j hj with h | h
        · exact .inl ((hat j).2 (hc j h))
        · exact .inr h
      have := hfs.2 hcame
      rw [moreG_spec hf mx n (k + 1) (f p) _ hfp hl2 (by omega) hc' j, hat j]
      constructor
      · rintro ((h | h) | ⟨r, h1, h2, h3⟩)
        · exact .inl h
        · exact .inr ⟨1, by omega, by omega, h⟩
        · exact .inr ⟨r + 1, by omega, by omega, h3⟩
      · rintro (h | ⟨r, h1, h2, h3⟩)
        · exact .inl (.inl h)
        · match r, h1 with
          | 1, _ => exact .inl (.inr h3)
          | r + 2, _ => exact .inr ⟨r + 1, by omega, by omega, h3⟩
    · rename_i hcame
      have hsub : Sub (f p) out := fun j hj => by
        by_cases h : At out j
        · exact h
        · exact absurd (hnew.2 ⟨j, by have := hj.lt; omega, hj, h⟩) hcame
      have hcl : Sub (f out) out := fun j hj => (hc j hj).elim id (hsub j)
      rw [hat j]
      constructor
      · rintro (h | h)
        · exact .inl h
        · exact .inl (hsub j h)
      · rintro (h | ⟨r, h1, _, h3⟩)
        · exact .inl h
        · match r, h1 with
          | r + 1, _ => exact .inl (iter_sub hf ho hcl r (f p) hfp hsub j h3)
theorem minG_spec (f : List Bool → List Bool) : ∀ (n : Nat) (p : List Bool), ((minG f n p).2 = false ∧ (minG f n p).1 = iter f n p) ∨ ((minG f n p).2 = true ∧ (∀ j, ¬ At (minG f n p).1 j) ∧ ∃ k, k ≤ n ∧ (minG f n p).1 = iter f k p)
  | 0, p => .inl ⟨rfl, rfl⟩
  | n + 1, p => by
    simp only [minG]
    split
    · rename_i h
      refine .inr ⟨rfl, fun j hj => ?_, 0, by omega, rfl⟩
      have hlt := hj.lt
      unfold At at hj
      rw [List.getD_eq_getElem?_getD, List.getElem?_eq_getElem hlt] at hj
      simp only [Option.getD_some] at hj
      have : p.any id = true := List.any_eq_true.2 ⟨_, List.getElem_mem hlt, hj⟩
      rw [h] at this; cases this
    · rcases minG_spec f n (f p) with h | ⟨h1, h2, k, h3, h4⟩
      · exact .inl h
      · exact .inr ⟨h1, h2, k + 1, by omega, h4⟩
theorem iter_add (f : List Bool → List Bool) : ∀ (a b : Nat) (p : List Bool), iter f (a + b) p = iter f b (iter f a p)
  | 0, b, p => by rw [Nat.zero_add]; rfl
  | a + 1, b, p => by rw [Nat.succ_add]; exact iter_add f a b (f p)
theorem iter_empty {s : ByteArray} {f : List Bool → List Bool} {P : List Nat → Prop} (hf : Goes s f P) (n : Nat) {p : List Bool} (hp : p.length = s.size + 1) (h : ∀ j, ¬ At p j) : ∀ j, ¬ At (iter f n p) j := fun j hj => by
  obtain ⟨i, _, h2, _⟩ := ((iter_goes hf n p hp).2 j).1 hj
  exact h i h2
theorem falses_le (p : List Bool) : falses p ≤ p.length := List.countP_le_length

theorem ex_pow {s : ByteArray} {f : List Bool → List Bool} {P : List Nat → Prop} (hf : Goes s f P) {p : List Bool} (hp : p.length = s.size + 1) (C : Nat → Prop) (j : Nat) : (∃ r, C r ∧ At (iter f r p) j) ↔ ∃ i, i ≤ j ∧ At p i ∧ j ≤ s.size ∧ ∃ r, C r ∧ powL P r (word s i j) := by
  constructor
  · rintro ⟨r, h1, h2⟩
    obtain ⟨i, g1, g2, g3, g4⟩ := ((iter_goes hf r p hp).2 j).1 h2
    exact ⟨i, g1, g2, g3, r, h1, g4⟩
  · rintro ⟨i, g1, g2, g3, r, h1, g4⟩
    exact ⟨r, h1, ((iter_goes hf r p hp).2 j).2 ⟨i, g1, g2, g3, g4⟩⟩

theorem repG_goes {s : ByteArray} {f : List Bool → List Bool} {P : List Nat → Prop} (hf : Goes s f P) {mn mx : Int} (h0 : 0 ≤ mn) (hm : mx < 0 ∨ mn ≤ mx) : Goes s (repG f (s.size + 1) mn mx) (fun w => ∃ r : Nat, mn ≤ r ∧ (mx < 0 ∨ (r : Int) ≤ mx) ∧ powL P r w) := by
  intro p hp
  have hi := iter_len hf mn.toNat p hp
  have key : (repG f (s.size + 1) mn mx p).length = s.size + 1 ∧ ∀ j, At (repG f (s.size + 1) mn mx p) j ↔ ∃ r : Nat, (mn ≤ r ∧ (mx < 0 ∨ (r : Int) ≤ mx)) ∧ At (iter f r p) j := by
    rcases minG_spec f mn.toNat p with ⟨h1, h2⟩ | ⟨h1, h2, k, h3, h4⟩
    · simp only [repG, h1, h2, Bool.false_eq_true, if_false]
      have hl2 : (addTo (List.replicate (s.size + 1) false) (iter f mn.toNat p) (s.size + 1)).1.length = s.size + 1 := by rw [addTo_len]; simp
      have hat : ∀ j, At (addTo (List.replicate (s.size + 1) false) (iter f mn.toNat p) (s.size + 1)).1 j ↔ At (iter f mn.toNat p) j := fun j => by
        rw [at_addTo _ (by simp)]
        constructor
        · rintro (h | h)
          · exact absurd h (at_rep _ _)
          · exact h.2
        · intro h; exact .inr ⟨by have := h.lt; omega, h⟩
      have e : (addTo (List.replicate (s.size + 1) false) (iter f mn.toNat p) (s.size + 1)).1 = iter f mn.toNat p := at_ext (by rw [hl2, hi]) hat
      rw [e]
      refine ⟨by rw [moreG_len]; exact hi, fun j => ?_⟩
      rw [moreG_spec hf mx _ _ _ _ hi hi (by have := falses_le (iter f mn.toNat p); omega) (fun j hj => .inr hj) j]
      constructor
      · rintro (h | ⟨r, g1, g2, g3⟩)
        · exact ⟨mn.toNat, by omega, h⟩
        · refine ⟨mn.toNat + r, by omega, ?_⟩
          rw [iter_add]; exact g3
      · rintro ⟨r, g1, g3⟩
        have er : r = mn.toNat + (r - mn.toNat) := by omega
        rw [er, iter_add] at g3
        by_cases hr : r = mn.toNat
        · subst hr; rw [Nat.sub_self] at g3; exact .inl g3
        · exact .inr ⟨r - mn.toNat, by omega, by omega, g3⟩
    · simp only [repG, h1, if_true]
      refine ⟨by rw [h4]; exact iter_len hf k p hp, fun j => ⟨fun h => absurd h (h2 j), ?_⟩⟩
      rintro ⟨r, g1, g3⟩
      rw [h4] at h2
      rw [show r = k + (r - k) by omega, iter_add] at g3
      exact absurd g3 (iter_empty hf _ (iter_len hf k p hp) h2 j)
  refine ⟨key.1, fun j => ?_⟩
  rw [key.2 j, ex_pow hf hp]
  simp only [and_assoc]
theorem classTo_goes (a b c d : Int) (s : ByteArray) : Goes s (fun p => classTo a b c d s p s.size) (fun w => ∃ x, w = [x] ∧ inG a b c d x = true) := by
  intro p hp
  refine ⟨classTo_len _ _ _ _ _ _ _, fun j => ?_⟩
  have key : ∀ m, m ≤ s.size → (At (classTo a b c d s p m) j ↔ ∃ i, j = i + 1 ∧ i < m ∧ At p i ∧ inG a b c d (byteN s i) = true) := by
    intro m
    induction m with
    | zero => intro _; simp only [classTo]; exact ⟨fun h => absurd h (at_rep _ _), fun ⟨i, _, h, _⟩ => by omega⟩
    | succ m ih =>
      intro hm
      have ih := ih (by omega)
      simp only [classTo]
      rw [at_set j (by rw [classTo_len]; omega), ih]
      constructor
      · rintro (⟨rfl, h⟩ | ⟨h1, i, h2, h3, h4⟩)
        · simp only [Bool.and_eq_true] at h
          exact ⟨m, rfl, by omega, h.1, h.2⟩
        · exact ⟨i, h2, by omega, h4⟩
      · rintro ⟨i, rfl, h2, h3, h4⟩
        by_cases hi : i = m
        · subst hi; exact .inl ⟨rfl, by rw [Bool.and_eq_true]; exact ⟨h3, h4⟩⟩
        · exact .inr ⟨by omega, i, rfl, by omega, h3, h4⟩
  rw [key s.size (Nat.le_refl _)]
  constructor
  · rintro ⟨i, rfl, h2, h3, h4⟩
    exact ⟨i, by omega, h3, by omega, _, word_one s i, h4⟩
  · rintro ⟨i, h1, h2, h3, x, h4, h5⟩
    have hl := congrArg List.length h4
    rw [word_len] at hl
    simp at hl
    have : j = i + 1 := by omega
    subst this
    rw [word_one] at h4
    cases h4
    exact ⟨i, rfl, by omega, h2, h5⟩
theorem id_goes (s : ByteArray) : Goes s (fun p => p) (fun w => w = []) := by
  intro p hp
  refine ⟨hp, fun j => ?_⟩
  show At p j ↔ _
  constructor
  · intro h; exact ⟨j, Nat.le_refl _, h, by have := h.lt; omega, word_nil s j⟩
  · rintro ⟨i, h1, h2, h3, h4⟩
    have := congrArg List.length h4
    rw [word_len] at this
    simp at this
    rw [show j = i by omega]; exact h2
theorem Goes.seq {s : ByteArray} {f g : List Bool → List Bool} {P Q : List Nat → Prop} (hf : Goes s f P) (hg : Goes s g Q) : Goes s (fun p => g (f p)) (fun w => ∃ u v, w = u ++ v ∧ P u ∧ Q v) := by
  intro p hp
  obtain ⟨h1, h2⟩ := hf p hp
  obtain ⟨h3, h4⟩ := hg (f p) h1
  refine ⟨h3, fun j => ?_⟩
  rw [h4 j]
  constructor
  · rintro ⟨i, g1, g2, g3, g4⟩
    obtain ⟨i0, k1, k2, k3, k4⟩ := (h2 i).1 g2
    exact ⟨i0, by omega, k2, g3, _, _, (word_app s k1 g1).symm, k4, g4⟩
  · rintro ⟨i, g1, g2, g3, u, v, e, g4, g5⟩
    obtain ⟨k1, k2, k3⟩ := word_split s g1 e
    exact ⟨i + u.length, k1, (h2 _).2 ⟨i, by omega, g2, by omega, k2 ▸ g4⟩, g3, k3 ▸ g5⟩
theorem Goes.congr {s : ByteArray} {f : List Bool → List Bool} {P Q : List Nat → Prop} (hf : Goes s f P) (h : ∀ w, P w ↔ Q w) : Goes s f Q := by
  intro p hp
  refine ⟨(hf p hp).1, fun j => ?_⟩
  rw [(hf p hp).2 j]
  simp only [h]
theorem alt_goes {s : ByteArray} {f : List Bool → List Bool} {P : List Nat → Prop} (hf : Goes s f P) {p out : List Bool} (hp : p.length = s.size + 1) (ho : out.length = s.size + 1) (j : Nat) :
    At (addTo out (f p) (s.size + 1)).1 j ↔ At out j ∨ ∃ i, i ≤ j ∧ At p i ∧ j ≤ s.size ∧ P (word s i j) := by
  rw [at_addTo _ (by omega), ← (hf p hp).2 j]
  exact or_congr Iff.rfl ⟨fun h => h.2, fun h => ⟨by have := h.lt; have := (hf p hp).1; omega, h⟩⟩

theorem plainT_kind {k a b c d mn mx : Int} {subs : List T} (h : plainT (.node k a b c d mn mx subs) = true) : (k = 1 ∨ k = 2 ∨ k = 3 ∨ k = 4 ∨ k = 5) ∧ (k = 5 → 0 ≤ mn ∧ (mx < 0 ∨ mn ≤ mx)) := by
  by_cases h5 : k = 5
  · subst h5
    simp [plainT] at h
    omega
  · by_cases h1 : k = 1 ∨ k = 2 ∨ k = 3 ∨ k = 4
    · omega
    · have h2 : ¬ k = 1 := by omega
      have h3 : ¬ k = 2 := by omega
      have h4 : ¬ (k = 3 ∨ k = 4) := by omega
      simp [plainT, h2, h3, h4, h5] at h
mutual
theorem stepG_goes (s : ByteArray) : ∀ (t : T), okT t → Goes s (stepG s t) (L t)
  | .node k a b c d mn mx subs, h => by
    simp only [okT, okN] at h
    obtain ⟨hk, hr⟩ := plainT_kind h.1.2.2.2.2
    by_cases h2 : k = 2
    · subst h2
      have := classTo_goes a b c d s
      intro p hp; simpa [stepG, L] using this p hp
    by_cases h3 : k = 3
    · subst h3
      have := catG_goes s subs h.2
      intro p hp; simpa [stepG, L] using this p hp
    by_cases h4 : k = 4
    · subst h4
      intro p hp
      have := altG_goes s subs h.2 p (List.replicate (s.size + 1) false) hp (by simp)
      refine ⟨by simp only [stepG]; exact this.1, fun j => ?_⟩
      simp only [stepG, L]
      simp only [if_neg h2, if_neg h3, if_true]
      rw [this.2 j]
      constructor
      · rintro (h | h)
        · exact absurd h (at_rep _ _)
        · exact h
      · exact .inr
    by_cases h5 : k = 5
    · subst h5
      have := repG_goes (fstG_goes s subs h.2) (hr rfl).1 (hr rfl).2
      intro p hp; simpa [stepG, L] using this p hp
    · have h1 : k = 1 := by omega
      subst h1
      have := id_goes s
      intro p hp; simpa [stepG, L] using this p hp
theorem catG_goes (s : ByteArray) : ∀ (l : List T), okL l → Goes s (catG s l) (catL l)
  | [], _ => by
    have := id_goes s
    intro p hp; simpa [catG, catL] using this p hp
  | t :: l, h => by
    simp only [okL] at h
    have := (stepG_goes s t h.1).seq (catG_goes s l h.2)
    intro p hp; simpa [catG, catL] using this p hp
theorem altG_goes (s : ByteArray) : ∀ (l : List T), okL l → ∀ (p out : List Bool), p.length = s.size + 1 → out.length = s.size + 1 → (altG s l p out).length = s.size + 1 ∧
    ∀ j, At (altG s l p out) j ↔ At out j ∨ ∃ i, i ≤ j ∧ At p i ∧ j ≤ s.size ∧ altL l (word s i j)
  | [], _, p, out, _, ho => ⟨ho, fun j => by simp [altG, altL]⟩
  | t :: l, h, p, out, hp, ho => by
    simp only [okL] at h
    have h1 := alt_goes (stepG_goes s t h.1) hp ho
    have h2 := altG_goes s l h.2 p (addTo out (stepG s t p) (s.size + 1)).1 hp (by rw [addTo_len]; exact ho)
    refine ⟨by simp only [altG]; exact h2.1, fun j => ?_⟩
    simp only [altG, altL]
    rw [h2.2 j, h1 j]
    constructor
    · rintro ((h | ⟨i, g1, g2, g3, g4⟩) | ⟨i, g1, g2, g3, g4⟩)
      · exact .inl h
      · exact .inr ⟨i, g1, g2, g3, .inl g4⟩
      · exact .inr ⟨i, g1, g2, g3, .inr g4⟩
    · rintro (h | ⟨i, g1, g2, g3, g4 | g4⟩)
      · exact .inl (.inl h)
      · exact .inl (.inr ⟨i, g1, g2, g3, g4⟩)
      · exact .inr ⟨i, g1, g2, g3, g4⟩
theorem fstG_goes (s : ByteArray) : ∀ (l : List T), okL l → Goes s (fstG s l) (fstL l)
  | [], _ => by
    have := id_goes s
    intro p hp; simpa [fstG, fstL] using this p hp
  | t :: l, h => by
    simp only [okL] at h
    have := stepG_goes s t h.1
    intro p hp; simpa [fstG, fstL] using this p hp
end
end Go.Sv
namespace Go.Sv
open Go Go.Proofs
set_option maxRecDepth 100000
set_option maxHeartbeats 4000000
attribute [local irreducible] W E R KP thenK blockK retK Good xwp aRun
end Go.Sv
namespace Go.Sv
open Go Go.Proofs
def x30 : XC := (.seq (.ops 2 [
    (0, ⟨(some 2), none, .box (.t 0)⟩),
    (1, ⟨(some 4), none, .mv (.k (.d (.val (.bool false))))⟩)] (some [1, 2])) (.seq (.ops 18 [
    (0, ⟨(some 5), none, .load (some 8) (.t 2)⟩),
    (1, ⟨(some 6), none, .call 45 [(.t 5)] none false⟩),
    (2, ⟨(some 7), none, .mv (.t 6)⟩),
    (3, ⟨(some 8), (some (7, true)), .mv (.t 1)⟩),
    (4, ⟨(some 9), (some (7, true)), .lenT (.t 8)⟩),
    (5, ⟨(some 10), (some (7, true)), .arith .leq (.t 9) (.k (.d (.val (.int .i64 40))))⟩),
    (6, ⟨(some 11), none, .pick (.t 7) (.t 10) (.k (.d (.val (.bool false))))⟩),
    (7, ⟨(some 12), none, .mv (.t 11)⟩),
    (8, ⟨(some 13), (some (12, true)), .load (some 8) (.t 2)⟩),
    (9, ⟨(some 14), (some (12, true)), .call 32 [(.t 13)] none false⟩),
    (10, ⟨(some 15), (some (12, true)), .un .not (.t 14)⟩),
    (11, ⟨(some 16), (some (12, true)), .mv (.t 15)⟩),
    (12, ⟨(some 17), (some (16, false)), .load (some 8) (.t 2)⟩),
    (13, ⟨(some 18), (some (16, false)), .call 38 [(.t 17)] none false⟩),
    (14, ⟨(some 19), (some (16, false)), .arith .leq (.t 18) (.k (.d (.val (.int .i64 3000))))⟩),
    (15, ⟨(some 20), (some (12, true)), .pick (.t 16) (.k (.d (.val (.bool true)))) (.t 19)⟩),
    (16, ⟨(some 21), none, .pick (.t 12) (.t 20) (.k (.d (.val (.bool false))))⟩),
    (17, ⟨(some 4), none, .mv (.t 21)⟩)] (some [4])) .ret))
def md30 : FuncId → Option Nat × Bool
  | _ => (none, false)
def od30 : Nat → List (List Nat) × List Nat × Option (List Nat)
  | 0 => ([], [], some [1, 2])
  | 1 => ([], [], some [4])
  | _ => ([], [], none)
theorem b30 {ags : List AV} {row : Option (List DV)} {r : AV} {row' nw : Option (List DV)} (hal : ags.length ≤ 22) (hrow : row'.isSome = true → row.isSome = true) (h : xwp Try.prog x30 (retK [.tmp 4] row.isSome r row' nw) (St.init ags row)) : Good Try.prog 30 ags row r row' nw :=
  good_of_body' (md := md30) (od := od30) Try.f30 (by kernel_rfl) (by kernel_rfl) (by kernel_rfl) (by kernel_rfl) (by kernel_rfl) hal hrow h

section
variable {P : Program} {Q : Cont} {fr : Fr} {C : Heap} {Z Z' : Frz} {nx : Nat} {base n d : Nat} {l : List (Nat × XO)} {kp : Option (List Nat)} {x i y s : X}
theorem retL1 {live : Bool} {b m : Nat} {p : List Int} (hC : C b = some ((encI p).map AV.d)) (hm : p.length = m) : RetOK C Z (tupOf [.slL b 0 m 1]) live (.d (.sl (encI p) m)) none none := by
  refine .data _ ?_
  simp only [tupOf, convT, convA, conv_slI (ex := fun _ => false) rfl hC hm, Option.map_some]
end
set_option maxRecDepth 100000
set_option maxHeartbeats 4000000
attribute [local irreducible] W E R KP thenK blockK retK Good xwp aRun
end Go.Sv
