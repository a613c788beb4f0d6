/- A part of the proof of the law ExpandFirst: that it answers true for every input, and that the input reads behind the call as before (no condition). -/
import Derived.Test.YtcnlgmajkclgjaaExpandFirstG2
set_option linter.all false
set_option linter.unusedSectionVars false
set_option linter.unusedVariables false
set_option linter.unusedSimpArgs false
namespace Go.Sv
open Go
set_option linter.unusedVariables false
section
variable {P : Program} {Q : Cont} {fr : Fr} {C : Heap} {Z : Frz} {nx : Nat} {base n d : Nat} {l : List (Nat × XO)} {kp : Option (List Nat)} {x i y s : X}
theorem awk_isD {ρ : Nat→Nat} {vt : Nat→Bool} {nx : Nat} {r : List AV} (hd : r.all AV.isD=true) : ∀ (j : Nat) (h1 : j < r.length) (h2 : j < r.length),AWk ρ vt nx r[j] r[j]:=by
  intro j h1 h2
  have:=List.all_eq_true.1 hd _ (List.getElem_mem h1)
  revert this
  generalize r[j]=v
  intro h
  cases v with
  | d x=>exact .d x
  | _=>cases h
theorem wkR {C : Heap} {Z : Frz} {nx nx' a : Nat} {fr fr' : Fr} {ra : List AV} (ha : a < nx') (hra : C a=some ra) (hda : ra.all AV.isD=true) (hf : FWk (rho nx') (fun _=>false) nx' fr fr') (hN : Z 1000000=false:=by rfl) :
    Wk ⟨fr,C,Z,nx⟩ ⟨fr',Heap.nil.put a ra,Frz.lo nx',nx'⟩:=by
  have one : ∀ k s,Heap.put Heap.nil a ra k=some s→k=a∧s=ra:=by
    intro k s h
    simp only [Heap.put,Heap.nil] at h
    split at h
    · rename_i e;cases h;exact ⟨e.symm,rfl⟩
    · cases h
  refine ⟨rho nx',fun _=>false,⟨rho_lt (by omega),rfl,(show 0 < nx' by omega)⟩,hf,fun e s h=>?_,fun e e' r1 r2 h h' _ _ _=>?_,fun e hc=>?_⟩
  · obtain ⟨rfl,rfl⟩:=one e s h
    refine ⟨ha,.inr ⟨rfl,s,by rw [rho_lt ha];exact hra,rfl,awk_isD hda,fun hz'=>?_⟩⟩
    have : Frz.lo nx' e=true:=lo_lt ha
    simp only at hz'
    rw [this] at hz';cases hz'
  · exact (one e r1 h).1.trans (one e' r2 h').1.symm
  · by_cases h : e < nx'
    · exact lo_lt h
    · simp only [rho_ge h,hN] at hc;cases hc
theorem fzB {k b m : Nat} {p : List Bool} (hx : X.ev fr (.t k)=.slL b 0 m 1) (hC : C b=some ((encB p).map AV.d)) (hm : p.length=m) (h0 : 0 < m) {st' : St} (hw : Wk ⟨fr.put k (.d (.sl (encB p) m)),C,Z.add [b],nx⟩ st') : Wkf ⟨fr,C,Z,nx⟩ st':=by
  refine fz1 (k:=k) (v:=.d (.sl (encB p) m)) (u:=[b]) ?_ hw
  rw [hx]
  simp only [convA,conv_slB (ex:=fun _=>false) rfl hC hm h0,Option.map_some]
def rowsOf : List (Nat × List AV)→Heap
  | []=>Heap.nil
  | (k,r) :: l=>(rowsOf l).put k r
theorem rowsOf_mem : ∀ {l : List (Nat × List AV)} {b : Nat} {r : List AV},rowsOf l b=some r→(b,r) ∈ l
  | [],b,r,h=>by simp [rowsOf,Heap.nil] at h
  | (k,x) :: l,b,r,h=>by
    simp only [rowsOf,Heap.put] at h
    split at h
    · rename_i e;cases h;subst e;simp
    · exact List.mem_cons_of_mem _ (rowsOf_mem h)
theorem wkRs {C : Heap} {Z : Frz} {nx nx' : Nat} {fr fr' : Fr} {rows : List (Nat × List AV)} (hn : 0 < nx') (h : ∀ p ∈ rows,p.1 < nx'∧C p.1=some p.2∧p.2.all AV.isD=true) (hf : FWk (rho nx') (fun _=>false) nx' fr fr') (hN : Z 1000000=false:=by rfl) :
    Wk ⟨fr,C,Z,nx⟩ ⟨fr',rowsOf rows,Frz.lo nx',nx'⟩:=by
  refine ⟨rho nx',fun _=>false,⟨rho_lt (by omega),rfl,hn⟩,hf,fun e s he=>?_,fun e e' r1 r2 h1 h2 _ _ hee=>?_,fun e hc=>?_⟩
  · obtain ⟨g1,g2,g3⟩:=h _ (rowsOf_mem he)
    refine ⟨g1,.inr ⟨rfl,s,by rw [rho_lt g1];exact g2,rfl,awk_isD g3,fun hz'=>?_⟩⟩
    have : Frz.lo nx' e=true:=lo_lt g1
    simp only at hz'
    rw [this] at hz';cases hz'
  · have k1:=(h _ (rowsOf_mem h1)).1
    have k2:=(h _ (rowsOf_mem h2)).1
    rwa [rho_lt k1,rho_lt k2] at hee
  · by_cases h : e < nx'
    · exact lo_lt h
    · simp only [rho_ge h,hN] at hc;cases hc
end
end Go.Sv
namespace Go.Sv
open Go
def Frz.buts (n : Nat) (hot : List Nat) : Frz:=fun k=>Nat.blt k n && !(hot.any (Nat.beq k))
theorem buts_lt {n k : Nat} {hot : List Nat} (h : k < n) (hb : ¬ k ∈ hot) : Frz.buts n hot k=true:=by
  have h1 : Nat.blt k n=true:=(Eq.mpr Nat.blt_eq h)
  have h2 : hot.any (Nat.beq k)=false:=by
    rw [List.any_eq_false]
    intro x hx e
    exact hb (Nat.eq_of_beq_eq_true e ▸ hx)
  simp [Frz.buts,h1,h2]
end Go.Sv
namespace Go.Sv
open Go
inductive LWk (ρ : Nat→Nat) (vt : Nat→Bool) (nx : Nat) : List AV→List AV→Prop
  | nil : LWk ρ vt nx [] []
  | cons {x y : AV} {l r : List AV} (h : AWk ρ vt nx x y) (k : LWk ρ vt nx l r) : LWk ρ vt nx (x :: l) (y :: r)
theorem LWk.len {ρ : Nat→Nat} {vt : Nat→Bool} {nx : Nat} {l r : List AV} (h : LWk ρ vt nx l r) : l.length=r.length:=by
  induction h with
  | nil=>rfl
  | cons _ _ ih=>simp [ih]
theorem LWk.get {ρ : Nat→Nat} {vt : Nat→Bool} {nx : Nat} {l r : List AV} (h : LWk ρ vt nx l r) : ∀ (j : Nat) (h1 : j < l.length) (h2 : j < r.length),AWk ρ vt nx l[j] r[j]:=by
  induction h with
  | nil=>intro j h1;simp at h1
  | cons h _ ih =>
    intro j h1 h2
    cases j with
    | zero=>exact h
    | succ j=>exact ih j (by simpa using h1) (by simpa using h2)
theorem LWk.data {ρ : Nat→Nat} {vt : Nat→Bool} {nx : Nat} : ∀ {l : List AV},l.all AV.isD=true→LWk ρ vt nx l l
  | [],_=>.nil
  | x :: l,h=>by
    rw [List.all_cons,Bool.and_eq_true] at h
    refine .cons ?_ (LWk.data h.2)
    cases x with
    | d x=>exact .d x
    | _=>exact absurd h.1 (by simp [AV.isD])
theorem wkG {C : Heap} {Z : Frz} {nx nx' : Nat} {fr fr' : Fr} (b c : Nat) (vb : Bool) {rows : List (Nat × List AV)} {hot : List Nat} (hb : b < nx') (hb0 : b ≠ 0)
    (h : ∀ p ∈ rows,p.1 < nx'∧((vb=true∧p.1=b∧p.2=[]) ∨ ((vb && Nat.beq p.1 b)=false∧∃ r,C (rhoC nx' b c p.1)=some r∧LWk (rhoC nx' b c) (fun k=>vb && Nat.beq k b) nx' r p.2)))
    (hh : ∀ k ∈ hot,Z (rhoC nx' b c k)=false) (hinj : ∀ p ∈ rows,p.1 ≠ b→p.1 ≠ c)
    (hf : FWk (rhoC nx' b c) (fun k=>vb && Nat.beq k b) nx' fr fr') (hN : Z 1000000=false:=by rfl) :
    Wk ⟨fr,C,Z,nx⟩ ⟨fr',rowsOf rows,Frz.buts nx' hot,nx'⟩:=by
  have h0 : Nat.beq 0 b=false:=by
    cases e : Nat.beq 0 b with
    | false=>rfl
    | true=>exact absurd (Nat.eq_of_beq_eq_true e).symm hb0
  refine ⟨rhoC nx' b c,fun k=>vb && Nat.beq k b,⟨by rw [rhoC_ne (Ne.symm hb0)];exact rho_lt (by omega),by simp [h0],(show 0 < nx' by omega)⟩,hf,fun e s he=>?_,fun e e' r1 r2 h1 h2 v1 v2 hee=>?_,fun e hc=>?_⟩
  · obtain ⟨g1,g2⟩:=h _ (rowsOf_mem he)
    refine ⟨g1,?_⟩
    rcases g2 with ⟨q1,q2,q3⟩ | ⟨q1,r,q2,q3⟩
    · simp only at q2 q3
      subst q2 q3
      exact .inl ⟨by simp [q1],rfl⟩
    · refine .inr ⟨q1,r,q2,q3.len,q3.get,fun hz'=>?_⟩
      by_cases hm : e ∈ hot
      · exact hh e hm
      · have : Frz.buts nx' hot e=true:=buts_lt g1 hm
        simp only at hz'
        rw [this] at hz';cases hz'
  · have k1:=(h _ (rowsOf_mem h1)).1
    have k2:=(h _ (rowsOf_mem h2)).1
    by_cases e1 : e=b
    · by_cases e2 : e'=b
      · rw [e1,e2]
      · rw [e1,rhoC_eq,rhoC_ne e2,rho_lt k2] at hee
        exact absurd hee.symm (hinj _ (rowsOf_mem h2) e2)
    · by_cases e2 : e'=b
      · rw [e2,rhoC_eq,rhoC_ne e1,rho_lt k1] at hee
        exact absurd hee (hinj _ (rowsOf_mem h1) e1)
      · rwa [rhoC_ne e1,rhoC_ne e2,rho_lt k1,rho_lt k2] at hee
  · by_cases hlt : e < nx'
    · refine buts_lt hlt fun hm=>?_
      have:=hh e hm
      simp only at hc
      rw [this] at hc;cases hc
    · have hne : e ≠ b:=by omega
      simp only [rhoC_ne hne,rho_ge hlt,hN] at hc;cases hc
end Go.Sv
