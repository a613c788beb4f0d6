/- A part of the proof of the law ExpandFirst: that it answers true for every input, and that the input reads behind the call as before (no condition). -/
import Derived.Test.YtcnlgmajkclgjaaExpandFirstG1
import Derived.Laws.IdiomStrings
import Derived.Recover
set_option linter.all false
set_option linter.unusedSectionVars false
set_option linter.unusedVariables false
set_option linter.unusedSimpArgs false
namespace Go.Sv
open Go
set_option linter.unusedSimpArgs false
set_option linter.unusedVariables false

theorem mapO_spec {g : AV→Option (DV × List Nat)} : ∀ {l : List AV} {ds : List DV} {us : List Nat},mapO g l=some (ds,us)→ds.length=l.length ∧
    (∀ (j : Nat) x,l[j]?=some x→∃ d u,ds[j]?=some d∧g x=some (d,u)∧∀ b ∈ u,b ∈ us)∧(∀ b ∈ us,∃ x ∈ l,∃ d u,g x=some (d,u)∧b ∈ u)
  | [],ds,us,h=>by
    simp [mapO] at h;obtain ⟨rfl,rfl⟩:=h;exact ⟨rfl,fun j x hx=>by simp at hx,fun b hb=>by simp at hb⟩
  | x :: l,ds,us,h=>by
    simp only [mapO] at h
    obtain ⟨⟨y,u⟩,h1,h2⟩:=Option.bind_eq_some_iff.1 h
    obtain ⟨⟨ys,vs⟩,h3,h4⟩:=Option.map_eq_some_iff.1 h2
    simp only [Prod.mk.injEq] at h4
    obtain ⟨rfl,rfl⟩:=h4
    obtain ⟨h5,h6,h7⟩:=mapO_spec h3
    refine ⟨by simp [h5],fun j z hz=>?_,fun b hb=>?_⟩
    · cases j with
      | zero=>simp at hz;subst hz;exact ⟨y,u,rfl,h1,fun b hb=>by simp [hb]⟩
      | succ j =>
        simp at hz
        obtain ⟨d,u',h8,h9,h10⟩:=h6 j z hz
        exact ⟨d,u',by simpa using h8,h9,fun b hb=>by simp [h10 b hb]⟩
    · rcases List.mem_append.1 hb with hb | hb
      · exact ⟨x,by simp,y,u,h1,hb⟩
      · obtain ⟨z,hz,d,u',h8,h9⟩:=h7 b hb
        exact ⟨z,by simp [hz],d,u',h8,h9⟩

section
variable {w0 : World} {S Wr : Nat→Prop} {μ : Nat→Option Nat} {U : Nat→Prop} {C : Heap} {Z : Frz} {w : World}

theorem norm_sound {A : Nat→Prop} {v : Value} {x : DV} (h : RD w A v x) : RD w A v x.norm:=by
  unfold DV.norm
  split
  · cases h;exact .sl0 none 0
  · exact h

theorem convC_used {ex : Nat→Bool} : ∀ (k : Nat) {x : AV} {y : DV} {us : List Nat},convC C ex k x=some (y,us)→∀ b ∈ us,(C b).isSome=true∧ex b=false:=by
  intro k
  induction k with
  | zero=>intro x y us h;simp [convC] at h
  | succ k ih =>
    intro x y us h b hb
    cases x with
    | d x=>simp [convC] at h;obtain ⟨_,rfl⟩:=h;simp at hb
    | ptrL c off =>
      simp only [convC] at h
      split at h
      · cases h
      rename_i hex
      obtain ⟨r,hr,h1⟩:=Option.bind_eq_some_iff.1 h
      split at h1
      · cases h1
      obtain ⟨⟨ds,vs⟩,h2,h3⟩:=Option.map_eq_some_iff.1 h1
      simp only [Prod.mk.injEq] at h3
      obtain ⟨rfl,rfl⟩:=h3
      rcases List.mem_cons.1 hb with rfl | hb
      · exact ⟨by simp [hr],by simpa using hex⟩
      · obtain ⟨_,_,h5⟩:=mapO_spec h2
        obtain ⟨z,_,d,u,h6,h7⟩:=h5 b hb
        exact ih h6 b h7
    | slL c off len sz =>
      simp only [convC] at h
      split at h
      · simp at h;obtain ⟨_,rfl⟩:=h;simp at hb
      split at h
      · cases h
      rename_i hex
      obtain ⟨r,hr,h1⟩:=Option.bind_eq_some_iff.1 h
      split at h1
      case isFalse=>cases h1
      obtain ⟨⟨ds,vs⟩,h2,h3⟩:=Option.map_eq_some_iff.1 h1
      simp only [Prod.mk.injEq] at h3
      obtain ⟨rfl,rfl⟩:=h3
      rcases List.mem_cons.1 hb with rfl | hb
      · refine ⟨by simp [hr],?_⟩
        cases hh : ex b with
        | false=>rfl
        | true=>exact absurd (.inl hh) hex
      · obtain ⟨_,_,h5⟩:=mapO_spec h2
        obtain ⟨z,_,d,u,h6,h7⟩:=h5 b hb
        exact ih h6 b h7
    | fnL f caps =>
      simp only [convC] at h
      obtain ⟨⟨ds,vs⟩,h2,h3⟩:=Option.map_eq_some_iff.1 h
      simp only [Prod.mk.injEq] at h3
      obtain ⟨rfl,rfl⟩:=h3
      obtain ⟨_,_,h5⟩:=mapO_spec h2
      obtain ⟨z,_,d,u,h6,h7⟩:=h5 b hb
      exact ih h6 b h7
    | agg | tup | dead=>simp [convC] at h

theorem convC_sound (hH : HOK w0 S Wr μ U C Z w) {ex : Nat→Bool} {A' : Nat→Prop} (hA : ∀ n,A' n→Av S C Z μ n) :
    ∀ (k : Nat) {v : Value} {x : AV} {y : DV} {us : List Nat},RA w (Av S C Z μ) μ U v x→convC C ex k x=some (y,us)→(∀ b ∈ us,∀ n,μ b=some n→¬ A' n)→RD w A' v y:=by
  intro k
  induction k with
  | zero=>intro v x y us h hc;simp [convC] at hc
  | succ k ih =>
    intro v x y us h hc hus
    cases x with
    | d x =>
      simp [convC] at hc;obtain ⟨rfl,rfl⟩:=hc
      cases h with
      | d _ _ h=>exact norm_sound (h.mono (fun b _=>hA b) (fun _ _ _=>rfl))
    | ptrL c off =>
      simp only [convC] at hc
      split at hc
      · cases hc
      obtain ⟨r,hr,h1⟩:=Option.bind_eq_some_iff.1 hc
      split at h1
      · cases h1
      rename_i hne
      obtain ⟨⟨ds,vs⟩,h2,h3⟩:=Option.map_eq_some_iff.1 h1
      simp only [Prod.mk.injEq] at h3
      obtain ⟨rfl,rfl⟩:=h3
      obtain ⟨h4,h5,_⟩:=mapO_spec h2
      obtain ⟨blk,rfl,hU,hm⟩:=h.ptrL_inv
      rcases hH.row c r hr with ⟨h6,_⟩ | ⟨blk',cc,e,hm',hcc,hl,hra⟩
      · exact absurd h6 hne
      · rw [hm] at hm';cases hm'
        have hpos : 0 < ds.length:=by
          rw [h4];exact List.length_pos_iff.2 hne
        have:=RD.ptr (w:=w) (A:=A') blk 0 off ds (fun j=>cc.getD j undef) (hus c (by simp) blk hm) hpos (fun j hj=>by
          rw [Nat.zero_add,cell_of_row w blk j cc e (0,0) hcc,Array.getElem?_eq_getElem (by omega),Array.getD_eq_getD_getElem?,Array.getElem?_eq_getElem (by omega)];rfl) (fun j hj=>by
          obtain ⟨d,u,h7,h8,h9⟩:=h5 j r[j] (List.getElem?_eq_getElem (by omega))
          have e1 : ds[j]=d:=by rw [List.getElem?_eq_getElem hj] at h7;exact Option.some.inj h7
          rw [e1]
          exact ih (hra j (by omega)) h8 (fun b hb n hn=>hus b (by simp [h9 b hb]) n hn))
        rwa [Nat.zero_add] at this
    | slL c off len sz =>
      simp only [convC] at hc
      split at hc
      · rename_i hl0
        subst hl0
        simp at hc;obtain ⟨rfl,rfl⟩:=hc
        rcases h.slL_inv with ⟨_,_,rfl,_,_⟩ | ⟨blk,cap,n,e,rfl,_⟩
        · exact .sl0 none 0
        · exact .sl0 _ _
      rename_i hl0
      split at hc
      · cases hc
      rename_i hexz
      obtain ⟨r,hr,h1⟩:=Option.bind_eq_some_iff.1 hc
      split at h1
      case isFalse=>cases h1
      rename_i hle
      obtain ⟨⟨ds,vs⟩,h2,h3⟩:=Option.map_eq_some_iff.1 h1
      simp only [Prod.mk.injEq] at h3
      obtain ⟨rfl,rfl⟩:=h3
      obtain ⟨h4,h5,_⟩:=mapO_spec h2
      rcases h.slL_inv with ⟨_,h6,_⟩ | ⟨blk,cap,n,e,rfl,hU,hm,hlc,_,_⟩
      · exact absurd h6 hl0
      rcases hH.row c r hr with ⟨_,h6⟩ | ⟨blk',cc,e',hm',hcc,hl,hra⟩
      · rw [hm] at h6;cases h6
      · rw [hm] at hm';cases hm'
        have hlen : ds.length=len * sz:=by rw [h4];simp;omega
        have hpos : 0 < len * sz:=Nat.mul_pos (by omega) (Nat.pos_of_ne_zero fun h=>hexz (.inr h))
        refine RD.sl (w:=w) (A:=A') blk off len cap ds (fun j=>cc.getD (off + j) undef) (hus c (by simp) blk hm) (by omega) hlc (fun j hj=>?_) (fun j hj=>?_)
        · rw [cell_of_row w blk _ cc e' (0,0) hcc,Array.getElem?_eq_getElem (by omega),Array.getD_eq_getD_getElem?,Array.getElem?_eq_getElem (by omega)];rfl
        · obtain ⟨d,u,h7,h8,h9⟩:=h5 j r[off + j] (by
            rw [List.getElem?_take,if_pos (by omega),List.getElem?_drop];exact List.getElem?_eq_getElem (by omega))
          have e1 : ds[j]=d:=by rw [List.getElem?_eq_getElem hj] at h7;exact Option.some.inj h7
          rw [e1]
          exact ih (hra (off + j) (by omega)) h8 (fun b hb n hn=>hus b (by simp [h9 b hb]) n hn)
    | fnL f caps =>
      simp only [convC] at hc
      obtain ⟨⟨ds,vs⟩,h2,h3⟩:=Option.map_eq_some_iff.1 hc
      simp only [Prod.mk.injEq] at h3
      obtain ⟨rfl,rfl⟩:=h3
      obtain ⟨h4,h5,_⟩:=mapO_spec h2
      cases h with
      | fnL _ us' _ h6 h7 =>
        refine .fn f us' ds (by rw [h6,h4]) (fun j hj=>?_)
        obtain ⟨d,u,h8,h9,h10⟩:=h5 j caps[j] (List.getElem?_eq_getElem (by omega))
        have e1 : ds[j]=d:=by rw [List.getElem?_eq_getElem hj] at h8;exact Option.some.inj h8
        rw [e1]
        exact ih (h7 j (by omega)) h9 (fun b hb n hn=>hus b (h10 b hb) n hn)
    | agg | tup | dead=>simp [convC] at hc

theorem convA_sound (hH : HOK w0 S Wr μ U C Z w) {ex : Nat→Bool} {A' : Nat→Prop} (hA : ∀ n,A' n→Av S C Z μ n) {μ' : Nat→Option Nat} {U' : Nat→Prop} {v : Value} {x y : AV} {us : List Nat}
    (h : RA w (Av S C Z μ) μ U v x) (hc : convA C ex x=some (y,us)) (hus : ∀ b ∈ us,∀ n,μ b=some n→¬ A' n) : RA w A' μ' U' v y:=by
  have one : ∀ x,(convC C ex 9 x).map (fun p=>(AV.d p.1,p.2))=some (y,us)→RA w (Av S C Z μ) μ U v x→RA w A' μ' U' v y:=by
    intro x hc h
    obtain ⟨⟨d,u⟩,h1,h2⟩:=Option.map_eq_some_iff.1 hc
    simp only [Prod.mk.injEq] at h2
    obtain ⟨rfl,rfl⟩:=h2
    exact .d _ _ (convC_sound hH hA 9 h h1 hus)
  cases x with
  | agg cs =>
    simp only [convA] at hc
    obtain ⟨⟨ds,u⟩,h1,h2⟩:=Option.map_eq_some_iff.1 hc
    simp only [Prod.mk.injEq] at h2
    obtain ⟨rfl,rfl⟩:=h2
    obtain ⟨vs,rfl,hr⟩:=h.agg_inv
    obtain ⟨h4,h5,_⟩:=mapO_spec h1
    refine .agg vs _ (by simp [hr.1,h4]) (fun j hj=>?_)
    have hj' : j < cs.length:=by simp at hj;omega
    obtain ⟨d,u',h8,h9,h10⟩:=h5 j cs[j] (List.getElem?_eq_getElem hj')
    have e1 : (ds.map AV.d)[j]=.d d:=by
      simp at hj ⊢
      rw [List.getElem?_eq_getElem hj] at h8;exact Option.some.inj h8
    rw [e1]
    exact .d _ _ (convC_sound hH hA 9 (hr.2 j hj') h9 (fun b hb n hn=>hus b (h10 b hb) n hn))
  | d x=>exact one _ (by simpa [convA,convC] using hc) h
  | tup x=>simp [convA,convC] at hc
  | ptrL b off=>exact one _ hc h
  | slL b off len sz=>exact one _ hc h
  | fnL f c=>exact one _ hc h
  | dead=>simp [convA,convC] at hc

theorem convA_used {ex : Nat→Bool} {x y : AV} {us : List Nat} (hc : convA C ex x=some (y,us)) : ∀ b ∈ us,(C b).isSome=true∧ex b=false:=by
  have one : ∀ x,(convC C ex 9 x).map (fun p=>(AV.d p.1,p.2))=some (y,us)→∀ b ∈ us,(C b).isSome=true∧ex b=false:=by
    intro x hc
    obtain ⟨⟨d,u⟩,h1,h2⟩:=Option.map_eq_some_iff.1 hc
    simp only [Prod.mk.injEq] at h2
    obtain ⟨rfl,rfl⟩:=h2
    exact convC_used 9 h1
  cases x with
  | agg cs =>
    simp only [convA] at hc
    obtain ⟨⟨ds,u⟩,h1,h2⟩:=Option.map_eq_some_iff.1 hc
    simp only [Prod.mk.injEq] at h2
    obtain ⟨rfl,rfl⟩:=h2
    obtain ⟨_,_,h5⟩:=mapO_spec h1
    intro b hb
    obtain ⟨z,_,d,u',h6,h7⟩:=h5 b hb
    exact convC_used 9 h6 b h7
  | d x=>simp [convA,convC] at hc;obtain ⟨_,rfl⟩:=hc;intro b hb;simp at hb
  | tup x=>simp [convA,convC] at hc
  | ptrL b off=>exact one _ hc
  | slL b off len sz=>exact one _ hc
  | fnL f c=>exact one _ hc
  | dead=>simp [convA,convC] at hc

theorem convAs_sound (hH : HOK w0 S Wr μ U C Z w) {ex : Nat→Bool} {A' : Nat→Prop} (hA : ∀ n,A' n→Av S C Z μ n) {μ' : Nat→Option Nat} {U' : Nat→Prop} :
    ∀ {as bs : List AV} {us : List Nat} {vs : List Value},vs.length=as.length→(∀ (j : Nat) v x,vs[j]?=some v→as[j]?=some x→RA w (Av S C Z μ) μ U v x)→convAs C ex as=some (bs,us) →
      (∀ b ∈ us,∀ n,μ b=some n→¬ A' n)→bs.length=vs.length∧(∀ (j : Nat) v y,vs[j]?=some v→bs[j]?=some y→RA w A' μ' U' v y)∧∀ b ∈ us,(C b).isSome=true∧ex b=false
  | [],bs,us,vs,hl,hr,hc,hus=>by
    simp [convAs] at hc;obtain ⟨rfl,rfl⟩:=hc
    exact ⟨by simp at hl;simp [hl],fun j v y _ hy=>by simp at hy,fun b hb=>by simp at hb⟩
  | x :: as,bs,us,[],hl,hr,hc,hus=>by simp at hl
  | x :: as,bs,us,v :: vs,hl,hr,hc,hus=>by
    simp only [convAs] at hc
    obtain ⟨⟨y,u⟩,h1,h2⟩:=Option.bind_eq_some_iff.1 hc
    obtain ⟨⟨ys,us'⟩,h3,h4⟩:=Option.map_eq_some_iff.1 h2
    simp only [Prod.mk.injEq] at h4
    obtain ⟨rfl,rfl⟩:=h4
    have hx:=convA_sound (μ':=μ') (U':=U') hH hA (hr 0 v x rfl rfl) h1 (fun b hb=>hus b (by simp [hb]))
    obtain ⟨g1,g2,g3⟩:=convAs_sound (μ':=μ') (U':=U') hH hA (vs:=vs) (by simpa using hl) (fun j v x a b=>hr (j + 1) v x (by simpa using a) (by simpa using b)) h3 (fun b hb=>hus b (by simp [hb]))
    refine ⟨by simp [g1],fun j v' y' hv hy=>?_,fun b hb=>?_⟩
    · cases j with
      | zero=>simp at hv hy;subst hv;subst hy;exact hx
      | succ j=>exact g2 j v' y' (by simpa using hv) (by simpa using hy)
    · rcases List.mem_append.1 hb with hb | hb
      · exact convA_used h1 b hb
      · exact g3 b hb

theorem convAsL_sound (hH : HOK w0 S Wr μ U C Z w) {A' : Nat→Prop} (hA : ∀ n,A' n→Av S C Z μ n) {b0 : Nat} {U' : Nat→Prop} (hU' : U' 0) :
    ∀ {as bs : List AV} {us : List Nat} {vs : List Value} {j0 : Nat},vs.length=as.length→(∀ (j : Nat) v x,vs[j]?=some v→as[j]?=some x→RA w (Av S C Z μ) μ U v x)→(as[j0]?).bind liveB=some b0→convAsL C b0 j0 as=some (bs,us) →
      (∀ b ∈ us,∀ n,μ b=some n→¬ A' n)→bs.length=vs.length∧(∀ (j : Nat) v y,vs[j]?=some v→bs[j]?=some y→RA w A' (fun _=>μ b0) U' v y)∧∀ b ∈ us,(C b).isSome=true∧b ≠ b0
  | [],bs,us,vs,j0,hl,hr,hb,hc,hus=>by simp at hb
  | x :: as,bs,us,[],j0,hl,hr,hb,hc,hus=>by simp at hl
  | x :: as,bs,us,v :: vs,0,hl,hr,hb,hc,hus=>by
    simp only [convAsL] at hc
    obtain ⟨⟨ys,us'⟩,h3,h4⟩:=Option.map_eq_some_iff.1 hc
    simp only [Prod.mk.injEq] at h4
    obtain ⟨rfl,rfl⟩:=h4
    obtain ⟨g1,g2,g3⟩:=convAs_sound (μ':=fun _=>μ b0) (U':=U') hH hA (vs:=vs) (by simpa using hl) (fun j v x a b=>hr (j + 1) v x (by simpa using a) (by simpa using b)) h3 hus
    refine ⟨by simp [g1],fun j v' y' hv hy=>?_,fun b hb=>⟨(g3 b hb).1,by simpa using (g3 b hb).2⟩⟩
    cases j with
    | zero =>
      simp at hv hy;subst hv;subst hy
      have h0:=hr 0 v x rfl rfl
      simp at hb
      cases x with
      | ptrL c off =>
        simp [liveB] at hb;subst hb
        obtain ⟨blk,rfl,_,hm⟩:=h0.ptrL_inv
        exact .ptrL 0 off blk hU' hm
      | slL c off len sz =>
        simp [liveB] at hb;subst hb
        rcases h0.slL_inv with ⟨rfl,rfl,rfl,_,hm⟩ | ⟨blk,cap,n,e,rfl,_,hm,h6,h7,h8⟩
        · exact .slN 0 sz hU' hm
        · exact .slL 0 off len sz blk cap n e hU' hm h6 h7 h8
      | d | agg | tup | fnL | dead=>simp [liveB] at hb
    | succ j=>exact g2 j v' y' (by simpa using hv) (by simpa using hy)
  | x :: as,bs,us,v :: vs,j0 + 1,hl,hr,hb,hc,hus=>by
    simp only [convAsL] at hc
    obtain ⟨⟨y,u⟩,h1,h2⟩:=Option.bind_eq_some_iff.1 hc
    obtain ⟨⟨ys,us'⟩,h3,h4⟩:=Option.map_eq_some_iff.1 h2
    simp only [Prod.mk.injEq] at h4
    obtain ⟨rfl,rfl⟩:=h4
    have hx:=convA_sound (μ':=fun _=>μ b0) (U':=U') hH hA (hr 0 v x rfl rfl) h1 (fun b hb=>hus b (by simp [hb]))
    obtain ⟨g1,g2,g3⟩:=convAsL_sound hH hA hU' (vs:=vs) (by simpa using hl) (fun j v x a b=>hr (j + 1) v x (by simpa using a) (by simpa using b)) (by simpa using hb) h3 (fun b hb=>hus b (by simp [hb]))
    refine ⟨by simp [g1],fun j v' y' hv hy=>?_,fun b hb=>?_⟩
    · cases j with
      | zero=>simp at hv hy;subst hv;subst hy;exact hx
      | succ j=>exact g2 j v' y' (by simpa using hv) (by simpa using hy)
    · rcases List.mem_append.1 hb with hb | hb
      · obtain ⟨h5,h6⟩:=convA_used h1 b hb
        exact ⟨h5,by simpa using h6⟩
      · exact g3 b hb
end
end Go.Sv
namespace Go.Sv
open Go
set_option linter.unusedSimpArgs false
set_option linter.unusedVariables false

theorem RowD.mono {w : World} {A A' : Nat→Prop} {m : Option Nat} {ds : List DV} (hA : ∀ k,A' k→A k) (h : RowD w A m ds) : RowD w A' m ds:=by
  rcases h with h | ⟨blk,c,e,h1,h2,h3,h4⟩
  · exact .inl h
  · exact .inr ⟨blk,c,e,h1,h2,h3,fun j hj=>(h4 j hj).mono (fun b _=>hA b) (fun _ _ _=>rfl)⟩

theorem RD.scalar {w w' : World} {A A' : Nat→Prop} {v : Value} {x : DV} (hx : x.scalar=true) (h : RD w A v x) : RD w' A' v x:=by
  cases h<;>first | (simp [DV.scalar] at hx;done) | skip
  rename_i h
  exact .val _ h

theorem RowD.scalar {w : World} {A A' : Nat→Prop} {m : Option Nat} {ds : List DV} (hd : ds.all DV.scalar=true) (h : RowD w A m ds) : RowD w A' m ds:=by
  rcases h with h | ⟨blk,c,e,h1,h2,h3,h4⟩
  · exact .inl h
  · exact .inr ⟨blk,c,e,h1,h2,h3,fun j hj=>(h4 j hj).scalar (List.all_eq_true.1 hd _ (List.getElem_mem _))⟩

section
variable {w w' : World} {A A' : Nat→Prop} {μ μ' : Nat→Option Nat} {U U' : Nat→Prop}

theorem RA.scalar {v : Value} {x : AV} (hx : x.scalar=true) (h : RA w A μ U v x) : RA w' A' μ' U' v x:=by
  have cell : ∀ {v x},(match x with | AV.d (.val _)=>true | _=>false)=true→RA w A μ U v x→RA w' A' μ' U' v x:=by
    intro v x hx h
    cases h with
    | d v x h =>
      refine .d _ _ (h.scalar ?_)
      cases x<;>first | rfl | (simp at hx)
    | _=>simp at hx
  have aggc : ∀ {v cs},(cs.all fun c=>match c with | AV.d (.val _)=>true | _=>false)=true→RA w A μ U v (.agg cs)→RA w' A' μ' U' v (.agg cs):=by
    intro v cs hx h
    obtain ⟨vs,rfl,hr⟩:=h.agg_inv
    exact .agg _ _ hr.1 fun j hj=>cell (List.all_eq_true.1 hx _ (List.getElem_mem _)) (hr.2 j hj)
  cases x with
  | d x=>cases x<;>first | (simp [AV.scalar] at hx;done) | exact cell rfl h
  | agg cs=>exact aggc hx h
  | tup vs =>
    obtain ⟨us,rfl,hr⟩:=h.tup_inv
    refine .tup _ _ hr.1 fun j hj=>?_
    have h1:=List.all_eq_true.1 hx _ (List.getElem_mem hj)
    have h2:=hr.2 j hj
    generalize vs[j]=x at h1 h2
    cases x with
    | d y=>cases y<;>first | (simp at h1;done) | exact cell rfl h2
    | agg cs=>exact aggc h1 h2
    | tup | ptrL | slL | fnL | dead=>simp at h1
  | ptrL | slL | fnL | dead=>simp [AV.scalar] at hx

theorem RA.flat {v : Value} {x : AV} {m nm : Option Nat} {b id : Nat} {R N : Prop} (hx : x.flat=true) (hA : ∀ k,k < w.heap.size→A' k→A k)
    (hb : R→U' b∧μ' b=m) (hid : N→U' id∧μ' id=nm)
    (h : RA w A (fun k=>if k=0 then m else nm) (fun k=>(k=0∧R) ∨ (k=1∧N)) v x) : RA w A' μ' U' v (x.ren b id):=by
  have cell : ∀ {v x},x.isD=true→RA w A (fun k=>if k=0 then m else nm) (fun k=>(k=0∧R) ∨ (k=1∧N)) v x→RA w A' μ' U' v x:=by
    intro v x hx h
    cases h with
    | d v x h=>exact .d _ _ (h.mono hA (fun _ _ _=>rfl))
    | _=>simp [AV.isD] at hx
  cases x with
  | d y=>exact cell rfl h
  | agg cs =>
    obtain ⟨vs,rfl,hr⟩:=h.agg_inv
    exact .agg _ _ hr.1 fun j hj=>cell (List.all_eq_true.1 hx _ (List.getElem_mem _)) (hr.2 j hj)
  | tup vs =>
    obtain ⟨us,rfl,hr⟩:=h.tup_inv
    refine .tup _ _ hr.1 fun j hj=>?_
    have h1:=List.all_eq_true.1 hx _ (List.getElem_mem hj)
    have h2:=hr.2 j hj
    generalize vs[j]=x at h1 h2
    cases x with
    | d y=>exact cell rfl h2
    | agg cs =>
      obtain ⟨ws,h3,hr2⟩:=h2.agg_inv
      rw [h3]
      exact .agg _ _ hr2.1 fun j hj=>cell (List.all_eq_true.1 (by simpa using h1) _ (List.getElem_mem _)) (hr2.2 j hj)
    | tup | ptrL | slL | fnL | dead=>simp at h1
  | ptrL c off =>
    obtain ⟨blk,rfl,hU,hm⟩:=h.ptrL_inv
    rcases hU with ⟨rfl,hR⟩ | ⟨rfl,hN⟩
    · simp only [if_true] at hm
      exact .ptrL b off blk (hb hR).1 ((hb hR).2.trans hm)
    · simp at hm
      exact .ptrL id off blk (hid hN).1 ((hid hN).2.trans hm)
  | slL c off len sz =>
    rcases h.slL_inv with ⟨rfl,rfl,rfl,hU,hm⟩ | ⟨blk,cap,n,e,rfl,hU,hm,h6,h7,h8⟩
    · rcases hU with ⟨rfl,hR⟩ | ⟨rfl,hN⟩
      · simp only [if_true] at hm
        exact .slN b sz (hb hR).1 ((hb hR).2.trans hm)
      · simp at hm
        exact .slN id sz (hid hN).1 ((hid hN).2.trans hm)
    · rcases hU with ⟨rfl,hR⟩ | ⟨rfl,hN⟩
      · simp only [if_true] at hm
        exact .slL b off len sz blk cap n e (hb hR).1 ((hb hR).2.trans hm) h6 h7 h8
      · simp at hm
        exact .slL id off len sz blk cap n e (hid hN).1 ((hid hN).2.trans hm) h6 h7 h8
  | fnL | dead=>simp [AV.flat] at hx
end

section
variable {w0 : World} {S Wr : Nat→Prop} {μ : Nat→Option Nat} {U : Nat→Prop} {C : Heap} {Z : Frz} {w w' : World}

def afterC (C : Heap) (lb : Option Nat) (row' : Option (List DV)) (id : Nat) (nr : Option (List DV)) : Heap :=
  putO (match lb with | none=>C | some b=>setO C b row') id nr

theorem HOK.after (h : HOK w0 S Wr μ U C Z w) {lb : Option Nat} (hlb : ∀ b,lb=some b→(∃ r,C b=some r)∧Z b=false)
    (hk : Kept w w' (fun k=>∃ b,lb=some b∧μ b=some k)) {row' nr : Option (List DV)} {nm : Option Nat} {Z' : Frz} (hZ : ∀ b,Z b=true→Z' b=true) {id : Nat} (hid : ¬ U id)
    (hrow' : ∀ ds,row'=some ds→∀ b,lb=some b→RowD w' (Av S (afterC C lb row' id nr) Z' (fun k=>if id=k∧nr.isSome=true then nm else μ k)) (μ b) ds)
    (hnr : ∀ ds,nr=some ds→RowD w' (Av S (afterC C lb row' id nr) Z' (fun k=>if id=k∧nr.isSome=true then nm else μ k)) nm ds)
    (hnm : ∀ k,nr.isSome=true→nm=some k→w.heap.size≤k ∨ (row'=none∧∃ b,lb=some b∧μ b=some k)) :
    HOK w0 S Wr (fun k=>if id=k∧nr.isSome=true then nm else μ k) (fun k=>U k ∨ k=id) (afterC C lb row' id nr) Z' w' ∧
    Step S w C Z μ U w' (afterC C lb row' id nr) Z' (fun k=>if id=k∧nr.isSome=true then nm else μ k) (fun k=>U k ∨ k=id):=by
  have hget : ∀ k r,(afterC C lb row' id nr) k=some r→(k=id∧∃ ds,nr=some ds∧r=ds.map AV.d) ∨ (k ≠ id∧lb=some k∧∃ ds,row'=some ds∧r=ds.map AV.d) ∨ (k ≠ id∧lb ≠ some k∧C k=some r):=by
    intro k r hkr
    have h1 : k ≠ id→(match lb with | none=>C | some b=>setO C b row') k=some r→(lb=some k∧∃ ds,row'=some ds∧r=ds.map AV.d) ∨ (lb ≠ some k∧C k=some r):=by
      intro hne hh
      cases lb with
      | none=>exact .inr ⟨by simp,hh⟩
      | some b =>
        cases row' with
        | none =>
          simp only [setO,Heap.del] at hh
          split at hh
          · cases hh
          · rename_i hb;exact .inr ⟨fun e=>hb (Option.some.inj e),hh⟩
        | some ds =>
          simp only [setO,Heap.put] at hh
          split at hh
          · rename_i hb;subst hb;exact .inl ⟨rfl,ds,rfl,(Option.some.inj hh).symm⟩
          · rename_i hb;exact .inr ⟨fun e=>hb (Option.some.inj e),hh⟩
    unfold afterC at hkr
    cases nr with
    | none =>
      simp only [putO] at hkr
      have hne : k ≠ id:=by
        rintro rfl
        apply hid
        cases lb with
        | none=>exact h.used k r hkr
        | some b =>
          cases row' with
          | none =>
            simp only [setO,Heap.del] at hkr
            split at hkr
            · cases hkr
            · exact h.used k r hkr
          | some ds =>
            simp only [setO,Heap.put] at hkr
            split at hkr
            · rename_i hb;subst hb;obtain ⟨⟨r',hr'⟩,_⟩:=hlb b rfl;exact h.used b r' hr'
            · exact h.used k r hkr
      rcases h1 hne hkr with h2 | h2
      · exact .inr (.inl ⟨hne,h2⟩)
      · exact .inr (.inr ⟨hne,h2⟩)
    | some ds =>
      simp only [putO,Heap.put] at hkr
      split at hkr
      · rename_i e;exact .inl ⟨e.symm,ds,rfl,(Option.some.inj hkr).symm⟩
      · rename_i hne
        rcases h1 (fun e=>hne e.symm) hkr with h2 | h2
        · exact .inr (.inl ⟨fun e=>hne e.symm,h2⟩)
        · exact .inr (.inr ⟨fun e=>hne e.symm,h2⟩)
  have hμ : ∀ k,k ≠ id→(if id=k∧nr.isSome=true then nm else μ k)=μ k:=fun k hk=>if_neg fun e=>hk e.1.symm
  have hμid : nr.isSome=true→(if id=id∧nr.isSome=true then nm else μ id)=nm:=fun hh=>if_pos ⟨rfl,hh⟩
  have hAv : ∀ k,k < w.heap.size→Av S (afterC C lb row' id nr) Z' (fun k=>if id=k∧nr.isSome=true then nm else μ k) k→Av S C Z μ k:=by
    rintro k hk0 (hs | ⟨b,h1,h2,h3⟩)
    · exact .inl hs
    · obtain ⟨r,hr⟩:=Option.isSome_iff_exists.1 h1
      have hzb : Z b=false:=by
        cases hz : Z b with
        | false=>rfl
        | true=>rw [hZ b hz] at h2;cases h2
      rcases hget b r hr with ⟨rfl,ds,hn,_⟩ | ⟨hne,hl,_⟩ | ⟨hne,_,hc⟩
      · have hns : nr.isSome=true:=by simp [hn]
        have h3:=(hμid hns).symm.trans h3
        rcases hnm k hns h3 with h4 | ⟨_,b',hb',hm'⟩
        · omega
        · obtain ⟨⟨r',hr'⟩,hz'⟩:=hlb b' hb'
          exact .inr ⟨b',by simp [hr'],hz',hm'⟩
      · simp only [hμ b hne] at h3
        obtain ⟨⟨r',hr'⟩,hz'⟩:=hlb b hl
        exact .inr ⟨b,by simp [hr'],hz',h3⟩
      · simp only [hμ b hne] at h3
        exact .inr ⟨b,by simp [hc],hzb,h3⟩
  have hFA : ∀ k,(∃ b,lb=some b∧μ b=some k)→Av S C Z μ k:=by
    rintro k ⟨b,hb,hm⟩
    obtain ⟨⟨r',hr'⟩,hz'⟩:=hlb b hb
    exact .inr ⟨b,by simp [hr'],hz',hm⟩
  have hra : ∀ v x,RA w (Av S C Z μ) μ U v x→RA w' (Av S (afterC C lb row' id nr) Z' (fun k=>if id=k∧nr.isSome=true then nm else μ k)) (fun k=>if id=k∧nr.isSome=true then nm else μ k) (fun k=>U k ∨ k=id) v x:=fun v x hx =>
    hx.mono' hAv (fun k hk0 hn=>hk.keep k hk0 fun hF=>hn (hFA k hF)) hk.shape (fun k hu=>.inl hu) (fun k hu=>hμ k fun e=>hid (e ▸ hu))
  have hrowD : ∀ {A : Nat→Prop} {m : Option Nat} {ds : List DV} {μ2 : Nat→Option Nat} {U2 : Nat→Prop},RowD w' A m ds→RowOK w' A μ2 U2 (ds.map AV.d) m:=by
    intro A m ds μ2 U2 hh
    rcases hh with ⟨rfl,hm⟩ | ⟨blk,c,e,h1,h2,h3,h4⟩
    · exact .inl ⟨rfl,hm⟩
    · exact .inr ⟨blk,c,e,h1,h2,by simpa using h3,fun j hj=>by
        have hj' : j < ds.length:=by simpa using hj
        rw [List.getElem_map]
        exact .d _ _ (h4 j hj')⟩
  refine ⟨⟨hk.os.trans h.os,hk.tape.trans h.tape,hk.output.trans h.output,Nat.le_trans h.size hk.size,?_,?_,?_,?_,?_⟩,⟨hra⟩⟩
  · intro k hk0 hn
    rw [hk.keep k (Nat.lt_of_lt_of_le hk0 h.size)]
    · exact h.keep k hk0 hn
    · rintro ⟨b,hb,hm⟩
      obtain ⟨⟨r',hr'⟩,_⟩:=hlb b hb
      rcases h.own b r' k hr' hm with h1 | h1
      · omega
      · exact hn h1
  · intro k r hkr
    rcases hget k r hkr with ⟨e,_⟩ | ⟨hne,hl,_⟩ | ⟨hne,_,hc⟩
    · exact .inr e
    · obtain ⟨⟨r',hr'⟩,_⟩:=hlb k hl;exact .inl (h.used k r' hr')
    · exact .inl (h.used k r hc)
  · intro k r hkr
    rcases hget k r hkr with ⟨rfl,ds,hn,rfl⟩ | ⟨hne,hl,ds,hn,rfl⟩ | ⟨hne,hl,hc⟩
    · have hns : nr.isSome=true:=by simp [hn]
      rw [show (if k=k∧nr.isSome=true then nm else μ k)=nm from hμid hns]
      exact hrowD (hnr ds hn)
    · simp only [hμ k hne]
      exact hrowD (hrow' ds hn k hl)
    · refine (h.row k r hc).mono hra (hμ k hne) (fun blk hm=>hk.keep blk (h.lt hc hm) ?_)
      rintro ⟨b,hb,hm'⟩
      obtain ⟨⟨r',hr'⟩,_⟩:=hlb b hb
      have:=h.inj k b r r' blk hc hr' hm hm'
      exact hl (this ▸ hb)
  · intro k r n hkr hm
    rcases hget k r hkr with ⟨rfl,ds,hn,_⟩ | ⟨hne,hl,_⟩ | ⟨hne,_,hc⟩
    · have hns : nr.isSome=true:=by simp [hn]
      have hm:=(hμid hns).symm.trans hm
      rcases hnm n hns hm with h1 | ⟨_,b,hb,hmb⟩
      · exact .inl (Nat.le_trans h.size h1)
      · obtain ⟨⟨r',hr'⟩,_⟩:=hlb b hb
        exact h.own b r' n hr' hmb
    · simp only [hμ k hne] at hm
      obtain ⟨⟨r',hr'⟩,_⟩:=hlb k hl
      exact h.own k r' n hr' hm
    · simp only [hμ k hne] at hm
      exact h.own k r n hc hm
  · -- no two rows in one block
    have old : ∀ k r,k ≠ id→(afterC C lb row' id nr) k=some r→∃ r',C k=some r':=by
      intro k r hne hkr
      rcases hget k r hkr with ⟨e,_⟩ | ⟨_,hl,_⟩ | ⟨_,_,hc⟩
      · exact absurd e hne
      · exact (hlb k hl).1
      · exact ⟨r,hc⟩
    have newOld : ∀ k r n,nr.isSome=true→nm=some n→k ≠ id→(afterC C lb row' id nr) k=some r→μ k=some n→False:=by
      intro k r n hns hn hne hkr hm
      obtain ⟨r',hr'⟩:=old k r hne hkr
      rcases hnm n hns hn with h1 | ⟨h1,b,hb,hmb⟩
      · have:=h.lt hr' hm;omega
      · obtain ⟨⟨r2,hr2⟩,_⟩:=hlb b hb
        have e:=h.inj k b r' r2 n hr' hr2 hm hmb
        subst e
        rcases hget k r hkr with ⟨e,_⟩ | ⟨_,_,ds,hd,_⟩ | ⟨_,hl,_⟩
        · exact hne e
        · rw [h1] at hd;cases hd
        · exact hl hb
    intro k k' r1 r2 n h1 h2 h3 h4
    by_cases e1 : k=id
    · by_cases e2 : k'=id
      · exact e1.trans e2.symm
      · exfalso
        subst e1
        rcases hget k r1 h1 with ⟨_,ds,hn,_⟩ | ⟨hne,_⟩ | ⟨hne,_⟩
        · have hns : nr.isSome=true:=by simp [hn]
          have h3:=(hμid hns).symm.trans h3
          simp only [hμ k' e2] at h4
          exact newOld k' r2 n hns h3 e2 h2 h4
        · exact hne rfl
        · exact hne rfl
    · by_cases e2 : k'=id
      · exfalso
        subst e2
        rcases hget k' r2 h2 with ⟨_,ds,hn,_⟩ | ⟨hne,_⟩ | ⟨hne,_⟩
        · have hns : nr.isSome=true:=by simp [hn]
          have h4:=(hμid hns).symm.trans h4
          simp only [hμ k e1] at h3
          exact newOld k r1 n hns h4 e1 h1 h3
        · exact hne rfl
        · exact hne rfl
      · simp only [hμ k e1] at h3
        simp only [hμ k' e2] at h4
        obtain ⟨r1',hr1⟩:=old k r1 e1 h1
        obtain ⟨r2',hr2⟩:=old k' r2 e2 h2
        exact h.inj k k' r1' r2' n hr1 hr2 h3 h4
end
end Go.Sv
namespace Go.Sv
open Go
set_option linter.unusedSimpArgs false
set_option linter.unusedVariables false

theorem run_callFunc {P : Program} {f : FuncId} (h : Enterable P f) (vs : Array Value) (w : World) : (callFunc f vs).run P w=.ok (.enter f vs) w:=by
  obtain ⟨fn,h1,h2,h3⟩:=h
  have h4 : fn.body.isNone=false:=by cases hb : fn.body<;>simp_all
  simp only [callFunc,Sem.run_bind,run_program,Result.andThen_ok,h1,h3,h4,Bool.false_eq_true,if_false]
  rfl

section
variable {P : Program} {o : Oper}

theorem Good.enterable {f : FuncId} {as : List AV} {row : Option (List DV)} {r : AV} {row' nw : Option (List DV)} (h : Good P f as row r row' nw) : Enterable P f:=h.1

theorem XCall.enterable {C : Heap} {Z : Frz} {id : Nat} {f : FuncId} {as : List AV} {lp : Option Nat} {nw : Bool} {v : AV} {C' : Heap} {Z' : Frz}
    (h : XCall P C Z id f as lp nw v C' Z') : Enterable P f:=by
  cases lp with
  | none=>obtain ⟨bs,us,r,nr,_,_,h2,_⟩:=h;exact h2.1
  | some j=>obtain ⟨b,ds,bs,us,r,row',nr,_,_,_,_,h2,_⟩:=h;exact h2.1

theorem add_true {Z : Frz} {l : List Nat} : ∀ b,Z b=true→Z.add l b=true:=fun b h=>by simp [Frz.add,h]

theorem call_wp {w0 : World} {S Wr : Nat→Prop} {μ : Nat→Option Nat} {U : Nat→Prop} {C : Heap} {Z : Frz} {w : World} {a : Act} {id : Nat} {v : AV} {C' : Heap} {Z' : Frz}
    (hS : ∀ k,S k→k < w0.heap.size∧¬ Wr k) (hH : HOK w0 S Wr μ U C Z w) (hid : ¬ U id) {f : FuncId} {vs : Array Value} {as : List AV} {lp : Option Nat} {nw : Bool}
    (hrun : (execOp a.eval o).run P w=.ok (.enter f vs) w) (hvs : RAs w (Av S C Z μ) μ U vs as) (hx : XCall P C Z id f as lp nw v C' Z')
    (K : Act→World→Prop) (Q : Exit→Act→World→Prop)
    (hK : ∀ cv w' μ' U',HOK w0 S Wr μ' U' C' Z' w'→Step S w C Z μ U w' C' Z' μ' U'→RA w' (Av S C' Z' μ') μ' U' cv v→(∀ b,U' b→U b ∨ b=id)→K (a.put o.dst cv) w') :
    o.wp P a w K Q:=by
  have hvl : vs.toList.length=as.length:=by simpa using hvs.1
  have hvr : ∀ (j : Nat) v x,vs.toList[j]?=some v→as[j]?=some x→RA w (Av S C Z μ) μ U v x:=fun j v x h1 h2=>by
    obtain ⟨v',h3,h4⟩:=hvs.get? h2
    have : vs[j]?=some v:=by simpa using h1
    rw [h3] at this;exact Option.some.inj this ▸ h4
  have hAvlt : ∀ k,Av S C Z μ k→k < w.heap.size:=by
    rintro k (h | ⟨b,h1,_,h3⟩)
    · exact Nat.lt_of_lt_of_le (hS k h).1 hH.size
    · obtain ⟨r,hr⟩:=Option.isSome_iff_exists.1 h1;exact hH.lt hr h3
  have hsplit : ∀ (us : List Nat),(∀ b ∈ us,(C b).isSome=true)→∀ k,Av S C (Z.add us) μ k→(Av S C Z μ k∧∀ b ∈ us,μ b ≠ some k):=by
    rintro us hus k (h | ⟨b,h1,h2,h3⟩)
    · refine ⟨.inl h,fun b hb hm=>?_⟩
      obtain ⟨r,hr⟩:=Option.isSome_iff_exists.1 (hus b hb)
      rcases hH.own b r k hr hm with h1 | h1
      · have:=(hS k h).1;omega
      · exact (hS k h).2 h1
    · simp only [Frz.add,Bool.or_eq_false_iff] at h2
      refine ⟨.inr ⟨b,h1,h2.1,h3⟩,fun b' hb' hm=>?_⟩
      obtain ⟨r,hr⟩:=Option.isSome_iff_exists.1 h1
      obtain ⟨r',hr'⟩:=Option.isSome_iff_exists.1 (hus b' hb')
      have e:=hH.inj b b' r r' k hr hr' h3 hm
      subst e
      have:=h2.2
      simp at this
      exact this hb'
  unfold Oper.wp
  rw [hrun]
  cases lp with
  | none =>
    obtain ⟨bs,us,r,nr,kp,h1,h2,h3,hfl,rfl,rfl,rfl⟩:=hx
    let A0 : Nat→Prop:=fun k=>Av S C Z μ k∧∀ b ∈ us,μ b ≠ some k
    obtain ⟨g1,g2,g3⟩:=convAs_sound (μ':=fun _=>none) (U':=fun b=>(none : Option (List DV)).isSome=true∧b=0) hH (A':=A0) (fun n hn=>hn.1) hvl hvr h1 (fun b hb n hm hn=>hn.2 b hb hm)
    have hcall:=h2.2.2 w A0 none vs (fun k hk=>hAvlt k hk.1) (fun k hk=>by simp at hk) (fun ds hds=>by cases hds)
      (by
        refine RAs.of_get? (by rw [keepN_len,g1];simp) fun j x hx=>?_
        have hj : j < vs.size:=by have:=(List.getElem?_eq_some_iff.1 hx).1;rw [keepN_len,g1] at this;simpa using this
        refine ⟨vs[j],Array.getElem?_eq_getElem hj,?_⟩
        rcases keepN_get hx with hx | ⟨ex,hx2⟩
        case inr =>
          have hv:=hvr j vs[j] _ (by simp [hj]) hx2
          rw [ex]
          generalize vs[j]=v0 at hv
          cases hv with
          | d _ _ hd =>
            refine .d _ _ ?_
            cases hd with
            | val _ h=>exact .val _ h
        refine (g2 j vs[j] x (by simp [hj]) hx).mono (fun k _ hk=>?_) (fun _ _ _=>rfl) (fun _ _ h=>h) (fun _ h=>h) (fun _ _=>rfl)
        rcases hk with hk | ⟨hk,_⟩
        · exact hk
        · simp at hk)
    refine Calls.mono hcall ?_
    rintro e w' ⟨cv,nm,rfl,hkept,hnm,_,hnr,hra⟩
    simp only
    have hkept' : Kept w w' (fun k=>∃ b,(none : Option Nat)=some b∧μ b=some k) :=
      ⟨hkept.os,hkept.tape,hkept.output,hkept.size,fun k hk _=>hkept.keep k hk (by rintro ⟨h,_⟩;simp at h),hkept.shape⟩
    have hrow : ∀ ds,(none : Option (List DV))=some ds→∀ b,(none : Option Nat)=some b→RowD w' (Av S (afterC C none none id nr) (Z.add (if (r.scalar && scalO nr)=true then [] else us)) (fun k=>if id=k∧nr.isSome=true then nm else μ k)) (μ b) ds:=fun ds h=>by cases h
    have hnm' : ∀ k,nr.isSome=true→nm=some k→w.heap.size≤k ∨ ((none : Option (List DV))=none∧∃ b,(none : Option Nat)=some b∧μ b=some k):=fun k hn hm=>by
      rcases hnm k hn hm with h | ⟨h,_⟩
      · exact .inl h
      · simp at h
    have hfin : (∀ ds,nr=some ds→RowD w' (Av S (afterC C none none id nr) (Z.add (if (r.scalar && scalO nr)=true then [] else us)) (fun k=>if id=k∧nr.isSome=true then nm else μ k)) nm ds) →
        RA w' (Av S (afterC C none none id nr) (Z.add (if (r.scalar && scalO nr)=true then [] else us)) (fun k=>if id=k∧nr.isSome=true then nm else μ k)) (fun k=>if id=k∧nr.isSome=true then nm else μ k) (fun k=>U k ∨ k=id) cv (if nr.isSome then r.ren 0 id else r) →
        K (a.put o.dst cv) w':=fun h1 h2=>by
      obtain ⟨k1,k2⟩:=hH.after (lb:=none) (fun b hb=>by cases hb) hkept' (row':=none) (nr:=nr) (nm:=nm) (Z':=Z.add (if (r.scalar && scalO nr)=true then [] else us)) add_true hid hrow h1 hnm'
      exact hK cv w' _ _ k1 k2 (by rw [show (if nw=true then r.ren 0 id else r)=(if nr.isSome=true then r.ren 0 id else r) by rw [h3]];exact h2) (fun b hb=>hb)
    cases hsc : (r.scalar && scalO nr) with
    | true =>
      simp only [Bool.and_eq_true] at hsc
      refine hfin (fun ds hds=>(hnr ds hds).scalar (by have:=hsc.2;rw [hds] at this;exact this)) ?_
      have : (if nr.isSome then r.ren 0 id else r)=r:=by
        split
        · have:=hsc.1
          cases r<;>first | rfl | (simp [AV.scalar] at this)
        · rfl
      rw [this]
      exact hra.scalar hsc.1
    | false =>
      have hz : (Z.add (if (r.scalar && scalO nr)=true then [] else us))=Z.add us:=by rw [hsc];rfl
      rw [hz] at hfin
      have hsub : ∀ k,Av S (afterC C none none id nr) (Z.add us) (fun k=>if id=k∧nr.isSome=true then nm else μ k) k →
          A0 k ∨ ((none : Option (List DV)).isSome=true∧(none : Option Nat)=some k) ∨ (nr.isSome=true∧nm=some k):=by
        rintro k (h | ⟨b,h4,h5,h6⟩)
        · exact .inl (hsplit us (fun b hb=>(g3 b hb).1) k (.inl h))
        · simp only at h6
          by_cases hb : id=b∧nr.isSome=true
          · rw [if_pos hb] at h6;exact .inr (.inr ⟨hb.2,h6⟩)
          · rw [if_neg hb] at h6
            refine .inl (hsplit us (fun b hb=>(g3 b hb).1) k (.inr ⟨b,?_,h5,h6⟩))
            unfold afterC at h4
            cases nr with
            | none=>exact h4
            | some ds =>
              simp only [putO,Heap.put] at h4
              split at h4
              · rename_i e;exact absurd ⟨e,rfl⟩ hb
              · exact h4
      refine hfin (fun ds hds=>(hnr ds hds).mono hsub) ?_
      cases nr with
      | none =>
        refine hra.mono (fun k _ hk=>hsub k hk) (fun _ _ _=>rfl) (fun _ _ h=>h) (fun b hb=>?_) (fun b hb=>?_)
        · simp at hb
        · simp at hb
      | some ds =>
        exact hra.flat (R:=(none : Option (List DV)).isSome=true) (N:=(some ds).isSome=true) (hfl (by rw [← h3];rfl)) (fun k _ hk=>hsub k hk) (fun h=>by simp at h) (fun _=>⟨.inr rfl,if_pos ⟨rfl,rfl⟩⟩)
  | some j =>
    obtain ⟨b0,ds0,bs,us,r,row',nr,hb0,hC0,hZ0,h1,h2,h3,hfl,rfl,rfl,rfl⟩:=hx
    let A0 : Nat→Prop:=fun k=>(Av S C Z μ k∧∀ b ∈ us,μ b ≠ some k)∧μ b0 ≠ some k
    have hAA : ∀ k,A0 k ∨ μ b0=some k→Av S C Z μ k:=by
      rintro k (h | h)
      · exact h.1.1
      · exact .inr ⟨b0,by simp [hC0],hZ0,h⟩
    have husd:=fun (hA : ∀ b ∈ us,∀ n,μ b=some n→¬ (A0 n ∨ μ b0=some n)) =>
      convAsL_sound (U':=fun b=>(some ds0).isSome=true∧b=0) hH (A':=fun k=>A0 k ∨ μ b0=some k) hAA ⟨rfl,rfl⟩ hvl hvr hb0 h1 hA
    have hused : ∀ b ∈ us,(C b).isSome=true∧b ≠ b0:=by
      have aux : ∀ (as : List AV) (j : Nat) (bs : List AV) (us : List Nat),convAsL C b0 j as=some (bs,us)→∀ b ∈ us,(C b).isSome=true∧b ≠ b0:=by
        have auxA : ∀ (as : List AV) (bs : List AV) (us : List Nat),convAs C (fun k=>k == b0) as=some (bs,us)→∀ b ∈ us,(C b).isSome=true∧b ≠ b0:=by
          intro as
          induction as with
          | nil=>intro bs us h b hb;simp [convAs] at h;rw [h.2] at hb;simp at hb
          | cons x as ih =>
            intro bs us h b hb
            simp only [convAs] at h
            obtain ⟨⟨y,u⟩,h1,h2⟩:=Option.bind_eq_some_iff.1 h
            obtain ⟨⟨ys,us'⟩,h3,h4⟩:=Option.map_eq_some_iff.1 h2
            simp only [Prod.mk.injEq] at h4
            obtain ⟨rfl,rfl⟩:=h4
            rcases List.mem_append.1 hb with hb | hb
            · obtain ⟨h5,h6⟩:=convA_used h1 b hb
              exact ⟨h5,by simpa using h6⟩
            · exact ih _ _ h3 b hb
        intro as
        induction as with
        | nil=>intro j bs us h b hb;simp [convAsL] at h;rw [h.2] at hb;simp at hb
        | cons x as ih =>
          intro j bs us h b hb
          cases j with
          | zero =>
            simp only [convAsL] at h
            obtain ⟨⟨ys,us'⟩,h3,h4⟩:=Option.map_eq_some_iff.1 h
            simp only [Prod.mk.injEq] at h4
            obtain ⟨rfl,rfl⟩:=h4
            exact auxA _ _ _ h3 b hb
          | succ j =>
            simp only [convAsL] at h
            obtain ⟨⟨y,u⟩,h1,h2⟩:=Option.bind_eq_some_iff.1 h
            obtain ⟨⟨ys,us'⟩,h3,h4⟩:=Option.map_eq_some_iff.1 h2
            simp only [Prod.mk.injEq] at h4
            obtain ⟨rfl,rfl⟩:=h4
            rcases List.mem_append.1 hb with hb | hb
            · obtain ⟨h5,h6⟩:=convA_used h1 b hb
              exact ⟨h5,by simpa using h6⟩
            · exact ih _ _ _ h3 b hb
      exact aux _ _ _ _ h1
    obtain ⟨g1,g2,g3⟩:=husd (fun b hb n hm hn=>by
      rcases hn with hn | hn
      · exact hn.1.2 b hb hm
      · obtain ⟨r',hr'⟩:=Option.isSome_iff_exists.1 (hused b hb).1
        exact (hused b hb).2 (hH.inj b b0 _ _ n hr' hC0 hm hn))
    have hrow0 : RowD w (fun k=>A0 k ∨ μ b0=some k) (μ b0) ds0:=by
      rcases hH.row b0 _ hC0 with ⟨h,hm⟩ | ⟨blk,c,e,h4,h5,h6,h7⟩
      · exact .inl ⟨by simpa using h,hm⟩
      · refine .inr ⟨blk,c,e,h4,h5,by simpa using h6,fun j hj=>?_⟩
        have h8:=h7 j (by simpa using hj)
        rw [List.getElem_map] at h8
        generalize c.getD j undef=cvv at h8 ⊢
        cases h8 with
        | d _ _ h8=>exact h8.mono (fun b _=>hAA b) (fun _ _ _=>rfl)
    have hcall:=h2.2.2 w A0 (μ b0) vs (fun k hk=>hAvlt k hk.1.1) (fun k _ hm hk=>hk.2 hm) (fun ds hds=>by cases hds;exact hrow0)
      (by
        refine RAs.of_get? (by rw [g1];simp) fun j x hx=>?_
        have hj : j < vs.size:=by have:=(List.getElem?_eq_some_iff.1 hx).1;rw [g1] at this;simpa using this
        refine ⟨vs[j],Array.getElem?_eq_getElem hj,?_⟩
        refine (g2 j vs[j] x (by simp [hj]) hx).mono (fun k _ hk=>?_) (fun _ _ _=>rfl) (fun _ _ h=>h) (fun _ h=>h) (fun _ _=>rfl)
        rcases hk with hk | ⟨_,hk⟩
        · exact .inl hk
        · exact .inr hk)
    refine Calls.mono hcall ?_
    rintro e w' ⟨cv,nm,rfl,hkept,hnm,hrow,hnr,hra⟩
    simp only
    have hlbq : ∀ b,some b0=some b→(∃ r,C b=some r)∧Z b=false:=fun b hb=>by cases hb;exact ⟨⟨_,hC0⟩,hZ0⟩
    have hkept' : Kept w w' (fun k=>∃ b,some b0=some b∧μ b=some k) :=
      ⟨hkept.os,hkept.tape,hkept.output,hkept.size,fun k hk hn=>hkept.keep k hk (by rintro ⟨_,h⟩;exact hn ⟨b0,rfl,h⟩),hkept.shape⟩
    have hnm' : ∀ k,nr.isSome=true→nm=some k→w.heap.size≤k ∨ (row'=none∧∃ b,some b0=some b∧μ b=some k):=fun k hn hm=>by
      rcases hnm k hn hm with h | ⟨_,h5,h6⟩
      · exact .inl h
      · exact .inr ⟨h5,b0,rfl,h6⟩
    have hb0id : b0 ≠ id:=fun e=>hid (e ▸ hH.used b0 _ hC0)
    have hfin : (∀ ds,row'=some ds→RowD w' (Av S (afterC C (some b0) row' id nr) (Z.add (if (r.scalar && scalO row' && scalO nr)=true then [] else us)) (fun k=>if id=k∧nr.isSome=true then nm else μ k)) (μ b0) ds) →
        (∀ ds,nr=some ds→RowD w' (Av S (afterC C (some b0) row' id nr) (Z.add (if (r.scalar && scalO row' && scalO nr)=true then [] else us)) (fun k=>if id=k∧nr.isSome=true then nm else μ k)) nm ds) →
        RA w' (Av S (afterC C (some b0) row' id nr) (Z.add (if (r.scalar && scalO row' && scalO nr)=true then [] else us)) (fun k=>if id=k∧nr.isSome=true then nm else μ k)) (fun k=>if id=k∧nr.isSome=true then nm else μ k) (fun k=>U k ∨ k=id) cv (r.ren b0 id) →
        K (a.put o.dst cv) w':=fun h0 h1 h2=>by
      obtain ⟨k1,k2⟩:=hH.after (lb:=some b0) hlbq hkept' (row':=row') (nr:=nr) (nm:=nm) (Z':=Z.add (if (r.scalar && scalO row' && scalO nr)=true then [] else us)) add_true hid (fun ds hds b hb=>by cases hb;exact h0 ds hds) h1 hnm'
      exact hK cv w' _ _ k1 k2 h2 (fun b hb=>hb)
    cases hsc : (r.scalar && scalO row' && scalO nr) with
    | true =>
      simp only [Bool.and_eq_true] at hsc
      refine hfin (fun ds hds=>(hrow ds hds).scalar (by have:=hsc.1.2;rw [hds] at this;exact this)) (fun ds hds=>(hnr ds hds).scalar (by have:=hsc.2;rw [hds] at this;exact this)) ?_
      have : r.ren b0 id=r:=by
        have:=hsc.1.1
        cases r<;>first | rfl | (simp [AV.scalar] at this)
      rw [this]
      exact hra.scalar hsc.1.1
    | false =>
      have hz : (Z.add (if (r.scalar && scalO row' && scalO nr)=true then [] else us))=Z.add us:=by rw [hsc];rfl
      rw [hz] at hfin
      have hsub : ∀ k,Av S (afterC C (some b0) row' id nr) (Z.add us) (fun k=>if id=k∧nr.isSome=true then nm else μ k) k →
          A0 k ∨ (row'.isSome=true∧μ b0=some k) ∨ (nr.isSome=true∧nm=some k):=by
        rintro k (h | ⟨b,h4,h5,h6⟩)
        · refine .inl ⟨hsplit us (fun b hb=>(g3 b hb).1) k (.inl h),fun hm=>?_⟩
          rcases hH.own b0 _ k hC0 hm with h7 | h7
          · have:=(hS k h).1;omega
          · exact (hS k h).2 h7
        · simp only at h6
          by_cases hb : id=b∧nr.isSome=true
          · rw [if_pos hb] at h6;exact .inr (.inr ⟨hb.2,h6⟩)
          · rw [if_neg hb] at h6
            have h4' : (setO C b0 row' b).isSome=true:=by
              unfold afterC at h4
              cases nr with
              | none=>exact h4
              | some ds =>
                simp only [putO,Heap.put] at h4
                split at h4
                · rename_i e;exact absurd ⟨e,rfl⟩ hb
                · exact h4
            by_cases hbb : b0=b
            · subst hbb
              cases row' with
              | none=>simp [setO,Heap.del] at h4'
              | some ds=>exact .inr (.inl ⟨rfl,h6⟩)
            · have hCb : (C b).isSome=true:=by
                cases row' with
                | none=>simpa [setO,Heap.del,hbb] using h4'
                | some ds=>simpa [setO,Heap.put,hbb] using h4'
              refine .inl ⟨hsplit us (fun b hb=>(g3 b hb).1) k (.inr ⟨b,hCb,h5,h6⟩),fun hm=>?_⟩
              obtain ⟨rb,hrb⟩:=Option.isSome_iff_exists.1 hCb
              exact hbb (hH.inj b0 b _ _ k hC0 hrb hm h6)
      refine hfin (fun ds hds=>(hrow ds hds).mono hsub) (fun ds hds=>(hnr ds hds).mono hsub) ?_
      exact hra.flat (R:=row'.isSome=true) (N:=nr.isSome=true) hfl (fun k _ hk=>hsub k hk)
        (fun h=>⟨.inl (hH.used b0 _ hC0),if_neg fun e=>hb0id e.1.symm⟩) (fun h=>⟨.inr rfl,if_pos ⟨rfl,h⟩⟩)

theorem impl_call {f : FuncId} {args : Array Operand} {ts : Array TypeId} {xs : List X} {lp : Option Nat} {nw : Bool} (ho : o.op=.call { callee:=.value (.func f),args:=args,argTypes:=ts }) (hx : args.toList.mapM xo=some xs) :
    Impl P o (.call f xs lp nw):=by
  intro w0 S Wr μ U C Z w a fr id v C' Z' hS hH hf hid hxs K Q hK
  obtain ⟨q,_,hxc⟩ : ∃ q,(q=lp ∨ q=none)∧XCall P C Z id f (xs.map (X.ev fr)) q nw v C' Z':=hxs
  refine call_wp hS hH hid (vs:=args.map a.eval) ?_ (xos_RAs hf hx) hxc K Q hK
  simp only [execOp,ho,resolve,Act.eval,Deferred.ofValue,Sem.run_bind,Sem.run_pure,Result.andThen_ok,invoke]
  rw [Array.append_empty,Array.empty_append]
  exact run_callFunc hxc.enterable _ w

theorem impl_callv {g : Operand} {g' : X} {args : Array Operand} {ts : Array TypeId} {xs : List X} (ho : o.op=.call { callee:=.value g,args:=args,argTypes:=ts }) (hg : xo g=some g') (hx : args.toList.mapM xo=some xs) :
    Impl P o (.callv g' xs):=by
  intro w0 S Wr μ U C Z w a fr id v C' Z' hS hH hf hid hxs K Q hK
  obtain ⟨f,caps,hgv,hxc⟩:=hxs
  have hga:=xo_sound hf hg
  have hfn : ∃ cs,a.eval g=.func (.func f) #[] cs∧RAs w (Av S C Z μ) μ U cs caps:=by
    rcases hgv with hgv | ⟨ds,hgv,rfl⟩
    · rw [hgv] at hga
      generalize a.eval g=gv at hga
      cases hga with
      | fnL _ cs _ h1 h2=>exact ⟨cs,rfl,h1,h2⟩
    · rw [hgv] at hga
      generalize a.eval g=gv at hga
      cases hga with
      | d _ _ h =>
        cases h with
        | fn _ cs _ h1 h2=>exact ⟨cs,rfl,by simpa using h1,fun j hj=>by
            have hj' : j < ds.length:=by simpa using hj
            rw [List.getElem_map];exact .d _ _ (h2 j hj')⟩
  obtain ⟨cs,h1,h2⟩:=hfn
  refine call_wp hS hH hid (vs:=args.map a.eval++cs) ?_ ((xos_RAs hf hx).append h2) hxc K Q hK
  simp only [execOp,ho,resolve,h1,Deferred.ofValue,Sem.run_bind,Sem.run_pure,Result.andThen_ok,invoke]
  rw [Array.empty_append]
  exact run_callFunc hxc.enterable _ w
end

theorem impl_bad {P : Program} {o : Oper} : Impl P o .bad:=by
  intro w0 S Wr μ U C Z w a fr id v C' Z' hS hH hf hid hxs K Q hK
  obtain ⟨h,_⟩:=hxs
  exact absurd h (by simp [xi,XI.cls,xw])
theorem bytesA_spec : ∀ {cs : List AV} {l : List UInt8},bytesA cs=some l→l.length=cs.length∧∀ (j : Nat) (h : j < l.length) (h2 : j < cs.length),cs[j]=.d (.val (.int .u8 (l[j].toNat : Int)))
  | [],l,h=>by simp [bytesA] at h;subst h;exact ⟨rfl,fun j h=>by simp at h⟩
  | c :: cs,l,h=>by
    unfold bytesA at h
    split at h
    · rename_i he;cases he
    · rename_i k l' he
      cases he
      split at h
      · rename_i hk
        obtain ⟨r,h1,rfl⟩:=Option.map_eq_some_iff.1 h
        obtain ⟨h2,h3⟩:=bytesA_spec h1
        refine ⟨by simp [h2],fun j g1 g2=>?_⟩
        cases j with
        | zero =>
          have : (UInt8.ofNat k.toNat).toNat=k.toNat:=by simp [UInt8.toNat_ofNat'];omega
          simp only [List.getElem_cons_zero,this]
          congr 3;omega
        | succ j=>simpa using h3 j (by simpa using g1) (by simpa using g2)
      · cases h
    · cases h
theorem impl_strB {P : Program} {o : Oper} {x : Operand} {x' : X} {src dst e : TypeId} (ho : o.op=.convert src dst x) (hs : P.underlying src=some (.slice e)) (he : P.underlying e=some (.int .u8)) (hd : P.underlying dst=some .string) (hx : xo x=some x') : Impl P o (.strB x'):=by
  intro w0 S Wr μ U C Z w a fr id v C' Z' hS hH hf hid hxs K Q hK
  obtain ⟨h1,rfl⟩:=hxs.toXi rfl
  obtain ⟨v',hv,hev⟩:=Option.map_eq_some_iff.1 h1
  cases hev
  simp only [xl] at hv
  obtain ⟨⟨cs,n⟩,h2,h3⟩:=Option.bind_eq_some_iff.1 hv
  simp only at h3
  split at h3
  · cases h3
  rename_i hn
  obtain ⟨l,h4,rfl⟩:=Option.map_eq_some_iff.1 h3
  have hxa:=xo_sound hf hx
  rcases src_sound hH hxa h2 with ⟨h0,_⟩ | ⟨blk,b0,cap,news,e1,hl,hc,hra⟩
  · exact absurd h0 hn
  obtain ⟨hb1,hb2⟩:=bytesA_spec h4
  have hln : l.length=n:=by
    have:=hra.1
    simp at this
    omega
  have hcell : ∀ j (hj : j < l.length),w.cell? ((⟨blk,b0,none⟩ : Addr).add j)=some (.int .u8 (l[j].toNat : Int)):=by
    intro j hj
    have hj2 : j < cs.length:=by omega
    have hj3 : j < news.length:=by omega
    have g1:=hra.2 j hj2
    rw [hb2 j hj hj2] at g1
    have g2:=g1.val_eq
    have g3:=hc j _ (List.getElem?_eq_getElem hj3)
    have : (news.toArray).getD j undef=news[j]:=by simp [Array.getD,hj3]
    rw [this] at g2
    rw [g2] at g3
    rw [show ((⟨blk,b0,none⟩ : Addr).add j)=⟨blk,b0 + j,none⟩ by unfold Addr.add;split<;>simp_all]
    exact g3
  have hrun:=run_convert_bytes_back (P:=P) w src dst e ⟨blk,b0,none⟩ cap l hs he hd hcell
  rw [hln] at hrun
  unfold Oper.wp
  simp only [execOp,ho,e1,Sem.run_bind,hrun,Result.andThen_ok,Sem.run_pure]
  exact hK _ w μ U hH Step.refl (.d _ _ (.val _ rfl)) (fun b hb=>.inl hb)
end Go.Sv
namespace Go.Sv
open Go
set_option linter.unusedSimpArgs false
set_option linter.unusedVariables false

def zerosOf (P : Program) (t : TypeId) : Option (List Value) :=
  match P.info? t with
  | some i=>match i.zero with
    | some z=>if z.cells.toList.all (·.oneCell') then some z.cells.toList else none
    | none=>none
  | none=>none

def placeOf (P : Program) (t : TypeId) : Option (Nat→Option (Nat × Nat)) :=
  match P.underlying t with
  | some (.array _ e)=>match P.info? e with
    | some ie=>some fun i=>some (i * ie.size,ie.size)
    | none=>none
  | some (.struct fields)=>match fields.toList.mapM (fun f=>(P.info? f.type).map fun i=>(f.offset,i.size)) with
    | some places=>some fun i=>places.toArray[i]?
    | none=>none
  | _=>none

def partsOf (place : Nat→Option (Nat × Nat)) : List (Nat × Operand)→Option (List (Nat × Nat × X))
  | []=>some []
  | (i,x) :: l=>match place i,xo x,partsOf place l with
    | some (o,s),some y,some r=>some ((o,s,y) :: r)
    | _,_,_=>none

def compEq (P : Program) (neg : Bool) (t : TypeId) (x y : X) : Option XI :=
  match P.underlying t with
  | some .bool=>some (.beq neg x y)
  | some (.array n e)=>match P.underlying e with
    | some (.int _)=>if szOf P e=some 1∧szOf P t=some n∧P.eqGuardType P.depth t=false then some (.eqAgg n neg x y) else none
    | _=>none
  | some _=>some (.arith (if neg then .neq else .eql) x y)
  | none=>none

def compB (P : Program) (b : Builtin) (args : List Operand) (ts : List TypeId) : Option XI :=
  match b,args,ts with
  | .len,[x],[t]=>match P.underlying t,xo x with
    | some .string,some x=>some (.lenT x)
    | some (.slice _),some x=>some (.lenS x)
    | _,_=>none
  | .append,[s,x],[t,tx]=>match P.underlying t,P.underlying tx,xo s,xo x with
    | some (.slice e),some (.slice _),some s,some x=>match P.info? e,zerosOf P e with
      | some i,some zs=>if i.size=zs.length∧i.bytes ≠ 0 then some (.app zs i.bytes s x) else none
      | _,_=>none
    | _,_,_,_=>none
  | .copy,[d,s],[t,_]=>match P.underlying t,xo d,xo s with
    | some (.slice e),some d,some s=>(szOf P e).map fun n=>.cpy n d s
    | _,_,_=>none
  | .clear,[x],[t]=>match P.underlying t,xo x with
    | some (.slice e),some x=>(zerosOf P e).map fun zs=>.clr zs x
    | _,_=>none
  | .max,args,_=>(args.mapM xo).map .max
  | .min,args,_=>(args.mapM xo).map .min
  | _,_,_=>none

def comp (P : Program) (md : FuncId→Option Nat × Bool) (o : Oper) : Option XI :=
  match o.op with
  | .move x=>(xo x).map .mv
  | .assign x=>(xo x).map .mv
  | .pick c a b=>match xo c,xo a,xo b with
    | some c,some a,some b=>some (.pick c a b)
    | _,_,_=>none
  | .alloc e=>(zerosOf P e).map .alloc
  | .box _ x=>(xo x).map .box
  | .build t parts=>match zerosOf P t,placeOf P t with
    | some zs,some pl=>(partsOf pl parts.toList).map (.build zs)
    | _,_=>none
  | .buildSlice t len parts=>match P.underlying t with
    | some (.slice e)=>match P.info? e,zerosOf P e with
      | some i,some zs=>if i.size=zs.length∧¬ len * i.size > 2 ^ 24 then (partsOf (fun n=>some (n * i.size,i.size)) parts.toList).map (.mkrow zs len i.size) else none
      | _,_=>none
    | _=>none
  | .load t a=>match aggSz P t,xo a with
    | some n,some a=>some (.load n a)
    | _,_=>none
  | .store t a x=>match szOf P t,xo a,xo x with
    | some n,some a,some x=>some (.store n a x)
    | _,_,_=>none
  | .nilCheck x=>(xo x).map .nilck
  | .binOp op t x y _=>match xo x,xo y with
    | some x,some y=>match op with
      | .eql=>compEq P false t x y
      | .neq=>compEq P true t x y
      | op=>some (.arith op x y)
    | _,_=>none
  | .unOp op _ x=>(xo x).map (.un op)
  | .convert src dst x=>match P.underlying src,P.underlying dst,xo x with
    | some _,some (.int k),some x=>some (.conv k x)
    | some (.slice e),some .string,some x=>match P.underlying e with
      | some (.int .u8)=>some (.strB x)
      | _=>none
    | some _,some .string,some x=>some (.idT x)
    | _,_,_=>none
  | .fieldAddr s x f=>match P.underlying s,xo x with
    | some (.struct fields),some x=>match fields[f]? with
      | some fl=>match szOf P fl.type with
        | some n=>if n ≠ 0 then some (.fadd fl.offset x) else none
        | none=>none
      | none=>none
    | _,_=>none
  | .field t x f=>match P.underlying t,xo x with
    | some (.struct fields),some x=>match fields[f]? with
      | some fl=>(aggSz P fl.type).map fun n=>.fsub fl.offset n x
      | none=>none
    | _,_=>none
  | .indexAddr t x i=>match P.underlying t,xo x,xo i with
    | some (.slice e),some x,some i=>(szOf P e).map fun n=>.idxS n x i
    | some (.array n e),some x,some i=>(szOf P e).map fun s=>.idxP n s x i
    | _,_,_=>none
  | .index t x i=>match P.underlying t,xo x,xo i with
    | some .string,some x,some i=>some (.idxT x i)
    | _,_,_=>none
  | .makeSlice t l c=>match P.underlying t,xo l,xo c with
    | some (.slice e),some l,some c=>match P.info? e,zerosOf P e with
      | some i,some zs=>if i.size=zs.length then some (.mks zs i.bytes l c) else none
      | _,_=>none
    | _,_,_=>none
  | .slice t x lo hi none=>match P.underlying t,xo x,xoo lo,xoo hi with
    | some (.slice e),some x,some lo,some hi=>(szOf P e).map fun n=>.slS n x lo hi
    | some .string,some x,some lo,some hi=>some (.slT x lo hi)
    | _,_,_,_=>none
  | .extract x i=>(xo x).map fun x=>.ext x i
  | .makeFunc (.func f) first caps=>if first=#[] then (caps.toList.mapM xo).map (.mkfn f) else none
  | .call { callee:=.value (.func f),args,.. }=>(args.toList.mapM xo).map fun xs=>.call f xs (md f).1 (md f).2
  | .call { callee:=.value g,args,.. }=>match xo g,args.toList.mapM xo with
    | some g,some xs=>some (.callv g xs)
    | _,_=>none
  | .panic _=>some .bad
  | .call { callee:=.builtin b,args,argTypes }=>compB P b args.toList argTypes.toList
  | .makeInterface ..=>some .bad
  | _=>none

theorem zerosOf_spec {P : Program} {t : TypeId} {zs : List Value} (h : zerosOf P t=some zs) :
    ∃ i z,P.info? t=some i∧i.zero=some z∧zs=z.cells.toList∧z.cells.toList.all (·.oneCell')=true:=by
  unfold zerosOf at h
  split at h
  · rename_i i hi
    split at h
    · rename_i z hz
      split at h
      · rename_i ha
        cases h
        exact ⟨i,z,hi,hz,rfl,ha⟩
      · cases h
    · cases h
  · cases h

theorem partsOf_spec {place : Nat→Option (Nat × Nat)} : ∀ {l : List (Nat × Operand)} {ps : List (Nat × Nat × X)},partsOf place l=some ps →
    ps.length=l.length∧∀ (j : Nat) i x off s y,l[j]?=some (i,x)→ps[j]?=some (off,s,y)→place i=some (off,s)∧xo x=some y
  | [],ps,h=>by simp [partsOf] at h;subst h;exact ⟨rfl,fun j i x off s y h1=>by simp at h1⟩
  | (i,x) :: l,ps,h=>by
    unfold partsOf at h
    split at h
    · rename_i o s y r h1 h2 h3
      cases h
      obtain ⟨g1,g2⟩:=partsOf_spec h3
      refine ⟨by simp [g1],fun j i' x' off s' y' h4 h5=>?_⟩
      cases j with
      | zero=>simp at h4 h5;obtain ⟨rfl,rfl⟩:=h4;obtain ⟨rfl,rfl,rfl⟩:=h5;exact ⟨h1,h2⟩
      | succ j=>exact g2 j _ _ _ _ _ (by simpa using h4) (by simpa using h5)
    · cases h

section
variable {P : Program} {o : Oper} {md : FuncId→Option Nat × Bool}

theorem placeOf_spec {t : TypeId} {pl : Nat→Option (Nat × Nat)} (h : placeOf P t=some pl) {i : TypeInfo} {z : Value} (hi : P.info? t=some i) (hz : i.zero=some z) : ∀ l,P.built t l=Instr.fill pl z.cells l:=by
  intro l
  unfold placeOf at h
  unfold Program.built
  split at h
  · rename_i n e hu
    split at h
    · rename_i ie hie
      cases h
      simp [hi,hu,hz,hie]
    · cases h
  · rename_i fields hu
    split at h
    · rename_i places hp
      cases h
      simp only [hi,hu,hz,hp]
    · cases h
  · cases h

theorem compEq_impl {neg : Bool} {t t' : TypeId} {x y : Operand} {x' y' : X} {i : XI} (ho : o.op=.binOp (if neg then .neq else .eql) t x y t') (hx : xo x=some x') (hy : xo y=some y') (h : compEq P neg t x' y'=some i) : Impl P o i:=by
  unfold compEq at h
  split at h
  · rename_i ht
    cases h
    exact impl_beq ho ht hx hy
  · rename_i n e ht
    split at h
    · rename_i k he
      split at h
      · rename_i hc
        cases h
        exact impl_eqAgg ho ht he hc.1 hc.2.1 hc.2.2 hx hy
      · cases h
    · cases h
  · cases h
    exact impl_arith ho hx hy
  · cases h

theorem toList_one {α : Type} {a : Array α} {x : α} (h : a.toList=[x]) : a=#[x]:=by apply Array.ext';simpa using h
theorem toList_two {α : Type} {a : Array α} {x y : α} (h : a.toList=[x,y]) : a=#[x,y]:=by apply Array.ext';simpa using h

theorem compB_impl {b : Builtin} {args : Array Operand} {ts : Array TypeId} {i : XI} (ho : o.op=.call { callee:=.builtin b,args:=args,argTypes:=ts }) (h : compB P b args.toList ts.toList=some i) : Impl P o i:=by
  unfold compB at h
  split at h
  · rename_i x t h1 h2
    rw [toList_one h1,toList_one h2] at ho
    split at h
    · rename_i x' ht hx;cases h;exact impl_lenT ho ht hx
    · rename_i e x' ht hx;cases h;exact impl_lenS ho ht hx
    · cases h
  · rename_i s x t tx h1 h2
    rw [toList_two h1,toList_two h2] at ho
    split at h
    · rename_i e e2 s' x' ht htx hs hx
      split at h
      · rename_i i' zs hi hzs
        split at h
        · rename_i hc
          cases h
          obtain ⟨i2,z,h3,h4,rfl,h5⟩:=zerosOf_spec hzs
          rw [hi] at h3;cases h3
          exact impl_app ho ht hi h4 htx (by simpa using hc.1) hc.2 hs hx
        · cases h
      · cases h
    · cases h
  · rename_i d s t tx h1 h2
    rw [toList_two h1,toList_two h2] at ho
    split at h
    · rename_i e d' s' ht hd hs
      obtain ⟨n,hn,rfl⟩:=Option.map_eq_some_iff.1 h
      exact impl_cpy ho ht hn hd hs
    · cases h
  · rename_i x t h1 h2
    rw [toList_one h1,toList_one h2] at ho
    split at h
    · rename_i e x' ht hx
      obtain ⟨zs,hzs,rfl⟩:=Option.map_eq_some_iff.1 h
      obtain ⟨i2,z,h3,h4,rfl,h5⟩:=zerosOf_spec hzs
      exact impl_clr ho ht h3 h4 h5 hx
    · cases h
  · obtain ⟨xs,h1,rfl⟩:=Option.map_eq_some_iff.1 h
    exact impl_max ho h1
  · obtain ⟨xs,h1,rfl⟩:=Option.map_eq_some_iff.1 h
    exact impl_min ho h1
  · cases h

theorem comp_impl {i : XI} (h : comp P md o=some i) : Impl P o i:=by
  unfold comp at h
  split at h
  · rename_i x ho
    obtain ⟨y,h1,rfl⟩:=Option.map_eq_some_iff.1 h
    exact impl_mv (.inl ho) h1
  · rename_i x ho
    obtain ⟨y,h1,rfl⟩:=Option.map_eq_some_iff.1 h
    exact impl_mv (.inr ho) h1
  · rename_i c a b ho
    split at h
    · rename_i c' a' b' h1 h2 h3;cases h;exact impl_pick ho h1 h2 h3
    · cases h
  · rename_i e ho
    obtain ⟨zs,h1,rfl⟩:=Option.map_eq_some_iff.1 h
    obtain ⟨i,z,h2,h3,rfl,h4⟩:=zerosOf_spec h1
    exact impl_alloc ho h2 h3 h4
  · rename_i e x ho
    obtain ⟨y,h1,rfl⟩:=Option.map_eq_some_iff.1 h
    exact impl_box ho h1
  · rename_i t parts ho
    split at h
    · rename_i zs pl h1 h2
      obtain ⟨ps,h3,rfl⟩:=Option.map_eq_some_iff.1 h
      obtain ⟨i,z,h4,h5,rfl,h6⟩:=zerosOf_spec h1
      obtain ⟨g1,g2⟩:=partsOf_spec h3
      exact impl_build (it:=i) ho (placeOf_spec h2 h4 h5) h6 (by simpa using g1) (fun j i x off s y a b=>g2 j i x off s y (by simpa using a) b)
    · cases h
  · rename_i t len parts ho
    split at h
    · rename_i e ht
      split at h
      · rename_i i' zs h1 h2
        split at h
        · rename_i hc
          obtain ⟨ps,h3,rfl⟩:=Option.map_eq_some_iff.1 h
          obtain ⟨i2,z,h4,h5,rfl,h6⟩:=zerosOf_spec h2
          rw [h1] at h4;cases h4
          obtain ⟨g1,g2⟩:=partsOf_spec h3
          refine impl_mkrow ho ht h1 h5 h6 (by simpa using hc.1) hc.2 (by simpa using g1) (fun j n x off s y a b=>?_)
          obtain ⟨k1,k2⟩:=g2 j n x off s y (by simpa using a) b
          exact ⟨(Option.some.inj k1).symm,k2⟩
        · cases h
      · cases h
    · cases h
  · rename_i t a ho
    split at h
    · rename_i n a' h1 h2;cases h;exact impl_load ho h1 h2
    · cases h
  · rename_i t a x ho
    split at h
    · rename_i n a' x' h1 h2 h3;cases h;exact impl_store ho h1 h2 h3
    · cases h
  · rename_i x ho
    obtain ⟨y,h1,rfl⟩:=Option.map_eq_some_iff.1 h
    exact impl_nilck ho h1
  · rename_i op t x y t' ho
    split at h
    · rename_i x' y' hx hy
      split at h
      · exact compEq_impl (neg:=false) ho hx hy h
      · exact compEq_impl (neg:=true) ho hx hy h
      · cases h;exact impl_arith ho hx hy
    · cases h
  · rename_i op t x ho
    obtain ⟨y,h1,rfl⟩:=Option.map_eq_some_iff.1 h
    exact impl_un ho h1
  · rename_i src dst x ho
    split at h
    · rename_i d k x' h1 h2 h3;cases h;exact impl_conv ho h1 h2 h3
    · rename_i e x' h1 h2 h3
      split at h
      · rename_i he;cases h;exact impl_strB ho h1 he h2 h3
      · cases h
    · rename_i d x' _ h1 h2 h3;cases h;exact impl_idT ho h1 h2 h3
    · cases h
  · rename_i s x f ho
    split at h
    · rename_i fields x' h1 h2
      split at h
      · rename_i fl h3
        split at h
        · rename_i n h4
          split at h
          · rename_i hn;cases h;exact impl_fadd ho h1 h3 h4 hn h2
          · cases h
        · cases h
      · cases h
    · cases h
  · rename_i t x f ho
    split at h
    · rename_i fields x' h1 h2
      split at h
      · rename_i fl h3
        obtain ⟨n,h4,rfl⟩:=Option.map_eq_some_iff.1 h
        exact impl_fsub ho h1 h3 h4 h2
      · cases h
    · cases h
  · rename_i t x i ho
    split at h
    · rename_i e x' i' h1 h2 h3
      obtain ⟨n,h4,rfl⟩:=Option.map_eq_some_iff.1 h
      exact impl_idxS ho h1 h4 h2 h3
    · rename_i n e x' i' h1 h2 h3
      obtain ⟨s,h4,rfl⟩:=Option.map_eq_some_iff.1 h
      exact impl_idxP ho h1 h4 h2 h3
    · cases h
  · rename_i t x i ho
    split at h
    · rename_i x' i' h1 h2 h3;cases h;exact impl_idxT ho h1 h2 h3
    · cases h
  · rename_i t l c ho
    split at h
    · rename_i e l' c' h1 h2 h3
      split at h
      · rename_i i' zs h4 h5
        split at h
        · rename_i hc
          cases h
          obtain ⟨i2,z,h6,h7,rfl,h8⟩:=zerosOf_spec h5
          rw [h4] at h6;cases h6
          exact impl_mks ho h1 h4 h7 h8 (by simpa using hc) h2 h3
        · cases h
      · cases h
    · cases h
  · rename_i t x lo hi ho
    split at h
    · rename_i e x' lo' hi' h1 h2 h3 h4
      obtain ⟨n,h5,rfl⟩:=Option.map_eq_some_iff.1 h
      exact impl_slS ho h1 h5 h2 h3 h4
    · rename_i x' lo' hi' h1 h2 h3 h4
      cases h
      exact impl_slT ho h1 h2 h3 h4
    · cases h
  · rename_i x i ho
    obtain ⟨y,h1,rfl⟩:=Option.map_eq_some_iff.1 h
    exact impl_ext ho h1
  · rename_i f first caps ho
    split at h
    · rename_i hf
      subst hf
      obtain ⟨xs,h1,rfl⟩:=Option.map_eq_some_iff.1 h
      exact impl_mkfn ho h1
    · cases h
  · rename_i f args ts ho
    obtain ⟨xs,h1,rfl⟩:=Option.map_eq_some_iff.1 h
    exact impl_call ho h1
  · rename_i g args ts hne ho
    split at h
    · rename_i g' xs h1 h2;cases h;exact impl_callv ho h1 h2
    · cases h
  · cases h;exact impl_bad
  · rename_i b args ts _ ho
    exact compB_impl ho h
  · cases h;exact impl_bad
  · cases h
end
end Go.Sv
namespace Go.Sv
open Go
set_option linter.unusedSimpArgs false
set_option linter.unusedVariables false

inductive XC where
  | skip
  | ops (n : Nat) (l : List (Nat × XO)) (kp : Option (List Nat))
  | seq (a b : XC)
  | cond (c : X) (a b : XC)
  | block (id : Nat) (c : XC)
  | loop (c : XC)
  | exit (id : Nat)
  | ret
  deriving Inhabited

def guardOf (ops : List Oper) (nt : Nat) : Option (Nat × Bool)→Option (Option (Nat × Bool))
  | none=>some none
  | some (j,want)=>match (ops[j]?).bind (·.dst) with
    | some s=>if s < nt then some (some (s,want)) else none
    | none=>none

def dstOK (nt : Nat) : Option Nat→Bool
  | some d=>decide (d < nt)
  | none=>true

def compO (P : Program) (md : FuncId→Option Nat × Bool) (nt : Nat) (ops : List Oper) (o : Oper) : Option XO :=
  match comp P md o,guardOf ops nt o.guard with
  | some i,some g=>if dstOK nt o.dst=true then some ⟨o.dst,g,i⟩ else none
  | _,_=>none

def compOs (P : Program) (md : FuncId→Option Nat × Bool) (nt : Nat) (ops : List Oper) : List Oper→Option (List XO)
  | []=>some []
  | o :: l=>match compO P md nt ops o,compOs P md nt ops l with
    | some x,some r=>some (x :: r)
    | _,_=>none

def avFor (T : List (List Nat)) (l : List XO) (j : Nat) : List Nat:=l.zipIdx.flatMap fun p=>match p.1.i with
  | .load _ (.t s)=>if p.2 == j || (T.getD j []).contains p.2 || (T.getD p.2 []).contains j then [] else [s]
  | _=>[]
def annI (T : List (List Nat)) (l : List XO) (j : Nat) : XI→XI
  | .store n a x=>match avFor T l j with
    | []=>.store n a x
    | s :: av=>.storeA n a x (s :: av)
  | .call f args (some k) false=>match avFor T l j with
    | []=>.call f args (some k) false
    | s :: av=>.callA f args k (s :: av)
  | i=>i
def annot (T : List (List Nat)) (l : List XO) : List XO:=l.zipIdx.map fun p=>⟨p.1.dst,p.1.guard,annI T l p.2 p.1.i⟩
theorem annot_get (T : List (List Nat)) (l : List XO) (j : Nat) : (annot T l)[j]?=(l[j]?).map fun o=>⟨o.dst,o.guard,annI T l j o.i⟩:=by
  simp only [annot,List.getElem?_map,List.getElem?_zipIdx,Option.map_map]
  cases l[j]?<;>simp
theorem annI_step {P : Program} {T : List (List Nat)} {l : List XO} {j : Nat} {fr : Fr} {C : Heap} {Z : Frz} {id : Nat} {i : XI} {v : AV} {C' : Heap} {Z' : Frz} (h : XStep P fr C Z id (annI T l j i) v C' Z') : XStep P fr C Z id i v C' Z':=by
  unfold annI at h
  split at h
  · split at h
    · exact h
    · exact h.2
  · split at h
    · exact h
    · exact ⟨_,.inl rfl,h.2⟩
  · exact h
theorem aAny_ann {P : Program} {ops : Array Oper} {L : List XO} {T : List (List Nat)} {base : Nat} {K : Fr→Heap→Frz→Prop} : ∀ (fuel : Nat) (listed : Array Bool) (fr : Fr) (C : Heap) (Z : Frz),aAny P ops (annot T L) base K fuel listed fr C Z→aAny P ops L base K fuel listed fr C Z
  | 0,_,_,_,_,h=>h
  | fuel + 1,listed,fr,C,Z,h=>by
    refine ⟨h.1,fun i hi=>?_⟩
    have h2:=h.2 i hi
    unfold aOp at h2 ⊢
    rw [annot_get] at h2
    cases ho : L[i]? with
    | none =>
      rw [ho] at h2
      exact aAny_ann fuel _ _ _ _ h2
    | some o =>
      rw [ho] at h2
      obtain ⟨v,C',Z',g,g2⟩:=h2
      refine ⟨v,C',Z',?_,aAny_ann fuel _ _ _ _ g2⟩
      rcases g with ⟨w,g⟩ | g
      · exact .inl ⟨w,annI_step g⟩
      · exact .inr g

def compC (P : Program) (md : FuncId→Option Nat × Bool) (od : Nat→List (List Nat) × List Nat × Option (List Nat)) (nt : Nat) : Code→Option XC
  | .skip=>some .skip
  | .region id ops draw=>match compOs P md nt ops.toList ops.toList with
    | some l=>if draw then
        (if lexX ops.toList l (od id).1 (od id).2.1 && P.follows .mixedOrders then some (.ops ops.size (pair l (od id).2.1) (od id).2.2)
         else if lexX ops.toList (annot (od id).1 l) (od id).1 (od id).2.1 && P.follows .mixedOrders then some (.ops ops.size (pair (annot (od id).1 l) (od id).2.1) (od id).2.2)
         else some (.ops ops.size [(0,⟨none,none,.bad⟩)] none))
      else some (.ops ops.size (pair l (List.range' 0 ops.size)) (od id).2.2)
    | none=>none
  | .seq a b=>match compC P md od nt a,compC P md od nt b with
    | some x,some y=>some (.seq x y)
    | _,_=>none
  | .cond c a b=>match xo c,compC P md od nt a,compC P md od nt b with
    | some c,some x,some y=>some (.cond c x y)
    | _,_,_=>none
  | .block id c=>(compC P md od nt c).map (.block id)
  | .loop c=>(compC P md od nt c).map .loop
  | .exit id=>some (.exit id)
  | .label _=>some .skip
  | .ret=>some .ret
  | _=>none


structure St where
  fr : Fr
  C : Heap
  Z : Frz
  nx : Nat

inductive AWk (ρ : Nat→Nat) (vt : Nat→Bool) (nx : Nat) : AV→AV→Prop
  | dead (x : AV) : AWk ρ vt nx x .dead
  | d (x : DV) : AWk ρ vt nx (.d x) (.d x)
  | agg (cs ds : List AV) (hl : cs.length=ds.length) (h : ∀ (j : Nat) (h1 : j < cs.length) (h2 : j < ds.length),AWk ρ vt nx cs[j] ds[j]) : AWk ρ vt nx (.agg cs) (.agg ds)
  | tup (cs ds : List AV) (hl : cs.length=ds.length) (h : ∀ (j : Nat) (h1 : j < cs.length) (h2 : j < ds.length),AWk ρ vt nx cs[j] ds[j]) : AWk ρ vt nx (.tup cs) (.tup ds)
  | fnL (f : FuncId) (cs ds : List AV) (hl : cs.length=ds.length) (h : ∀ (j : Nat) (h1 : j < cs.length) (h2 : j < ds.length),AWk ρ vt nx cs[j] ds[j]) : AWk ρ vt nx (.fnL f cs) (.fnL f ds)
  | ptrL (c b off : Nat) (hc : c=ρ b) (hb : b < nx) (hv : vt b=false) : AWk ρ vt nx (.ptrL c off) (.ptrL b off)
  | slL (c b off len sz : Nat) (hc : c=ρ b) (hb : b < nx) (hv : vt b=false) : AWk ρ vt nx (.slL c off len sz) (.slL b off len sz)
  | slN (b sz : Nat) (hb : b < nx) (hv : vt b=true) : AWk ρ vt nx (.d (.val (.slice none 0 0))) (.slL b 0 0 sz)

structure Wk (st st' : St) : Prop where
  ex : ∃ (ρ : Nat→Nat) (vt : Nat→Bool),(ρ 0=0∧vt 0=false∧0 < st'.nx)∧(∀ s,AWk ρ vt st'.nx (st.fr s) (st'.fr s)) ∧
    (∀ b r',st'.C b=some r'→b < st'.nx∧((vt b=true∧r'=[]) ∨ (vt b=false∧∃ r,st.C (ρ b)=some r∧r.length=r'.length ∧
      (∀ (j : Nat) (h1 : j < r.length) (h2 : j < r'.length),AWk ρ vt st'.nx r[j] r'[j])∧(st'.Z b=false→st.Z (ρ b)=false)))) ∧
    (∀ b b' r r',st'.C b=some r→st'.C b'=some r'→vt b=false→vt b'=false→ρ b=ρ b'→b=b') ∧
    (∀ b,st.Z (ρ b)=true→st'.Z b=true)

def Fz (st st' : St) : Prop:=st'.nx=st.nx∧∃ us,st'.Z=st.Z.add us∧(∀ s,st'.fr s=st.fr s ∨ ∃ u,convA st.C (fun _=>false) (st.fr s)=some (st'.fr s,u)∧∀ b ∈ u,b ∈ us) ∧
  ∀ b,st'.C b=st.C b ∨ ∃ r r' u,st.C b=some r∧st'.C b=some r'∧convAs st.C (fun _=>false) r=some (r',u)∧∀ k ∈ u,k ∈ us
theorem Fz.refl (st : St) : Fz st st:=⟨rfl,[],(Frz.add_nil _).symm,fun _=>.inl rfl,fun _=>.inl rfl⟩
inductive FzS : St→St→Prop
  | refl (a : St) : FzS a a
  | step {a b c : St} (h : Fz a b) (k : FzS b c) : FzS a c
def Wkf (st st' : St) : Prop:=∃ st1,FzS st st1∧Wk st1 st'
theorem Wk.f {st st' : St} (h : Wk st st') : Wkf st st':=⟨st,.refl st,h⟩
theorem Fz.then {a b c : St} (h : Fz a b) (k : Wkf b c) : Wkf a c:=by
  obtain ⟨st1,h1,h2⟩:=k
  exact ⟨st1,.step h h1,h2⟩

abbrev Cont:=Exit→St→Prop

def thenK (k : St→Prop) (Q : Cont) : Cont
  | .normal,st=>k st
  | e,st=>Q e st
def blockK (id : Nat) (Q : Cont) : Cont
  | .exit i,st=>if i=id then Q .normal st else Q (.exit i) st
  | e,st=>Q e st
def Fr.keepL : List Nat→Fr→Fr→Fr
  | [],acc,_=>acc
  | k :: ks,acc,fr=>Fr.keepL ks (acc.put k (fr k)) fr
def Fr.keepO : Option (List Nat)→Fr→Fr
  | none,fr=>fr
  | some l,fr=>Fr.keepL l Fr.nil fr
def opsK (kp : Option (List Nat)) (Q : Cont) (nx : Nat) : Fr→Heap→Frz→Prop:=fun fr C Z=>Q .normal ⟨Fr.keepO kp fr,C,Z,nx⟩
def condK (v : AV) (p q : Prop) : Prop:=∃ t,v=.d (.val (.bool t))∧(if t=true then p else q)
def xloop (body : Cont→St→Prop) (Q : Cont) : Nat→St→Prop
  | 0,_=>False
  | n + 1,st=>∃ st',Wkf st st'∧body (thenK (xloop body Q n) Q) st'

def xwp (P : Program) : XC→Cont→St→Prop
  | .skip,Q,st=>Q .normal st
  | .ops n l kp,Q,st=>aRun P l st.nx (opsK kp Q (st.nx + n)) st.fr st.C st.Z
  | .seq a b,Q,st=>xwp P a (thenK (xwp P b Q) Q) st
  | .cond c a b,Q,st=>condK (c.ev st.fr) (xwp P a Q st) (xwp P b Q st)
  | .block id c,Q,st=>xwp P c (blockK id Q) st
  | .loop c,Q,st=>∃ n,xloop (xwp P c) Q n st
  | .exit id,Q,st=>Q (.exit id) st
  | .ret,Q,st=>Q .ret st


structure Sim (D : List Deferred) (pb : Option (Value × AV)) (w0 : World) (S Wr : Nat→Prop) (nt : Nat) (Ub : Nat→Prop) (fr : Fr) (C : Heap) (Z : Frz) (a : Act) (w : World) : Prop where
  ex : ∃ μ U,HOK w0 S Wr μ U C Z w∧(∀ s,RA w (Av S C Z μ) μ U (a.tmps.getD s undef) (fr s))∧(∀ b,U b→Ub b) ∧
    (∀ p,pb=some p→RA w (Av S C Z μ) μ U p.1 p.2∧p.2=.slL 0 0 0 1)
  size : a.tmps.size=nt
  defers : a.defers=D

section
variable {D : List Deferred} {P : Program} {md : FuncId→Option Nat × Bool} {od : Nat→List (List Nat) × List Nat × Option (List Nat)} {nt : Nat} {w0 : World} {S Wr : Nat→Prop} {pb : Option (Value × AV)}

theorem compO_spec {ops : List Oper} {o : Oper} {x : XO} (h : compO P md nt ops o=some x) : comp P md o=some x.i∧guardOf ops nt o.guard=some x.guard∧x.dst=o.dst∧∀ d,o.dst=some d→d < nt:=by
  unfold compO at h
  split at h
  · rename_i i g h1 h2
    split at h
    · rename_i hd
      cases h
      refine ⟨h1,h2,rfl,fun d hd'=>?_⟩
      rw [hd'] at hd;simpa [dstOK] using hd
    · cases h
  · cases h

theorem compOs_spec {ops : List Oper} : ∀ {l : List Oper} {r : List XO},compOs P md nt ops l=some r→r.length=l.length∧∀ (j : Nat) o x,l[j]?=some o→r[j]?=some x→compO P md nt ops o=some x
  | [],r,h=>by simp [compOs] at h;subst h;exact ⟨rfl,fun j o x h1=>by simp at h1⟩
  | o :: l,r,h=>by
    unfold compOs at h
    split at h
    · rename_i x r' h1 h2
      cases h
      obtain ⟨g1,g2⟩:=compOs_spec h2
      refine ⟨by simp [g1],fun j o' x' h3 h4=>?_⟩
      cases j with
      | zero=>simp at h3 h4;subst h3;subst h4;exact h1
      | succ j=>exact g2 j o' x' (by simpa using h3) (by simpa using h4)
    · cases h

theorem wanted_of {ops : Array Oper} {o : Oper} {g : Option (Nat × Bool)} (hg : guardOf ops.toList nt o.guard=some g) {fr : Fr} {b : Bool} (hw : wantB fr g=some b)
    {w : World} {A : Nat→Prop} {μ : Nat→Option Nat} {U : Nat→Prop} {a : Act} (hf : ∀ s,RA w A μ U (a.tmps.getD s undef) (fr s)) (hs : a.tmps.size=nt) : Region.wanted o (yielded ops a.tmps)=b:=by
  unfold Region.wanted
  cases hgd : o.guard with
  | none =>
    rw [hgd] at hg;simp [guardOf] at hg;subst hg
    simp [wantB] at hw
    exact hw.symm
  | some p =>
    obtain ⟨j,want⟩:=p
    rw [hgd] at hg
    simp only [guardOf] at hg
    split at hg
    · rename_i s hs'
      split at hg
      · rename_i hlt
        cases hg
        have hs2 : (ops[j]?).bind (·.dst)=some s:=by simpa using hs'
        have hlt' : s < a.tmps.size:=by rw [hs];exact hlt
        have hget : a.tmps[s]?=some (a.tmps.getD s undef):=by
          rw [Array.getD_eq_getD_getElem?,Array.getElem?_eq_getElem hlt'];rfl
        simp only [wantB] at hw
        have h1:=hf s
        simp only [yielded,hs2,Option.bind_some,hget]
        split at hw
        · rename_i b' he
          rw [he] at h1
          rw [h1.val_eq]
          cases hw
          simp
        · rename_i he
          rw [he] at h1
          obtain ⟨vs,h2,_⟩:=h1.tup_inv
          rw [h2]
          cases hw
          simp
        · cases hw
      · cases hg
    · cases hg

theorem op_sound (hS : ∀ k,S k→k < w0.heap.size∧¬ Wr k) {ops : Array Oper} {L : List XO} (hL : compOs P md nt ops.toList ops.toList=some L) {i : Nat} {o : Oper} {x : XO} (ho : ops[i]?=some o) (hx : L[i]?=some x)
    {fr : Fr} {C : Heap} {Z : Frz} {a : Act} {w : World} {id : Nat} {v : AV} {C' : Heap} {Z' : Frz} {Ub : Nat→Prop} (hs : Sim D pb w0 S Wr nt Ub fr C Z a w) (hid : ¬ Ub id) (hg : Gives P fr C Z id x v C' Z')
    {K : Act→World→Prop} {Q : Exit→Act→World→Prop} (hK : ∀ a' w',Sim D pb w0 S Wr nt (fun b=>Ub b ∨ b=id) (Fr.putO fr x.dst v) C' Z' a' w'→K a' w') : wpOp P ops Q i K a w:=by
  obtain ⟨⟨μ,U,hH,hf,hU,hpb⟩,hsz,hdf⟩:=hs
  obtain ⟨_,h2⟩:=compOs_spec hL
  obtain ⟨h3,h4,h5,h6⟩:=compO_spec (h2 i o x (by simpa using ho) hx)
  have hidU : ¬ U id:=fun h=>hid (hU id h)
  have put : ∀ (cv : Value) (w' : World) (A' : Nat→Prop) (μ' : Nat→Option Nat) (U' : Nat→Prop),(∀ v x,RA w (Av S C Z μ) μ U v x→RA w' A' μ' U' v x)→RA w' A' μ' U' cv v →
      (∀ s,RA w' A' μ' U' ((a.put o.dst cv).tmps.getD s undef) (Fr.putO fr x.dst v s))∧(a.put o.dst cv).tmps.size=nt∧(a.put o.dst cv).defers=D:=by
    intro cv w' A' μ' U' hstep hcv
    rw [h5]
    cases hd : o.dst with
    | none=>exact ⟨fun s=>hstep _ _ (hf s),hsz,hdf⟩
    | some d =>
      have hdl : d < a.tmps.size:=by rw [hsz];exact h6 d hd
      refine ⟨fun s=>?_,by simp [Act.put,hsz],hdf⟩
      simp only [Act.put,Fr.putO,Fr.put]
      by_cases hds : d=s
      · subst hds
        rw [if_pos rfl,Array.getD_eq_getD_getElem?]
        simp [hdl]
        exact hcv
      · rw [if_neg hds,Array.getD_eq_getD_getElem?,Array.getElem?_setIfInBounds_ne hds,← Array.getD_eq_getD_getElem?]
        exact hstep _ _ (hf s)
  unfold wpOp
  rw [ho]
  simp only
  rcases hg with ⟨hw,hx'⟩ | ⟨hw,rfl,rfl,rfl⟩
  · rw [if_pos (wanted_of h4 hw hf hsz)]
    refine .inl (comp_impl h3 w0 S Wr μ U C Z w a fr id v C' Z' hS hH hf hidU hx' K Q fun cv w' μ' U' k1 k2 k3 k4=>?_)
    obtain ⟨g1,g2,g3⟩:=put cv w' _ μ' U' k2.ra k3
    exact hK _ _ ⟨⟨μ',U',k1,g1,fun b hb=>(k4 b hb).imp (hU b) (fun h=>h),fun p hp=>⟨k2.ra _ _ (hpb p hp).1,(hpb p hp).2⟩⟩,g2,g3⟩
  · rw [if_neg (by rw [wanted_of h4 hw hf hsz];simp)]
    obtain ⟨g1,g2,g3⟩:=put undef w _ μ U (fun _ _ h=>h) (.tup #[] [] rfl (fun j hj=>absurd hj (by simp)))
    exact hK _ _ ⟨⟨μ,U,hH,g1,fun b hb=>.inl (hU b hb),hpb⟩,g2,g3⟩

theorem Sim.weak {Ub Ub' : Nat→Prop} {fr : Fr} {C : Heap} {Z : Frz} {a : Act} {w : World} (h : Sim D pb w0 S Wr nt Ub fr C Z a w) (hU : ∀ b,Ub b→Ub' b) : Sim D pb w0 S Wr nt Ub' fr C Z a w:=by
  obtain ⟨⟨μ,U,h1,h2,h3,h6⟩,h4,h5⟩:=h
  exact ⟨⟨μ,U,h1,h2,fun b hb=>hU b (h3 b hb),h6⟩,h4,h5⟩

theorem Fr.keepL_or : ∀ (l : List Nat) (acc fr : Fr) (s : Nat),(acc s=fr s ∨ acc s=.dead)→Fr.keepL l acc fr s=fr s ∨ Fr.keepL l acc fr s=.dead
  | [],acc,fr,s,h=>h
  | k :: ks,acc,fr,s,h=>by
    refine Fr.keepL_or ks _ fr s ?_
    simp only [Fr.put]
    split
    · rename_i e;subst e;exact .inl rfl
    · exact h
theorem Fr.keepO_or (l : Option (List Nat)) (fr : Fr) (s : Nat) : Fr.keepO l fr s=fr s ∨ Fr.keepO l fr s=.dead:=by
  cases l with
  | none=>exact .inl rfl
  | some l=>exact Fr.keepL_or l _ fr s (.inr rfl)
theorem Sim.keep {Ub : Nat→Prop} {fr : Fr} {C : Heap} {Z : Frz} {a : Act} {w : World} (h : Sim D pb w0 S Wr nt Ub fr C Z a w) (l : Option (List Nat)) : Sim D pb w0 S Wr nt Ub (Fr.keepO l fr) C Z a w:=by
  obtain ⟨⟨μ,U,h1,h2,h3,h6⟩,h4,h5⟩:=h
  refine ⟨⟨μ,U,h1,fun s=>?_,h3,h6⟩,h4,h5⟩
  rcases Fr.keepO_or l fr s with e | e
  · rw [e];exact h2 s
  · rw [e];exact .dead _

theorem Sim.drew {Ub : Nat→Prop} {fr : Fr} {C : Heap} {Z : Frz} {a : Act} {w : World} (h : Sim D pb w0 S Wr nt Ub fr C Z a w) : Sim D pb w0 S Wr nt Ub fr C Z a { w with drawn:=w.drawn + 1 }:=by
  obtain ⟨⟨μ,U,h1,h2,h3,h6⟩,h4,h5⟩:=h
  obtain ⟨k1,k2⟩:=h1.same (w':={ w with drawn:=w.drawn + 1 }) rfl rfl rfl rfl
  exact ⟨⟨μ,U,k1,fun s=>k2.ra _ _ (h2 s),h3,fun p hp=>⟨k2.ra _ _ (h6 p hp).1,(h6 p hp).2⟩⟩,h4,h5⟩

theorem ordOK_nodup {ops : List Oper} {tbl : List (List Nat)} {L : List XO} : ∀ {ord : List Nat},ordOK ops tbl L ord=true→ord.Nodup∧∀ i ∈ ord,i < ops.length
  | [],_=>⟨List.nodup_nil,fun i hi=>by simp at hi⟩
  | i :: l,h=>by
    simp only [ordOK,Bool.and_eq_true] at h
    obtain ⟨⟨h1,h2⟩,h3⟩:=h
    obtain ⟨g1,g2⟩:=ordOK_nodup h3
    split at h1
    case h_2=>cases h1
    rename_i o x ho hx
    refine ⟨List.nodup_cons.2 ⟨fun hm=>?_,g1⟩,fun j hj=>?_⟩
    · rw [List.contains_iff_mem.2 hm] at h2;cases h2
    · rcases List.mem_cons.1 hj with rfl | hj
      · exact (List.getElem?_eq_some_iff.1 ho).1
      · exact g2 j hj

theorem ordOK_mem {ops : Array Oper} {tbl : List (List Nat)} {L : List XO} {ord : List Nat} (h : ordOK ops.toList tbl L ord=true) (hl : ord.length=ops.size) : ∀ j,j < ops.size→j ∈ ord:=by
  obtain ⟨h1,h2⟩:=ordOK_nodup h
  have key : ∀ (n : Nat) (l : List Nat),l.Nodup→(∀ i ∈ l,i < n)→l.length=n→∀ j,j < n→j ∈ l:=by
    intro n
    induction n with
    | zero=>intro l _ _ _ j hj;omega
    | succ n ih =>
      intro l hn hb hlen j hj
      by_cases hm : n ∈ l
      · have hl' : (l.erase n).length=n:=by rw [List.length_erase_of_mem hm,hlen];rfl
        have hlt : ∀ i ∈ l.erase n,i < n:=fun i hi=>by
          have h3:=(List.Nodup.mem_erase_iff hn).1 hi
          have:=hb i h3.2
          omega
        by_cases hjn : j=n
        · exact hjn ▸ hm
        · exact List.mem_of_mem_erase (ih (l.erase n) (hn.erase n) hlt hl' j (by omega))
      · exfalso
        have hlt : ∀ i ∈ l,i < n:=fun i hi=>by
          have h3:=hb i hi
          have : i ≠ n:=fun e=>hm (e ▸ hi)
          omega
        cases l with
        | nil=>simp at hlen
        | cons a t =>
          simp at hlen
          have ht:=ih t (List.nodup_cons.1 hn).2 (fun i hi=>hlt i (by simp [hi])) hlen a (hlt a (by simp))
          exact (List.nodup_cons.1 hn).1 ht
  exact key ops.size ord h1 (fun i hi=>by simpa using h2 i hi) hl

theorem ops_sound (hS : ∀ k,S k→k < w0.heap.size∧¬ Wr k) {ops : Array Oper} {L : List XO} (hL : compOs P md nt ops.toList ops.toList=some L) {base : Nat} {K : Fr→Heap→Frz→Prop} {Q : Exit→Act→World→Prop} :
    ∀ (n k : Nat) (fr : Fr) (C : Heap) (Z : Frz) (a : Act) (w : World),k + n=ops.size→Sim D pb w0 S Wr nt (fun b=>b < base + k) fr C Z a w→aRun P (pair L (List.range' k n)) base K fr C Z →
      (∀ fr C Z a w,K fr C Z→Sim D pb w0 S Wr nt (fun b=>b < base + ops.size) fr C Z a w→Q .normal a w)→wpOps P ops Q (List.range' k n) a w:=by
  obtain ⟨hl,h2⟩:=compOs_spec hL
  have hl' : L.length=ops.size:=by simpa using hl
  intro n
  induction n with
  | zero =>
    intro k fr C Z a w hk hs h hQ
    simp only [List.range'_zero,wpOps]
    exact hQ fr C Z a w h (by rw [show ops.size=k by omega];exact hs)
  | succ n ih =>
    intro k fr C Z a w hk hs h hQ
    have hkL : k < L.length:=by omega
    rw [List.range'_succ] at h ⊢
    simp only [pair,List.getElem?_eq_getElem hkL] at h
    obtain ⟨v,C',Z',g1,g2⟩:=h
    rw [wpOps_cons]
    have hks : k < ops.size:=by omega
    exact op_sound hS hL (Array.getElem?_eq_getElem hks) (List.getElem?_eq_getElem hkL) hs (by omega) g1 fun a' w' hs' =>
      ih (k + 1) _ _ _ a' w' (by omega) (hs'.weak fun b hb=>by omega) g2 hQ

theorem any_sound (hS : ∀ k,S k→k < w0.heap.size∧¬ Wr k) {ops : Array Oper} {L : List XO} (hL : compOs P md nt ops.toList ops.toList=some L) {base : Nat} {K : Fr→Heap→Frz→Prop} {Q : Exit→Act→World→Prop}
    (hQ : ∀ fr C Z a w,K fr C Z→Sim D pb w0 S Wr nt (fun b=>b < base + ops.size) fr C Z a w→Q .normal a w) :
    ∀ (fuel : Nat) (listed : Array Bool) (fr : Fr) (C : Heap) (Z : Frz) (a : Act) (w : World),listed.size=ops.size →
      Sim D pb w0 S Wr nt (fun b=>b < base ∨ ∃ i,listed.getD i false=true∧b=base + i) fr C Z a w→aAny P ops L base K fuel listed fr C Z→wpAny P .any ops Q fuel listed a w:=by
  obtain ⟨hl,h2⟩:=compOs_spec hL
  have hl' : L.length=ops.size:=by simpa using hl
  have hdone : ∀ (listed : Array Bool) (fr : Fr) (C : Heap) (Z : Frz) (a : Act) (w : World),listed.size=ops.size→Sim D pb w0 S Wr nt (fun b=>b < base ∨ ∃ i,listed.getD i false=true∧b=base + i) fr C Z a w→K fr C Z→Q .normal a w:=by
    intro listed fr C Z a w hls hs hk
    refine hQ fr C Z a w hk (hs.weak fun b hb=>?_)
    rcases hb with hb | ⟨i,hi,rfl⟩
    · omega
    · have : i < listed.size:=by
        rcases Nat.lt_or_ge i listed.size with h | h
        · exact h
        · simp [Array.getElem?_eq_none h] at hi
      omega
  intro fuel
  induction fuel with
  | zero =>
    intro listed fr C Z a w hls hs h
    exact ⟨h.1,hdone listed fr C Z a w hls hs h.2⟩
  | succ fuel ih =>
    intro listed fr C Z a w hls hs h
    refine ⟨fun h0=>hdone listed fr C Z a w hls hs (h.1 h0),fun i hi=>?_⟩
    have h1:=h.2 i hi
    obtain ⟨hun,o,ho,_⟩:=mem_ready.1 hi
    have his : i < ops.size:=(Array.getElem?_eq_some_iff.1 ho).1
    have hiL : i < L.length:=by omega
    unfold aOp at h1
    rw [List.getElem?_eq_getElem hiL] at h1
    obtain ⟨v,C',Z',g1,g2⟩:=h1
    refine op_sound hS hL ho (List.getElem?_eq_getElem hiL) hs ?_ g1 fun a' w' hs'=>ih _ _ _ _ a' w' (by simpa using hls) (hs'.weak fun b hb=>?_) g2
    · rintro (h | ⟨j,hj,he⟩)
      · omega
      · have : i=j:=by omega
        subst this
        simp [hls,his] at hun hj
        rw [hun] at hj;cases hj
    · rcases hb with (hb | ⟨j,hj,rfl⟩) | rfl
      · exact .inl hb
      · exact .inr ⟨j,getD_set_true hj,rfl⟩
      · exact .inr ⟨i,by simp [hls,his],rfl⟩

theorem AWk.sound {w : World} {A A' : Nat→Prop} {μ : Nat→Option Nat} {U : Nat→Prop} {ρ : Nat→Nat} {vt : Nat→Bool} {nx : Nat} (hA : ∀ k,k < w.heap.size→A' k→A k) {x y : AV} (h : AWk ρ vt nx x y) :
    ∀ {v : Value},RA w A μ U v x→RA w A' (fun b=>if vt b then none else μ (ρ b)) (fun b=>b < nx) v y:=by
  induction h with
  | dead x=>intro v _;exact .dead v
  | d x=>intro v hv;cases hv with | d _ _ h=>exact .d _ _ (h.mono hA (fun _ _ _=>rfl))
  | agg cs ds hl h ih =>
    intro v hv
    obtain ⟨vs,rfl,hr⟩:=hv.agg_inv
    exact .agg _ _ (hr.1.trans hl) fun j hj=>ih j (by omega) hj (hr.2 j (by omega))
  | tup cs ds hl h ih =>
    intro v hv
    obtain ⟨vs,rfl,hr⟩:=hv.tup_inv
    exact .tup _ _ (hr.1.trans hl) fun j hj=>ih j (by omega) hj (hr.2 j (by omega))
  | fnL f cs ds hl h ih =>
    intro v hv
    cases hv with
    | fnL _ vs _ h1 h2=>exact .fnL _ _ _ (h1.trans hl) fun j hj=>ih j (by omega) hj (h2 j (by omega))
  | ptrL c b off hc hb hv =>
    intro v h
    subst hc
    obtain ⟨blk,rfl,_,hm⟩:=h.ptrL_inv
    exact .ptrL b off blk hb (by simp [hv,hm])
  | slL c b off len sz hc hb hv =>
    intro v h
    subst hc
    rcases h.slL_inv with ⟨rfl,rfl,rfl,_,hm⟩ | ⟨blk,cap,n,e,rfl,_,hm,h6,h7,h8⟩
    · exact .slN b sz hb (by simp [hv,hm])
    · exact .slL b off len sz blk cap n e hb (by simp [hv,hm]) h6 h7 h8
  | slN b sz hb hv =>
    intro v h
    have:=h.val_eq
    subst this
    exact .slN b sz hb (by simp [hv])

theorem Wk.sound {st st' : St} (h : Wk st st') {a : Act} {w : World} (hs : Sim D pb w0 S Wr nt (fun b=>b < st.nx) st.fr st.C st.Z a w) : Sim D pb w0 S Wr nt (fun b=>b < st'.nx) st'.fr st'.C st'.Z a w:=by
  obtain ⟨⟨μ,U,hH,hf,hU,hpb⟩,hsz,hdf⟩:=hs
  obtain ⟨ρ,vt,h0,h1,h2,h3,h4⟩:=h.ex
  have hA : ∀ k,k < w.heap.size→Av S st'.C st'.Z (fun b=>if vt b then none else μ (ρ b)) k→Av S st.C st.Z μ k:=by
    rintro k _ (h | ⟨b,g1,g2,g3⟩)
    · exact .inl h
    · obtain ⟨r',hr'⟩:=Option.isSome_iff_exists.1 g1
      obtain ⟨_,g4⟩:=h2 b r' hr'
      rcases g4 with ⟨g5,_⟩ | ⟨g5,r,g6,_,_,g7⟩
      · simp [g5] at g3
      · simp only [g5,Bool.false_eq_true,if_false] at g3
        exact .inr ⟨ρ b,by simp [g6],g7 g2,g3⟩
  refine ⟨⟨fun b=>if vt b then none else μ (ρ b),fun b=>b < st'.nx,⟨hH.os,hH.tape,hH.output,hH.size,hH.keep,fun b r hb=>(h2 b r hb).1,?_,?_,?_⟩,fun s=>(h1 s).sound hA (hf s),fun _ h=>h,fun p hp=>⟨?_,(hpb p hp).2⟩⟩,hsz,hdf⟩
  · intro b r' hb
    obtain ⟨_,g4⟩:=h2 b r' hb
    rcases g4 with ⟨g5,rfl⟩ | ⟨g5,r,g6,g7,g8,_⟩
    · exact .inl ⟨rfl,by simp [g5]⟩
    · rcases hH.row _ r g6 with ⟨g9,g10⟩ | ⟨blk,c,e,g9,g10,g11,g12⟩
      · subst g9
        refine .inl ⟨List.eq_nil_of_length_eq_zero (by simpa using g7.symm),by simp [g5,g10]⟩
      · exact .inr ⟨blk,c,e,by simp [g5,g9],g10,by omega,fun j hj=>(g8 j (by omega) hj).sound hA (g12 j (by omega))⟩
  · intro b r' k hb hm
    obtain ⟨_,g4⟩:=h2 b r' hb
    rcases g4 with ⟨g5,_⟩ | ⟨g5,r,g6,_⟩
    · simp [g5] at hm
    · simp only [g5,Bool.false_eq_true,if_false] at hm
      exact hH.own _ r k g6 hm
  · intro b b' r r' k hb hb' hm hm'
    obtain ⟨_,g4⟩:=h2 b r hb
    obtain ⟨_,g4'⟩:=h2 b' r' hb'
    rcases g4 with ⟨g5,_⟩ | ⟨g5,r1,g6,_⟩
    · simp [g5] at hm
    rcases g4' with ⟨k5,_⟩ | ⟨k5,r2,k6,_⟩
    · simp [k5] at hm'
    simp only [g5,k5,Bool.false_eq_true,if_false] at hm hm'
    exact h3 b b' r r' hb hb' g5 k5 (hH.inj _ _ r1 r2 k g6 k6 hm hm')
  · obtain ⟨k1,k2⟩:=hpb p hp
    refine AWk.sound hA ?_ k1
    rw [k2];exact .slL 0 0 0 0 1 h0.1.symm h0.2.2 h0.2.1

theorem convAs_get {C : Heap} {ex : Nat→Bool} : ∀ {l l' : List AV} {u : List Nat},convAs C ex l=some (l',u)→l'.length=l.length∧∀ (j : Nat) x y,l[j]?=some x→l'[j]?=some y→∃ v,convA C ex x=some (y,v)∧∀ b ∈ v,b ∈ u
  | [],l',u,h=>by simp [convAs] at h;obtain ⟨rfl,rfl⟩:=h;exact ⟨rfl,fun j x y hx=>by simp at hx⟩
  | x :: l,l',u,h=>by
    simp only [convAs] at h
    obtain ⟨⟨y,v⟩,h1,h2⟩:=Option.bind_eq_some_iff.1 h
    obtain ⟨⟨ys,vs⟩,h3,h4⟩:=Option.map_eq_some_iff.1 h2
    simp only [Prod.mk.injEq] at h4
    obtain ⟨rfl,rfl⟩:=h4
    obtain ⟨g1,g2⟩:=convAs_get h3
    refine ⟨by simp [g1],fun j x' y' hx hy=>?_⟩
    cases j with
    | zero=>simp at hx hy;subst hx;subst hy;exact ⟨v,h1,fun b hb=>by simp [hb]⟩
    | succ j =>
      obtain ⟨w,k1,k2⟩:=g2 j x' y' (by simpa using hx) (by simpa using hy)
      exact ⟨w,k1,fun b hb=>by simp [k2 b hb]⟩
theorem Fz.sound (hS : ∀ k,S k→k < w0.heap.size∧¬ Wr k) {st st' : St} (h : Fz st st') {a : Act} {w : World} (hs : Sim D pb w0 S Wr nt (fun b=>b < st.nx) st.fr st.C st.Z a w) : Sim D pb w0 S Wr nt (fun b=>b < st'.nx) st'.fr st'.C st'.Z a w:=by
  obtain ⟨hn,us,hZ,hfr,hC⟩:=h
  obtain ⟨⟨μ,U,hH,hf,hU,hpb⟩,hsz,hdf⟩:=hs
  have hsome : ∀ b r',st'.C b=some r'→∃ r,st.C b=some r∧r.length=r'.length∧(r'=r ∨ ∃ u,convAs st.C (fun _=>false) r=some (r',u)∧∀ k ∈ u,k ∈ us):=by
    intro b r' hb
    rcases hC b with e | ⟨r,r2,u,h1,h2,h3,h4⟩
    · rw [e] at hb;exact ⟨r',hb,rfl,.inl rfl⟩
    · rw [h2] at hb;cases hb
      exact ⟨r,h1,(convAs_get h3).1.symm,.inr ⟨u,h3,h4⟩⟩
  have hA : ∀ k,Av S st'.C st'.Z μ k→Av S st.C st.Z μ k:=by
    rintro k (h | ⟨b,g1,g2,g3⟩)
    · exact .inl h
    · obtain ⟨r',hr'⟩:=Option.isSome_iff_exists.1 g1
      obtain ⟨r,hr,_⟩:=hsome b r' hr'
      rw [hZ] at g2
      simp only [Frz.add,Bool.or_eq_false_iff] at g2
      exact .inr ⟨b,by simp [hr],g2.1,g3⟩
  have hra : ∀ v x,RA w (Av S st.C st.Z μ) μ U v x→RA w (Av S st'.C st'.Z μ) μ U v x:=fun v x h=>h.mono (fun k _ hk=>hA k hk) (fun _ _ _=>rfl) (fun _ _ h=>h) (fun _ h=>h) (fun _ _=>rfl)
  have hcv : ∀ v x y u,RA w (Av S st.C st.Z μ) μ U v x→convA st.C (fun _=>false) x=some (y,u)→(∀ b ∈ u,b ∈ us)→RA w (Av S st'.C st'.Z μ) μ U v y:=by
    intro v x y u hv hc hu
    refine convA_sound hH hA hv hc fun b hb n hm hn'=>?_
    obtain ⟨g1,_⟩:=convA_used hc b hb
    obtain ⟨r,hr⟩:=Option.isSome_iff_exists.1 g1
    rcases hn' with hn' | ⟨b',k1,k2,k3⟩
    · rcases hH.own b r n hr hm with h1 | h1
      · have:=(hS n hn').1;omega
      · exact (hS n hn').2 h1
    · obtain ⟨r',hr'⟩:=Option.isSome_iff_exists.1 k1
      obtain ⟨r2,hr2,_⟩:=hsome b' r' hr'
      have:=hH.inj b b' r r2 n hr hr2 hm k3
      subst this
      rw [hZ] at k2
      simp only [Frz.add,Bool.or_eq_false_iff] at k2
      have h3:=k2.2
      rw [List.contains_iff_mem.2 (hu b hb)] at h3
      cases h3
  refine ⟨⟨μ,U,⟨hH.os,hH.tape,hH.output,hH.size,hH.keep,fun b r' hb=>?_,fun b r' hb=>?_,fun b r' k hb hm=>?_,fun b b' r r' k h1 h2=>?_⟩,fun s=>?_,fun b hb=>by rw [hn];exact hU b hb,fun p hp=>⟨hra _ _ (hpb p hp).1,(hpb p hp).2⟩⟩,hsz,hdf⟩
  · obtain ⟨r,hr,_⟩:=hsome b r' hb;exact hH.used b r hr
  · obtain ⟨r,hr,hl,hc⟩:=hsome b r' hb
    rcases hc with rfl | ⟨u,hc,hu⟩
    · exact (hH.row b r' hr).mono hra rfl (fun _ _=>rfl)
    · rcases hH.row b r hr with ⟨h1,h2⟩ | ⟨blk,c,e,h1,h2,h3,h4⟩
      · subst h1
        exact .inl ⟨List.eq_nil_of_length_eq_zero (by simpa using hl.symm),h2⟩
      · refine .inr ⟨blk,c,e,h1,h2,by omega,fun j hj=>?_⟩
        obtain ⟨v,k1,k2⟩:=(convAs_get hc).2 j _ _ (List.getElem?_eq_getElem (by omega)) (List.getElem?_eq_getElem hj)
        exact hcv _ _ _ v (h4 j (by omega)) k1 fun b hb=>hu b (k2 b hb)
  · obtain ⟨r,hr,_⟩:=hsome b r' hb;exact hH.own b r k hr hm
  · obtain ⟨r2,hr2,_⟩:=hsome b r h1
    obtain ⟨r3,hr3,_⟩:=hsome b' r' h2
    exact hH.inj b b' r2 r3 k hr2 hr3
  · rcases hfr s with e | ⟨u,hc,hu⟩
    · rw [e];exact hra _ _ (hf s)
    · exact hcv _ _ _ u (hf s) hc hu
theorem Wkf.sound (hS : ∀ k,S k→k < w0.heap.size∧¬ Wr k) {st st' : St} (h : Wkf st st') {a : Act} {w : World} (hs : Sim D pb w0 S Wr nt (fun b=>b < st.nx) st.fr st.C st.Z a w) : Sim D pb w0 S Wr nt (fun b=>b < st'.nx) st'.fr st'.C st'.Z a w:=by
  obtain ⟨st1,h1,h2⟩:=h
  refine h2.sound ?_
  clear h2
  induction h1 with
  | refl=>exact hs
  | step h _ ih=>exact ih (h.sound hS hs)

theorem xwp_sound (hS : ∀ k,S k→k < w0.heap.size∧¬ Wr k) : ∀ {c : Code} {x : XC},compC P md od nt c=some x→∀ {Q : Cont} {st : St} {a : Act} {w : World} {R : Exit→Act→World→Prop},
    xwp P x Q st→Sim D pb w0 S Wr nt (fun b=>b < st.nx) st.fr st.C st.Z a w→(∀ e st a w,Q e st→Sim D pb w0 S Wr nt (fun b=>b < st.nx) st.fr st.C st.Z a w→R e a w)→c.wp P R a w:=by
  intro c
  induction c with
  | skip=>intro x hc Q st a w R h hs hR;cases hc;exact wp_skip (hR _ _ _ _ h hs)
  | label l=>intro x hc Q st a w R h hs hR;cases hc;exact wp_label (hR _ _ _ _ h hs)
  | exit id=>intro x hc Q st a w R h hs hR;cases hc;exact wp_exit (hR _ _ _ _ h hs)
  | ret=>intro x hc Q st a w R h hs hR;cases hc;exact wp_ret (hR _ _ _ _ h hs)
  | region id ops draw =>
    intro x hc Q st a w R h hs hR
    simp only [compC] at hc
    split at hc
    · rename_i L hL
      have hl' : L.length=ops.size:=by simpa using (compOs_spec hL).1
      have hK : ∀ (fr : Fr) (C : Heap) (Z : Frz) (a : Act) (w : World),opsK (od id).2.2 Q (st.nx + ops.size) fr C Z→Sim D pb w0 S Wr nt (fun b=>b < st.nx + ops.size) fr C Z a w→R .normal a w:=fun fr C Z a w hk hs' =>
        hR .normal ⟨Fr.keepO (od id).2.2 fr,C,Z,st.nx + ops.size⟩ a w hk (hs'.keep _)
      cases draw with
      | false =>
        simp at hc;subst hc
        refine wp_region ?_
        rw [List.range_eq_range']
        exact ops_sound hS hL ops.size 0 st.fr st.C st.Z a w (by omega) hs h hK
      | true =>
        simp only [if_true] at hc
        have key : ∀ L' : List XO,lexX ops.toList L' (od id).1 (od id).2.1=true→aRun P (pair L' (od id).2.1) st.nx (opsK (od id).2.2 Q (st.nx + ops.size)) st.fr st.C st.Z →
            aAny P ops L' st.nx (opsK (od id).2.2 Q (st.nx + ops.size)) ops.size (Array.replicate ops.size false) st.fr st.C st.Z:=by
          intro L' hx1 h
          have hord:=hx1
          simp only [lexX,Bool.and_eq_true,beq_iff_eq,Array.length_toList] at hord
          have hlen : (od id).2.1.length=ops.size:=hord.2
          have hfresh : ∀ j,st.C (st.nx + j)=none:=by
            intro j
            obtain ⟨⟨μ,U,hH,_,hU,_⟩,_⟩:=hs
            cases hh : st.C (st.nx + j) with
            | none=>rfl
            | some r=>have:=hU _ (hH.used _ r hh);omega
          have:=aAny_lex (P:=P) (base:=st.nx) (K:=opsK (od id).2.2 Q (st.nx + ops.size)) hx1 (od id).2.1 (Array.replicate ops.size false) st.fr st.C st.Z hord.1.2 (by simp) (fun j hj=>by
            simp only [Array.getD_eq_getD_getElem?,Array.getElem?_replicate,hj,if_true,Option.getD_some,true_iff]
            exact ordOK_mem hord.1.2 hlen j hj) (fun j _ _=>hfresh j) (fun j o ho hl=>by
              have : j < ops.size:=(Array.getElem?_eq_some_iff.1 ho).1
              simp [this] at hl) h
          rwa [hlen] at this
        split at hc
        · rename_i hx
          cases hc
          simp only [Bool.and_eq_true] at hx
          refine wp_region_any hx.2 ?_
          exact any_sound hS hL (base:=st.nx) hK ops.size _ st.fr st.C st.Z a _ (by simp) ((hs.drew).weak fun b hb=>.inl hb) (key L hx.1 h)
        split at hc
        · rename_i hx
          cases hc
          simp only [Bool.and_eq_true] at hx
          refine wp_region_any hx.2 ?_
          exact any_sound hS hL (base:=st.nx) hK ops.size _ st.fr st.C st.Z a _ (by simp) ((hs.drew).weak fun b hb=>.inl hb) (aAny_ann _ _ _ _ _ (key _ hx.1 h))
        · cases hc
          obtain ⟨v,C',Z',hg,_⟩:=h
          rcases hg with ⟨_,hg⟩ | ⟨hg,_⟩
          · obtain ⟨hg,_⟩:=hg
            exact absurd hg (by simp [xi,XI.cls,xw])
          · simp [wantB] at hg
    · cases hc
  | seq c d ihc ihd =>
    intro x hc Q st a w R h hs hR
    simp only [compC] at hc
    split at hc
    · rename_i x1 x2 h1 h2
      cases hc
      refine wp_seq (ihc h1 (Q:=thenK (xwp P x2 Q) Q) h hs ?_)
      intro e st a w hq hs'
      cases e with
      | normal=>exact ihd h2 hq hs' hR
      | _=>exact hR _ _ _ _ hq hs'
    · cases hc
  | cond b c d ihc ihd =>
    intro x hc Q st a w R h hs hR
    simp only [compC] at hc
    split at hc
    · rename_i y x1 x2 h0 h1 h2
      cases hc
      obtain ⟨t,ht,h3⟩:=h
      have hs':=hs
      obtain ⟨⟨μ,U,hH,hf,hU,hpb⟩,hsz,hdf⟩:=hs
      have hv:=xo_sound hf h0
      rw [ht] at hv
      refine wp_cond hv.val_eq ?_
      cases t with
      | true=>exact ihc h1 (Q:=Q) (by simpa using h3) hs' hR
      | false=>exact ihd h2 (Q:=Q) (by simpa using h3) hs' hR
    · cases hc
  | block id c ih =>
    intro x hc Q st a w R h hs hR
    simp only [compC] at hc
    obtain ⟨x1,h1,rfl⟩:=Option.map_eq_some_iff.1 hc
    refine wp_block (ih h1 (Q:=blockK id Q) h hs ?_)
    intro e st a w hq hs'
    cases e with
    | exit i =>
      simp only [blockK] at hq
      simp only [Exit.inBlock]
      split
      · rename_i hi;rw [if_pos hi] at hq;exact hR _ _ _ _ hq hs'
      · rename_i hi;rw [if_neg hi] at hq;exact hR _ _ _ _ hq hs'
    | _=>exact hR _ _ _ _ hq hs'
  | loop c ih =>
    intro x hc Q st a w R h hs hR
    simp only [compC] at hc
    obtain ⟨x1,h1,rfl⟩:=Option.map_eq_some_iff.1 hc
    obtain ⟨n,h2⟩:=h
    intro b k cs
    have key : ∀ n (st : St) a w,xloop (xwp P x1) Q n st→Sim D pb w0 S Wr nt (fun b=>b < st.nx) st.fr st.C st.Z a w →
        ∃ e a' w',R e a' w'∧Arrives P (lone (b.at a (.code c :: .inLoop c :: k)) cs w) b k cs e a' w':=by
      intro n
      induction n with
      | zero=>intro st a w h;exact h.elim
      | succ n ihn =>
        intro st a w h hs
        obtain ⟨st',hwk,hb⟩:=h
        have hs':=hwk.sound hS hs
        obtain ⟨e,a₁,w₁,hq,harr⟩:=ih h1 (Q:=thenK (xloop (xwp P x1) Q n) Q) (R:=fun e a w=>∃ st,thenK (xloop (xwp P x1) Q n) Q e st∧Sim D pb w0 S Wr nt (fun b=>b < st.nx) st.fr st.C st.Z a w) hb hs' (fun e st a w h hs=>⟨st,h,hs⟩) b (.inLoop c :: k) cs
        obtain ⟨st1,hq,hs1⟩:=hq
        cases e with
        | normal =>
          obtain ⟨e₂,a₂,w₂,hq₂,harr₂⟩:=ihn st1 a₁ w₁ hq hs1
          exact ⟨e₂,a₂,w₂,hq₂,.of_steps (Steps.trans harr (.one step_inLoop)) harr₂⟩
        | exit id=>exact ⟨_,a₁,w₁,hR _ _ _ _ hq hs1,.pass (x:=.inLoop c) rfl (fun _ _=>.inl (by simp)) harr⟩
        | goto l=>exact ⟨_,a₁,w₁,hR _ _ _ _ hq hs1,.pass (x:=.inLoop c) rfl (fun _ _=>.inl (by simp)) harr⟩
        | ret=>exact ⟨_,a₁,w₁,hR _ _ _ _ hq hs1,.pass (x:=.inLoop c) rfl (fun _ _=>.inl (by simp)) harr⟩
        | panic ch=>exact ⟨_,a₁,w₁,hR _ _ _ _ hq hs1,.pass (x:=.inLoop c) rfl (fun _ _=>.inl (by simp)) harr⟩
        | outgrown=>exact ⟨_,a₁,w₁,hR _ _ _ _ hq hs1,.pass (x:=.inLoop c) rfl (fun _ _=>.inl (by simp)) harr⟩
    obtain ⟨e,a',w',hq,harr⟩:=key n st a w h2 hs
    exact ⟨e,a',w',hq,.of_steps (.one step_loop) harr⟩
  | _=>intro x hc;simp [compC] at hc
end
end Go.Sv
namespace Go.Sv
open Go
set_option linter.unusedSimpArgs false
set_option linter.unusedVariables false

inductive XRes where
  | tmp (t : Nat)
  | cell (t : Nat) (n : Option Nat)
  deriving Inhabited

def compRes (P : Program) : ResultVar→Option XRes
  | .tmp t=>some (.tmp t)
  | .cell a ty=>(aggSz P ty).map fun n=>.cell a n

def compRess (P : Program) : List ResultVar→Option (List XRes)
  | []=>some []
  | r :: l=>match compRes P r,compRess P l with
    | some x,some xs=>some (x :: xs)
    | _,_=>none

def resOne (fr : Fr) (C : Heap) : XRes→Option AV
  | .tmp t=>some (fr t)
  | .cell a n=>(rowOf C (fr a)).bind fun (r,off)=>subA r off n

def resVals (fr : Fr) (C : Heap) : List XRes→Option (List AV)
  | []=>some []
  | x :: l=>(resOne fr C x).bind fun v=>(resVals fr C l).map fun vs=>v :: vs

def tupOf : List AV→AV
  | [v]=>v
  | vs=>.tup vs

inductive RetOK (C : Heap) (Z : Frz) (v : AV) (live : Bool) : AV→Option (List DV)→Option (List DV)→Prop
  | data (r : AV) (hr : convT C (fun _=>false) v=some r) : RetOK C Z v live r none none
  | dataL (r : AV) (ds : List DV) (hl : live=true) (hr : convT C (fun b=>b == 0) v=some r) (h0 : C 0=some (ds.map AV.d)) (hz : Z 0=false) : RetOK C Z v live r (some ds) none
  | new (b off len sz : Nat) (ds : List DV) (hv : v=.slL b off len sz) (hb : C b=some (ds.map AV.d)) (hz : Z b=false) : RetOK C Z v live (.slL 1 off len sz) none (some ds)
  | newP (b off : Nat) (ds : List DV) (hv : v=.ptrL b off) (hb : C b=some (ds.map AV.d)) (hz : Z b=false) : RetOK C Z v live (.ptrL 1 off) none (some ds)
  | newN (sz : Nat) (hv : v=.d (.val (.slice none 0 0))) : RetOK C Z v live (.slL 1 0 0 sz) none (some [])
  | own (off len sz : Nat) (ds : List DV) (hl : live=true) (hv : v=.slL 0 off len sz) (hb : C 0=some (ds.map AV.d)) (hz : Z 0=false) : RetOK C Z v live (.slL 0 off len sz) (some ds) none

def retK (rs : List XRes) (live : Bool) (r : AV) (row' nw : Option (List DV)) : Cont
  | .normal,st=>∃ vs,resVals st.fr st.C rs=some vs∧RetOK st.C st.Z (tupOf vs) live r row' nw
  | .ret,st=>∃ vs,resVals st.fr st.C rs=some vs∧RetOK st.C st.Z (tupOf vs) live r row' nw
  | _,_=>False

def Fr.init (as : List AV) : Fr:=fun n=>as.getD n .dead
def Heap.init : Option (List DV)→Heap
  | none=>Heap.nil
  | some ds=>Heap.nil.put 0 (ds.map AV.d)
def St.init (as : List AV) (row : Option (List DV)) : St:=⟨Fr.init as,Heap.init row,Frz.nil,1⟩

section
variable {P : Program}

theorem loadVar_run {w0 : World} {S Wr : Nat→Prop} {μ : Nat→Option Nat} {U : Nat→Prop} {C : Heap} {Z : Frz} {w : World} (hH : HOK w0 S Wr μ U C Z w) {t : TypeId} {n : Option Nat} (hn : aggSz P t=some n)
    {av : Value} {x : AV} (hxa : RA w (Av S C Z μ) μ U av x) {r : List AV} {off : Nat} (h2 : rowOf C x=some (r,off)) {v : AV} (h3 : subA r off n=some v) :
    ∃ ad cv,av=.pointer (some ad)∧(loadVar t ad).run P w=.ok cv w∧RA w (Av S C Z μ) μ U cv v:=by
  have conv : ∀ (ad : Addr) cv,(Instr.loadAt t (.pointer (some ad))).run P w=.ok cv w→(loadVar t ad).run P w=.ok cv w:=by
    intro ad cv h
    simpa [Instr.loadAt,Instr.sureAddr] using h
  unfold rowOf at h2
  split at h2
  · rename_i b off'
    obtain ⟨r',hr',he2⟩:=Option.map_eq_some_iff.1 h2
    cases he2
    obtain ⟨blk,e1,_,hm⟩:=hxa.ptrL_inv
    rcases hH.row b _ hr' with ⟨_,hn0⟩ | ⟨blk',c,e,hm',hc,hl,hra⟩
    · rw [hm] at hn0;cases hn0
    · rw [hm] at hm';cases hm'
      obtain ⟨cv,g1,g2⟩:=load_run (P:=P) (w:=w) hn (blk:=blk) (b0:=0) (off:=off) (g:=fun j=>c.getD j undef) (fun j hj=>by
        rw [Nat.zero_add,cell_of_row w blk j c e (0,0) hc,Array.getElem?_eq_getElem (by omega),Array.getD_eq_getD_getElem?,Array.getElem?_eq_getElem (by omega)];rfl) hra h3
      rw [Nat.zero_add] at g1
      exact ⟨_,cv,e1,conv _ _ g1,g2⟩
  · rename_i cs off'
    cases h2
    obtain ⟨blk,b0,g,e1,hA,hpos,hc,hra⟩:=hxa.ptrD_inv
    obtain ⟨cv,g1,g2⟩:=load_run (P:=P) (w:=w) (A:=Av S C Z μ) (μ:=μ) (U:=U) hn (blk:=blk) (b0:=b0) (off:=off) (cs:=cs.map AV.d) (g:=g) (fun j hj=>hc j (by simpa using hj))
      (fun j hj=>by
        have hj' : j < cs.length:=by simpa using hj
        rw [List.getElem_map];exact .d _ _ (hra j hj')) h3
    exact ⟨_,cv,e1,conv _ _ g1,g2⟩
  · cases h2

theorem results_run {w0 : World} {S Wr : Nat→Prop} {μ : Nat→Option Nat} {U : Nat→Prop} {C : Heap} {Z : Frz} {w : World} (hH : HOK w0 S Wr μ U C Z w) {tmps : Array Value} {fr : Fr} (hf : ∀ s,RA w (Av S C Z μ) μ U (tmps.getD s undef) (fr s)) :
    ∀ {l : List ResultVar} {rs : List XRes} {vs : List AV},compRess P l=some rs→resVals fr C rs=some vs →
      ∃ cvs : List Value,((l.mapM fun | .tmp t=>pure (tmps.getD t undef) | .cell a t=>do loadVar t (← asAddr (tmps.getD a undef)) : Sem (List Value))).run P w=.ok cvs w∧cvs.length=vs.length ∧
        ∀ (j : Nat) cv v,cvs[j]?=some cv→vs[j]?=some v→RA w (Av S C Z μ) μ U cv v
  | [],rs,vs,h1,h2=>by
    simp [compRess] at h1;subst h1
    simp [resVals] at h2;subst h2
    exact ⟨[],by simp,rfl,fun j cv v h=>by simp at h⟩
  | r :: l,rs,vs,h1,h2=>by
    unfold compRess at h1
    split at h1
    · rename_i x xs g1 g2
      cases h1
      simp only [resVals] at h2
      obtain ⟨v,h3,h4⟩:=Option.bind_eq_some_iff.1 h2
      obtain ⟨vs',h5,rfl⟩:=Option.map_eq_some_iff.1 h4
      obtain ⟨cvs,k1,k2,k3⟩:=results_run hH hf g2 h5
      have one : ∃ cv,((match r with | .tmp t=>pure (tmps.getD t undef) | .cell a t=>do loadVar t (← asAddr (tmps.getD a undef)) : Sem Value)).run P w=.ok cv w∧RA w (Av S C Z μ) μ U cv v:=by
        cases r with
        | tmp t =>
          simp [compRes] at g1;subst g1
          simp [resOne] at h3;subst h3
          exact ⟨_,rfl,hf t⟩
        | cell a t =>
          simp only [compRes] at g1
          obtain ⟨n,hn,rfl⟩:=Option.map_eq_some_iff.1 g1
          simp only [resOne] at h3
          obtain ⟨⟨rr,off⟩,h6,h7⟩:=Option.bind_eq_some_iff.1 h3
          obtain ⟨ad,cv,e1,e2,e3⟩:=loadVar_run (P:=P) hH hn (hf a) h6 h7
          refine ⟨cv,?_,e3⟩
          simp only [e1,asAddr,Sem.run_bind,Sem.run_pure,Result.andThen_ok,e2]
      obtain ⟨cv,e1,e2⟩:=one
      refine ⟨cv :: cvs,?_,by simp [k2],fun j c x hc hx=>?_⟩
      · rw [List.mapM_cons,Sem.run_bind,e1,Result.andThen_ok,Sem.run_bind,k1]
        rfl
      · cases j with
        | zero=>simp at hc hx;subst hc;subst hx;exact e2
        | succ j=>exact k3 j c x (by simpa using hc) (by simpa using hx)
    · cases h1

theorem results_sound {w0 : World} {S Wr : Nat→Prop} {μ : Nat→Option Nat} {U : Nat→Prop} {C : Heap} {Z : Frz} {w : World} (hH : HOK w0 S Wr μ U C Z w) {fn : Func} {tmps : Array Value} {fr : Fr} (hf : ∀ s,RA w (Av S C Z μ) μ U (tmps.getD s undef) (fr s))
    {rs : List XRes} {vs : List AV} (h1 : compRess P fn.results.toList=some rs) (h2 : resVals fr C rs=some vs) :
    ∃ cv,(results fn tmps).run P w=.ok cv w∧RA w (Av S C Z μ) μ U cv (tupOf vs):=by
  obtain ⟨cvs,k1,k2,k3⟩:=results_run (P:=P) hH hf h1 h2
  have hm : (fn.results.mapM fun | .tmp t=>pure (tmps.getD t undef) | .cell a t=>do loadVar t (← asAddr (tmps.getD a undef)) : Sem (Array Value)).run P w=.ok cvs.toArray w:=by
    rw [Array.mapM_eq_mapM_toList,Sem.run_map,k1]
    rfl
  by_cases h : cvs.length=1
  · obtain ⟨c,rfl⟩ : ∃ c,cvs=[c]:=by
      cases cvs with
      | nil=>simp at h
      | cons c t=>cases t with
        | nil=>exact ⟨c,rfl⟩
        | cons _ _=>simp at h
    obtain ⟨v,rfl⟩ : ∃ v,vs=[v]:=by
      cases vs with
      | nil=>simp at k2
      | cons c t=>cases t with
        | nil=>exact ⟨c,rfl⟩
        | cons _ _=>simp at k2
    refine ⟨c,?_,k3 0 c v rfl rfl⟩
    unfold results
    rw [Sem.run_bind]
    erw [hm]
    simp
  · refine ⟨.tuple cvs.toArray,?_,?_⟩
    · unfold results
      rw [Sem.run_bind]
      erw [hm]
      simp [h]
    · have : tupOf vs=.tup vs:=by
        cases vs with
        | nil=>rfl
        | cons v t=>cases t with
          | nil=>exact absurd k2 h
          | cons _ _=>rfl
      rw [this]
      have hr : RAs w (Av S C Z μ) μ U cvs.toArray vs:=RAs.of_get? (by simpa using k2) fun j x hx=>by
        have hj : j < cvs.length:=by have:=(List.getElem?_eq_some_iff.1 hx).1;omega
        exact ⟨cvs[j],by simp [hj],k3 j _ x (List.getElem?_eq_getElem hj) hx⟩
      exact .tup _ _ hr.1 hr.2

theorem RowD.of_row {w : World} {A : Nat→Prop} {μ : Nat→Option Nat} {U : Nat→Prop} {m : Option Nat} {ds : List DV} (h : RowOK w A μ U (ds.map AV.d) m) : RowD w A m ds:=by
  rcases h with ⟨h,hm⟩ | ⟨blk,c,e,h4,h5,h6,h7⟩
  · exact .inl ⟨by simpa using h,hm⟩
  · refine .inr ⟨blk,c,e,h4,h5,by simpa using h6,fun j hj=>?_⟩
    have h8:=h7 j (by simpa using hj)
    rw [List.getElem_map] at h8
    generalize c.getD j undef=cvv at h8 ⊢
    cases h8 with
    | d _ _ h8=>exact h8

theorem convT_sound {w0 : World} {S Wr : Nat→Prop} {μ : Nat→Option Nat} {U : Nat→Prop} {C : Heap} {Z : Frz} {w : World} (hH : HOK w0 S Wr μ U C Z w) {ex : Nat→Bool} {A' : Nat→Prop} (hA : ∀ n,A' n→Av S C Z μ n)
    (hus : ∀ b,(C b).isSome=true→ex b=false→∀ n,μ b=some n→¬ A' n) {μ' : Nat→Option Nat} {U' : Nat→Prop} {v : Value} {x y : AV} (h : RA w (Av S C Z μ) μ U v x) (hc : convT C ex x=some y) : RA w A' μ' U' v y:=by
  have one : ∀ {v x y},RA w (Av S C Z μ) μ U v x→(convA C ex x).map (·.1)=some y→RA w A' μ' U' v y:=by
    intro v x y h hc
    obtain ⟨⟨z,us⟩,h1,rfl⟩:=Option.map_eq_some_iff.1 hc
    exact convA_sound hH hA h h1 fun b hb n hn=>hus b (convA_used h1 b hb).1 (convA_used h1 b hb).2 n hn
  unfold convT at hc
  split at hc
  · rename_i vs
    obtain ⟨us,rfl,hr⟩:=h.tup_inv
    obtain ⟨ys,h1,rfl⟩:=Option.map_eq_some_iff.1 hc
    have key : ∀ (l : List AV) (ys : List AV),l.mapM (fun x=>(convA C ex x).map (·.1))=some ys→ys.length=l.length∧∀ (j : Nat) x y,l[j]?=some x→ys[j]?=some y→(convA C ex x).map (·.1)=some y:=by
      intro l
      induction l with
      | nil=>intro ys h;simp at h;subst h;exact ⟨rfl,fun j x y hx=>by simp at hx⟩
      | cons a l ih =>
        intro ys h
        simp only [List.mapM_cons,Option.bind_eq_bind,Option.bind_eq_some_iff,Option.pure_def,Option.some.injEq] at h
        obtain ⟨y,h1,ys',h2,rfl⟩:=h
        obtain ⟨h3,h4⟩:=ih ys' h2
        refine ⟨by simp [h3],fun j z u hz hu=>?_⟩
        cases j with
        | zero=>simp at hz hu;subst hz;subst hu;exact h1
        | succ j=>exact h4 j z u (by simpa using hz) (by simpa using hu)
    obtain ⟨h3,h4⟩:=key _ _ h1
    refine .tup _ _ (hr.1.trans h3.symm) fun j hj=>?_
    exact one (hr.2 j (by omega)) (h4 j _ _ (List.getElem?_eq_getElem (by omega)) (List.getElem?_eq_getElem hj))
  · exact one h hc

theorem good_of_wp {f : FuncId} {fn : Func} {c : Code} {nt : Nat} {rs : List XRes} {as : List AV} {row : Option (List DV)} {r : AV} {row' nw : Option (List DV)}
    (hf : P.funcs[f]?=some fn) (hb : fn.body=some c) (hname : (fn.name == "runtime.NumGoroutine")=false) (hnt : fn.ntmps=nt) (hres : compRess P fn.results.toList=some rs)
    (hal : as.length≤nt) (hrow : row'.isSome=true→row.isSome=true)
    (h : ∀ (w0 : World) (S Wr : Nat→Prop) (pb : Option (Value × AV)) (a : Act) (w : World) (R : Ending→World→Prop),(∀ k,S k→k < w0.heap.size∧¬ Wr k)→Sim [] pb w0 S Wr nt (fun b=>b < (St.init as row).nx) (St.init as row).fr (St.init as row).C (St.init as row).Z a w →
      (∀ (D : List Deferred) (st : St) (a : Act) (w' : World),(∃ vs,resVals st.fr st.C rs=some vs∧RetOK st.C st.Z (tupOf vs) row.isSome r row' nw)→Sim D pb w0 S Wr nt (fun b=>b < st.nx) st.fr st.C st.Z a w'→∃ v,(results fn a.tmps).run P w'=.ok v w'∧R (.returned v) w') →
      c.wp P (bodyPostD P fn R) a w) : Good P f as row r row' nw:=by
  refine ⟨⟨fn,hf,by simp [hb],hname⟩,hrow,fun w S m vs hSlt hSm hrowD hvs=>?_⟩
  have hS : ∀ k,S k→k < w.heap.size∧¬ (row.isSome=true∧m=some k):=fun k hk=>⟨hSlt k hk,fun ⟨h1,h2⟩=>hSm k h1 h2 hk⟩
  have hinit : ∀ b rr,Heap.init row b=some rr→b=0∧∃ ds,row=some ds∧rr=ds.map AV.d:=by
    intro b rr hb
    cases row with
    | none=>simp [Heap.init,Heap.nil] at hb
    | some ds =>
      simp only [Heap.init,Heap.put,Heap.nil] at hb
      split at hb
      · rename_i e;cases hb;exact ⟨e.symm,ds,rfl,rfl⟩
      · cases hb
  have hAv : ∀ k,Av S (Heap.init row) Frz.nil (fun _=>m) k→S k ∨ (row.isSome=true∧m=some k):=by
    rintro k (h | ⟨b,h1,_,h3⟩)
    · exact .inl h
    · obtain ⟨rr,hrr⟩:=Option.isSome_iff_exists.1 h1
      obtain ⟨_,ds,hds,_⟩:=hinit b rr hrr
      exact .inr ⟨by simp [hds],h3⟩
  have hH : HOK w S (fun k=>row.isSome=true∧m=some k) (fun _=>m) (fun b=>row.isSome=true∧b=0) (Heap.init row) Frz.nil w:=by
    refine ⟨rfl,rfl,rfl,Nat.le_refl _,fun _ _ _=>rfl,?_,?_,?_,?_⟩
    · intro b rr hb
      obtain ⟨h1,ds,hds,_⟩:=hinit b rr hb
      exact ⟨by simp [hds],h1⟩
    · intro b rr hb
      obtain ⟨h1,ds,hds,rfl⟩:=hinit b rr hb
      rcases hrowD ds hds with ⟨rfl,hm⟩ | ⟨blk,cc,e,g1,g2,g3,g4⟩
      · exact .inl ⟨rfl,hm⟩
      · refine .inr ⟨blk,cc,e,g1,g2,by simpa using g3,fun j hj=>?_⟩
        have hj' : j < ds.length:=by simpa using hj
        rw [List.getElem_map]
        refine .d _ _ ((g4 j hj').mono (fun k _ hk=>?_) (fun _ _ _=>rfl))
        rcases hAv k hk with h | ⟨_,h⟩
        · exact .inl h
        · exact .inr h
    · intro b rr k hb hm
      obtain ⟨_,ds,hds,_⟩:=hinit b rr hb
      exact .inr ⟨by simp [hds],hm⟩
    · intro b b' r1 r2 k h1 h2 _ _
      exact (hinit b r1 h1).1.trans (hinit b' r2 h2).1.symm
  have hvsz : vs.size≤nt:=by rw [hvs.1];exact hal
  let pb : Option (Value × AV):=if row.isSome=true then (match m with | some blk=>some (.slice (some ⟨blk,0,none⟩) 0 ((w.shape? blk).map (·.2)).get!,.slL 0 0 0 1) | none=>some (.slice none 0 0,.slL 0 0 0 1)) else none
  have hsim : Sim [] pb w S (fun k=>row.isSome=true∧m=some k) nt (fun b=>b < (St.init as row).nx) (St.init as row).fr (St.init as row).C (St.init as row).Z { tmps:=vs++Array.replicate (fn.ntmps - vs.size) undef,defers:=[] } w:=by
    refine ⟨⟨fun _=>m,fun b=>row.isSome=true∧b=0,hH,fun s=>?_,fun b hb=>by simp [St.init,hb.2],fun p hp=>?_⟩,by simp [hnt];omega,rfl⟩
    · show RA w (Av S (Heap.init row) Frz.nil (fun _=>m)) (fun _=>m) (fun b=>row.isSome=true∧b=0) _ (Fr.init as s)
      unfold Fr.init
      cases hs : as[s]? with
      | none=>rw [List.getD_eq_getElem?_getD,hs];exact .dead _
      | some y =>
        obtain ⟨v,h1,h2⟩:=hvs.get? hs
        have hlt:=(Array.getElem?_eq_some_iff.1 h1).1
        rw [List.getD_eq_getElem?_getD,hs,Array.getD_eq_getD_getElem?,Array.getElem?_append_left hlt,h1]
        exact h2.mono (fun k _ hk=>hAv k hk) (fun _ _ _=>rfl) (fun _ _ h=>h) (fun _ h=>h) (fun _ _=>rfl)
    · simp only [pb] at hp
      split at hp
      · rename_i hr
        cases m with
        | some blk =>
          cases hp
          obtain ⟨ds,hds⟩:=Option.isSome_iff_exists.1 hr
          rcases hrowD ds hds with ⟨_,h1⟩ | ⟨blk',cc,e,h1,h2,_⟩
          · cases h1
          · cases h1
            have hsh : w.shape? blk=some (e,cc.size):=by simp [World.shape?,h2]
            refine ⟨.slL 0 0 0 1 blk _ cc.size e ⟨hr,rfl⟩ rfl (Nat.zero_le _) hsh ?_,rfl⟩
            simp [hsh]
        | none=>cases hp;exact ⟨.slN 0 1 ⟨hr,rfl⟩ rfl,rfl⟩
      · cases hp
  refine calls_of_wp_defers hf hb (h w S _ pb _ w _ hS hsim ?_)
  have fin : ∀ (D : List Deferred) (st : St) (a : Act) (w' : World),(∃ vs,resVals st.fr st.C rs=some vs∧RetOK st.C st.Z (tupOf vs) row.isSome r row' nw) →
      Sim D pb w S (fun k=>row.isSome=true∧m=some k) nt (fun b=>b < st.nx) st.fr st.C st.Z a w'→∃ v,(results fn a.tmps).run P w'=.ok v w' ∧
        ∃ v' nm,(Ending.returned v)=.returned v'∧Kept w w' (fun k=>row.isSome=true∧m=some k) ∧
      (∀ k,nw.isSome=true→nm=some k→w.heap.size≤k ∨ (row.isSome=true∧row'=none∧m=some k)) ∧
      (∀ ds,row'=some ds→RowD w' (fun k=>S k ∨ (row'.isSome=true∧m=some k) ∨ (nw.isSome=true∧nm=some k)) m ds) ∧
      (∀ ds,nw=some ds→RowD w' (fun k=>S k ∨ (row'.isSome=true∧m=some k) ∨ (nw.isSome=true∧nm=some k)) nm ds) ∧
      RA w' (fun k=>S k ∨ (row'.isSome=true∧m=some k) ∨ (nw.isSome=true∧nm=some k)) (fun b=>if b=0 then m else nm)
        (fun b=>(b=0∧row'.isSome=true) ∨ (b=1∧nw.isSome=true)) v' r:=by
    rintro D st a w' ⟨rvs,hrv,hret⟩ ⟨⟨μ,U,hH',hf',_,hpb⟩,hsz,hdf⟩
    obtain ⟨cv,g1,g2⟩:=results_sound (P:=P) hH' hf' hres hrv
    refine ⟨cv,g1,cv,?_⟩
    have hm0 : row.isSome=true→μ 0=m∧∀ blk e n,m=some blk→w.shape? blk=some (e,n)→∃ e' n',w'.shape? blk=some (e',n')∧n≤n':=by
      intro hr
      cases m with
      | some blk =>
        have h3:=(hpb (.slice (some ⟨blk,0,none⟩) 0 ((w.shape? blk).map (·.2)).get!,.slL 0 0 0 1) (by simp [pb,hr])).1
        rcases h3.slL_inv with ⟨_,_,e1,_⟩ | ⟨blk',cap,n,e,e1,_,h4,_,h6,h7⟩
        · cases e1
        · simp at e1
          obtain ⟨e1,e2⟩:=e1
          subst e1
          refine ⟨h4,fun blk2 e2' n2 hb hs=>?_⟩
          cases hb
          rw [hs] at e2
          refine ⟨e,n,h6,?_⟩
          simp at e2
          omega
      | none =>
        have h3:=(hpb (.slice none 0 0,.slL 0 0 0 1) (by simp [pb,hr])).1
        rcases h3.slL_inv with ⟨_,_,_,_,h4⟩ | ⟨blk,cap,n,e,e1,_⟩
        · exact ⟨h4,fun blk _ _ h=>by cases h⟩
        · cases e1
    have hkept : Kept w w' (fun k=>row.isSome=true∧m=some k):=by
      refine ⟨hH'.os,hH'.tape,hH'.output,hH'.size,hH'.keep,fun k e n hk=>?_⟩
      by_cases hw : row.isSome=true∧m=some k
      · exact (hm0 hw.1).2 k e n hw.2 hk
      · refine ⟨e,n,?_,Nat.le_refl _⟩
        have:=hH'.keep k (shape_lt hk) hw
        unfold World.shape? at *
        rw [this];exact hk
    have hlive : row.isSome=true→∀ k,m=some k→μ 0=some k:=fun hr k hk=>(hm0 hr).1.trans hk
    have hSA : ∀ k,S k→Av S st.C st.Z μ k:=fun k hk=>.inl hk
    have hnoS : ∀ b rr k,st.C b=some rr→μ b=some k→¬ S k:=fun b rr k hb hm hs=>by
      rcases hH'.own b rr k hb hm with h1 | h1
      · have:=(hS k hs).1;omega
      · exact (hS k hs).2 h1
    cases hret with
    | data r hr =>
      refine ⟨none,rfl,hkept,fun k hk=>(by simp at hk),fun ds hds=>(by cases hds),fun ds hds=>(by cases hds),?_⟩
      refine convT_sound hH' (A':=fun k=>S k ∨ ((none : Option (List DV)).isSome=true∧m=some k) ∨ ((none : Option (List DV)).isSome=true∧(none : Option Nat)=some k)) (fun n hn=>?_) (fun b hb _ n hm hn=>?_) g2 hr
      · rcases hn with hn | ⟨hn,_⟩ | ⟨hn,_⟩
        · exact .inl hn
        · simp at hn
        · simp at hn
      · obtain ⟨rr,hrr⟩:=Option.isSome_iff_exists.1 hb
        rcases hn with hn | ⟨hn,_⟩ | ⟨hn,_⟩
        · exact hnoS b rr n hrr hm hn
        · simp at hn
        · simp at hn
    | dataL r ds hl hr h0 hz =>
      have hA : ∀ n,(S n ∨ ((some ds).isSome=true∧m=some n) ∨ ((none : Option (List DV)).isSome=true∧(none : Option Nat)=some n))→Av S st.C st.Z μ n:=by
        rintro n (hn | ⟨_,hn⟩ | ⟨hn,_⟩)
        · exact .inl hn
        · exact .inr ⟨0,by simp [h0],hz,hlive hl n hn⟩
        · simp at hn
      refine ⟨none,rfl,hkept,fun k hk=>(by simp at hk),fun ds' hds=>?_,fun ds hds=>(by cases hds),?_⟩
      · cases hds
        have:=RowD.of_row (hH'.row 0 _ h0)
        rw [(hm0 hl).1] at this
        exact this.mono hA
      · refine convT_sound hH' hA (fun b hb hex n hm hn=>?_) g2 hr
        obtain ⟨rr,hrr⟩:=Option.isSome_iff_exists.1 hb
        rcases hn with hn | ⟨_,hn⟩ | ⟨hn,_⟩
        · exact hnoS b rr n hrr hm hn
        · have:=hH'.inj b 0 _ _ n hrr h0 hm (hlive hl n hn)
          subst this;simp at hex
        · simp at hn
    | new b off len sz ds hv hb hz =>
      have hA : ∀ n,(S n ∨ ((none : Option (List DV)).isSome=true∧m=some n) ∨ ((some ds).isSome=true∧μ b=some n))→Av S st.C st.Z μ n:=by
        rintro n (hn | ⟨hn,_⟩ | ⟨_,hn⟩)
        · exact .inl hn
        · simp at hn
        · exact .inr ⟨b,by simp [hb],hz,hn⟩
      refine ⟨μ b,rfl,hkept,fun k _ hk=>?_,fun ds hds=>(by cases hds),fun ds' hds=>?_,?_⟩
      · rcases hH'.own b _ k hb hk with h1 | ⟨h1,h2⟩
        · exact .inl h1
        · exact .inr ⟨h1,rfl,h2⟩
      · cases hds
        exact (RowD.of_row (hH'.row b _ hb)).mono hA
      · rw [hv] at g2
        rcases g2.slL_inv with ⟨rfl,rfl,e1,_,hm⟩ | ⟨blk,cap,n,e,e1,_,hm,h6,h7,h8⟩
        · rw [e1];exact .slN 1 sz (.inr ⟨rfl,rfl⟩) (by simpa using hm)
        · rw [e1];exact .slL 1 off len sz blk cap n e (.inr ⟨rfl,rfl⟩) (by simpa using hm) h6 h7 h8
    | newP b off ds hv hb hz =>
      have hA : ∀ n,(S n ∨ ((none : Option (List DV)).isSome=true∧m=some n) ∨ ((some ds).isSome=true∧μ b=some n))→Av S st.C st.Z μ n:=by
        rintro n (hn | ⟨hn,_⟩ | ⟨_,hn⟩)
        · exact .inl hn
        · simp at hn
        · exact .inr ⟨b,by simp [hb],hz,hn⟩
      refine ⟨μ b,rfl,hkept,fun k _ hk=>?_,fun ds hds=>(by cases hds),fun ds' hds=>?_,?_⟩
      · rcases hH'.own b _ k hb hk with h1 | ⟨h1,h2⟩
        · exact .inl h1
        · exact .inr ⟨h1,rfl,h2⟩
      · cases hds
        exact (RowD.of_row (hH'.row b _ hb)).mono hA
      · rw [hv] at g2
        obtain ⟨blk,e1,_,hm⟩:=g2.ptrL_inv
        rw [e1];exact .ptrL 1 off blk (.inr ⟨rfl,rfl⟩) (by simpa using hm)
    | newN sz hv =>
      refine ⟨none,rfl,hkept,fun k _ hk=>(by cases hk),fun ds hds=>(by cases hds),fun ds' hds=>?_,?_⟩
      · cases hds
        exact .inl ⟨rfl,rfl⟩
      · rw [hv] at g2
        have e1:=g2.val_eq
        rw [e1];exact .slN 1 sz (.inr ⟨rfl,rfl⟩) (by simp)
    | own off len sz ds hl hv hb hz =>
      have hA : ∀ n,(S n ∨ ((some ds).isSome=true∧m=some n) ∨ ((none : Option (List DV)).isSome=true∧(none : Option Nat)=some n))→Av S st.C st.Z μ n:=by
        rintro n (hn | ⟨_,hn⟩ | ⟨hn,_⟩)
        · exact .inl hn
        · exact .inr ⟨0,by simp [hb],hz,hlive hl n hn⟩
        · simp at hn
      refine ⟨none,rfl,hkept,fun k hk=>(by simp at hk),fun ds' hds=>?_,fun ds hds=>(by cases hds),?_⟩
      · cases hds
        have:=RowD.of_row (hH'.row 0 _ hb)
        rw [(hm0 hl).1] at this
        exact this.mono hA
      · rw [hv] at g2
        rcases g2.slL_inv with ⟨rfl,rfl,e1,_,hm⟩ | ⟨blk,cap,n,e,e1,_,hm,h6,h7,h8⟩
        · rw [e1];exact .slN 0 sz (.inl ⟨rfl,rfl⟩) (by rw [(hm0 hl).1] at hm;simpa using hm)
        · rw [e1];exact .slL 0 off len sz blk cap n e (.inl ⟨rfl,rfl⟩) (by rw [(hm0 hl).1] at hm;simpa using hm) h6 h7 h8
  exact fin
theorem good_of_body {f : FuncId} {fn : Func} {c : Code} {md : FuncId→Option Nat × Bool} {od : Nat→List (List Nat) × List Nat × Option (List Nat)} {nt : Nat} {x : XC} {rs : List XRes} {as : List AV} {row : Option (List DV)} {r : AV} {row' nw : Option (List DV)}
    (hf : P.funcs[f]?=some fn) (hb : fn.body=some c) (hname : (fn.name == "runtime.NumGoroutine")=false) (hnt : fn.ntmps=nt) (hres : compRess P fn.results.toList=some rs) (hc : compC P md od nt c=some x)
    (hal : as.length≤nt) (hrow : row'.isSome=true→row.isSome=true) (h : xwp P x (retK rs row.isSome r row' nw) (St.init as row)) : Good P f as row r row' nw:=by
  refine good_of_wp hf hb hname hnt hres hal hrow fun w0 S Wr pb a w R hS hsim hR=>xwp_sound (D:=[]) (pb:=pb) hS hc h hsim ?_
  intro e st a w' hq hs'
  have hd:=hs'.defers
  cases e with
  | normal =>
    show Leaves P fn a.tmps R a.defers .returning w'
    rw [hd];exact hR [] st a w' hq hs'
  | ret =>
    show Leaves P fn a.tmps R a.defers .returning w'
    rw [hd];exact hR [] st a w' hq hs'
  | _=>exact hq.elim
end
end Go.Sv
namespace Go.Sv
open Go
set_option linter.unusedVariables false

section
variable {P : Program} {Q : Cont} {st : St} {fr : Fr} {C : Heap} {Z : Frz} {nx : Nat} {K : Fr→Heap→Frz→Prop} {base n : Nat} {l : List (Nat × XO)} {dst : Option Nat} {i : XI}

theorem good_of_body' {f : FuncId} {md : FuncId→Option Nat × Bool} {od : Nat→List (List Nat) × List Nat × Option (List Nat)} {nt : Nat} {x : XC} {rs : List XRes} {as : List AV} {row : Option (List DV)} {r : AV} {row' nw : Option (List DV)} (fn : Func)
    (hf : P.funcs[f]?=some fn) (hc : fn.body.bind (compC P md od nt)=some x) (hname : (fn.name == "runtime.NumGoroutine")=false) (hnt : fn.ntmps=nt) (hres : compRess P fn.results.toList=some rs)
    (hal : as.length≤nt) (hrow : row'.isSome=true→row.isSome=true) (h : xwp P x (retK rs row.isSome r row' nw) (St.init as row)) : Good P f as row r row' nw:=by
  obtain ⟨c,hb,hc⟩:=Option.bind_eq_some_iff.1 hc
  exact good_of_body hf hb hname hnt hres hc hal hrow h

theorem s_cond {c : X} {b : Bool} {x y : XC} (hv : c.ev st.fr=.d (.val (.bool b))) (h1 : b=true→xwp P x Q st) (h2 : b=false→xwp P y Q st) : xwp P (.cond c x y) Q st:=by
  refine ⟨b,hv,?_⟩
  cases b
  · exact h2 rfl
  · exact h1 rfl
theorem s_condT {c : X} {x y : XC} (hv : c.ev st.fr=.d (.val (.bool true))) (h1 : xwp P x Q st) : xwp P (.cond c x y) Q st:=s_cond hv (fun _=>h1) (fun h=>nomatch h)
theorem s_condF {c : X} {x y : XC} (hv : c.ev st.fr=.d (.val (.bool false))) (h1 : xwp P y Q st) : xwp P (.cond c x y) Q st:=s_cond hv (fun h=>nomatch h) (fun _=>h1)
theorem s_blkE {id : Nat} (h : Q .normal st) : blockK id Q (.exit id) st:=by
  show if id=id then _ else _
  rw [if_pos rfl];exact h
theorem s_blkE' {id j : Nat} (hj : (j == id)=false) (h : Q (.exit j) st) : blockK id Q (.exit j) st:=by
  show if j=id then _ else _
  rw [if_neg (by simpa using hj)];exact h
theorem s_gT {g : Nat × Bool} (hg : wantB fr (some g)=some true) (h : aRun P ((n,⟨dst,none,i⟩) :: l) base K fr C Z) : aRun P ((n,⟨dst,some g,i⟩) :: l) base K fr C Z:=by
  obtain ⟨v,C',Z',h1,h2⟩:=h
  refine ⟨v,C',Z',?_,h2⟩
  rcases h1 with ⟨_,h1⟩ | ⟨h1,_⟩
  · exact .inl ⟨hg,h1⟩
  · simp [wantB] at h1
theorem s_gF {g : Nat × Bool} (hg : wantB fr (some g)=some false) (h : aRun P l base K (Fr.putO fr dst (.tup [])) C Z) : aRun P ((n,⟨dst,some g,i⟩) :: l) base K fr C Z :=
  ⟨_,_,_,.inr ⟨hg,rfl,rfl,rfl⟩,h⟩

theorem XStep.of_xi {id : Nat} {v : AV} {C' : Heap} (h0 : ∀ f a b c,i ≠ .call f a b c) (h1 : ∀ g a,i ≠ .callv g a) (h : xi fr C Z id i=some (v,C')) : XStep P fr C Z id i v C' Z:=by
  cases i with
  | call f a b c=>exact absurd rfl (h0 f a b c)
  | callv g a=>exact absurd rfl (h1 g a)
  | storeA | callA=>simp [xi,XI.cls,xw] at h
  | _=>exact ⟨h,rfl⟩

theorem s_p {v : AV} (h : xp fr i=some v) (k : aRun P l base K (Fr.putO fr dst v) C Z) : aRun P ((n,⟨dst,none,i⟩) :: l) base K fr C Z:=by
  refine ⟨v,C,Z,.inl ⟨rfl,?_⟩,k⟩
  have hc : i.cls=0:=by cases i<;>first | rfl | simp [xp] at h
  refine .of_xi (fun _ _ _ _ e=>?_) (fun _ _ e=>?_) (by simp [xi,hc,h])
  · subst e;simp [xp] at h
  · subst e;simp [xp] at h
theorem s_l {v : AV} {m : Option Nat} {a : X} (h : xl fr C (.load m a)=some v) (k : aRun P l base K (Fr.putO fr dst v) C Z) : aRun P ((n,⟨dst,none,.load m a⟩) :: l) base K fr C Z :=
  ⟨v,C,Z,.inl ⟨rfl,by simp [xi,XI.cls,h],rfl⟩,k⟩
theorem s_n {v : AV} {r : List AV} (h : xn fr (base + n) i=some (v,r)) (k : aRun P l base K (Fr.putO fr dst v) (C.put (base + n) r) Z) : aRun P ((n,⟨dst,none,i⟩) :: l) base K fr C Z:=by
  refine ⟨v,C.put (base + n) r,Z,.inl ⟨rfl,?_⟩,k⟩
  have hc : i.cls=2:=by cases i<;>first | rfl | simp [xn] at h
  refine .of_xi (fun _ _ _ _ e=>?_) (fun _ _ e=>?_) (by simp [xi,hc,h])
  · subst e;simp [xn] at h
  · subst e;simp [xn] at h
theorem s_w {v : AV} {C' : Heap} (h : xw fr C Z (base + n) i=some (v,C')) (k : aRun P l base K (Fr.putO fr dst v) C' Z) : aRun P ((n,⟨dst,none,i⟩) :: l) base K fr C Z:=by
  refine ⟨v,C',Z,.inl ⟨rfl,?_⟩,k⟩
  have hc : i.cls=3∧(∀ f a b c,i ≠ .call f a b c)∧(∀ g a,i ≠ .callv g a):=by
    cases i<;>first | exact ⟨rfl,fun _ _ _ _ e=>XI.noConfusion e,fun _ _ e=>XI.noConfusion e⟩ | simp [xw] at h
  exact .of_xi hc.2.1 hc.2.2 (by simp [xi,hc.1,h])
theorem s_call {f : FuncId} {xs : List X} {as bs : List AV} {us : List Nat} {r : AV} {Z' : Frz} (ha : xs.map (X.ev fr)=as) (hc : convAs C (fun _=>false) as=some (bs,us)) (hg : Good P f bs none r none none)
    (hz : Z.add (if r.scalar=true then [] else us)=Z') (k : aRun P l base K (Fr.putO fr dst r) C Z') : aRun P ((n,⟨dst,none,.call f xs none false⟩) :: l) base K fr C Z:=by
  refine ⟨r,C,Z',.inl ⟨rfl,?_⟩,k⟩
  subst ha
  refine ⟨none,.inl rfl,?_⟩
  show XCall P C Z _ f (xs.map (X.ev fr)) none false _ _ _
  refine ⟨bs,us,r,none,none,hc,hg,rfl,?_,rfl,rfl,?_⟩
  · intro h;cases h
  · rw [← hz];simp [scalO]
theorem s_callN {f : FuncId} {xs : List X} {as bs : List AV} {us : List Nat} {r : AV} {Z' : Frz} {ds : List DV} (ha : xs.map (X.ev fr)=as) (hc : convAs C (fun _=>false) as=some (bs,us)) (hg : Good P f bs none r none (some ds))
    (hz : Z.add (if (r.scalar && ds.all DV.scalar)=true then [] else us)=Z') (hfl : r.flat=true) (k : aRun P l base K (Fr.putO fr dst (r.ren 0 (base + n))) (C.put (base + n) (ds.map AV.d)) Z') : aRun P ((n,⟨dst,none,.call f xs none true⟩) :: l) base K fr C Z:=by
  refine ⟨r.ren 0 (base + n),C.put (base + n) (ds.map AV.d),Z',.inl ⟨rfl,?_⟩,k⟩
  subst ha
  refine ⟨none,.inl rfl,?_⟩
  show XCall P C Z _ f (xs.map (X.ev fr)) none true _ _ _
  exact ⟨bs,us,r,some ds,none,hc,hg,rfl,fun _=>hfl,rfl,rfl,by rw [← hz];simp [scalO]⟩
end


theorem xloop_rule {body : Cont→St→Prop} {Q : Cont} {ι : Type} (S : ι→St) (m : ι→Nat)
    (h : ∀ i (K : St→Prop),(∀ j st',m j < m i→Wkf st' (S j)→K st')→body (thenK K Q) (S i)) (i0 : ι) (st : St) (h0 : Wkf st (S i0)) : ∃ n,xloop body Q n st:=by
  have key : ∀ (n : Nat) (i : ι) (st : St),m i < n→Wkf st (S i)→xloop body Q n st:=by
    intro n
    induction n with
    | zero=>intro i st hi;omega
    | succ n ih =>
      intro i st hi hw
      exact ⟨S i,hw,h i (xloop body Q n) fun j st' hj hw'=>ih j st' (by omega) hw'⟩
  exact ⟨m i0 + 1,key _ i0 st (Nat.lt_succ_self _) h0⟩
end Go.Sv
namespace Go.Sv
open Go
set_option linter.unusedVariables false
abbrev AV.i (k : Int) : AV:=.d (.val (.int .i64 k))
abbrev AV.b (k : Bool) : AV:=.d (.val (.bool k))

def W (P : Program) (c : XC) (Q : Cont) (fr : Fr) (C : Heap) (Z : Frz) (nx : Nat) : Prop:=xwp P c Q ⟨fr,C,Z,nx⟩
def E (Q : Cont) (e : Exit) (fr : Fr) (C : Heap) (Z : Frz) (nx : Nat) : Prop:=Q e ⟨fr,C,Z,nx⟩
def R (P : Program) (l : List (Nat × XO)) (base : Nat) (kp : Option (List Nat)) (Q : Cont) (nx : Nat) (fr : Fr) (C : Heap) (Z : Frz) : Prop:=aRun P l base (opsK kp Q nx) fr C Z
def KP (ks : List Nat) (acc : Fr) (Q : Cont) (fr : Fr) (C : Heap) (Z : Frz) (nx : Nat) : Prop:=Q .normal ⟨Fr.keepL ks acc fr,C,Z,nx⟩

theorem w_init {P : Program} {c : XC} {Q : Cont} {ags : List AV} {row : Option (List DV)} (h : W P c Q (Fr.init ags) (Heap.init row) Frz.nil 1) : xwp P c Q (St.init ags row):=h

section
variable {P : Program} {Q : Cont} {st : St} {fr : Fr} {C : Heap} {Z : Frz} {nx : Nat} {base n d : Nat} {l : List (Nat × XO)} {dst : Option Nat} {i : XI} {kp : Option (List Nat)} {acc : Fr} {ks : List Nat}

theorem w_seq {a b : XC} (h : W P a (thenK (xwp P b Q) Q) fr C Z nx) : W P (.seq a b) Q fr C Z nx:=h
theorem w_skip (h : E Q .normal fr C Z nx) : W P .skip Q fr C Z nx:=h
theorem w_ops {m : Nat} (hm : nx + n=m) (h : R P l nx kp Q m fr C Z) : W P (.ops n l kp) Q fr C Z nx:=by
  subst hm;exact h
theorem w_condT {c : X} {x y : XC} (hv : c.ev fr=.d (.val (.bool true))) (h1 : W P x Q fr C Z nx) : W P (.cond c x y) Q fr C Z nx:=s_condT hv h1
theorem w_condF {c : X} {x y : XC} (hv : c.ev fr=.d (.val (.bool false))) (h1 : W P y Q fr C Z nx) : W P (.cond c x y) Q fr C Z nx:=s_condF hv h1
theorem w_condS {s : Nat} {b : Bool} {x y : XC} (hv : X.ev fr (.t s)=.d (.val (.bool b))) (h1 : b=true→W P x Q (fr.put s (.d (.val (.bool true)))) C Z nx) (h2 : b=false→W P y Q (fr.put s (.d (.val (.bool false)))) C Z nx) : W P (.cond (.t s) x y) Q fr C Z nx:=by
  have same : ∀ v,X.ev fr (.t s)=v→fr.put s v=fr:=fun v h=>by
    funext k
    simp only [Fr.put]
    split
    · rename_i e;rw [← e];exact h.symm
    · rfl
  refine s_cond hv (fun h=>?_) (fun h=>?_)
  · subst h;have:=h1 rfl;rwa [same _ hv] at this
  · subst h;have:=h2 rfl;rwa [same _ hv] at this
theorem w_block {id : Nat} {c : XC} (h : W P c (blockK id Q) fr C Z nx) : W P (.block id c) Q fr C Z nx:=h
theorem w_exit {id : Nat} (h : E Q (.exit id) fr C Z nx) : W P (.exit id) Q fr C Z nx:=h
theorem w_ret (h : E Q .ret fr C Z nx) : W P .ret Q fr C Z nx:=h
theorem e_thenN {c : XC} {Q' : Cont} (h : W P c Q' fr C Z nx) : E (thenK (xwp P c Q') Q) .normal fr C Z nx:=h
theorem e_thenK {k : St→Prop} (h : k ⟨fr,C,Z,nx⟩) : E (thenK k Q) .normal fr C Z nx:=h
theorem e_thenX {k : St→Prop} {id : Nat} (h : E Q (.exit id) fr C Z nx) : E (thenK k Q) (.exit id) fr C Z nx:=h
theorem e_thenR {k : St→Prop} (h : E Q .ret fr C Z nx) : E (thenK k Q) .ret fr C Z nx:=h
theorem e_blkN {id : Nat} (h : E Q .normal fr C Z nx) : E (blockK id Q) .normal fr C Z nx:=h
theorem e_blkR {id : Nat} (h : E Q .ret fr C Z nx) : E (blockK id Q) .ret fr C Z nx:=h
theorem e_blkE {id : Nat} (h : E Q .normal fr C Z nx) : E (blockK id Q) (.exit id) fr C Z nx:=s_blkE h
theorem e_blkE' {id j : Nat} (hj : (j == id)=false) (h : E Q (.exit j) fr C Z nx) : E (blockK id Q) (.exit j) fr C Z nx:=s_blkE' hj h
theorem r_nil (h : E Q .normal fr C Z nx) : R P [] base none Q nx fr C Z:=h
theorem r_nilK (h : KP ks Fr.nil Q fr C Z nx) : R P [] base (some ks) Q nx fr C Z:=h
theorem k_nil (h : E Q .normal acc C Z nx) : KP [] acc Q fr C Z nx:=h
theorem k_E {k : Nat} {v : AV} (hv : X.ev fr (.t k)=v) (h : KP ks (acc.put k v) Q fr C Z nx) : KP (k :: ks) acc Q fr C Z nx:=by subst hv;exact h
theorem k_V {k : Nat} {v : Value} (hv : X.ev fr (.t k)=.d (.val v)) (h : KP ks (acc.put k (.d (.val v))) Q fr C Z nx) : KP (k :: ks) acc Q fr C Z nx:=k_E hv h
theorem k_P {k : Nat} {cs : List DV} {off : Nat} (hv : X.ev fr (.t k)=.d (.ptr cs off)) (h : KP ks (acc.put k (.d (.ptr cs off))) Q fr C Z nx) : KP (k :: ks) acc Q fr C Z nx:=k_E hv h
theorem k_S {k : Nat} {cs : List DV} {off : Nat} (hv : X.ev fr (.t k)=.d (.sl cs off)) (h : KP ks (acc.put k (.d (.sl cs off))) Q fr C Z nx) : KP (k :: ks) acc Q fr C Z nx:=k_E hv h
theorem k_PL {k b off : Nat} (hv : X.ev fr (.t k)=.ptrL b off) (h : KP ks (acc.put k (.ptrL b off)) Q fr C Z nx) : KP (k :: ks) acc Q fr C Z nx:=k_E hv h
theorem k_SL {k b off m s : Nat} (hv : X.ev fr (.t k)=.slL b off m s) (h : KP ks (acc.put k (.slL b off m s)) Q fr C Z nx) : KP (k :: ks) acc Q fr C Z nx:=k_E hv h
theorem k_A {k : Nat} {cs : List AV} (hv : X.ev fr (.t k)=.agg cs) (h : KP ks (acc.put k (.agg cs)) Q fr C Z nx) : KP (k :: ks) acc Q fr C Z nx:=k_E hv h
theorem k_T {k : Nat} {cs : List AV} (hv : X.ev fr (.t k)=.tup cs) (h : KP ks (acc.put k (.tup cs)) Q fr C Z nx) : KP (k :: ks) acc Q fr C Z nx:=k_E hv h
theorem k_F {k : Nat} {f : FuncId} {cs : List AV} (hv : X.ev fr (.t k)=.fnL f cs) (h : KP ks (acc.put k (.fnL f cs)) Q fr C Z nx) : KP (k :: ks) acc Q fr C Z nx:=k_E hv h
theorem k_D {k : Nat} (hv : X.ev fr (.t k)=.dead) (h : KP ks acc Q fr C Z nx) (hd : acc k=.dead) : KP (k :: ks) acc Q fr C Z nx:=by
  refine k_E hv ?_
  rwa [show acc.put k AV.dead=acc by funext s;simp only [Fr.put];split<;>simp_all]
theorem e_ret {rs : List XRes} {live : Bool} {r : AV} {row' nw : Option (List DV)} {vs : List AV} (h1 : resVals fr C rs=some vs) (h2 : RetOK C Z (tupOf vs) live r row' nw) : E (retK rs live r row' nw) .ret fr C Z nx:=⟨vs,h1,h2⟩
theorem e_ret' {rs : List XRes} {live : Bool} {r : AV} {row' nw : Option (List DV)} {vs : List AV} (h1 : resVals fr C rs=some vs) (h2 : RetOK C Z (tupOf vs) live r row' nw) : E (retK rs live r row' nw) .normal fr C Z nx:=⟨vs,h1,h2⟩
theorem z_nil {k : Nat} : Frz.nil k=false:=rfl
theorem z_add {k : Nat} {us : List Nat} : Frz.add Z us k=(Z k || us.contains k):=rfl

theorem r_gT {s : Nat} {w : Bool} (hg : X.ev fr (.t s)=.d (.val (.bool w))) (h : R P ((n,⟨dst,none,i⟩) :: l) base kp Q nx fr C Z) : R P ((n,⟨dst,some (s,w),i⟩) :: l) base kp Q nx fr C Z :=
  s_gT (by simp [wantB,show fr s=_ from hg]) h
theorem r_gF {s : Nat} {w v : Bool} (hg : X.ev fr (.t s)=.d (.val (.bool v))) (hv : (v == w)=false) (h : R P l base kp Q nx (Fr.putO fr dst (.tup [])) C Z) : R P ((n,⟨dst,some (s,w),i⟩) :: l) base kp Q nx fr C Z :=
  s_gF (by simp only [wantB,show fr s=_ from hg];rw [← hv]) h
theorem r_gF' {s : Nat} {w v : Bool} (hg : X.ev fr (.t s)=.d (.val (.bool v))) (hv : (v == w)=false) (h : R P l base kp Q nx (fr.put d (.tup [])) C Z) : R P ((n,⟨some d,some (s,w),i⟩) :: l) base kp Q nx fr C Z:=r_gF hg hv h
theorem r_gN {s : Nat} {w : Bool} (hg : X.ev fr (.t s)=.tup []) (h : R P l base kp Q nx (Fr.putO fr dst (.tup [])) C Z) : R P ((n,⟨dst,some (s,w),i⟩) :: l) base kp Q nx fr C Z :=
  s_gF (by simp only [wantB,show fr s=_ from hg]) h
theorem r_gN' {s : Nat} {w : Bool} (hg : X.ev fr (.t s)=.tup []) (h : R P l base kp Q nx (fr.put d (.tup [])) C Z) : R P ((n,⟨some d,some (s,w),i⟩) :: l) base kp Q nx fr C Z:=r_gN hg h
theorem r_gS {s : Nat} {w b : Bool} {o : XO} (hv : X.ev fr (.t s)=.d (.val (.bool b))) (h1 : b=true→R P ((n,⟨dst,some (s,w),i⟩) :: l) base kp Q nx (fr.put s (.d (.val (.bool true)))) C Z)
    (h2 : b=false→R P ((n,⟨dst,some (s,w),i⟩) :: l) base kp Q nx (fr.put s (.d (.val (.bool false)))) C Z) : R P ((n,⟨dst,some (s,w),i⟩) :: l) base kp Q nx fr C Z:=by
  have same : ∀ v,X.ev fr (.t s)=v→fr.put s v=fr:=fun v h=>by
    funext k
    simp only [Fr.put]
    split
    · rename_i e;rw [← e];exact h.symm
    · rfl
  cases b
  · have:=h2 rfl;rwa [same _ hv] at this
  · have:=h1 rfl;rwa [same _ hv] at this

theorem r_p {v : AV} (h : xp fr i=some v) (k : R P l base kp Q nx (fr.put d v) C Z) : R P ((n,⟨some d,none,i⟩) :: l) base kp Q nx fr C Z:=s_p h k
theorem r_l {v : AV} {m : Option Nat} {a : X} (h : xl fr C (.load m a)=some v) (k : R P l base kp Q nx (fr.put d v) C Z) : R P ((n,⟨some d,none,.load m a⟩) :: l) base kp Q nx fr C Z:=s_l h k
theorem r_n {v : AV} {r : List AV} (h : xn fr (base + n) i=some (v,r)) (k : R P l base kp Q nx (fr.put d v) (C.put (base + n) r) Z) : R P ((n,⟨some d,none,i⟩) :: l) base kp Q nx fr C Z:=s_n h k
theorem r_w {v : AV} {C' : Heap} (h : xw fr C Z (base + n) i=some (v,C')) (k : R P l base kp Q nx (Fr.putO fr dst v) C' Z) : R P ((n,⟨dst,none,i⟩) :: l) base kp Q nx fr C Z:=s_w h k

theorem r_mv {x : X} {v : AV} (h : x.ev fr=v) (k : R P l base kp Q nx (fr.put d v) C Z) : R P ((n,⟨some d,none,.mv x⟩) :: l) base kp Q nx fr C Z:=s_p (show some _=_ by rw [h]) k
section
variable {x y : X} {a b : Int}
theorem wrap_in {z : Int} (h : -9223372036854775808≤z∧z < 9223372036854775808) : IntKind.wrap .i64 z=z:=by
  simp [IntKind.wrap,IntKind.signed,IntKind.bits]
  omega
theorem r_add {c : Int} (hx : x.ev fr=.i a) (hy : y.ev fr=.i b) (hc : a + b=c) (hr : -9223372036854775808≤c∧c < 9223372036854775808) (k : R P l base kp Q nx (fr.put d (.i c)) C Z) : R P ((n,⟨some d,none,.arith .add x y⟩) :: l) base kp Q nx fr C Z :=
  s_p (by simp [xp,hx,hy,arith,hc,wrap_in hr]) k
theorem r_sub {c : Int} (hx : x.ev fr=.i a) (hy : y.ev fr=.i b) (hc : a - b=c) (hr : -9223372036854775808≤c∧c < 9223372036854775808) (k : R P l base kp Q nx (fr.put d (.i c)) C Z) : R P ((n,⟨some d,none,.arith .sub x y⟩) :: l) base kp Q nx fr C Z :=
  s_p (by simp [xp,hx,hy,arith,hc,wrap_in hr]) k
theorem r_eql {r : Bool} (hx : x.ev fr=.i a) (hy : y.ev fr=.i b) (h : decide (a=b)=r) (k : R P l base kp Q nx (fr.put d (.b r)) C Z) : R P ((n,⟨some d,none,.arith .eql x y⟩) :: l) base kp Q nx fr C Z :=
  s_p (by subst h;simp [xp,hx,hy,arith];rfl) k
theorem r_neq {r : Bool} (hx : x.ev fr=.i a) (hy : y.ev fr=.i b) (h : decide (¬ a=b)=r) (k : R P l base kp Q nx (fr.put d (.b r)) C Z) : R P ((n,⟨some d,none,.arith .neq x y⟩) :: l) base kp Q nx fr C Z :=
  s_p (by subst h;simp [xp,hx,hy,arith];rfl) k
theorem r_lss {r : Bool} (hx : x.ev fr=.i a) (hy : y.ev fr=.i b) (h : decide (a < b)=r) (k : R P l base kp Q nx (fr.put d (.b r)) C Z) : R P ((n,⟨some d,none,.arith .lss x y⟩) :: l) base kp Q nx fr C Z :=
  s_p (by subst h;simp [xp,hx,hy,arith]) k
theorem r_leq {r : Bool} (hx : x.ev fr=.i a) (hy : y.ev fr=.i b) (h : decide (a≤b)=r) (k : R P l base kp Q nx (fr.put d (.b r)) C Z) : R P ((n,⟨some d,none,.arith .leq x y⟩) :: l) base kp Q nx fr C Z :=
  s_p (by subst h;simp [xp,hx,hy,arith]) k
theorem r_gtr {r : Bool} (hx : x.ev fr=.i a) (hy : y.ev fr=.i b) (h : decide (b < a)=r) (k : R P l base kp Q nx (fr.put d (.b r)) C Z) : R P ((n,⟨some d,none,.arith .gtr x y⟩) :: l) base kp Q nx fr C Z :=
  s_p (by subst h;simp [xp,hx,hy,arith]) k
theorem r_geq {r : Bool} (hx : x.ev fr=.i a) (hy : y.ev fr=.i b) (h : decide (b≤a)=r) (k : R P l base kp Q nx (fr.put d (.b r)) C Z) : R P ((n,⟨some d,none,.arith .geq x y⟩) :: l) base kp Q nx fr C Z :=
  s_p (by subst h;simp [xp,hx,hy,arith]) k
theorem r_not {b : Bool} {r : Bool} (hx : x.ev fr=.b b) (h : (!b)=r) (k : R P l base kp Q nx (fr.put d (.b r)) C Z) : R P ((n,⟨some d,none,.un .not x⟩) :: l) base kp Q nx fr C Z :=
  s_p (by subst h;simp [xp,hx,unary]) k
theorem r_mvV {x : X} {v : Value} (h : x.ev fr=.d (.val v)) (k : R P l base kp Q nx (fr.put d (.d (.val v))) C Z) : R P ((n,⟨some d,none,.mv x⟩) :: l) base kp Q nx fr C Z:=r_mv h k
theorem r_mvP {x : X} {cs : List DV} {off : Nat} (h : x.ev fr=.d (.ptr cs off)) (k : R P l base kp Q nx (fr.put d (.d (.ptr cs off))) C Z) : R P ((n,⟨some d,none,.mv x⟩) :: l) base kp Q nx fr C Z:=r_mv h k
theorem r_mvS {x : X} {cs : List DV} {m : Nat} (h : x.ev fr=.d (.sl cs m)) (k : R P l base kp Q nx (fr.put d (.d (.sl cs m))) C Z) : R P ((n,⟨some d,none,.mv x⟩) :: l) base kp Q nx fr C Z:=r_mv h k
theorem r_mvPL {x : X} {b off : Nat} (h : x.ev fr=.ptrL b off) (k : R P l base kp Q nx (fr.put d (.ptrL b off)) C Z) : R P ((n,⟨some d,none,.mv x⟩) :: l) base kp Q nx fr C Z:=r_mv h k
theorem r_mvSL {x : X} {b off m s : Nat} (h : x.ev fr=.slL b off m s) (k : R P l base kp Q nx (fr.put d (.slL b off m s)) C Z) : R P ((n,⟨some d,none,.mv x⟩) :: l) base kp Q nx fr C Z:=r_mv h k
theorem r_mvA {x : X} {cs : List AV} (h : x.ev fr=.agg cs) (k : R P l base kp Q nx (fr.put d (.agg cs)) C Z) : R P ((n,⟨some d,none,.mv x⟩) :: l) base kp Q nx fr C Z:=r_mv h k
theorem r_mvT {x : X} {cs : List AV} (h : x.ev fr=.tup cs) (k : R P l base kp Q nx (fr.put d (.tup cs)) C Z) : R P ((n,⟨some d,none,.mv x⟩) :: l) base kp Q nx fr C Z:=r_mv h k
theorem r_mvF {x : X} {f : FuncId} {cs : List AV} (h : x.ev fr=.fnL f cs) (k : R P l base kp Q nx (fr.put d (.fnL f cs)) C Z) : R P ((n,⟨some d,none,.mv x⟩) :: l) base kp Q nx fr C Z:=r_mv h k
theorem r_mvD {x : X} (h : x.ev fr=.dead) (k : R P l base kp Q nx (fr.put d .dead) C Z) : R P ((n,⟨some d,none,.mv x⟩) :: l) base kp Q nx fr C Z:=r_mv h k
theorem r_pickT {c x y : X} (hc : c.ev fr=.b true) (k : R P ((n,⟨some d,none,.mv x⟩) :: l) base kp Q nx fr C Z) : R P ((n,⟨some d,none,.pick c x y⟩) :: l) base kp Q nx fr C Z:=by
  obtain ⟨v,C',Z',h1,h2⟩:=k
  refine ⟨v,C',Z',?_,h2⟩
  rcases h1 with ⟨g1,g2⟩ | ⟨g1,_⟩
  · refine .inl ⟨g1,?_⟩
    obtain ⟨g2,g3⟩:=g2
    refine ⟨?_,g3⟩
    rw [← g2]
    simp [xi,XI.cls,xp,hc,AV.iteB]
  · simp [wantB] at g1
theorem r_pickF {c x y : X} (hc : c.ev fr=.b false) (k : R P ((n,⟨some d,none,.mv y⟩) :: l) base kp Q nx fr C Z) : R P ((n,⟨some d,none,.pick c x y⟩) :: l) base kp Q nx fr C Z:=by
  obtain ⟨v,C',Z',h1,h2⟩:=k
  refine ⟨v,C',Z',?_,h2⟩
  rcases h1 with ⟨g1,g2⟩ | ⟨g1,_⟩
  · refine .inl ⟨g1,?_⟩
    obtain ⟨g2,g3⟩:=g2
    refine ⟨?_,g3⟩
    rw [← g2]
    simp [xi,XI.cls,xp,hc,AV.iteB]
  · simp [wantB] at g1
theorem r_nckD {off : Nat} {cs : List DV} (hx : x.ev fr=.d (.ptr cs off)) (k : R P l base kp Q nx (fr.put d (.d (.ptr cs off))) C Z) : R P ((n,⟨some d,none,.nilck x⟩) :: l) base kp Q nx fr C Z:=s_p (by simp [xp,hx]) k
theorem r_faddD {m off : Nat} {cs : List DV} (hx : x.ev fr=.d (.ptr cs off)) (k : R P l base kp Q nx (fr.put d (.d (.ptr cs (off + m)))) C Z) : R P ((n,⟨some d,none,.fadd m x⟩) :: l) base kp Q nx fr C Z:=s_p (by simp [xp,hx]) k
theorem r_faddL {m off b : Nat} (hx : x.ev fr=.ptrL b off) (k : R P l base kp Q nx (fr.put d (.ptrL b (off + m))) C Z) : R P ((n,⟨some d,none,.fadd m x⟩) :: l) base kp Q nx fr C Z:=s_p (by simp [xp,hx]) k
theorem r_lenD {cs : List DV} {m : Nat} (hx : x.ev fr=.d (.sl cs m)) (k : R P l base kp Q nx (fr.put d (.i m)) C Z) : R P ((n,⟨some d,none,.lenS x⟩) :: l) base kp Q nx fr C Z:=s_p (by simp [xp,hx]) k
theorem r_lenL {b off m s : Nat} (hx : x.ev fr=.slL b off m s) (k : R P l base kp Q nx (fr.put d (.i m)) C Z) : R P ((n,⟨some d,none,.lenS x⟩) :: l) base kp Q nx fr C Z:=s_p (by simp [xp,hx]) k
theorem r_len0 (hx : x.ev fr=.d (.val (.slice none 0 0))) (k : R P l base kp Q nx (fr.put d (.i 0)) C Z) : R P ((n,⟨some d,none,.lenS x⟩) :: l) base kp Q nx fr C Z:=s_p (by simp [xp,hx]) k
theorem r_ext {vs : List AV} {j : Nat} {v : AV} (hx : x.ev fr=.tup vs) (hj : vs[j]?=some v) (k : R P l base kp Q nx (fr.put d v) C Z) : R P ((n,⟨some d,none,.ext x j⟩) :: l) base kp Q nx fr C Z:=s_p (by simp [xp,hx,hj]) k
theorem r_ldL {a : X} {m : Option Nat} {b off : Nat} {r : List AV} {v : AV} (ha : a.ev fr=.ptrL b off) (hr : C b=some r) (hv : subA r off m=some v) (k : R P l base kp Q nx (fr.put d v) C Z) : R P ((n,⟨some d,none,.load m a⟩) :: l) base kp Q nx fr C Z :=
  s_l (by simp [xl,ha,rowOf,hr,hv]) k
theorem r_alloc {zs : List Value} {z : List AV} {b : Nat} (hb : base + n=b) (hz : zeroA zs=z) (k : R P l base kp Q nx (fr.put d (.ptrL b 0)) (C.put b z) Z) : R P ((n,⟨some d,none,.alloc zs⟩) :: l) base kp Q nx fr C Z:=by subst hb hz;exact s_n rfl k
theorem r_stL {a : X} {m b off : Nat} {r cs r' : List AV} {v : AV} (ha : a.ev fr=.ptrL b off) (hr : C b=some r) (hx : x.ev fr=v) (hv : cellsOf v=some cs) (hz : Z b=false) (hc : (cs.length == m && Nat.ble (off + m) r.length && cs.all AV.one)=true) (hr' : splice r off cs=r')
    (k : R P l base kp Q nx fr (C.put b r') Z) : R P ((n,⟨none,none,.store m a x⟩) :: l) base kp Q nx fr C Z:=by
  simp only [Bool.and_eq_true,beq_iff_eq,Nat.ble_eq] at hc
  subst hr'
  refine s_w (v:=.tup []) (C':=C.put b (splice r off cs)) ?_ k
  have h2:=List.all_eq_true.1 hc.2
  simp only [xw,ha,hr,hx,hv,hz,hc.1.1,hc.1.2,hc.2,Option.bind_some,and_self,if_true]
theorem r_box {b : Nat} {v : AV} {cs : List AV} (hb : base + n=b) (hx : x.ev fr=v) (hv : cellsOf v=some cs) (hc : cs.all AV.one=true) (k : R P l base kp Q nx (fr.put d (.ptrL b 0)) (C.put b cs) Z) : R P ((n,⟨some d,none,.box x⟩) :: l) base kp Q nx fr C Z:=by
  subst hb
  exact s_n (by simp only [xn,hx,hv,hc,Option.bind_some,if_true]) k
theorem r_call {f : FuncId} {xs : List X} {ags bs : List AV} {us : List Nat} {r : AV} {Z' : Frz} (ha : xs.map (X.ev fr)=ags) (hc : convAs C (fun _=>false) ags=some (bs,us)) (hg : Good P f bs none r none none)
    (hz : Z.add (if r.scalar=true then [] else us)=Z') (k : R P l base kp Q nx (fr.put d r) C Z') : R P ((n,⟨some d,none,.call f xs none false⟩) :: l) base kp Q nx fr C Z:=s_call ha hc hg hz k
theorem convAs_d : ∀ (C : Heap) (ex : Nat→Bool) (l : List DV),convAs C ex (l.map AV.d)=some (l.map fun x=>AV.d x.norm,[])
  | C,ex,[]=>rfl
  | C,ex,x :: l=>by simp [convAs,convA,convC,convAs_d C ex l]
theorem r_callD {f : FuncId} {xs : List X} {ds : List DV} {bs : List AV} {r : AV} (ha : xs.map (X.ev fr)=ds.map AV.d) (hb : (ds.map fun x=>AV.d x.norm)=bs) (hg : Good P f bs none r none none)
    (k : R P l base kp Q nx (fr.put d r) C Z) : R P ((n,⟨some d,none,.call f xs none false⟩) :: l) base kp Q nx fr C Z:=by
  subst hb
  exact s_call ha (convAs_d C _ ds) hg (by simp [Frz.add_nil]) k
end
theorem retB {live b b' : Bool} (h : b=b') : RetOK C Z (tupOf [.d (.val (.bool b))]) live (.d (.val (.bool b'))) none none:=.data _ (by subst h;rfl)
theorem retI {live : Bool} {k : IntKind} {a a' : Int} (h : a=a') : RetOK C Z (tupOf [.d (.val (.int k a))]) live (.d (.val (.int k a'))) none none:=.data _ (by subst h;rfl)
end

theorem w_loop {P : Program} {c : XC} {Q : Cont} {ι : Type} (S : ι→St) (m : ι→Nat) (i0 : ι) {fr : Fr} {C : Heap} {Z : Frz} {nx : Nat} (h0 : Wkf ⟨fr,C,Z,nx⟩ (S i0))
    (h : ∀ i (K : St→Prop),(∀ j st',m j < m i→Wkf st' (S j)→K st')→W P c (thenK K Q) (S i).fr (S i).C (S i).Z (S i).nx) : W P (.loop c) Q fr C Z nx :=
  xloop_rule S m h i0 _ h0
end Go.Sv
namespace Go.Sv
open Go
set_option linter.unusedVariables false

inductive T where
  | node (k a b c d mn mx : Int) (subs : List T)

mutual
def encN : T→List DV
  | .node k a b c d mn mx subs=>[.val (.int .i64 k),.val (.int .u64 a),.val (.int .u64 b),.val (.int .u64 c),.val (.int .u64 d),.val (.int .i64 mn),.val (.int .i64 mx),.sl (encL subs) subs.length]
def encL : List T→List DV
  | []=>[]
  | t :: l=>encN t++encL l
end

mutual
def T.cnt : T→Nat
  | .node _ _ _ _ _ _ _ subs=>1 + cntL subs
def cntL : List T→Nat
  | []=>0
  | t :: l=>t.cnt + cntL l
end
theorem cnt_pos (t : T) : 0 < t.cnt:=by cases t;simp [T.cnt];omega
theorem cntL_len : ∀ (l : List T),l.length≤cntL l
  | []=>by simp [cntL]
  | t :: l=>by have:=cnt_pos t;have:=cntL_len l;simp [cntL];omega
theorem cntL_get : ∀ (l : List T) (i : Nat) (h : i < l.length),l[i].cnt≤cntL l
  | t :: l,0,h=>by simp [cntL]
  | t :: l,i + 1,h=>by have:=cntL_get l i (by simpa using h);simp [cntL];omega

def T.kind : T→Int | .node k _ _ _ _ _ _ _=>k
def T.mn : T→Int | .node _ _ _ _ _ m _ _=>m
def T.mx : T→Int | .node _ _ _ _ _ _ m _=>m
def T.subs : T→List T | .node _ _ _ _ _ _ _ l=>l
def T.set : T→List Int | .node _ a b c d _ _ _=>[a,b,c,d]

theorem encN_len (t : T) : (encN t).length=8:=by cases t;simp [encN]
theorem encL_len : ∀ (l : List T),(encL l).length=l.length * 8
  | []=>by simp [encL]
  | t :: l=>by simp [encL,encN_len,encL_len l];omega

def NodeAt (cs : List DV) (off : Nat) (t : T) : Prop:=(cs.drop off).take 8=encN t

theorem NodeAt.get {cs : List DV} {off : Nat} {t : T} (h : NodeAt cs off t) {j : Nat} (hj : j < 8) : cs[off + j]?=(encN t)[j]?:=by
  rw [← h,List.getElem?_take,if_pos hj,List.getElem?_drop]
theorem NodeAt.len {cs : List DV} {off : Nat} {t : T} (h : NodeAt cs off t) : off + 8≤cs.length:=by
  have:=congrArg List.length h
  rw [encN_len,List.length_take,List.length_drop] at this
  omega
theorem NodeAt.self (t : T) : NodeAt (encN t) 0 t:=by
  unfold NodeAt
  rw [List.drop_zero,List.take_of_length_le (by rw [encN_len];exact Nat.le_refl _)]
theorem NodeAt.lit (k a b c d mn mx : Int) (subs : List T) : NodeAt [.val (.int .i64 k),.val (.int .u64 a),.val (.int .u64 b),.val (.int .u64 c),.val (.int .u64 d),.val (.int .i64 mn),.val (.int .i64 mx),.sl (encL subs) subs.length] 0 (.node k a b c d mn mx subs):=NodeAt.self (.node k a b c d mn mx subs)
theorem NodeAt.sub : ∀ {l : List T} {i : Nat} (h : i < l.length),NodeAt (encL l) (i * 8) l[i]
  | t :: l,0,_=>by
    unfold NodeAt
    simp only [Nat.zero_mul,List.drop_zero,encL,List.getElem_cons_zero]
    rw [List.take_append_of_le_length (by rw [encN_len];exact Nat.le_refl _),List.take_of_length_le (by rw [encN_len];exact Nat.le_refl _)]
  | t :: l,i + 1,h=>by
    have ih:=NodeAt.sub (l:=l) (i:=i) (by simpa using h)
    unfold NodeAt at ih ⊢
    simp only [encL,List.getElem_cons_succ]
    rw [List.drop_append,encN_len,List.drop_of_length_le (by rw [encN_len];omega),List.nil_append,show (i + 1) * 8 - 8=i * 8 by omega]
    exact ih

section
variable {fr : Fr} {C : Heap} {x : X} {cs : List DV} {off : Nat} {k a b c d mn mx : Int} {subs : List T}
theorem ld {j : Nat} {y : DV} (h : NodeAt cs off (.node k a b c d mn mx subs)) (hy : (encN (.node k a b c d mn mx subs))[j]?=some y) (hx : x.ev fr=.d (.ptr cs (off + j))) : xl fr C (.load none x)=some (.d y):=by
  have hj : j < 8:=by
    have:=(List.getElem?_eq_some_iff.1 hy).1
    rwa [encN_len] at this
  simp [xl,hx,rowOf,subA,h.get hj,hy]
theorem ld_kind (h : NodeAt cs off (.node k a b c d mn mx subs)) (hx : x.ev fr=.d (.ptr cs (off + 0))) : xl fr C (.load none x)=some (.i k):=ld h rfl hx
theorem ld_mn (h : NodeAt cs off (.node k a b c d mn mx subs)) (hx : x.ev fr=.d (.ptr cs (off + 5))) : xl fr C (.load none x)=some (.i mn):=ld h rfl hx
theorem ld_mx (h : NodeAt cs off (.node k a b c d mn mx subs)) (hx : x.ev fr=.d (.ptr cs (off + 6))) : xl fr C (.load none x)=some (.i mx):=ld h rfl hx
theorem ld_subs (h : NodeAt cs off (.node k a b c d mn mx subs)) (hx : x.ev fr=.d (.ptr cs (off + 7))) : xl fr C (.load none x)=some (.d (.sl (encL subs) subs.length)):=ld h rfl hx
theorem ld_set (h : NodeAt cs off (.node k a b c d mn mx subs)) (hx : x.ev fr=.d (.ptr cs (off + 1))) : xl fr C (.load (some 4) x)=some (.agg [.d (.val (.int .u64 a)),.d (.val (.int .u64 b)),.d (.val (.int .u64 c)),.d (.val (.int .u64 d))]):=by
  have hl:=h.len
  simp only [xl,hx,rowOf,subA,Option.bind_some,List.length_map]
  rw [if_pos (by omega)]
  have : (cs.drop (off + 1)).take 4=((encN (.node k a b c d mn mx subs)).drop 1).take 4:=by
    rw [← h,List.drop_take,List.take_take,List.drop_drop];rfl
  rw [← List.map_drop,← List.map_take,this]
  rfl
theorem ld_node (h : NodeAt cs off (.node k a b c d mn mx subs)) (hx : x.ev fr=.d (.ptr cs off)) : xl fr C (.load (some 8) x)=some (.agg [.i k,.d (.val (.int .u64 a)),.d (.val (.int .u64 b)),.d (.val (.int .u64 c)),.d (.val (.int .u64 d)),.i mn,.i mx,.d (.sl (encL subs) subs.length)]):=by
  have hl:=h.len
  simp only [xl,hx,rowOf,subA,Option.bind_some,List.length_map]
  rw [if_pos (by omega),← List.map_drop,← List.map_take,h]
  rfl
theorem ld_kind' {t : T} (h : NodeAt cs off t) (hx : x.ev fr=.d (.ptr cs (off + 0))) : xl fr C (.load none x)=some (.i t.kind):=by cases t;exact ld_kind h hx
theorem ld_mn' {t : T} (h : NodeAt cs off t) (hx : x.ev fr=.d (.ptr cs (off + 5))) : xl fr C (.load none x)=some (.i t.mn):=by cases t;exact ld_mn h hx
theorem ld_mx' {t : T} (h : NodeAt cs off t) (hx : x.ev fr=.d (.ptr cs (off + 6))) : xl fr C (.load none x)=some (.i t.mx):=by cases t;exact ld_mx h hx
theorem ld_subs' {t : T} (h : NodeAt cs off t) (hx : x.ev fr=.d (.ptr cs (off + 7))) : xl fr C (.load none x)=some (.d (.sl (encL t.subs) t.subs.length)):=by cases t;exact ld_subs h hx
theorem ix_sub {i : X} {l : List T} {j : Nat} (hx : x.ev fr=.d (.sl (encL l) l.length)) (hi : i.ev fr=.i j) (hj : j < l.length) : xp fr (.idxS 8 x i)=some (.d (.ptr (encL l) (j * 8))):=by
  have hne : encL l ≠ []:=fun h=>by
    have:=congrArg List.length h
    rw [encL_len] at this;simp at this;omega
  simp [xp,hx,hi,hne,intIn,hj]
end

def nodeA (t : T) : AV:=.agg ((encN t).map AV.d)
theorem ld_node' {fr : Fr} {C : Heap} {x : X} {cs : List DV} {off : Nat} {t : T} (h : NodeAt cs off t) (hx : x.ev fr=.d (.ptr cs off)) : xl fr C (.load (some 8) x)=some (nodeA t):=by
  cases t;exact ld_node h hx
def DV.nrm : DV→Bool
  | .val (.slice none 0 0)=>false
  | _=>true
def AV.nrm : AV→Bool
  | .d x=>x.nrm
  | .agg cs=>cs.all fun c=>match c with | .d x=>x.nrm | _=>false
  | _=>false
theorem DV.nrm_norm {x : DV} (h : x.nrm=true) : x.norm=x:=by
  unfold DV.nrm at h
  unfold DV.norm
  split at h
  · cases h
  · split
    · simp_all
    · rfl
theorem mapO_nrm {C : Heap} {ex : Nat→Bool} : ∀ (cs : List AV),(cs.all fun c=>match c with | .d x=>x.nrm | _=>false)=true→∃ ds,mapO (convC C ex 9) cs=some (ds,[])∧ds.map AV.d=cs
  | [],_=>⟨[],rfl,rfl⟩
  | c :: cs,h=>by
    simp only [List.all_cons,Bool.and_eq_true] at h
    obtain ⟨ds,h1,h2⟩:=mapO_nrm (C:=C) (ex:=ex) cs h.2
    cases c with
    | d x =>
      have hc : convC C ex 9 (.d x)=some (x.norm,[]):=rfl
      exact ⟨x :: ds,by simp [mapO,hc,h1,DV.nrm_norm h.1],by simp [h2]⟩
    | _=>exact absurd h.1 (by simp)
theorem convAs_nrm {C : Heap} {ex : Nat→Bool} : ∀ (l : List AV),l.all AV.nrm=true→convAs C ex l=some (l,[])
  | [],_=>rfl
  | v :: l,h=>by
    simp only [List.all_cons,Bool.and_eq_true] at h
    have ih:=convAs_nrm (C:=C) (ex:=ex) l h.2
    cases v with
    | d x=>simp [convAs,convA,convC,ih,DV.nrm_norm h.1]
    | agg cs =>
      obtain ⟨ds,h1,h2⟩:=mapO_nrm (C:=C) (ex:=ex) cs h.1
      simp [convAs,convA,h1,h2,ih]
    | _=>exact absurd h.1 (by simp [AV.nrm])
theorem nodeA_nrm (t : T) : (nodeA t).nrm=true:=by cases t;rfl
section
variable {P : Program} {Q : Cont} {fr : Fr} {C : Heap} {Z : Frz} {nx : Nat} {base n d : Nat} {l : List (Nat × XO)} {kp : Option (List Nat)}
theorem r_callA {f : FuncId} {xs : List X} {ags : List AV} {r : AV} (ha : xs.map (X.ev fr)=ags) (hn : ags.all AV.nrm=true) (hg : Good P f ags none r none none)
    (k : R P l base kp Q nx (fr.put d r) C Z) : R P ((n,⟨some d,none,.call f xs none false⟩) :: l) base kp Q nx fr C Z :=
  s_call ha (convAs_nrm ags hn) hg (by simp [Frz.add_nil]) k
theorem r_max2 {x y : X} {a b c : Int} (hx : x.ev fr=.i a) (hy : y.ev fr=.i b) (hc : max a b=c) (k : R P l base kp Q nx (fr.put d (.i c)) C Z) : R P ((n,⟨some d,none,.max [x,y]⟩) :: l) base kp Q nx fr C Z:=by
  refine s_p ?_ k
  simp only [xp,List.map,hx,hy,intsA,maxI,Option.bind_some,if_true,Option.map_some,List.foldl]
  congr 4
  subst hc
  rw [Int.max_def]
  split<;>split<;>omega
theorem r_min2 {x y : X} {a b c : Int} (hx : x.ev fr=.i a) (hy : y.ev fr=.i b) (hc : min a b=c) (k : R P l base kp Q nx (fr.put d (.i c)) C Z) : R P ((n,⟨some d,none,.min [x,y]⟩) :: l) base kp Q nx fr C Z:=by
  refine s_p ?_ k
  simp only [xp,List.map,hx,hy,intsA,minI,Option.bind_some,if_true,Option.map_some,List.foldl]
  congr 4
  subst hc
  rw [Int.min_def]
  split<;>split<;>omega
end

def FWk (ρ : Nat→Nat) (vt : Nat→Bool) (nx : Nat) (fr fr' : Fr) : Prop:=∀ s,AWk ρ vt nx (fr s) (fr' s)
section
variable {ρ : Nat→Nat} {vt : Nat→Bool} {nx : Nat} {fr fr' : Fr} {v v' : AV} {k : Nat}
theorem FWk.nil : FWk ρ vt nx fr Fr.nil:=fun s=>.dead _
theorem FWk.put (hv : AWk ρ vt nx v v') (h : FWk ρ vt nx fr fr') : FWk ρ vt nx (fr.put k v) (fr'.put k v'):=by
  intro s
  simp only [Fr.put]
  split
  · exact hv
  · exact h s
theorem FWk.of (hv : AWk ρ vt nx (fr k) v') (h : FWk ρ vt nx fr fr') : FWk ρ vt nx fr (fr'.put k v'):=by
  intro s
  simp only [Fr.put]
  split
  · rename_i e;subst e;exact hv
  · exact h s
theorem FWk.d {x y : DV} (hv : fr k=.d x) (e : x=y) (h : FWk ρ vt nx fr fr') : FWk ρ vt nx fr (fr'.put k (.d y)):=FWk.of (by rw [hv,e];exact .d _) h
theorem FWk.i {a b : Int} (hv : fr k=.i a) (e : a=b) (h : FWk ρ vt nx fr fr') : FWk ρ vt nx fr (fr'.put k (.i b)):=FWk.d hv (by rw [e]) h
theorem FWk.sl {b c off off' len len' sz : Nat} (hv : fr k=.slL c off len sz) (e1 : off=off') (e2 : len=len') (hc : c=ρ b) (hb : b < nx) (ht : vt b=false) (h : FWk ρ vt nx fr fr') : FWk ρ vt nx fr (fr'.put k (.slL b off' len' sz)):=FWk.of (by rw [hv,e1,e2];exact .slL _ _ _ _ _ hc hb ht) h
theorem FWk.ptr {b c off off' : Nat} (hv : fr k=.ptrL c off) (e1 : off=off') (hc : c=ρ b) (hb : b < nx) (ht : vt b=false) (h : FWk ρ vt nx fr fr') : FWk ρ vt nx fr (fr'.put k (.ptrL b off')):=FWk.of (by rw [hv,e1];exact .ptrL _ _ _ hc hb ht) h

def Frz.lo (n : Nat) : Frz:=fun k=>Nat.blt k n
def Frz.but (n b : Nat) : Frz:=fun k=>Nat.blt k n && !(Nat.beq k b)
def rho (n : Nat) : Nat→Nat:=fun b=>cond (Nat.blt b n) b 1000000
theorem rho_lt {n b : Nat} (h : b < n) : rho n b=b:=by
  have : Nat.blt b n=true:=(Eq.mpr Nat.blt_eq h)
  simp [rho,this]
theorem rho_ge {n b : Nat} (h : ¬ b < n) : rho n b=1000000:=by
  have : Nat.blt b n=false:=by
    cases e : Nat.blt b n with
    | false=>rfl
    | true=>exact absurd ((Eq.mp Nat.blt_eq e)) h
  simp [rho,this]
theorem lo_lt {n k : Nat} (h : k < n) : Frz.lo n k=true:=(Eq.mpr Nat.blt_eq h)
theorem but_lt {n b k : Nat} (h : k < n) (hb : k ≠ b) : Frz.but n b k=true:=by
  have h1 : Nat.blt k n=true:=(Eq.mpr Nat.blt_eq h)
  have h2 : Nat.beq k b=false:=by
    cases e : Nat.beq k b with
    | false=>rfl
    | true=>exact absurd (Nat.eq_of_beq_eq_true e) hb
  simp [Frz.but,h1,h2]
theorem wk0 {C : Heap} {Z : Frz} {nx nx' : Nat} {fr fr' : Fr} (hn : 0 < nx') (hf : FWk (rho nx') (fun _=>false) nx' fr fr') (hN : Z 1000000=false:=by rfl) : Wk ⟨fr,C,Z,nx⟩ ⟨fr',Heap.nil,Frz.lo nx',nx'⟩:=by
  refine ⟨rho nx',fun _=>false,⟨rho_lt hn,rfl,hn⟩,hf,fun b r' h=>by simp [Heap.nil] at h,fun b b' r r' h=>by simp [Heap.nil] at h,fun b hb=>?_⟩
  by_cases h : b < nx'
  · exact lo_lt h
  · simp only [rho_ge h,hN] at hb;cases hb
theorem wk1 {C : Heap} {Z : Frz} {nx nx' b : Nat} {fr fr' : Fr} {r r' : List AV} (hn : 0 < nx') (hb : b < nx') (hf : FWk (rho nx') (fun _=>false) nx' fr fr') (hr : C b=some r) (hz : Z b=false) (hrr : r.length=r'.length∧∀ (j : Nat) (h1 : j < r.length) (h2 : j < r'.length),AWk (rho nx') (fun _=>false) nx' r[j] r'[j]) (hN : Z 1000000=false) :
    Wk ⟨fr,C,Z,nx⟩ ⟨fr',Heap.nil.put b r',Frz.but nx' b,nx'⟩:=by
  have one : ∀ c s,Heap.put Heap.nil b r' c=some s→c=b∧s=r':=by
    intro c s h
    simp only [Heap.put,Heap.nil] at h
    split at h
    · rename_i e;cases h;exact ⟨e.symm,rfl⟩
    · cases h
  refine ⟨rho nx',fun _=>false,⟨rho_lt hn,rfl,hn⟩,hf,fun c s h=>?_,fun c c' r1 r2 h h' _ _ _=>?_,fun c hc=>?_⟩
  · obtain ⟨rfl,rfl⟩:=one c s h
    refine ⟨hb,.inr ⟨rfl,r,?_,hrr.1,hrr.2,fun _=>?_⟩⟩
    · simp only [rho_lt hb];exact hr
    · simp only [rho_lt hb];exact hz
  · exact (one c r1 h).1.trans (one c' r2 h').1.symm
  · by_cases h : c < nx'
    · simp only [rho_lt h] at hc
      refine but_lt h fun e=>?_
      rw [e,hz] at hc;cases hc
    · simp only [rho_ge h,hN] at hc;cases hc
theorem wk1D {C : Heap} {Z : Frz} {nx nx' b : Nat} {fr fr' : Fr} {r : List AV} (hn : 0 < nx') (hb : b < nx') (hr : C b=some r) (hz : Z b=false) (hd : r.all AV.isD=true) (hf : FWk (rho nx') (fun _=>false) nx' fr fr') (hN : Z 1000000=false:=by rfl) :
    Wk ⟨fr,C,Z,nx⟩ ⟨fr',Heap.nil.put b r,Frz.but nx' b,nx'⟩:=by
  refine wk1 hn hb hf hr hz ⟨rfl,fun j h1 h2=>?_⟩ hN
  have:=List.all_eq_true.1 hd _ (List.getElem_mem h1)
  revert this
  generalize r[j]=v
  intro h
  cases v with
  | d x=>exact .d x
  | _=>cases h
end
theorem w_loopF {P : Program} {c : XC} {Q : Cont} {ι : Type} (S : ι→St) (m : ι→Nat) (I : ι→Prop) (i0 : ι) {fr : Fr} {C : Heap} {Z : Frz} {nx : Nat} (hi : I i0) (h0 : Wkf ⟨fr,C,Z,nx⟩ (S i0))
    (h : ∀ i (K : St→Prop),I i→(∀ j fr C Z nx,I j→m j < m i→Wkf ⟨fr,C,Z,nx⟩ (S j)→K ⟨fr,C,Z,nx⟩)→W P c (thenK K Q) (S i).fr (S i).C (S i).Z (S i).nx) : W P (.loop c) Q fr C Z nx :=
  w_loop (ι:={i : ι // I i}) (fun i=>S i.1) (fun i=>m i.1) ⟨i0,hi⟩ h0 fun i K hK=>h i.1 K i.2 fun j fr C Z nx hj hm hw=>hK ⟨j,hj⟩ _ hm hw
theorem w_loopI {P : Program} {c : XC} {Q : Cont} {ι : Type} (S : ι→St) (m : ι→Nat) (I : ι→Prop) (i0 : ι) {fr : Fr} {C : Heap} {Z : Frz} {nx : Nat} (hi : I i0) (h0 : Wk ⟨fr,C,Z,nx⟩ (S i0))
    (h : ∀ i (K : St→Prop),I i→(∀ j fr C Z nx,I j→m j < m i→Wk ⟨fr,C,Z,nx⟩ (S j)→K ⟨fr,C,Z,nx⟩)→W P c (thenK K Q) (S i).fr (S i).C (S i).Z (S i).nx) : W P (.loop c) Q fr C Z nx :=
  w_loopF S m I i0 hi h0.f fun i K hi hK=>h i K hi fun j fr C Z nx hj hm hw=>hK j fr C Z nx hj hm hw.f
theorem fz1' {fr : Fr} {C : Heap} {Z : Frz} {nx k : Nat} {v : AV} {u : List Nat} (h : convA C (fun _=>false) (X.ev fr (.t k))=some (v,u)) {st' : St} (hw : Wkf ⟨fr.put k v,C,Z.add u,nx⟩ st') : Wkf ⟨fr,C,Z,nx⟩ st':=by
  refine Fz.then (b:=⟨fr.put k v,C,Z.add u,nx⟩) ⟨rfl,u,rfl,fun s=>?_,fun b=>.inl rfl⟩ hw
  show fr.put k v s=fr s ∨ _
  simp only [Fr.put]
  split
  · rename_i e;subst e;exact .inr ⟨u,h,fun b hb=>hb⟩
  · exact .inl rfl
theorem fz1 {fr : Fr} {C : Heap} {Z : Frz} {nx k : Nat} {v : AV} {u : List Nat} (h : convA C (fun _=>false) (X.ev fr (.t k))=some (v,u)) {st' : St} (hw : Wk ⟨fr.put k v,C,Z.add u,nx⟩ st') : Wkf ⟨fr,C,Z,nx⟩ st':=fz1' h hw.f
end Go.Sv
namespace Go.Sv
open Go
set_option linter.unusedVariables false
def encB (p : List Bool) : List DV:=p.map fun b=>.val (.bool b)
theorem encB_len (p : List Bool) : (encB p).length=p.length:=by simp [encB]
section
variable {P : Program} {Q : Cont} {fr : Fr} {C : Heap} {Z : Frz} {nx : Nat} {base n d : Nat} {l : List (Nat × XO)} {kp : Option (List Nat)} {x i : X} {p : List Bool} {j b : Nat} {v : Bool}
theorem ix_b (hx : x.ev fr=.d (.sl (encB p) p.length)) (hi : i.ev fr=.i j) (hj : j < p.length) : xp fr (.idxS 1 x i)=some (.d (.ptr (encB p) j)):=by
  have hne : encB p ≠ []:=fun h=>by
    have:=congrArg List.length h
    rw [encB_len,List.length_nil] at this;omega
  simp [xp,hx,hi,hne,intIn,hj]
theorem ld_b (hx : x.ev fr=.d (.ptr (encB p) j)) (hb : p[j]?=some v) : xl fr C (.load none x)=some (.b v):=by
  simp [xl,hx,rowOf,subA,encB,hb]
theorem r_ixB {v : Bool} (hx : x.ev fr=.d (.sl (encB p) p.length)) (hi : i.ev fr=.i j) (hj : j < p.length) (k : R P l base kp Q nx (fr.put d (.d (.ptr (encB p) j))) C Z) : R P ((n,⟨some d,none,.idxS 1 x i⟩) :: l) base kp Q nx fr C Z:=r_p (ix_b hx hi hj) k
theorem r_ldB (hx : x.ev fr=.d (.ptr (encB p) j)) (hb : p[j]?=some v) (k : R P l base kp Q nx (fr.put d (.b v)) C Z) : R P ((n,⟨some d,none,.load none x⟩) :: l) base kp Q nx fr C Z:=r_l (ld_b hx hb) k
theorem r_ixL {m : Nat} (hx : x.ev fr=.slL b 0 m 1) (hi : i.ev fr=.i j) (hj : j < m) (k : R P l base kp Q nx (fr.put d (.ptrL b j)) C Z) : R P ((n,⟨some d,none,.idxS 1 x i⟩) :: l) base kp Q nx fr C Z:=by
  refine r_p ?_ k
  simp [xp,hx,hi,intIn,hj]
theorem r_ldBL (hx : x.ev fr=.ptrL b j) (hr : C b=some ((encB p).map AV.d)) (hb : p[j]?=some v) (k : R P l base kp Q nx (fr.put d (.b v)) C Z) : R P ((n,⟨some d,none,.load none x⟩) :: l) base kp Q nx fr C Z:=by
  refine r_l ?_ k
  simp [xl,hx,rowOf,hr,subA,encB,hb]
theorem splice_encB (hj : j < p.length) : splice ((encB p).map AV.d) j [.b v]=(encB (p.set j v)).map AV.d:=by
  have : (p.set j v)=p.take j++v :: p.drop (j + 1):=by rw [List.set_eq_take_append_cons_drop,if_pos hj]
  rw [this]
  simp [splice,encB,List.map_take,List.map_drop]
theorem r_stB {a : X} (ha : a.ev fr=.ptrL b j) (hx : x.ev fr=.b v) (hr : C b=some ((encB p).map AV.d)) (hz : Z b=false) (hj : j < p.length) (k : R P l base kp Q nx fr (C.put b ((encB (p.set j v)).map AV.d)) Z) : R P ((n,⟨none,none,.store 1 a x⟩) :: l) base kp Q nx fr C Z:=by
  refine r_stL (cs:=[.b v]) ha hr hx rfl hz ?_ (splice_encB hj) k
  simp [AV.one,encB];omega
theorem repl_encB : ∀ (m : Nat),repl (zeroA [.bool false]) m=(encB (List.replicate m false)).map AV.d
  | 0=>rfl
  | m + 1=>by rw [repl,repl_encB m];simp [zeroA,encB,List.replicate_succ]
theorem r_mksB {c : X} {e : Int} {id m : Nat} (hl : i.ev fr=.i e) (hc : c.ev fr=.i e) (hid : base + n=id) (hm : e=(m : Nat)) (hb : m≤281474976710656) (k : R P l base kp Q nx (fr.put d (.slL id 0 m 1)) (C.put id ((encB (List.replicate m false)).map AV.d)) Z) : R P ((n,⟨some d,none,.mks [.bool false] 1 i c⟩) :: l) base kp Q nx fr C Z:=by
  subst hid
  subst hm
  refine r_n (r:=(encB (List.replicate m false)).map AV.d) ?_ k
  simp only [xn,hl,hc]
  rw [if_pos (by omega)]
  simp [repl_encB]
theorem encB_isD : ((encB p).map AV.d).all AV.isD=true:=by simp [encB,AV.isD]
end
end Go.Sv
namespace Go.Sv
open Go
set_option linter.unusedVariables false
def byteN (s : ByteArray) (j : Nat) : Nat:=(s.data.getD j 0).toNat
def bitG (w : Int) (c : Nat) : Bool:=decide (w / 2 ^ (c % 64) % 2=1)
def inG (a b c d : Int) (x : Nat) : Bool:=bitG ([a,b,c,d].getD (x / 64) 0) x
section
variable {P : Program} {Q : Cont} {fr : Fr} {C : Heap} {Z : Frz} {nx : Nat} {base n d : Nat} {l : List (Nat × XO)} {kp : Option (List Nat)} {x i y : X} {p : List Bool} {j b c : Nat} {v : Bool}
theorem r_eqlU {a b : Int} {r : Bool} (hx : x.ev fr=.d (.val (.int .u64 a))) (hy : y.ev fr=.d (.val (.int .u64 b))) (h : decide (a=b)=r) (k : R P l base kp Q nx (fr.put d (.b r)) C Z) : R P ((n,⟨some d,none,.arith .eql x y⟩) :: l) base kp Q nx fr C Z:=by
  subst h
  refine r_p ?_ k
  simp [xp,hx,hy,arith];rfl
def SetAt (cs : List DV) (off : Nat) (w0 w1 w2 w3 : Int) : Prop:=∀ j,j < 4→cs[off + j]?=some (.val (.int .u64 ([w0,w1,w2,w3].getD j 0)))
theorem NodeAt.set {cs : List DV} {off : Nat} {k a b c d mn mx : Int} {subs : List T} (h : NodeAt cs off (.node k a b c d mn mx subs)) : SetAt cs (off + 1) a b c d:=by
  intro j hj
  have:=h.get (j:=1 + j) (by omega)
  rw [show off + 1 + j=off + (1 + j) by omega,this]
  match j,hj with
  | 0,_=>rfl
  | 1,_=>rfl
  | 2,_=>rfl
  | 3,_=>rfl
theorem okW_div {w : Int} (h : 0≤w∧w < 18446744073709551616) (c : Nat) : 0≤w / 2 ^ c∧w / 2 ^ c < 18446744073709551616:=by
  have hp : (0 : Int) < 2 ^ c:=Int.pow_pos (by omega)
  refine ⟨Int.ediv_nonneg h.1 (Int.le_of_lt hp),Int.lt_of_le_of_lt (Int.ediv_le_self _ h.1) h.2⟩
theorem r_ixB' {m : Nat} {p : List Bool} (hx : x.ev fr=.d (.sl (encB p) m)) (hi : i.ev fr=.i j) (hj : j < m) (hm : p.length=m) (k : R P l base kp Q nx (fr.put d (.d (.ptr (encB p) j))) C Z) : R P ((n,⟨some d,none,.idxS 1 x i⟩) :: l) base kp Q nx fr C Z:=by
  subst hm
  exact r_ixB (v:=true) hx hi hj k
theorem mapO_d {C : Heap} {ex : Nat→Bool} : ∀ (l : List DV),mapO (convC C ex 8) (l.map AV.d)=some (l.map DV.norm,[])
  | []=>rfl
  | x :: l=>by
    have hc : convC C ex 8 (.d x)=some (x.norm,[]):=rfl
    simp [mapO,hc,mapO_d l]
theorem norm_encB (p : List Bool) : (encB p).map DV.norm=encB p:=by simp [encB,DV.norm]
theorem retSB {live : Bool} {b m : Nat} {p : List Bool} (hC : C b=some ((encB p).map AV.d)) (hm : p.length=m) : RetOK C Z (tupOf [.slL b 0 m 1]) live (.d (.sl (encB p) m)) none none:=by
  refine .data _ ?_
  subst hm
  simp only [tupOf,convT,convA,convC]
  split
  · rename_i h
    rw [h,List.length_eq_zero_iff.1 h];rfl
  · simp only [Bool.false_eq_true,false_or,Nat.one_ne_zero,if_false,hC,Option.bind_some,List.drop_zero,Nat.zero_add,Nat.mul_one,List.length_map,encB_len,Nat.le_refl,if_true]
    rw [List.take_of_length_le (by simp [encB_len]),mapO_d,norm_encB]
    rfl
end
end Go.Sv
namespace Go.Sv
open Go
set_option linter.unusedVariables false
def encI (l : List Int) : List DV:=l.map fun n=>.val (.int .i64 n)
theorem encI_len (l : List Int) : (encI l).length=l.length:=by simp [encI]
theorem encI_isD {l : List Int} : ((encI l).map AV.d).all AV.isD=true:=by simp [encI,AV.isD]
theorem norm_encI (p : List Int) : (encI p).map DV.norm=encI p:=by simp [encI,DV.norm]
section
variable {P : Program} {Q : Cont} {fr : Fr} {C : Heap} {Z : Frz} {nx : Nat} {base n d : Nat} {l : List (Nat × XO)} {kp : Option (List Nat)} {x i y s : X}
theorem r_mkrow1 {v : Int} {id : Nat} (hx : x.ev fr=.i v) (hid : base + n=id) (k : R P l base kp Q nx (fr.put d (.slL id 0 1 1)) (C.put id [.i v]) Z) : R P ((n,⟨some d,none,.mkrow [(.int .i64 0)] 1 1 [(0,1,x)]⟩) :: l) base kp Q nx fr C Z:=by
  subst hid
  refine r_n (r:=[.i v]) ?_ k
  simp [xn,repl,zeroA,hx,cellsOf,fillA,splice,AV.one]
theorem r_app1 {b c m id : Nat} {li : List Int} {v : Int} (hs : s.ev fr=.slL b 0 m 1) (hx : x.ev fr=.slL c 0 1 1) (hC : C b=some ((encI li).map AV.d)) (hCc : C c=some [.i v]) (hz : Z b=false) (hid : base + n=id) (hm : li.length=m) (hb : m≤100000000000)
    (k : R P l base kp Q nx (fr.put d (.slL id 0 (m + 1) 1)) ((C.del b).put id ((encI (li++[v])).map AV.d)) Z) : R P ((n,⟨some d,none,.app [(.int .i64 0)] 8 s x⟩) :: l) base kp Q nx fr C Z:=by
  subst hid hm
  refine r_w (v:=.slL (base + n) 0 (li.length + 1) 1) (C':=(C.del b).put (base + n) ((encI (li++[v])).map AV.d)) ?_ k
  have h1 : srcOf C 1 (.slL c 0 1 1)=some ([.i v],1):=by simp [srcOf,hCc]
  simp only [xw,List.length_cons,List.length_nil,Nat.zero_add,hx,h1,Option.bind_some,hs,hC]
  simp only [List.all_cons,AV.one,List.all_nil,Bool.and_self,if_true]
  have h2 : (1 : Nat)=1∧Z b=false∧li.length * 1≤((encI li).map AV.d).length∧(li.length + 1) * 8≤140737488355328:=⟨rfl,hz,by simp [encI],by omega⟩
  simp only [h2,and_self,if_true,h2.2.1,h2.2.2.1,h2.2.2.2]
  congr 4
  rw [List.take_of_length_le (by simp [encI])]
  simp [encI]
theorem FWk.slN {ρ : Nat→Nat} {vt : Nat→Bool} {nx : Nat} {fr fr' : Fr} {k b sz : Nat} (hv : fr k=.d (.val (.slice none 0 0))) (hb : b < nx) (ht : vt b=true) (h : FWk ρ vt nx fr fr') : FWk ρ vt nx fr (fr'.put k (.slL b 0 0 sz)):=FWk.of (by rw [hv];exact .slN _ _ hb ht) h
def rhoC (n b c : Nat) : Nat→Nat:=fun k=>cond (Nat.beq k b) c (rho n k)
theorem rhoC_eq {n b c : Nat} : rhoC n b c b=c:=by simp [rhoC]
theorem rhoC_ne {n b c k : Nat} (h : k ≠ b) : rhoC n b c k=rho n k:=by
  have h2 : Nat.beq k b=false:=by
    cases e : Nat.beq k b with
    | false=>rfl
    | true=>exact absurd (Nat.eq_of_beq_eq_true e) h
  simp [rhoC,h2]
theorem conv_slI {C : Heap} {ex : Nat→Bool} {b m : Nat} {p : List Int} (hex : ex b=false) (hC : C b=some ((encI p).map AV.d)) (hm : p.length=m) : convC C ex 9 (.slL b 0 m 1)=some (.sl (encI p) m,if m=0 then [] else [b]):=by
  subst hm
  simp only [convC]
  split
  · rename_i h
    rw [List.length_eq_zero_iff.1 h];rfl
  · simp only [hex,Bool.false_eq_true,false_or,Nat.one_ne_zero,if_false,hC,Option.bind_some,List.drop_zero,Nat.zero_add,Nat.mul_one,List.length_map,encI_len,Nat.le_refl,if_true]
    rw [List.take_of_length_le (by simp [encI_len]),mapO_d,norm_encI]
    rfl
theorem conv_slB {C : Heap} {ex : Nat→Bool} {b m : Nat} {p : List Bool} (hex : ex b=false) (hC : C b=some ((encB p).map AV.d)) (hm : p.length=m) (h0 : 0 < m) : convC C ex 9 (.slL b 0 m 1)=some (.sl (encB p) m,[b]):=by
  subst hm
  simp only [convC]
  rw [if_neg (by omega)]
  simp only [hex,Bool.false_eq_true,false_or,Nat.one_ne_zero,if_false,hC,Option.bind_some,List.drop_zero,Nat.zero_add,Nat.mul_one,List.length_map,encB_len,Nat.le_refl,if_true]
  rw [List.take_of_length_le (by simp [encB_len]),mapO_d,norm_encB]
  rfl
end
end Go.Sv
namespace Go.Sv
open Go
set_option linter.unusedVariables false
section
variable {P : Program} {Q : Cont} {fr : Fr} {C : Heap} {Z : Frz} {nx : Nat} {base n d : Nat} {l : List (Nat × XO)} {kp : Option (List Nat)} {x i y s : X}
end
end Go.Sv
namespace Go.Sv
open Go
set_option linter.unusedVariables false

def frOf : List (Nat × AV)→Fr
  | []=>Fr.nil
  | (k,v) :: l=>(frOf l).put k v
def heapOf : List (Nat × List AV)→Heap
  | []=>Heap.nil
  | (k,r) :: l=>(heapOf l).put k r
def zOf (l : List Nat) : Frz:=fun k=>l.contains k

structure LS where
  fr : List (Nat × AV)
  C : List (Nat × List AV)
  Z : List Nat
  nx : Nat
def LS.st (s : LS) : St:=⟨frOf s.fr,heapOf s.C,zOf s.Z,s.nx⟩

def tabH (C : Heap) : List Nat→List (Nat × List AV)
  | []=>[]
  | k :: ks=>match C k with
    | some r=>(k,r) :: tabH C ks
    | none=>tabH C ks

theorem heapOf_tab (C : Heap) : ∀ (ks : List Nat) (b : Nat),heapOf (tabH C ks) b=if b ∈ ks then C b else none
  | [],b=>by simp [tabH,heapOf,Heap.nil]
  | k :: ks,b=>by
    have ih:=heapOf_tab C ks b
    simp only [tabH]
    split
    · rename_i r hr
      simp only [heapOf,Heap.put,ih]
      by_cases h : k=b
      · subst h;simp [hr]
      · simp [h,Ne.symm h]
    · rename_i hr
      rw [ih]
      by_cases h : b=k
      · subst h;simp [hr]
      · simp [h]
theorem heapOf_tab_eq {C : Heap} {ks : List Nat} (h : ∀ b,b ∉ ks→C b=none) : heapOf (tabH C ks)=C:=by
  funext b
  rw [heapOf_tab]
  split
  · rfl
  · rename_i hb;exact (h b hb).symm
theorem heapOf_none : ∀ {l : List (Nat × List AV)} {b : Nat},b ∉ l.map (·.1)→heapOf l b=none
  | [],b,_=>rfl
  | (k,r) :: l,b,h=>by
    simp only [List.map_cons,List.mem_cons,not_or] at h
    simp only [heapOf,Heap.put]
    rw [if_neg (Ne.symm h.1)]
    exact heapOf_none h.2
theorem zOf_add (l us : List Nat) : (zOf l).add us=zOf (l++us):=by
  funext k;simp [zOf,Frz.add]

abbrev CallF:=FuncId→List AV→Option (List DV)→Option (AV × Option (List DV) × Option (List DV))

def unD : List AV→Option (List DV)
  | []=>some []
  | .d x :: l=>(unD l).map fun r=>x :: r
  | _=>none
theorem unD_eq : ∀ {l : List AV} {ds : List DV},unD l=some ds→l=ds.map AV.d
  | [],ds,h=>by simp [unD] at h;subst h;rfl
  | .d x :: l,ds,h=>by
    simp only [unD] at h
    obtain ⟨r,h1,rfl⟩:=Option.map_eq_some_iff.1 h
    rw [unD_eq h1];rfl
  | .agg _ :: l,ds,h=>by simp [unD] at h
  | .tup _ :: l,ds,h=>by simp [unD] at h
  | .ptrL _ _ :: l,ds,h=>by simp [unD] at h
  | .slL _ _ _ _ :: l,ds,h=>by simp [unD] at h
  | .fnL _ _ :: l,ds,h=>by simp [unD] at h
  | .dead :: l,ds,h=>by simp [unD] at h

def evCall (cf : CallF) (C : Heap) (Z : Frz) (id : Nat) (f : FuncId) (as : List AV) (lp : Option Nat) (nw : Bool) (kp : Option Nat:=none) : Option (AV × Heap × List Nat) :=
  match lp with
  | none=>match convAs C (fun _=>false) as with
    | none=>none
    | some (bs,us)=>match cf f (keepN kp as bs) none with
      | some (r,none,nr)=>if nr.isSome=nw∧(nw=true→r.flat=true) then some (if nw then r.ren 0 id else r,putO C id nr,if r.scalar && scalO nr then [] else us) else none
      | _=>none
  | some j=>match (as[j]?).bind liveB with
    | none=>none
    | some b=>match (C b).bind unD with
      | none=>none
      | some ds=>if Z b=false then
        match convAsL C b j as with
        | none=>none
        | some (bs,us)=>match cf f bs (some ds) with
          | none=>none
          | some (r,row',nr)=>if nr.isSome=nw∧r.flat=true then some (r.ren b id,putO (setO C b row') id nr,if r.scalar && scalO row' && scalO nr then [] else us) else none
        else none

theorem evCall_sound {P : Program} {cf : CallF} (hcf : ∀ f as row r row' nw,cf f as row=some (r,row',nw)→Good P f as row r row' nw) {C : Heap} {Z : Frz} {id : Nat} {f : FuncId} {as : List AV} {lp : Option Nat} {nw : Bool} {kp : Option Nat} {v : AV} {C' : Heap} {us : List Nat}
    (h : evCall cf C Z id f as lp nw kp=some (v,C',us)) : XCall P C Z id f as lp nw v C' (Z.add us):=by
  unfold evCall at h
  split at h
  · split at h
    · cases h
    rename_i bs us' h1
    split at h
    · rename_i r nr h2
      split at h
      · rename_i hc
        cases h
        exact ⟨bs,us',r,nr,kp,h1,hcf _ _ _ _ _ _ h2,hc.1,hc.2,rfl,rfl,rfl⟩
      · cases h
    · cases h
  · rename_i j
    split at h
    · cases h
    rename_i b h0
    split at h
    · cases h
    rename_i ds h1
    split at h
    case isFalse=>cases h
    rename_i hz
    split at h
    · cases h
    rename_i bs us' h2
    split at h
    · cases h
    rename_i r row' nr h3
    split at h
    · rename_i hc
      cases h
      obtain ⟨cells,h4,h5⟩:=Option.bind_eq_some_iff.1 h1
      exact ⟨b,ds,bs,us',r,row',nr,h0,by rw [h4,unD_eq h5],hz,h2,hcf _ _ _ _ _ _ h3,hc.1,hc.2,rfl,rfl,rfl⟩
    · cases h

def lpOf (as : List AV) : Option Nat→Option Nat
  | none=>none
  | some j=>if ((as[j]?).bind liveB).isSome then some j else none
theorem lpOf_or {as : List AV} {lp : Option Nat} : lpOf as lp=lp ∨ lpOf as lp=none:=by
  cases lp with
  | none=>exact .inl rfl
  | some j =>
    by_cases h : ((as[j]?).bind liveB).isSome=true
    · exact .inl (by simp only [lpOf];rw [if_pos h])
    · exact .inr (by simp only [lpOf];rw [if_neg h])
def evStep (cf : CallF) (fr : Fr) (C : Heap) (Z : Frz) (id : Nat) (i : XI) : Option (AV × Heap × List Nat) :=
  match i with
  | .call f args lp nw=>evCall cf C Z id f (args.map (X.ev fr)) (lpOf (args.map (X.ev fr)) lp) nw lp
  | .callv g args=>match g.ev fr with
    | .fnL f caps=>evCall cf C Z id f (args.map (X.ev fr)++caps) none false
    | .d (.fn f ds)=>evCall cf C Z id f (args.map (X.ev fr)++ds.map AV.d) none false
    | _=>none
  | .storeA n a x av=>if av.all (fun s=>sepL (a.ev fr) (fr s))=true then (xi fr C Z id (.store n a x)).map fun p=>(p.1,p.2,[]) else none
  | .callA f args j av=>if av.all (fun s=>sepO (args.map (X.ev fr))[j]? (fr s))=true then evCall cf C Z id f (args.map (X.ev fr)) (some j) false else none
  | i=>(xi fr C Z id i).map fun p=>(p.1,p.2,[])
theorem evStep_sound {P : Program} {cf : CallF} (hcf : ∀ f as row r row' nw,cf f as row=some (r,row',nw)→Good P f as row r row' nw) {fr : Fr} {C : Heap} {Z : Frz} {id : Nat} {i : XI} {v : AV} {C' : Heap} {us : List Nat}
    (h : evStep cf fr C Z id i=some (v,C',us)) : XStep P fr C Z id i v C' (Z.add us):=by
  cases i with
  | call f args lp nw=>exact ⟨_,lpOf_or,evCall_sound hcf h⟩
  | callv g args =>
    simp only [evStep] at h
    split at h
    · rename_i f caps hg
      exact ⟨f,caps,.inl hg,evCall_sound hcf h⟩
    · rename_i f ds hg
      exact ⟨f,_,.inr ⟨ds,hg,rfl⟩,evCall_sound hcf h⟩
    · cases h
  | storeA n a x av =>
    simp only [evStep] at h
    split at h
    · rename_i hav
      obtain ⟨p,h1,h2⟩:=Option.map_eq_some_iff.1 h
      cases h2
      exact ⟨hav,h1,Frz.add_nil _⟩
    · cases h
  | callA f args j av =>
    simp only [evStep] at h
    split at h
    · rename_i hav
      exact ⟨hav,evCall_sound hcf h⟩
    · cases h
  | _ =>
    simp only [evStep] at h
    obtain ⟨p,h1,h2⟩:=Option.map_eq_some_iff.1 h
    cases h2
    exact ⟨h1,Frz.add_nil _⟩

def evOps (cf : CallF) : List (Nat × XO)→Nat→LS→Option LS
  | [],_,s=>some s
  | (i,o) :: l,base,s =>
    match wantB (frOf s.fr) o.guard with
    | some true=>match evStep cf (frOf s.fr) (heapOf s.C) (zOf s.Z) (base + i) o.i with
      | some (v,C',us)=>evOps cf l base ⟨match o.dst with | some d=>(d,v) :: s.fr | none=>s.fr,tabH C' ((base + i) :: s.C.map (·.1)),s.Z++us,s.nx⟩
      | none=>none
    | some false=>evOps cf l base ⟨match o.dst with | some d=>(d,.tup []) :: s.fr | none=>s.fr,s.C,s.Z,s.nx⟩
    | none=>none

theorem frOf_putO (fr : List (Nat × AV)) (d : Option Nat) (v : AV) : frOf (match d with | some d=>(d,v) :: fr | none=>fr)=Fr.putO (frOf fr) d v:=by
  cases d<;>rfl
theorem evOps_sound {P : Program} {cf : CallF} (hcf : ∀ f as row r row' nw,cf f as row=some (r,row',nw)→Good P f as row r row' nw) {K : Fr→Heap→Frz→Prop} : ∀ {l : List (Nat × XO)} {base : Nat} {s s' : LS},evOps cf l base s=some s' →
    K (frOf s'.fr) (heapOf s'.C) (zOf s'.Z)→aRun P l base K (frOf s.fr) (heapOf s.C) (zOf s.Z)
  | [],base,s,s',h,hK=>by simp [evOps] at h;subst h;exact hK
  | (i,o) :: l,base,s,s',h,hK=>by
    simp only [evOps] at h
    split at h
    · rename_i hw
      split at h
      · rename_i v C' us hs
        have ih:=evOps_sound hcf h hK
        have hx:=evStep_sound hcf hs
        have e : heapOf (tabH C' ((base + i) :: s.C.map (·.1)))=C':=heapOf_tab_eq fun b hb=>by
          simp only [List.mem_cons,not_or] at hb
          exact XStep_free hx (heapOf_none hb.2) hb.1
        rw [e,frOf_putO,← zOf_add] at ih
        exact ⟨v,C',_,.inl ⟨hw,hx⟩,ih⟩
      · cases h
    · rename_i hw
      have ih:=evOps_sound hcf h hK
      rw [frOf_putO] at ih
      exact ⟨_,_,_,.inr ⟨hw,rfl,rfl,rfl⟩,ih⟩
    · cases h

def okA (n : Nat) : Nat→AV→Bool
  | _,.d _=>true
  | _,.dead=>true
  | _,.ptrL b _=>Nat.blt b n
  | _,.slL b _ _ _=>Nat.blt b n
  | k + 1,.agg cs=>cs.all (okA n k)
  | k + 1,.tup cs=>cs.all (okA n k)
  | k + 1,.fnL _ cs=>cs.all (okA n k)
  | 0,_=>false
theorem okA_wk {n : Nat} : ∀ (k : Nat) (v : AV),okA n k v=true→AWk (fun b=>b) (fun _=>false) n v v
  | k,.d x,_=>.d x
  | k,.dead,_=>.dead _
  | k,.ptrL b off,h=>.ptrL b b off rfl (by simpa [okA] using h) rfl
  | k,.slL b off len sz,h=>.slL b b off len sz rfl (by simpa [okA] using h) rfl
  | k + 1,.agg cs,h=>.agg cs cs rfl fun j h1 _=>okA_wk k _ (List.all_eq_true.1 (show cs.all (okA n k)=true from h) _ (List.getElem_mem h1))
  | k + 1,.tup cs,h=>.tup cs cs rfl fun j h1 _=>okA_wk k _ (List.all_eq_true.1 (show cs.all (okA n k)=true from h) _ (List.getElem_mem h1))
  | k + 1,.fnL f cs,h=>.fnL f cs cs rfl fun j h1 _=>okA_wk k _ (List.all_eq_true.1 (show cs.all (okA n k)=true from h) _ (List.getElem_mem h1))
  | 0,.agg cs,h=>by simp [okA] at h
  | 0,.tup cs,h=>by simp [okA] at h
  | 0,.fnL f cs,h=>by simp [okA] at h
def okLS (s : LS) : Bool:=Nat.blt 0 s.nx && s.fr.all (fun p=>okA s.nx 4 p.2) && s.C.all (fun p=>Nat.blt p.1 s.nx && p.2.all (okA s.nx 4))
theorem frOf_all {p : AV→Prop} (hd : p .dead) : ∀ (l : List (Nat × AV)),(∀ x ∈ l,p x.2)→∀ s,p (frOf l s)
  | [],_,s=>hd
  | (k,v) :: l,h,s=>by
    simp only [frOf,Fr.put]
    split
    · exact h (k,v) (by simp)
    · exact frOf_all hd l (fun x hx=>h x (by simp [hx])) s
theorem heapOf_mem : ∀ {l : List (Nat × List AV)} {b : Nat} {r : List AV},heapOf l b=some r→(b,r) ∈ l
  | [],b,r,h=>by simp [heapOf,Heap.nil] at h
  | (k,x) :: l,b,r,h=>by
    simp only [heapOf,Heap.put] at h
    split at h
    · rename_i e;cases h;subst e;simp
    · exact List.mem_cons_of_mem _ (heapOf_mem h)
theorem okLS_wk {s : LS} (h : okLS s=true) : Wk s.st s.st:=by
  simp only [okLS,Bool.and_eq_true] at h
  obtain ⟨⟨h1,h2⟩,h3⟩:=h
  refine ⟨fun b=>b,fun _=>false,⟨rfl,rfl,show 0 < s.nx by simpa using h1⟩,fun k=>?_,fun b r hb=>?_,fun b b' r r' _ _ _ _ e=>e,fun b hb=>hb⟩
  · exact frOf_all (p:=fun v=>AWk (fun b=>b) (fun _=>false) s.st.nx v v) (.dead _) s.fr (fun x hx=>okA_wk 4 _ (List.all_eq_true.1 h2 x hx)) k
  · have hm:=List.all_eq_true.1 h3 _ (heapOf_mem hb)
    simp only [Bool.and_eq_true] at hm
    exact ⟨show b < s.nx by simpa using hm.1,.inr ⟨rfl,r,hb,rfl,fun j g1 _=>okA_wk 4 _ (List.all_eq_true.1 hm.2 _ (List.getElem_mem g1)),fun e=>e⟩⟩

def AV.now {α : Type} (v : AV) (k : AV→α) : α :=
  match v with
  | .d x=>match x with
    | .val u=>match u with
      | .int kd n=>match n with
        | .ofNat m=>k (.d (.val (.int kd (.ofNat m))))
        | .negSucc m=>k (.d (.val (.int kd (.negSucc m))))
      | .bool b=>match b with
        | true=>k (.d (.val (.bool true)))
        | false=>k (.d (.val (.bool false)))
      | u=>k (.d (.val u))
    | x=>k (.d x)
  | v=>k v
theorem AV.now_eq {α : Type} (v : AV) (k : AV→α) : v.now k=k v:=by
  unfold AV.now
  repeat' split
  all_goals rfl
def keepLs : List Nat→List (Nat × AV)→List (Nat × AV)→List (Nat × AV)
  | [],acc,_=>acc
  | k :: ks,acc,fr=>(frOf fr k).now fun v=>keepLs ks ((k,v) :: acc) fr
theorem keepLs_eq : ∀ (ks : List Nat) (acc fr : List (Nat × AV)),frOf (keepLs ks acc fr)=Fr.keepL ks (frOf acc) (frOf fr)
  | [],acc,fr=>rfl
  | k :: ks,acc,fr=>by simp only [keepLs,AV.now_eq];rw [keepLs_eq ks];rfl
def keepOs : Option (List Nat)→List (Nat × AV)→List (Nat × AV)
  | none,fr=>fr
  | some l,fr=>keepLs l [] fr
theorem keepOs_eq (kp : Option (List Nat)) (fr : List (Nat × AV)) : frOf (keepOs kp fr)=Fr.keepO kp (frOf fr):=by
  cases kp with
  | none=>rfl
  | some l=>exact keepLs_eq l [] fr

def loopE (body : LS→Option (Exit × LS)) : Nat→LS→Option (Exit × LS)
  | 0,_=>none
  | n + 1,s=>if okLS s=true then
      match body s with
      | some (.normal,s')=>loopE body n s'
      | r=>r
    else none

def evC (cf : CallF) (n : Nat) : XC→LS→Option (Exit × LS)
  | .skip,s=>some (.normal,s)
  | .ops m l kp,s=>match evOps cf l s.nx s with
    | some s'=>some (.normal,⟨keepOs kp s'.fr,s'.C,s'.Z,s.nx + m⟩)
    | none=>none
  | .seq a b,s=>match evC cf n a s with
    | some (.normal,s')=>evC cf n b s'
    | r=>r
  | .cond c a b,s=>match c.ev (frOf s.fr) with
    | .d (.val (.bool true))=>evC cf n a s
    | .d (.val (.bool false))=>evC cf n b s
    | _=>none
  | .block id c,s=>match evC cf n c s with
    | some (.exit i,s')=>if i=id then some (.normal,s') else some (.exit i,s')
    | r=>r
  | .loop c,s=>loopE (evC cf n c) n s
  | .exit id,s=>some (.exit id,s)
  | .ret,s=>some (.ret,s)

theorem loopE_sound {P : Program} {c : XC} {body : LS→Option (Exit × LS)} (hb : ∀ s e s',body s=some (e,s')→∀ Q : Cont,Q e s'.st→xwp P c Q s.st) : ∀ (n : Nat) (s : LS) (e : Exit) (s' : LS),loopE body n s=some (e,s')→∀ Q : Cont,Q e s'.st→xloop (xwp P c) Q n s.st
  | 0,s,e,s',h=>by simp [loopE] at h
  | n + 1,s,e,s',h=>by
    intro Q hQ
    simp only [loopE] at h
    split at h
    case isFalse=>cases h
    rename_i hok
    refine ⟨s.st,(okLS_wk hok).f,?_⟩
    split at h
    · rename_i s1 h1
      exact hb _ _ _ h1 _ (loopE_sound hb n s1 e s' h Q hQ)
    · rename_i r hne
      refine hb _ _ _ h _ ?_
      cases e with
      | normal=>exact absurd h (hne s')
      | _=>exact hQ
theorem evC_sound {P : Program} {cf : CallF} (hcf : ∀ f as row r row' nw,cf f as row=some (r,row',nw)→Good P f as row r row' nw) (n : Nat) : ∀ (c : XC) (s : LS) (e : Exit) (s' : LS),evC cf n c s=some (e,s')→∀ Q : Cont,Q e s'.st→xwp P c Q s.st:=by
  intro c
  induction c with
  | skip=>intro s e s' h Q hQ;simp [evC] at h;obtain ⟨rfl,rfl⟩:=h;exact hQ
  | ops m l kp =>
    intro s e s' h Q hQ
    simp only [evC] at h
    split at h
    · rename_i s1 h1
      cases h
      refine evOps_sound hcf h1 (K:=opsK kp Q (s.nx + m)) ?_
      show Q .normal ⟨Fr.keepO kp (frOf s1.fr),heapOf s1.C,zOf s1.Z,s.nx + m⟩
      rw [← keepOs_eq];exact hQ
    · cases h
  | seq a b iha ihb =>
    intro s e s' h Q hQ
    simp only [evC] at h
    split at h
    · rename_i s1 h1
      exact iha _ _ _ h1 _ (ihb _ _ _ h Q hQ)
    · rename_i r hne
      refine iha _ _ _ h _ ?_
      cases e with
      | normal=>exact absurd h (hne s')
      | _=>exact hQ
  | cond c a b iha ihb =>
    intro s e s' h Q hQ
    simp only [evC] at h
    split at h
    · rename_i hc;exact ⟨true,hc,iha _ _ _ h Q hQ⟩
    · rename_i hc;exact ⟨false,hc,ihb _ _ _ h Q hQ⟩
    · cases h
  | block id c ih =>
    intro s e s' h Q hQ
    simp only [evC] at h
    split at h
    · rename_i i s1 h1
      refine ih _ _ _ h1 _ ?_
      split at h
      · rename_i hi;cases h;show (if i=id then _ else _);rw [if_pos hi];exact hQ
      · rename_i hi;cases h;show (if i=id then _ else _);rw [if_neg hi];exact hQ
    · rename_i r hne
      refine ih _ _ _ h _ ?_
      cases e with
      | exit i=>exact absurd h (hne i s')
      | _=>exact hQ
  | loop c ih =>
    intro s e s' h Q hQ
    exact ⟨n,loopE_sound ih n s e s' h Q hQ⟩
  | exit id=>intro s e s' h Q hQ;simp [evC] at h;obtain ⟨rfl,rfl⟩:=h;exact hQ
  | ret=>intro s e s' h Q hQ;simp [evC] at h;obtain ⟨rfl,rfl⟩:=h;exact hQ

structure FT where
  x : XC
  rs : List XRes
  np : Nat
  nw : Bool
  nsz : Nat
abbrev Tab:=FuncId→Option FT
def initL (as : List AV) : Nat→List (Nat × AV)
  | n=>match as with
    | []=>[]
    | v :: l=>(n,v) :: initL l (n + 1)
theorem initL_get : ∀ (as : List AV) (n s : Nat),frOf (initL as n) s=if n≤s then as.getD (s - n) .dead else .dead
  | [],n,s=>by simp [initL,frOf,Fr.nil]
  | v :: l,n,s=>by
    simp only [initL,frOf,Fr.put]
    split
    · rename_i e;subst e;simp
    · rename_i e
      rw [initL_get l (n + 1) s]
      by_cases h : n≤s
      · rw [if_pos h,if_pos (by omega),show s - n=(s - (n + 1)) + 1 by omega];rfl
      · rw [if_neg h,if_neg (by omega)]
theorem initL_eq (as : List AV) : frOf (initL as 0)=Fr.init as:=by
  funext s;rw [initL_get];simp [Fr.init]
def initH : Option (List DV)→List (Nat × List AV)
  | none=>[]
  | some ds=>[(0,ds.map AV.d)]
def LS.init (as : List AV) (row : Option (List DV)) : LS:=⟨initL as 0,initH row,[],1⟩
theorem LS.init_eq (as : List AV) (row : Option (List DV)) : (LS.init as row).st=St.init as row:=by
  simp only [LS.init,LS.st,St.init,initL_eq]
  cases row<;>rfl
def evRet (C : Heap) (Z : Frz) (v : AV) (live nw : Bool) (nsz : Nat:=8) : Option (AV × Option (List DV) × Option (List DV)) :=
  if nw then
    match v with
    | .slL b off len sz=>match (C b).bind unD with
      | some ds=>if Z b=false then some (.slL 1 off len sz,none,some ds) else none
      | none=>none
    | .ptrL b off=>match (C b).bind unD with
      | some ds=>if Z b=false then some (.ptrL 1 off,none,some ds) else none
      | none=>none
    | .d (.val (.slice none 0 0))=>some (.slL 1 0 0 nsz,none,some [])
    | _=>none
  else if live then
    match (C 0).bind unD with
    | some ds=>if Z 0=false then (match v with
      | .slL 0 off len sz=>some (.slL 0 off len sz,some ds,none)
      | v=>(convT C (fun b=>b == 0) v).map fun r=>(r,some ds,none)) else none
    | none=>none
  else (convT C (fun _=>false) v).map fun r=>(r,none,none)
theorem evRet_sound {C : Heap} {Z : Frz} {v : AV} {live nw : Bool} {nsz : Nat} {r : AV} {row' nr : Option (List DV)} (h : evRet C Z v live nw nsz=some (r,row',nr)) : RetOK C Z v live r row' nr:=by
  have hu : ∀ {b ds},(C b).bind unD=some ds→C b=some (ds.map AV.d):=by
    intro b ds h
    obtain ⟨cells,h4,h5⟩:=Option.bind_eq_some_iff.1 h
    rw [h4,unD_eq h5]
  unfold evRet at h
  split at h
  · split at h
    · split at h
      · rename_i ds h1
        split at h
        · rename_i hz;cases h;exact .new _ _ _ _ _ rfl (hu h1) hz
        · cases h
      · cases h
    · split at h
      · rename_i ds h1
        split at h
        · rename_i hz;cases h;exact .newP _ _ _ rfl (hu h1) hz
        · cases h
      · cases h
    · cases h;exact .newN _ rfl
    · cases h
  · split at h
    · rename_i hl
      split at h
      · rename_i ds h1
        split at h
        · rename_i hz
          split at h
          · cases h;exact .own _ _ _ _ hl rfl (hu h1) hz
          · obtain ⟨r',h2,h3⟩:=Option.map_eq_some_iff.1 h
            cases h3
            exact .dataL _ _ hl h2 (hu h1) hz
        · cases h
      · cases h
    · obtain ⟨r',h2,h3⟩:=Option.map_eq_some_iff.1 h
      cases h3
      exact .data _ h2
def evB (cf : CallF) (n : Nat) (t : FT) (as : List AV) (row : Option (List DV)) : Option (AV × Option (List DV) × Option (List DV)) :=
  if Nat.ble as.length t.np=true then
    match evC cf n t.x (LS.init as row) with
    | some (.normal,s)=>(resVals (frOf s.fr) (heapOf s.C) t.rs).bind fun vs=>evRet (heapOf s.C) (zOf s.Z) (tupOf vs) row.isSome t.nw t.nsz
    | some (.ret,s)=>(resVals (frOf s.fr) (heapOf s.C) t.rs).bind fun vs=>evRet (heapOf s.C) (zOf s.Z) (tupOf vs) row.isSome t.nw t.nsz
    | _=>none
  else none
def TabOK (P : Program) (tab : Tab) : Prop:=∀ f t,tab f=some t→∀ (as : List AV) (row : Option (List DV)) (r : AV) (row' nw : Option (List DV)),as.length≤t.np→(row'.isSome=true→row.isSome=true)→xwp P t.x (retK t.rs row.isSome r row' nw) (St.init as row)→Good P f as row r row' nw
def evF (tab : Tab) (sp : CallF→CallF) (n : Nat) : Nat→CallF
  | 0=>fun _ _ _=>none
  | k + 1=>fun f as row=>match tab f with
    | some t=>evB (evF tab sp n k) n t as row
    | none=>sp (evF tab sp n k) f as row
theorem evF_sound {P : Program} {tab : Tab} {sp : CallF→CallF} {n : Nat} (ht : TabOK P tab)
    (hs : ∀ cf : CallF,(∀ f as row r row' nw,cf f as row=some (r,row',nw)→Good P f as row r row' nw)→∀ f as row r row' nw,sp cf f as row=some (r,row',nw)→Good P f as row r row' nw) :
    ∀ (k : Nat) f as row r row' nw,evF tab sp n k f as row=some (r,row',nw)→Good P f as row r row' nw
  | 0,f,as,row,r,row',nw,h=>by simp [evF] at h
  | k + 1,f,as,row,r,row',nw,h=>by
    have ih:=evF_sound (sp:=sp) (n:=n) ht hs k
    simp only [evF] at h
    split at h
    · rename_i t hf
      unfold evB at h
      split at h
      case isFalse=>cases h
      rename_i hal
      have hl : row'.isSome=true→row.isSome=true:=by
        intro hr
        split at h
        case h_3=>cases h
        all_goals
          obtain ⟨vs,_,h2⟩:=Option.bind_eq_some_iff.1 h
          have:=evRet_sound h2
          cases this with
          | dataL=>assumption
          | own=>assumption
          | _=>cases hr
      split at h
      · rename_i s h1
        obtain ⟨vs,h2,h3⟩:=Option.bind_eq_some_iff.1 h
        refine ht f t hf as row r row' nw (by simpa using hal) hl ?_
        rw [← LS.init_eq]
        exact evC_sound ih n _ _ _ _ h1 _ ⟨vs,h2,evRet_sound h3⟩
      · rename_i s h1
        obtain ⟨vs,h2,h3⟩:=Option.bind_eq_some_iff.1 h
        refine ht f t hf as row r row' nw (by simpa using hal) hl ?_
        rw [← LS.init_eq]
        exact evC_sound ih n _ _ _ _ h1 _ ⟨vs,h2,evRet_sound h3⟩
      · cases h
    · exact hs _ ih _ _ _ _ _ _ h
end Go.Sv
