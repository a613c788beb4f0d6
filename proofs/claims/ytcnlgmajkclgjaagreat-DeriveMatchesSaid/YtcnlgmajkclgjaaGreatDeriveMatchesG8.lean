/- A part of the proof of the law DeriveMatches: that it answers true for every input, and that the input reads behind the call as before (no condition). -/
import Derived.Test.YtcnlgmajkclgjaaGreatDeriveMatchesG7
set_option linter.all false
set_option linter.unusedSectionVars false
set_option linter.unusedVariables false
set_option linter.unusedSimpArgs false
namespace Go.Sv
set_option linter.unusedVariables false

mutual
def nlT : T→Bool
  | .node k _ _ _ _ mn _ subs=>if k=1 then true else if k=3 then nlAll subs else if k=4 then nlAny subs else if k=5 then (decide (mn=0) || nlFst subs) else false
def nlAll : List T→Bool
  | []=>true
  | t :: l=>nlT t && nlAll l
def nlAny : List T→Bool
  | []=>false
  | t :: l=>nlT t || nlAny l
def nlFst : List T→Bool
  | []=>false
  | t :: _=>nlT t
end
theorem powL_nils {P : List Nat→Prop} (h : P []) : ∀ r,powL P r []
  | 0=>rfl
  | r + 1=>⟨[],[],rfl,h,powL_nils h r⟩
mutual
theorem nlT_L : ∀ t : T,okT t→(nlT t=true↔L t [])
  | .node k a b c d mn mx subs,ho=>by
    have hp:=okT_plain ho
    have hk:=(plainT_kind hp).1
    have hR:=okT_R ho
    have hs:=okT_subs ho
    rw [nlT]
    split
    · rename_i h;subst h;simp [L_k1]
    split
    · rename_i h;subst h;rw [L_k3];exact nlAll_L subs hs
    split
    · rename_i h;subst h;rw [L_k4];exact nlAny_L subs hs
    split
    · rename_i h;subst h
      obtain ⟨u,rfl⟩:=plainT_5 hp
      have hr:=hR rfl
      simp only [okL] at hs
      have hu:=nlT_L u hs.1
      rw [L_k5]
      simp only [nlFst,Bool.or_eq_true,decide_eq_true_eq]
      constructor
      · rintro (h | h)
        · exact ⟨0,by omega,by omega,rfl⟩
        · exact ⟨mn.toNat,by omega,by omega,powL_nils (by rw [fstL];exact hu.1 h) _⟩
      · rintro ⟨r,h1,h2,h3⟩
        cases r with
        | zero=>left;omega
        | succ r =>
          right
          obtain ⟨x,y,e,hx,_⟩:=h3
          have : x=[]:=(List.append_eq_nil_iff.1 e.symm).1
          subst this
          rw [fstL] at hx
          exact hu.2 hx
    · rename_i h1 h3 h4 h5
      have : k=2:=by omega
      subst this
      rw [L_k2];simp
theorem nlAll_L : ∀ l : List T,okL l→(nlAll l=true↔catL l [])
  | [],_=>by simp [nlAll,catL]
  | t :: l,h=>by
    simp only [okL] at h
    simp only [nlAll,Bool.and_eq_true,nlT_L t h.1,nlAll_L l h.2,catL]
    constructor
    · rintro ⟨h1,h2⟩;exact ⟨[],[],rfl,h1,h2⟩
    · rintro ⟨u,v,e,h1,h2⟩
      obtain ⟨rfl,rfl⟩:=List.append_eq_nil_iff.1 e.symm
      exact ⟨h1,h2⟩
theorem nlAny_L : ∀ l : List T,okL l→(nlAny l=true↔altL l [])
  | [],_=>by simp [nlAny,altL]
  | t :: l,h=>by
    simp only [okL] at h
    simp only [nlAny,Bool.or_eq_true,nlT_L t h.1,nlAny_L l h.2,altL]
end

def rowD : List T→List T→T
  | t :: l,d :: ds=>if l.isEmpty=true then d else if nlT t=true then altS [catS (d :: l),rowD l ds] else catS (d :: l)
  | _,_=>noneT
def repD : List T→List T→Int→Int→T
  | u :: _,d :: _,mn,mx=>catS [d,repS u (max (mn - 1) 0) (if 0 < mx then mx - 1 else mx)]
  | _,_,_,_=>noneT
mutual
def byT (x : Nat) : T→T
  | .node k a b c d mn mx subs=>if k=2 then (if inG a b c d x=true then emptyT else noneT) else if k=3 then rowD subs (byL x subs) else if k=4 then altS (byL x subs) else if k=5 then (if mx=0 then noneT else repD subs (byL x subs) mn mx) else noneT
def byL (x : Nat) : List T→List T
  | []=>[]
  | t :: l=>byT x t :: byL x l
end
theorem byL_len (x : Nat) : ∀ l : List T,(byL x l).length=l.length
  | []=>rfl
  | t :: l=>by rw [byL,List.length_cons,byL_len x l,List.length_cons]
theorem byL_map (x : Nat) : ∀ l : List T,byL x l=l.map (byT x)
  | []=>rfl
  | t :: l=>by rw [byL,byL_map x l,List.map_cons]
theorem pow_cons {P : List Nat→Prop} {x : Nat} {w : List Nat} : ∀ r,powL P r (x :: w)→0 < r∧∃ u v,w=u++v∧P (x :: u)∧powL P (r - 1) v
  | 0,h=>by simp [powL] at h
  | r + 1,h=>by
    refine ⟨by omega,?_⟩
    obtain ⟨u,v,e,hu,hv⟩:=h
    cases u with
    | nil =>
      rw [List.nil_append] at e
      subst e
      obtain ⟨h0,p,q,e,hp,hq⟩:=pow_cons r hv
      refine ⟨p,q,e,hp,?_⟩
      have e2 : r + 1 - 1=(r - 1) + 1:=by omega
      rw [e2]
      exact ⟨[],q,rfl,hu,hq⟩
    | cons y u =>
      rw [List.cons_append] at e
      injection e with e1 e2
      subst e1 e2
      exact ⟨u,v,rfl,hu,hv⟩
theorem cat_cons {t : T} {l : List T} {x : Nat} {w : List Nat} : catL (t :: l) (x :: w)↔(∃ u v,w=u++v∧L t (x :: u)∧catL l v) ∨ (L t []∧catL l (x :: w)):=by
  rw [catL]
  constructor
  · rintro ⟨u,v,e,hu,hv⟩
    cases u with
    | nil=>rw [List.nil_append] at e;subst e;exact .inr ⟨hu,hv⟩
    | cons y u =>
      rw [List.cons_append] at e
      injection e with e1 e2
      subst e1 e2
      exact .inl ⟨u,v,rfl,hu,hv⟩
  · rintro (⟨u,v,rfl,hu,hv⟩ | ⟨hu,hv⟩)
    · exact ⟨x :: u,v,rfl,hu,hv⟩
    · exact ⟨[],x :: w,rfl,hu,hv⟩

def ByOK (x : Nat) (t d : T) : Prop:=okT d∧sfT d∧(∀ w,L d w↔L t (x :: w))∧d.cnt≤t.cnt * t.cnt
def ByOKL (x : Nat) : List T→List T→Prop
  | [],[]=>True
  | t :: l,d :: ds=>ByOK x t d∧ByOKL x l ds
  | _,_=>False
theorem sq_row {c S d : Nat} (hc : 0 < c) (hd : d≤c * c) : d≤(c + S + 1) * (c + S + 1)∧3 + d + S + (S + 1) * (S + 1)≤(c + S + 1) * (c + S + 1) + 1:=by
  have e : (c + S + 1) * (c + S + 1)=c * c + 2 * (c * S) + S * S + 2 * c + 2 * S + 1:=by
    simp only [Nat.add_mul,Nat.mul_add,Nat.mul_comm S c];omega
  have e2 : (S + 1) * (S + 1)=S * S + 2 * S + 1:=by simp only [Nat.add_mul,Nat.mul_add];omega
  have h1 : S≤c * S:=Nat.le_mul_of_pos_left S hc
  omega
theorem sq_mono {a b : Nat} (h : a≤b) : a * a≤b * b:=Nat.mul_le_mul h h
theorem rowD_ok (x : Nat) : ∀ (l ds : List T),okL l→sfL l→ByOKL x l ds→okT (rowD l ds)∧sfT (rowD l ds)∧(∀ w,L (rowD l ds) w↔catL l (x :: w))∧(rowD l ds).cnt≤(cntL l + 1) * (cntL l + 1)
  | [],[],_,_,_=>⟨okT_noneT,sf_none,fun w=>by simp [rowD,L_noneT,catL],by simp [rowD,noneT,T.cnt,cntL]⟩
  | [],_ :: _,_,_,h=>by simp [ByOKL] at h
  | _ :: _,[],_,_,h=>by simp [ByOKL] at h
  | t :: l,d :: ds,hl,hf,h=>by
    simp only [okL] at hl
    simp only [sfL] at hf
    obtain ⟨⟨g1,g2,g3,g4⟩,g5⟩:=h
    obtain ⟨i1,i2,i3,i4⟩:=rowD_ok x l ds hl.2 hf.2 g5
    have hsq:=sq_row (S:=cntL l) (cnt_pos t) g4
    have hcl:=cnt_cat (d :: l)
    have ho : okT (catS (d :: l)):=okT_cat ⟨g1,hl.2⟩
    have hs : sfT (catS (d :: l)):=sf_cat ⟨g2,hf.2⟩
    have hL : ∀ w,L (catS (d :: l)) w↔∃ u v,w=u++v∧L t (x :: u)∧catL l v:=fun w=>by
      rw [catS_L]
      simp only [catL,g3]
    simp only [cntL] at hcl ⊢
    simp only [rowD]
    split
    · rename_i he
      have : l=[]:=by simpa using he
      subst this
      refine ⟨g1,g2,fun w=>?_,hsq.1⟩
      rw [g3,catL_one]
    split
    · rename_i hn
      have hn':=(nlT_L t hl.1).1 hn
      have hoo : okL [catS (d :: l),rowD l ds]:=⟨ho,i1,trivial⟩
      refine ⟨okT_alt hoo,sf_alt ⟨hs,i2,trivial⟩ hoo,fun w=>?_,?_⟩
      · rw [altS_L _ (fun u hu=>okT_S ((okL_iff _).1 (okL_flat 4 hoo) u hu)),cat_cons]
        simp only [altL,hL,i3,or_false]
        constructor
        · rintro (h | h)
          · exact .inl h
          · exact .inr ⟨hn',h⟩
        · rintro (h | h)
          · exact .inl h
          · exact .inr h.2
      · have:=cnt_alt [catS (d :: l),rowD l ds]
        simp only [cntL] at this
        omega
    · rename_i hn
      refine ⟨ho,hs,fun w=>?_,?_⟩
      · rw [hL,cat_cons]
        have : ¬ L t []:=fun h=>hn ((nlT_L t hl.1).2 h)
        constructor
        · exact .inl
        · rintro (h | h)
          · exact h
          · exact absurd h.1 this
      · have:=Nat.le_mul_of_pos_left (cntL l + 1) (n:=cntL l + 1) (by omega)
        omega
theorem altD_L (x : Nat) : ∀ (l ds : List T),ByOKL x l ds→okL ds∧sfL ds∧(∀ w,altL ds w↔altL l (x :: w))∧cntL ds≤cntL l * cntL l
  | [],[],_=>⟨trivial,trivial,fun _=>Iff.rfl,by simp [cntL]⟩
  | [],_ :: _,h=>by simp [ByOKL] at h
  | _ :: _,[],h=>by simp [ByOKL] at h
  | t :: l,d :: ds,h=>by
    obtain ⟨⟨g1,g2,g3,g4⟩,g5⟩:=h
    obtain ⟨i1,i2,i3,i4⟩:=altD_L x l ds g5
    refine ⟨⟨g1,i1⟩,⟨g2,i2⟩,fun w=>by simp only [altL,g3,i3],?_⟩
    simp only [cntL,Nat.add_mul,Nat.mul_add]
    omega
mutual
theorem byT_ok (x : Nat) : ∀ t : T,okT t→sfT t→ByOK x t (byT x t)
  | .node k a b c d mn mx subs,ho,hf=>by
    have hp:=okT_plain ho
    have hk:=(plainT_kind hp).1
    have hR:=okT_R ho
    have hs:=okT_subs ho
    have hfs : sfL subs:=sfT_subs hf
    have hx:=byL_ok x subs hs hfs
    unfold ByOK
    rw [byT]
    have hnone : okT noneT∧sfT noneT∧(∀ w,L noneT w↔False)∧noneT.cnt≤(1 + cntL subs) * (1 + cntL subs):=⟨okT_noneT,sf_none,fun w=>by simp [L_noneT],by
      have : noneT.cnt=1:=rfl
      rw [this]
      exact Nat.mul_pos (by omega) (by omega)⟩
    rw [T.cnt]
    split
    · rename_i h;subst h
      split
      · rename_i hi
        refine ⟨okT_emptyT,sf_empty,fun w=>?_,hnone.2.2.2⟩
        rw [L_emptyT,L_k2]
        constructor
        · rintro rfl;exact ⟨x,rfl,hi⟩
        · rintro ⟨y,e,_⟩;injection e
      · rename_i hi
        refine ⟨hnone.1,hnone.2.1,fun w=>?_,hnone.2.2.2⟩
        rw [hnone.2.2.1,L_k2]
        constructor
        · exact False.elim
        · rintro ⟨y,e,h⟩;injection e with e1 _;subst e1;exact hi h
    split
    · rename_i h;subst h
      obtain ⟨g1,g2,g3,g4⟩:=rowD_ok x subs _ hs hfs hx
      refine ⟨g1,g2,fun w=>?_,by rw [Nat.add_comm];exact g4⟩
      rw [g3,L_k3]
    split
    · rename_i h;subst h
      obtain ⟨g1,g2,g3,g4⟩:=altD_L x subs _ hx
      refine ⟨okT_alt g1,sf_alt g2 g1,fun w=>?_,?_⟩
      · rw [altS_L _ (fun u hu=>okT_S ((okL_iff _).1 (okL_flat 4 g1) u hu)),g3,L_k4]
      · have:=cnt_alt (byL x subs)
        simp only [Nat.add_mul,Nat.mul_add]
        omega
    split
    · rename_i h;subst h
      obtain ⟨u,rfl⟩:=plainT_5 hp
      have hr:=hR rfl
      split
      · rename_i hm
        refine ⟨hnone.1,hnone.2.1,fun w=>?_,hnone.2.2.2⟩
        rw [hnone.2.2.1,L_k5]
        constructor
        · exact False.elim
        · rintro ⟨r,h1,h2,h3⟩
          have:=(pow_cons r h3).1
          omega
      · rename_i hm
        simp only [okL] at hs
        simp only [sfL] at hfs
        simp only [byL] at hx ⊢
        obtain ⟨g1,g2,g3,g4⟩:=hx.1
        have hlo : (0≤max (mn - 1) 0∧max (mn - 1) 0≤20)∧((if 0 < mx then mx - 1 else mx)=-1 ∨ (max (mn - 1) 0≤(if 0 < mx then mx - 1 else mx)∧(if 0 < mx then mx - 1 else mx)≤20)):=by
          split<;>omega
        have o1:=okT_rep u _ _ hs.1 hlo
        have s1:=sf_rep u (max (mn - 1) 0) (if 0 < mx then mx - 1 else mx) hs.1 hfs.1
        simp only [repD]
        refine ⟨okT_cat ⟨g1,o1,trivial⟩,sf_cat ⟨g2,s1,trivial⟩,fun w=>?_,?_⟩
        · rw [catS_L,L_k5]
          simp only [catL]
          have hq : ∀ w,L (repS u (max (mn - 1) 0) (if 0 < mx then mx - 1 else mx)) w↔_:=repS_L u _ _ hs.1 hfs.1 hlo.1.1 (by omega)
          have hfst : fstL [u]=L u:=by funext w;rw [fstL]
          rw [hfst]
          constructor
          · rintro ⟨p,q,rfl,h1,q1,q2,rfl,h2,rfl⟩
            rw [List.append_nil]
            obtain ⟨r,r1,r2,r3⟩:=(hq _).1 h2
            refine ⟨r + 1,by omega,?_,x :: p,q1,rfl,(g3 p).1 h1,r3⟩
            split at r2<;>omega
          · rintro ⟨r,r1,r2,r3⟩
            obtain ⟨h0,p,q,rfl,h1,h2⟩:=pow_cons r r3
            refine ⟨p,q,rfl,(g3 p).2 h1,q,[],by simp,(hq q).2 ⟨r - 1,by omega,?_,h2⟩,rfl⟩
            split<;>omega
        · have h1:=cnt_cat [byT x u,repS u (max (mn - 1) 0) (if 0 < mx then mx - 1 else mx)]
          have h2:=cnt_rep u (max (mn - 1) 0) (if 0 < mx then mx - 1 else mx)
          have h3:=cnt_pos u
          simp only [cntL,Nat.add_mul,Nat.mul_add] at h1 ⊢
          omega
    · rename_i h2 h3 h4 h5
      have : k=1:=by omega
      subst this
      refine ⟨hnone.1,hnone.2.1,fun w=>?_,hnone.2.2.2⟩
      rw [hnone.2.2.1,L_k1]
      simp
theorem byL_ok (x : Nat) : ∀ l : List T,okL l→sfL l→ByOKL x l (byL x l)
  | [],_,_=>trivial
  | t :: l,ho,hf=>by
    simp only [okL] at ho
    simp only [sfL] at hf
    exact ⟨byT_ok x t ho.1 hf.1,byL_ok x l ho.2 hf.2⟩
end
end Go.Sv
namespace Go.Sv
open Go Go.Proofs
section
variable {P : Program} {Q : Cont} {fr : Fr} {C : Heap} {Z Z' : Frz} {nx : Nat} {base n d : Nat} {l : List (Nat × XO)} {kp : Option (List Nat)} {x i y s : X}
end
set_option maxRecDepth 100000
set_option maxHeartbeats 4000000
attribute [local irreducible] W E R KP thenK blockK retK Good xwp aRun
end Go.Sv
namespace Go.Sv
open Go Go.Proofs
set_option maxRecDepth 100000
set_option maxHeartbeats 4000000
attribute [local irreducible] W E R KP thenK blockK retK Good xwp aRun
end Go.Sv
namespace Go.Sv
open Go
theorem lastG_app {L r : List Int} (h : r ≠ []) : lastG (L++r)=lastG r:=by
  have hl : 0 < r.length:=List.length_pos_iff.2 h
  unfold lastG
  have e : (L++r).length=L.length + r.length:=List.length_append
  rw [if_neg (by rw [e];omega),if_neg (by omega)]
  simp only [List.getD_eq_getElem?_getD,List.length_append]
  rw [List.getElem?_append_right (by omega),show L.length + r.length - 1 - L.length=r.length - 1 by omega]
end Go.Sv
namespace Go.Sv
set_option linter.unusedVariables false
def dS (s : ByteArray) (t : T) (j : Nat) : Nat→Option T
  | 0=>some t
  | k + 1=>(dS s t j k).bind fun u=>if 4000 < (byT (byteN s (j + k)) u).cnt then none else some (byT (byteN s (j + k)) u)
def DOK (t : T) : Prop:=okT t∧sfT t∧t.cnt≤4000
theorem dS_step {s : ByteArray} {t u : T} {j k : Nat} (h : dS s t j k=some u) : dS s t j (k + 1)=if 4000 < (byT (byteN s (j + k)) u).cnt then none else some (byT (byteN s (j + k)) u):=by
  rw [dS,h];rfl
theorem DOK_by {t : T} {x : Nat} (h : DOK t) (hc : ¬ 4000 < (byT x t).cnt) : DOK (byT x t):=by
  obtain ⟨g1,g2,_,_⟩:=byT_ok x t h.1 h.2.1
  exact ⟨g1,g2,by omega⟩
theorem dS_ok {s : ByteArray} {t : T} {j : Nat} (h : DOK t) : ∀ (k : Nat) (u : T),dS s t j k=some u→DOK u∧∀ w,L u w↔L t (word s j (j + k)++w)
  | 0,u,hu=>by
    rw [dS] at hu
    cases hu
    exact ⟨h,fun w=>by rw [Nat.add_zero,word_nil];rfl⟩
  | k + 1,u,hu=>by
    rw [dS] at hu
    obtain ⟨v,hv,hu⟩:=Option.bind_eq_some_iff.1 hu
    obtain ⟨hd,hl⟩:=dS_ok h k v hv
    by_cases hc : 4000 < (byT (byteN s (j + k)) v).cnt
    · rw [if_pos hc] at hu;cases hu
    · rw [if_neg hc] at hu
      cases hu
      refine ⟨DOK_by hd hc,fun w=>?_⟩
      obtain ⟨_,_,g3,_⟩:=byT_ok (byteN s (j + k)) v hd.1 hd.2.1
      rw [g3,hl]
      have:=word_app s (i:=j) (j:=j + k) (k:=j + k + 1) (by omega) (by omega)
      rw [word_one] at this
      rw [show j + (k + 1)=j + k + 1 by omega,← this,List.append_assoc]
      rfl
def Mx (P : Nat→Prop) (lo hi : Nat) (to r : Int) : Prop:=(∃ k : Nat,lo≤k∧k≤hi∧P k∧r=(k : Int)∧∀ q,k < q→q≤hi→¬ P q) ∨ (r=to∧∀ q,lo≤q→q≤hi→¬ P q)
theorem last_idx (p : List Bool) : ∀ m,Mx (fun k=>At p k) 0 m (-1) (lastG (idxTo p (m + 1)))
  | 0=>by
    rw [idxTo]
    by_cases h : p.getD 0 false=true
    · rw [if_pos h]
      exact .inl ⟨0,Nat.le_refl _,Nat.le_refl _,h,by simp [idxTo,lastG],fun q h1 h2=>by omega⟩
    · rw [if_neg h]
      refine .inr ⟨by simp [idxTo,lastG],fun q h1 h2=>?_⟩
      have : q=0:=by omega
      subst this;exact h
  | m + 1=>by
    rw [idxTo]
    by_cases h : p.getD (m + 1) false=true
    · rw [if_pos h,lastG_app (by simp)]
      exact .inl ⟨m + 1,Nat.zero_le _,Nat.le_refl _,h,by simp [lastG],fun q h1 h2=>by omega⟩
    · rw [if_neg h]
      rcases last_idx p m with ⟨k,h1,h2,h3,h4,h5⟩ | ⟨h1,h2⟩
      · refine .inl ⟨k,h1,by omega,h3,h4,fun q hq hs=>?_⟩
        rcases Nat.lt_or_ge m q with h6 | h6
        · have : q=m + 1:=by omega
          subst this;exact h
        · exact h5 q hq h6
      · refine .inr ⟨h1,fun q hq hs=>?_⟩
        rcases Nat.lt_or_ge m q with h6 | h6
        · have : q=m + 1:=by omega
          subst this;exact h
        · exact h2 q hq h6
theorem DOK_sim {t : T} (ho : okT t) (hc : t.cnt≤4000) : DOK (simT t):=⟨simT_ok t ho,simT_sf t ho,by have:=simT_cnt t ho;omega⟩
end Go.Sv
namespace Go.Sv
open Go Go.Proofs
def x131 : XC:=(.seq (.ops 1 [ (0,⟨some 2,none,.mv (.k (.d (.val (.bool false))))⟩)] (some [0])) (.seq (.seq (.ops 4 [ (0,⟨some 5,none,.mv (.t 0)⟩),(1,⟨some 6,none,.nilck (.t 5)⟩),(2,⟨some 7,none,.fadd 0 (.t 6)⟩),(3,⟨some 8,none,.load none (.t 7)⟩)] (some [0,8])) (.block 0 (.seq (.ops 2 [ (0,⟨some 10,none,.arith .eql (.t 8) (.k (.d (.val (.int .i64 1))))⟩),(1,⟨some 9,none,.mv (.t 10)⟩)] (some [0,8,9])) (.cond (.t 9) (.seq (.ops 1 [ (0,⟨some 2,none,.mv (.k (.d (.val (.bool true))))⟩)] (some [2])) .ret) (.seq (.ops 2 [ (0,⟨some 12,none,.arith .eql (.t 8) (.k (.d (.val (.int .i64 3))))⟩),(1,⟨some 11,none,.mv (.t 12)⟩)] (some [0,8,11])) (.cond (.t 11) (.seq (.seq (.ops 6 [ (0,⟨some 13,none,.mv (.t 0)⟩),(1,⟨some 14,none,.nilck (.t 13)⟩),(2,⟨some 15,none,.fadd 7 (.t 14)⟩),(3,⟨some 16,none,.load none (.t 15)⟩),(4,⟨some 17,none,.lenS (.t 16)⟩),(5,⟨some 18,none,.mv (.k (.d (.val (.int .i64 0))))⟩)] (some [0,17,18])) (.block 1 (.loop (.seq (.ops 1 [ (0,⟨some 19,none,.arith .lss (.t 18) (.t 17)⟩)] (some [0,17,18,19])) (.seq (.cond (.t 19) .skip (.exit 1)) (.seq (.block 2 (.seq (.ops 2 [ (0,⟨some 20,none,.mv (.t 18)⟩),(1,⟨some 3,none,.mv (.t 20)⟩)] (some [0,3,17,18])) (.seq (.ops 8 [ (0,⟨some 21,none,.mv (.t 0)⟩),(1,⟨some 22,none,.nilck (.t 21)⟩),(2,⟨some 23,none,.fadd 7 (.t 22)⟩),(3,⟨some 24,none,.load none (.t 23)⟩),(4,⟨some 25,none,.mv (.t 3)⟩),(5,⟨some 26,none,.idxS 8 (.t 24) (.t 25)⟩),(6,⟨some 27,none,.call 19 [(.t 26)] none false⟩),(7,⟨some 28,none,.un .not (.t 27)⟩)] (some [0,17,18,28])) (.cond (.t 28) (.seq (.ops 1 [ (0,⟨some 2,none,.mv (.k (.d (.val (.bool false))))⟩)] (some [2])) .ret) .skip)))) (.ops 2 [ (0,⟨some 29,none,.arith .add (.t 18) (.k (.d (.val (.int .i64 1))))⟩),(1,⟨some 18,none,.mv (.t 29)⟩)] (some [0,17,18])))))))) (.seq (.ops 1 [ (0,⟨some 2,none,.mv (.k (.d (.val (.bool true))))⟩)] (some [2])) .ret)) (.seq (.ops 2 [ (0,⟨some 31,none,.arith .eql (.t 8) (.k (.d (.val (.int .i64 4))))⟩),(1,⟨some 30,none,.mv (.t 31)⟩)] (some [0,8,30])) (.cond (.t 30) (.seq (.ops 6 [ (0,⟨some 32,none,.mv (.t 0)⟩),(1,⟨some 33,none,.nilck (.t 32)⟩),(2,⟨some 34,none,.fadd 7 (.t 33)⟩),(3,⟨some 35,none,.load none (.t 34)⟩),(4,⟨some 36,none,.lenS (.t 35)⟩),(5,⟨some 37,none,.mv (.k (.d (.val (.int .i64 0))))⟩)] (some [0,36,37])) (.block 3 (.loop (.seq (.ops 1 [ (0,⟨some 38,none,.arith .lss (.t 37) (.t 36)⟩)] (some [0,36,37,38])) (.seq (.cond (.t 38) .skip (.exit 3)) (.seq (.block 4 (.seq (.ops 2 [ (0,⟨some 39,none,.mv (.t 37)⟩),(1,⟨some 4,none,.mv (.t 39)⟩)] (some [0,4,36,37])) (.seq (.ops 7 [ (0,⟨some 40,none,.mv (.t 0)⟩),(1,⟨some 41,none,.nilck (.t 40)⟩),(2,⟨some 42,none,.fadd 7 (.t 41)⟩),(3,⟨some 43,none,.load none (.t 42)⟩),(4,⟨some 44,none,.mv (.t 4)⟩),(5,⟨some 45,none,.idxS 8 (.t 43) (.t 44)⟩),(6,⟨some 46,none,.call 19 [(.t 45)] none false⟩)] (some [0,36,37,46])) (.cond (.t 46) (.seq (.ops 1 [ (0,⟨some 2,none,.mv (.k (.d (.val (.bool true))))⟩)] (some [2])) .ret) .skip)))) (.ops 2 [ (0,⟨some 47,none,.arith .add (.t 37) (.k (.d (.val (.int .i64 1))))⟩),(1,⟨some 37,none,.mv (.t 47)⟩)] (some [0,36,37])))))))) (.seq (.ops 2 [ (0,⟨some 49,none,.arith .eql (.t 8) (.k (.d (.val (.int .i64 5))))⟩),(1,⟨some 48,none,.mv (.t 49)⟩)] (some [0,48])) (.cond (.t 48) (.seq (.ops 14 [ (0,⟨some 50,none,.mv (.t 0)⟩),(1,⟨some 51,none,.nilck (.t 50)⟩),(2,⟨some 52,none,.fadd 5 (.t 51)⟩),(3,⟨some 53,none,.load none (.t 52)⟩),(4,⟨some 54,none,.arith .eql (.t 53) (.k (.d (.val (.int .i64 0))))⟩),(5,⟨some 55,none,.mv (.t 54)⟩),(6,⟨some 56,(some (55,false)),.mv (.t 0)⟩),(7,⟨some 57,(some (55,false)),.nilck (.t 56)⟩),(8,⟨some 58,(some (55,false)),.fadd 7 (.t 57)⟩),(9,⟨some 59,(some (55,false)),.load none (.t 58)⟩),(10,⟨some 60,(some (55,false)),.idxS 8 (.t 59) (.k (.d (.val (.int .i64 0))))⟩),(11,⟨some 61,(some (55,false)),.call 19 [(.t 60)] none false⟩),(12,⟨some 62,none,.pick (.t 55) (.k (.d (.val (.bool true)))) (.t 61)⟩),(13,⟨some 2,none,.mv (.t 62)⟩)] (some [2])) .ret) .skip)))))))))) (.seq (.ops 1 [ (0,⟨some 2,none,.mv (.k (.d (.val (.bool false))))⟩)] (some [2])) .ret)))
def md131 : FuncId→Option Nat × Bool
  | _=>(none,false)
def od131 : Nat→List (List Nat) × List Nat × Option (List Nat)
  | 0=>([],[],some [0])
  | 1=>([],[],some [0,8])
  | 2=>([],[],some [0,8,9])
  | 3=>([],[],some [2])
  | 4=>([],[],some [0,8,11])
  | 5=>([],[],some [0,17,18])
  | 6=>([],[],some [0,17,18,19])
  | 7=>([],[],some [0,3,17,18])
  | 8=>([],[],some [0,17,18,28])
  | 9=>([],[],some [2])
  | 10=>([],[],some [0,17,18])
  | 11=>([],[],some [2])
  | 12=>([],[],some [0,8,30])
  | 13=>([],[],some [0,36,37])
  | 14=>([],[],some [0,36,37,38])
  | 15=>([],[],some [0,4,36,37])
  | 16=>([],[],some [0,36,37,46])
  | 17=>([],[],some [2])
  | 18=>([],[],some [0,36,37])
  | 19=>([],[],some [0,48])
  | 20=>([],[],some [2])
  | 21=>([],[],some [2])
  | _=>([],[],none)
theorem b131 {ags : List AV} {row : Option (List DV)} {r : AV} {row' nw : Option (List DV)} (hal : ags.length≤63) (hrow : row'.isSome=true→row.isSome=true) (h : xwp Tryz.prog x131 (retK [.tmp 2] row.isSome r row' nw) (St.init ags row)) : Good Tryz.prog 19 ags row r row' nw :=
  good_of_body' (md:=md131) (od:=od131) Tryz.f19 (by kernel_rfl) (by kernel_rfl) (by kernel_rfl) (by kernel_rfl) (by kernel_rfl) hal hrow h

def x152 : XC:=(.seq (.ops 1 [ (0,⟨some 4,none,.mv (.k (.d (.val (.bool false))))⟩)] (some [0,1])) (.seq (.ops 12 [ (0,⟨some 5,none,.mv (.t 0)⟩),(1,⟨some 6,none,.mv (.t 1)⟩),(2,⟨some 7,none,.arith .shr (.t 6) (.k (.d (.val (.int .u64 6))))⟩),(3,⟨some 8,none,.nilck (.t 5)⟩),(4,⟨some 9,none,.idxP 4 1 (.t 8) (.t 7)⟩),(5,⟨some 10,none,.load none (.t 9)⟩),(6,⟨some 11,none,.mv (.t 1)⟩),(7,⟨some 12,none,.arith .and (.t 11) (.k (.d (.val (.int .u8 63))))⟩),(8,⟨some 13,none,.arith .shr (.t 10) (.t 12)⟩),(9,⟨some 14,none,.arith .and (.t 13) (.k (.d (.val (.int .u64 1))))⟩),(10,⟨some 15,none,.arith .eql (.t 14) (.k (.d (.val (.int .u64 1))))⟩),(11,⟨some 4,none,.mv (.t 15)⟩)] (some [4])) .ret))
def md152 : FuncId→Option Nat × Bool
  | _=>(none,false)
def od152 : Nat→List (List Nat) × List Nat × Option (List Nat)
  | 0=>([],[],some [0,1])
  | 1=>([],[],some [4])
  | _=>([],[],none)
theorem b152 {ags : List AV} {row : Option (List DV)} {r : AV} {row' nw : Option (List DV)} (hal : ags.length≤16) (hrow : row'.isSome=true→row.isSome=true) (h : xwp Tryz.prog x152 (retK [.tmp 4] row.isSome r row' nw) (St.init ags row)) : Good Tryz.prog 41 ags row r row' nw :=
  good_of_body' (md:=md152) (od:=od152) Tryz.f41 (by kernel_rfl) (by kernel_rfl) (by kernel_rfl) (by kernel_rfl) (by kernel_rfl) hal hrow h

def x154 : XC:=(.seq (.ops 1 [ (0,⟨some 4,none,.mv (.k (.d (.val (.int .i64 0))))⟩)] (some [0,1])) (.seq (.ops 3 [ (0,⟨some 6,none,.mv (.t 1)⟩),(1,⟨some 7,none,.arith .sub (.t 6) (.k (.d (.val (.int .i64 1))))⟩),(2,⟨some 1,none,.mv (.t 7)⟩)] (some [0,1])) (.seq (.seq (.ops 1 [ (0,⟨some 5,none,.mv (.k (.d (.val (.int .i64 0))))⟩)] (some [0,1,5])) (.block 0 (.loop (.seq (.seq (.ops 11 [ (0,⟨some 8,none,.mv (.t 5)⟩),(1,⟨some 9,none,.mv (.t 0)⟩),(2,⟨some 10,none,.nilck (.t 9)⟩),(3,⟨some 11,none,.fadd 7 (.t 10)⟩),(4,⟨some 12,none,.load none (.t 11)⟩),(5,⟨some 13,none,.lenS (.t 12)⟩),(6,⟨some 14,none,.arith .lss (.t 8) (.t 13)⟩),(7,⟨some 15,none,.mv (.t 14)⟩),(8,⟨some 16,(some (15,true)),.mv (.t 1)⟩),(9,⟨some 17,(some (15,true)),.arith .geq (.t 16) (.k (.d (.val (.int .i64 0))))⟩),(10,⟨some 18,none,.pick (.t 15) (.t 17) (.k (.d (.val (.bool false))))⟩)] (some [0,1,5,18])) (.cond (.t 18) .skip (.exit 0))) (.seq (.block 1 (.ops 9 [ (0,⟨some 21,none,.mv (.t 0)⟩),(1,⟨some 22,none,.nilck (.t 21)⟩),(2,⟨some 23,none,.fadd 7 (.t 22)⟩),(3,⟨some 24,none,.load none (.t 23)⟩),(4,⟨some 25,none,.mv (.t 5)⟩),(5,⟨some 26,none,.idxS 8 (.t 24) (.t 25)⟩),(6,⟨some 27,none,.mv (.t 1)⟩),(7,⟨some 28,none,.call 49 [(.t 26),(.t 27)] none false⟩),(8,⟨some 1,none,.mv (.t 28)⟩)] (some [0,1,5]))) (.ops 3 [ (0,⟨some 19,none,.mv (.t 5)⟩),(1,⟨some 20,none,.arith .add (.t 19) (.k (.d (.val (.int .i64 1))))⟩),(2,⟨some 5,none,.mv (.t 20)⟩)] (some [0,1,5]))))))) (.seq (.ops 2 [ (0,⟨some 29,none,.mv (.t 1)⟩),(1,⟨some 4,none,.mv (.t 29)⟩)] (some [4])) .ret))))
def md154 : FuncId→Option Nat × Bool
  | _=>(none,false)
def od154 : Nat→List (List Nat) × List Nat × Option (List Nat)
  | 0=>([],[],some [0,1])
  | 1=>([],[],some [0,1])
  | 2=>([],[],some [0,1,5])
  | 3=>([],[],some [0,1,5,18])
  | 4=>([],[],some [0,1,5])
  | 5=>([],[],some [0,1,5])
  | 6=>([],[],some [4])
  | _=>([],[],none)
theorem b154 {ags : List AV} {row : Option (List DV)} {r : AV} {row' nw : Option (List DV)} (hal : ags.length≤30) (hrow : row'.isSome=true→row.isSome=true) (h : xwp Tryz.prog x154 (retK [.tmp 4] row.isSome r row' nw) (St.init ags row)) : Good Tryz.prog 49 ags row r row' nw :=
  good_of_body' (md:=md154) (od:=od154) Tryz.f49 (by kernel_rfl) (by kernel_rfl) (by kernel_rfl) (by kernel_rfl) (by kernel_rfl) hal hrow h

theorem nlAll_drop (l : List T) (i : Nat) (h : i < l.length) : nlAll (l.drop i)=(nlT l[i] && nlAll (l.drop (i + 1))):=by
  rw [List.drop_eq_getElem_cons h,nlAll]
theorem nlAny_drop (l : List T) (i : Nat) (h : i < l.length) : nlAny (l.drop i)=(nlT l[i] || nlAny (l.drop (i + 1))):=by
  rw [List.drop_eq_getElem_cons h,nlAny]
set_option maxRecDepth 100000
set_option maxHeartbeats 4000000
attribute [local irreducible] W E R KP thenK blockK retK Good xwp aRun
theorem null131_good : ∀ (n : Nat) (t : T) (cs : List DV) (off : Nat),NodeAt cs off t→t.cnt≤n→n≤100000000→okT t→Good Tryz.prog 19 [.d (.ptr cs off)] none (.b (nlT t)) none none:=by
  intro n
  induction n with
  | zero=>intro t cs off _ ht;have:=cnt_pos t;omega
  | succ n ih =>
  intro t cs off hs ht hc hok
  obtain ⟨k,a,b,c,d,mn,mx,subs⟩:=t
  have hp:=okT_plain hok
  have hk:=(plainT_kind hp).1
  have hoks:=okT_subs hok
  have ih' : ∀ i (h : i < subs.length),Good Tryz.prog 19 [.d (.ptr (encL subs) (i * 8))] none (.b (nlT subs[i])) none none:=by
    intro i h
    refine ih _ _ _ (NodeAt.sub h) ?_ (by omega) (okL_get subs i h hoks)
    have:=cntL_get subs i h
    simp only [T.cnt] at ht
    omega
  have hlen : subs.length≤100000000:=by
    have:=cntL_len subs
    simp only [T.cnt] at ht
    omega
  clear ih ht hoks
  rcases hk with rfl | rfl | rfl | rfl | rfl
  · refine b131 (by simp) (by simp) (w_init ?_)
    unfold x131
    repeat' (first|(apply r_mvV;rfl)|(apply r_mvP;rfl)|(apply r_nckD;rfl)|(apply r_faddD;rfl)|(apply r_l;apply ld_kind;assumption;rfl)|(apply r_eql;rfl;rfl;(first|(apply dT;omega)|(apply dF;omega)|rfl))|(apply r_nilK)|(apply k_V;rfl)|(apply k_P;rfl)|(apply k_nil)|(apply e_ret (vs:=[.d (.val _)]);rfl)|(apply w_seq)|(apply w_ops;((conv=>lhs;simp only [Nat.reduceAdd])<;>rfl))|(apply w_condT;rfl)|(apply e_thenN)|(apply w_block)|(apply e_thenR)|(apply e_blkR)|(apply w_ret))
    exact retB (by simp [nlT])
  · refine b131 (by simp) (by simp) (w_init ?_)
    unfold x131
    repeat' (first|(apply r_mvV;rfl)|(apply r_mvP;rfl)|(apply r_nckD;rfl)|(apply r_faddD;rfl)|(apply r_l;apply ld_kind;assumption;rfl)|(apply r_eql;rfl;rfl;(first|(apply dT;omega)|(apply dF;omega)|rfl))|(apply r_nilK)|(apply k_V;rfl)|(apply k_P;rfl)|(apply k_nil)|(apply e_ret (vs:=[.d (.val _)]);rfl)|(apply w_seq)|(apply w_ops;((conv=>lhs;simp only [Nat.reduceAdd])<;>rfl))|(apply w_condF;rfl)|(apply e_thenN)|(apply w_block)|(apply e_blkN)|(apply w_ret)|(apply w_skip))
    exact retB (by simp [nlT])
  · have e : nlT (.node 3 a b c d mn mx subs)=nlAll subs:=by simp [nlT]
    rw [e]
    refine b131 (by simp) (by simp) (w_init ?_)
    unfold x131
    repeat' (first|(apply r_mvV;rfl)|(apply r_mvP;rfl)|(apply r_nckD;rfl)|(apply r_faddD;rfl)|(apply r_l;apply ld_kind;assumption;rfl)|(apply r_l;apply ld_subs;assumption;rfl)|(apply r_eql;rfl;rfl;(first|(apply dT;omega)|(apply dF;omega)|rfl))|(apply r_lenD;rfl)|(apply r_nilK)|(apply k_V;rfl)|(apply k_P;rfl)|(apply k_nil)|(apply w_seq)|(apply w_ops;((conv=>lhs;simp only [Nat.reduceAdd])<;>rfl))|(apply w_condT;rfl)|(apply w_condF;rfl)|(apply e_thenN)|(apply w_block))
    apply w_loopI (S:=fun i : Nat=>⟨((Fr.nil.put 0 (.d (.ptr cs off))).put 17 (.i subs.length)).put 18 (.i i),Heap.nil,Frz.lo 100,100⟩) (m:=fun i=>subs.length - i) (I:=fun i=>i≤subs.length∧nlAll subs=nlAll (subs.drop i)) (i0:=0)
    · exact ⟨Nat.zero_le _,rfl⟩
    · refine wk0 (by omega) ?_
      repeat' (first|exact FWk.nil|(apply FWk.i;rfl;(first|rfl|omega|(simp;done)))|(apply FWk.d;rfl;rfl))
    rintro i K ⟨hi,hq⟩ hK
    dsimp only
    rcases Nat.lt_or_ge i subs.length with hlt | hge
    · have hg:=ih' i hlt
      have hd:=nlAll_drop subs i hlt
      rcases Bool.eq_false_or_eq_true (nlT subs[i]) with hr | hr
      · rw [hr] at hg hd
        repeat' (first|(apply r_mvV;rfl)|(apply r_mvP;rfl)|(apply r_nckD;rfl)|(apply r_faddD;rfl)|(apply r_l;apply ld_subs;assumption;rfl)|(apply r_p;apply ix_sub;rfl;rfl;omega)|(apply r_callA;rfl;rfl;exact hg)|(apply r_lss;rfl;rfl;(first|(apply dT;omega)|(apply dF;omega)|rfl))|(apply r_add;rfl;rfl;rfl;omega)|(apply r_not;rfl;rfl)|(apply r_nilK)|(apply k_V;rfl)|(apply k_P;rfl)|(apply k_nil)|(apply w_seq)|(apply w_ops;((conv=>lhs;simp only [Nat.reduceAdd])<;>rfl))|(apply w_condT;rfl)|(apply w_condF;rfl)|(apply e_thenN)|(apply w_block)|(apply e_blkN)|(apply w_skip))
        apply e_thenK
        apply hK (i + 1)
        · exact ⟨by omega,by rw [hq,hd,Bool.true_and]⟩
        · omega
        · refine wk0 (by omega) ?_
          repeat' (first|exact FWk.nil|(apply FWk.i;rfl;(first|rfl|omega|(simp;done)))|(apply FWk.d;rfl;rfl))
      · rw [hr] at hg hd
        repeat' (first|(apply r_mvV;rfl)|(apply r_mvP;rfl)|(apply r_nckD;rfl)|(apply r_faddD;rfl)|(apply r_l;apply ld_subs;assumption;rfl)|(apply r_p;apply ix_sub;rfl;rfl;omega)|(apply r_callA;rfl;rfl;exact hg)|(apply r_lss;rfl;rfl;(first|(apply dT;omega)|(apply dF;omega)|rfl))|(apply r_not;rfl;rfl)|(apply r_nilK)|(apply k_V;rfl)|(apply k_P;rfl)|(apply k_nil)|(apply e_ret (vs:=[.d (.val _)]);rfl)|(apply w_seq)|(apply w_ops;((conv=>lhs;simp only [Nat.reduceAdd])<;>rfl))|(apply w_condT;rfl)|(apply e_thenN)|(apply w_block)|(apply e_thenR)|(apply e_blkR)|(apply w_ret)|(apply w_skip))
        exact retB (by rw [hq,hd,Bool.false_and])
    · have e : nlAll subs=true:=by rw [hq,List.drop_of_length_le hge,nlAll]
      rw [e]
      repeat' (first|(apply r_mvV;rfl)|(apply r_lss;rfl;rfl;(first|(apply dT;omega)|(apply dF;omega)|rfl))|(apply r_nilK)|(apply k_V;rfl)|(apply k_P;rfl)|(apply k_nil)|(apply e_ret (vs:=[.d (.val _)]);rfl)|(apply w_seq)|(apply w_ops;((conv=>lhs;simp only [Nat.reduceAdd])<;>rfl))|(apply w_condF;rfl)|(apply e_thenN)|(apply e_thenR)|(apply e_thenX)|(apply e_blkR)|(apply e_blkE)|(apply w_exit)|(apply w_ret))
      exact retB rfl
  · have e : nlT (.node 4 a b c d mn mx subs)=nlAny subs:=by simp [nlT]
    rw [e]
    refine b131 (by simp) (by simp) (w_init ?_)
    unfold x131
    repeat' (first|(apply r_mvV;rfl)|(apply r_mvP;rfl)|(apply r_nckD;rfl)|(apply r_faddD;rfl)|(apply r_l;apply ld_kind;assumption;rfl)|(apply r_l;apply ld_subs;assumption;rfl)|(apply r_eql;rfl;rfl;(first|(apply dT;omega)|(apply dF;omega)|rfl))|(apply r_lenD;rfl)|(apply r_nilK)|(apply k_V;rfl)|(apply k_P;rfl)|(apply k_nil)|(apply w_seq)|(apply w_ops;((conv=>lhs;simp only [Nat.reduceAdd])<;>rfl))|(apply w_condT;rfl)|(apply w_condF;rfl)|(apply e_thenN)|(apply w_block))
    apply w_loopI (S:=fun i : Nat=>⟨((Fr.nil.put 0 (.d (.ptr cs off))).put 36 (.i subs.length)).put 37 (.i i),Heap.nil,Frz.lo 100,100⟩) (m:=fun i=>subs.length - i) (I:=fun i=>i≤subs.length∧nlAny subs=nlAny (subs.drop i)) (i0:=0)
    · exact ⟨Nat.zero_le _,rfl⟩
    · refine wk0 (by omega) ?_
      repeat' (first|exact FWk.nil|(apply FWk.i;rfl;(first|rfl|omega|(simp;done)))|(apply FWk.d;rfl;rfl))
    rintro i K ⟨hi,hq⟩ hK
    dsimp only
    rcases Nat.lt_or_ge i subs.length with hlt | hge
    · have hg:=ih' i hlt
      have hd:=nlAny_drop subs i hlt
      rcases Bool.eq_false_or_eq_true (nlT subs[i]) with hr | hr
      · rw [hr] at hg hd
        repeat' (first|(apply r_mvV;rfl)|(apply r_mvP;rfl)|(apply r_nckD;rfl)|(apply r_faddD;rfl)|(apply r_l;apply ld_subs;assumption;rfl)|(apply r_p;apply ix_sub;rfl;rfl;omega)|(apply r_callA;rfl;rfl;exact hg)|(apply r_lss;rfl;rfl;(first|(apply dT;omega)|(apply dF;omega)|rfl))|(apply r_nilK)|(apply k_V;rfl)|(apply k_P;rfl)|(apply k_nil)|(apply e_ret (vs:=[.d (.val _)]);rfl)|(apply w_seq)|(apply w_ops;((conv=>lhs;simp only [Nat.reduceAdd])<;>rfl))|(apply w_condT;rfl)|(apply e_thenN)|(apply w_block)|(apply e_thenR)|(apply e_blkR)|(apply w_ret)|(apply w_skip))
        exact retB (by rw [hq,hd,Bool.true_or])
      · rw [hr] at hg hd
        repeat' (first|(apply r_mvV;rfl)|(apply r_mvP;rfl)|(apply r_nckD;rfl)|(apply r_faddD;rfl)|(apply r_l;apply ld_subs;assumption;rfl)|(apply r_p;apply ix_sub;rfl;rfl;omega)|(apply r_callA;rfl;rfl;exact hg)|(apply r_lss;rfl;rfl;(first|(apply dT;omega)|(apply dF;omega)|rfl))|(apply r_add;rfl;rfl;rfl;omega)|(apply r_nilK)|(apply k_V;rfl)|(apply k_P;rfl)|(apply k_nil)|(apply w_seq)|(apply w_ops;((conv=>lhs;simp only [Nat.reduceAdd])<;>rfl))|(apply w_condT;rfl)|(apply w_condF;rfl)|(apply e_thenN)|(apply w_block)|(apply e_blkN)|(apply w_skip))
        apply e_thenK
        apply hK (i + 1)
        · exact ⟨by omega,by rw [hq,hd,Bool.false_or]⟩
        · omega
        · refine wk0 (by omega) ?_
          repeat' (first|exact FWk.nil|(apply FWk.i;rfl;(first|rfl|omega|(simp;done)))|(apply FWk.d;rfl;rfl))
    · have e : nlAny subs=false:=by rw [hq,List.drop_of_length_le hge,nlAny]
      rw [e]
      repeat' (first|(apply r_mvV;rfl)|(apply r_lss;rfl;rfl;(first|(apply dT;omega)|(apply dF;omega)|rfl))|(apply r_nilK)|(apply k_V;rfl)|(apply k_P;rfl)|(apply k_nil)|(apply e_ret (vs:=[.d (.val _)]);rfl)|(apply w_seq)|(apply w_ops;((conv=>lhs;simp only [Nat.reduceAdd])<;>rfl))|(apply w_condF;rfl)|(apply e_thenN)|(apply e_thenX)|(apply e_blkN)|(apply e_blkE)|(apply w_exit)|(apply w_ret))
      exact retB rfl
  · obtain ⟨u,rfl⟩:=plainT_5 hp
    have hg:=ih' 0 (by simp)
    simp only [List.getElem_cons_zero] at hg
    have e : nlT (.node 5 a b c d mn mx [u])=(decide (mn=0) || nlT u):=by simp [nlT,nlFst]
    rw [e]
    by_cases hm : mn=0
    · refine b131 (by simp) (by simp) (w_init ?_)
      unfold x131
      repeat' (first|(apply r_mvV;rfl)|(apply r_mvP;rfl)|(apply r_nckD;rfl)|(apply r_faddD;rfl)|(apply r_l;apply ld_kind;assumption;rfl)|(apply r_l;apply ld_mn;assumption;rfl)|(apply r_eql;rfl;rfl;(first|(apply dT;omega)|(apply dF;omega)|rfl))|(apply r_pickT;rfl)|(apply r_gF';rfl;rfl)|(apply r_nilK)|(apply k_V;rfl)|(apply k_P;rfl)|(apply k_nil)|(apply e_ret (vs:=[.d (.val _)]);rfl)|(apply w_seq)|(apply w_ops;((conv=>lhs;simp only [Nat.reduceAdd])<;>rfl))|(apply w_condT;rfl)|(apply w_condF;rfl)|(apply e_thenN)|(apply w_block)|(apply e_thenR)|(apply e_blkR)|(apply w_ret))
      exact retB (by simp [hm])
    · refine b131 (by simp) (by simp) (w_init ?_)
      unfold x131
      repeat' (first|(apply r_mvV;rfl)|(apply r_mvP;rfl)|(apply r_nckD;rfl)|(apply r_faddD;rfl)|(apply r_l;apply ld_kind;assumption;rfl)|(apply r_l;apply ld_mn;assumption;rfl)|(apply r_l;apply ld_subs;assumption;rfl)|(apply r_p;apply ix_sub (j:=0);rfl;rfl;(simp))|(apply r_callA;rfl;rfl;exact hg)|(apply r_eql;rfl;rfl;(first|(apply dT;omega)|(apply dF;omega)|rfl))|(apply r_pickF;rfl)|(apply r_gT;rfl)|(apply r_nilK)|(apply k_V;rfl)|(apply k_P;rfl)|(apply k_nil)|(apply e_ret (vs:=[.d (.val _)]);rfl)|(apply w_seq)|(apply w_ops;((conv=>lhs;simp only [Nat.reduceAdd])<;>rfl))|(apply w_condT;rfl)|(apply w_condF;rfl)|(apply e_thenN)|(apply w_block)|(apply e_thenR)|(apply e_blkR)|(apply w_ret))
      rw [show decide (mn=0)=false from decide_eq_false hm,Bool.false_or]
      exact retB rfl
theorem has152_good {cs : List DV} {off : Nat} {a b c d : Int} (hs : SetAt cs off a b c d) (ha : okW a) (hb : okW b) (hc : okW c) (hd : okW d) {x : Nat} (hx : x < 256) : Good Tryz.prog 41 [.d (.ptr cs off),.d (.val (.int .u8 (x : Nat)))] none (.b (inG a b c d x)) none none:=by
  have hw : okW ([a,b,c,d].getD (x / 64) 0):=by
    have : x / 64 < 4:=by omega
    match x / 64,this with
    | 0,_=>exact ha
    | 1,_=>exact hb
    | 2,_=>exact hc
    | 3,_=>exact hd
  refine b152 (by simp) (by simp) (w_init ?_)
  unfold x152
  repeat' (first|(apply r_mvV;rfl)|(apply r_mvP;rfl)|(apply r_nckD;rfl)|(apply r_shr6;rfl;rfl)|(apply r_and63;rfl;rfl;exact hx)|(apply r_ixPD;rfl;rfl;omega)|(apply r_ldSet hs;rfl;omega)|(apply r_shrW;rfl;rfl;exact hw.1;omega)|(apply r_and1;rfl;rfl;exact okW_div hw _)|(apply r_eqlU;rfl;rfl;rfl)|(apply r_nilK)|(apply k_V;rfl)|(apply k_P;rfl)|(apply k_nil)|(apply e_ret (vs:=[.d (.val _)]);rfl)|(apply w_seq)|(apply w_ops;((conv=>lhs;simp only [Nat.reduceAdd])<;>rfl))|(apply e_thenN)|(apply w_ret))
  exact retB rfl
theorem great154_good : ∀ (n : Nat) (t : T) (cs : List DV) (off : Nat),NodeAt cs off t→t.cnt≤n→n≤100000000→∀ left : Int,0≤left→left≤100000000→Good Tryz.prog 49 [.d (.ptr cs off),.i left] none (.i (max (left - (t.cnt : Nat)) (-1))) none none:=by
  intro n
  induction n with
  | zero=>intro t cs off _ ht;have:=cnt_pos t;omega
  | succ n ih =>
  intro t cs off hs ht hc left h0 h1
  obtain ⟨k,a,b,c,d,mn,mx,subs⟩:=t
  have ih' : ∀ i (h : i < subs.length) (q : Int),0≤q→q≤100000000→Good Tryz.prog 49 [.d (.ptr (encL subs) (i * 8)),.i q] none (.i (max (q - (subs[i].cnt : Nat)) (-1))) none none:=by
    intro i h
    refine ih _ _ _ (NodeAt.sub h) ?_ (by omega)
    have:=cntL_get subs i h
    simp only [T.cnt] at ht
    omega
  have hlen : subs.length≤100000000:=by
    have:=cntL_len subs
    simp only [T.cnt] at ht
    omega
  have hle : ∀ i,cntL (subs.take i)≤cntL subs:=fun i=>cntL_take_le subs i
  have hstep : ∀ i (h : i < subs.length),cntL (subs.take (i + 1))=cntL (subs.take i) + subs[i].cnt:=fun i h=>cntL_take subs i h
  have hcs : cntL subs≤100000000:=by simp only [T.cnt] at ht;omega
  rw [T.cnt]
  clear ih ht
  refine b154 (by simp) (by simp) (w_init ?_)
  unfold x154
  repeat' (first|(apply r_mvV;rfl)|(apply r_sub;rfl;rfl;rfl;omega)|(apply r_nilK)|(apply k_V;rfl)|(apply k_P;rfl)|(apply k_nil)|(apply w_seq)|(apply w_ops;((conv=>lhs;simp only [Nat.reduceAdd])<;>rfl))|(apply e_thenN)|(apply w_block))
  apply w_loopI (ι:=Nat × Int) (S:=fun q=>⟨((Fr.nil.put 0 (.d (.ptr cs off))).put 1 (.i q.2)).put 5 (.i (q.1 : Nat)),Heap.nil,Frz.lo 100,100⟩) (m:=fun q=>subs.length - q.1) (I:=fun q=>q.1≤subs.length∧q.2=max (left - 1 - (cntL (subs.take q.1) : Nat)) (-1)) (i0:=(0,left - 1))
  · refine ⟨Nat.zero_le _,?_⟩
    simp only [List.take_zero,cntL]
    omega
  · refine wk0 (by omega) ?_
    repeat' (first|exact FWk.nil|(apply FWk.i;rfl;(first|rfl|omega|(simp;done)))|(apply FWk.d;rfl;rfl))
  rintro ⟨i,lf⟩ K ⟨hi,hq⟩ hK
  dsimp only at hi hq hK ⊢
  rcases Nat.lt_or_ge i subs.length with hlt | hge
  · by_cases hlf : 0≤lf
    · have hg:=ih' i hlt lf hlf (by omega)
      have h2:=hle (i + 1)
      have hs1:=hstep i hlt
      generalize subs[i].cnt=c1 at hg hs1
      repeat' (first|(apply r_mvV;rfl)|(apply r_mvP;rfl)|(apply r_nckD;rfl)|(apply r_faddD;rfl)|(apply r_l;apply ld_subs;assumption;rfl)|(apply r_p;apply ix_sub;rfl;rfl;omega)|(apply r_callA;rfl;rfl;exact hg)|(apply r_lss;rfl;rfl;(first|(apply dT;omega)|(apply dF;omega)|rfl))|(apply r_geq;rfl;rfl;(first|(apply dT;omega)|(apply dF;omega)|rfl))|(apply r_add;rfl;rfl;rfl;omega)|(apply r_pickT;rfl)|(apply r_lenD;rfl)|(apply r_gT;rfl)|(apply r_nilK)|(apply k_V;rfl)|(apply k_P;rfl)|(apply k_nil)|(apply w_seq)|(apply w_ops;((conv=>lhs;simp only [Nat.reduceAdd])<;>rfl))|(apply w_condT;rfl)|(apply e_thenN)|(apply w_block)|(apply e_blkN)|(apply w_skip))
      apply e_thenK
      apply hK (i + 1,max (lf - (c1 : Nat)) (-1))
      · refine ⟨by dsimp only;omega,?_⟩
        dsimp only
        rw [hs1,hq]
        omega
      · dsimp only;omega
      · dsimp only
        refine wk0 (by omega) ?_
        repeat' (first|exact FWk.nil|(apply FWk.i;rfl;(first|rfl|omega|(simp;done)))|(apply FWk.d;rfl;rfl))
    · have e : max (left - ((1 + cntL subs : Nat) : Int)) (-1)=lf:=by
        have:=hle i
        omega
      rw [e]
      repeat' (first|(apply r_mvV;rfl)|(apply r_mvP;rfl)|(apply r_nckD;rfl)|(apply r_faddD;rfl)|(apply r_l;apply ld_subs;assumption;rfl)|(apply r_lss;rfl;rfl;(first|(apply dT;omega)|(apply dF;omega)|rfl))|(apply r_geq;rfl;rfl;(first|(apply dT;omega)|(apply dF;omega)|rfl))|(apply r_pickT;rfl)|(apply r_lenD;rfl)|(apply r_gT;rfl)|(apply r_nilK)|(apply k_V;rfl)|(apply k_P;rfl)|(apply k_nil)|(apply e_ret (vs:=[.d (.val _)]);rfl)|(apply w_seq)|(apply w_ops;((conv=>lhs;simp only [Nat.reduceAdd])<;>rfl))|(apply w_condF;rfl)|(apply e_thenN)|(apply e_thenX)|(apply e_blkE)|(apply w_exit)|(apply w_ret))
      exact retI rfl
  · have e : max (left - ((1 + cntL subs : Nat) : Int)) (-1)=lf:=by
      rw [hq,List.take_of_length_le hge]
      omega
    rw [e]
    repeat' (first|(apply r_mvV;rfl)|(apply r_mvP;rfl)|(apply r_nckD;rfl)|(apply r_faddD;rfl)|(apply r_l;apply ld_subs;assumption;rfl)|(apply r_lss;rfl;rfl;(first|(apply dT;omega)|(apply dF;omega)|rfl))|(apply r_pickF;rfl)|(apply r_lenD;rfl)|(apply r_gF';rfl;rfl)|(apply r_nilK)|(apply k_V;rfl)|(apply k_P;rfl)|(apply k_nil)|(apply e_ret (vs:=[.d (.val _)]);rfl)|(apply w_seq)|(apply w_ops;((conv=>lhs;simp only [Nat.reduceAdd])<;>rfl))|(apply w_condF;rfl)|(apply e_thenN)|(apply e_thenX)|(apply e_blkE)|(apply w_exit)|(apply w_ret))
    exact retI rfl
end Go.Sv
