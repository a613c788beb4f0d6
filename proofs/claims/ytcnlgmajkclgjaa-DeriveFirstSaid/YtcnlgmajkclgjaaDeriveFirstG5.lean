/- A part of the proof of the law DeriveFirst: that it answers true for every input, and that the input reads behind the call as before (no condition). -/
import Derived.Test.YtcnlgmajkclgjaaDeriveFirstG4
set_option linter.all false
set_option linter.unusedSectionVars false
set_option linter.unusedVariables false
set_option linter.unusedSimpArgs false
namespace Go.Sv
open Go
mutual
def sameT : T→T→Bool
  | .node k a b c d mn mx s,.node k' a' b' c' d' mn' mx' s'=>(k == k' && (a == a' && b == b' && c == c' && d == d') && mn == mn' && mx == mx') && sameL s s'
def sameL : List T→List T→Bool
  | [],[]=>true
  | t :: l,u :: r=>sameT t u && sameL l r
  | [],_ :: _=>false
  | _ :: _,[]=>false
end
mutual
theorem sameT_iff : ∀ (t u : T),sameT t u=true↔t=u
  | .node k a b c d mn mx s,.node k' a' b' c' d' mn' mx' s'=>by
    simp only [sameT,Bool.and_eq_true,beq_iff_eq,sameL_iff s s',T.node.injEq]
    constructor
    · rintro ⟨⟨⟨⟨h1,⟨⟨h2,h3⟩,h4⟩,h5⟩,h6⟩,h7⟩,h8⟩;exact ⟨h1,h2,h3,h4,h5,h6,h7,h8⟩
    · rintro ⟨h1,h2,h3,h4,h5,h6,h7,h8⟩;exact ⟨⟨⟨⟨h1,⟨⟨h2,h3⟩,h4⟩,h5⟩,h6⟩,h7⟩,h8⟩
theorem sameL_iff : ∀ (l r : List T),sameL l r=true↔l=r
  | [],[]=>by simp [sameL]
  | t :: l,u :: r=>by simp only [sameL,Bool.and_eq_true,sameT_iff t u,sameL_iff l r,List.cons.injEq]
  | [],_ :: _=>by simp [sameL]
  | _ :: _,[]=>by simp [sameL]
end
theorem sameT_self (t : T) : sameT t t=true:=(sameT_iff t t).2 rfl
theorem sameL_drop (l r : List T) (i : Nat) (h : i < l.length) (h2 : i < r.length) : sameL (l.drop i) (r.drop i)=(sameT l[i] r[i] && sameL (l.drop (i + 1)) (r.drop (i + 1))):=by
  rw [List.drop_eq_getElem_cons h,List.drop_eq_getElem_cons h2,sameL]
theorem sameL_len {l r : List T} (h : l.length ≠ r.length) : sameL l r=false:=by
  cases e : sameL l r with
  | false=>rfl
  | true=>exact absurd (congrArg List.length ((sameL_iff l r).1 e)) h

def isNo : T→Bool
  | .node k a b c d _ _ _=>k == 2 && isZero a b c d
def emptyT : T:=.node 1 0 0 0 0 0 0 []
def noneT : T:=.node 2 0 0 0 0 0 0 []
def ofT (k : Int) (l : List T) (e : T) : T:=match l with
  | []=>e
  | [t]=>t
  | l=>.node k 0 0 0 0 0 0 l
def flatO (k : Int) (t : T) : List T:=if t.kind=k then t.subs else [t]
def flatL (k : Int) : List T→List T
  | []=>[]
  | t :: l=>flatO k t++flatL k l
def notE (t : T) : Bool:=!(t.kind == 1)
def catS (l : List T) : T:=if (flatL 3 l).any isNo=true then noneT else ofT 3 ((flatL 3 l).filter notE) emptyT
def orW (a b : Int) : Int:=((BitVec.ofInt 64 a ||| BitVec.ofInt 64 b).toNat : Int)
def clsN : T→T
  | .node _ a b c d _ _ _=>.node 2 a b c d 0 0 []
def orN : T→T→T
  | .node _ a b c d _ _ _,.node _ a' b' c' d' _ _ _=>.node 2 (orW a a') (orW b b') (orW c c') (orW d d') 0 0 []
def altStep (s : List T × Option Nat) (t : T) : List T × Option Nat :=
  if isNo t=true then s
  else if t.kind=2 then match s.2 with
    | some i=>(s.1.set i (orN (s.1.getD i noneT) t),some i)
    | none=>(s.1++[clsN t],some s.1.length)
  else if s.1.any (fun u=>sameT u t)=true then s else (s.1++[t],s.2)
def altF (l : List T) : List T × Option Nat:=(flatL 4 l).foldl altStep ([],none)
def altS (l : List T) : T:=ofT 4 (altF l).1 noneT
def isStar (t : T) : Bool:=t.kind == 5 && t.mn == 0 && t.mx == -1
mutual
def repS : T→Int→Int→T
  | .node k a b c d mn mx subs,lo,hi =>
    if hi=0 ∨ k=1 ∨ (isNo (.node k a b c d mn mx subs)=true∧lo=0) then emptyT
    else if isNo (.node k a b c d mn mx subs)=true ∨ (lo=1∧hi=1) ∨ (k=5∧mn=0∧mx=-1) then .node k a b c d mn mx subs
    else if lo=0∧hi=-1∧k=5∧mn≤1∧0≤mn then repF subs (.node k a b c d mn mx subs)
    else .node 5 0 0 0 0 lo hi [.node k a b c d mn mx subs]
def repF : List T→T→T
  | [],t=>.node 5 0 0 0 0 0 (-1) [t]
  | u :: l,t=>if l.isEmpty=true then repS u 0 (-1) else .node 5 0 0 0 0 0 (-1) [t]
end
theorem repF_one (u t : T) : repF [u] t=repS u 0 (-1):=by simp [repF]
mutual
def simT : T→T
  | .node k a b c d mn mx subs =>
    if k=3 then catS (simL subs) else if k=4 then altS (simL subs) else if k=5 then repS ((simL subs).headD emptyT) mn mx else .node k a b c d mn mx subs
def simL : List T→List T
  | []=>[]
  | t :: l=>simT t :: simL l
end
theorem simL_len : ∀ l : List T,(simL l).length=l.length
  | []=>rfl
  | t :: l=>by rw [simL,List.length_cons,simL_len l,List.length_cons]
theorem simL_get : ∀ (l : List T) (i : Nat) (h : i < l.length) (h2 : i < (simL l).length),(simL l)[i]=simT l[i]
  | t :: l,0,_,_=>by simp [simL]
  | t :: l,i + 1,h,h2=>by
    simp only [simL,List.getElem_cons_succ]
    exact simL_get l i (by simpa using h) _
theorem okW_nat {w : Int} (h : okW w) : ∃ n : Nat,w=n∧n < 2 ^ 64:=by
  obtain ⟨n,rfl⟩:=Int.eq_ofNat_of_zero_le h.1
  exact ⟨n,rfl,by have:=h.2;omega⟩
theorem bitG_nat (n x : Nat) : bitG (n : Int) x=n.testBit (x % 64):=by
  unfold bitG
  rw [Nat.testBit_eq_decide_div_mod_eq]
  congr 1
  apply propext
  have : ((n : Int) / 2 ^ (x % 64) % 2=1)↔(((n / 2 ^ (x % 64) % 2 : Nat) : Int)=((1 : Nat) : Int)):=by
    rw [Int.natCast_emod,Int.natCast_ediv,Int.natCast_pow];rfl
  rw [this,Int.ofNat_inj]
theorem orW_nat {a b : Nat} (ha : a < 2 ^ 64) (hb : b < 2 ^ 64) : orW (a : Int) (b : Int)=((a ||| b : Nat) : Int):=by
  unfold orW
  have h1 : (BitVec.ofInt 64 (a : Int)).toNat=a:=by simp [BitVec.toNat_ofInt];omega
  have h2 : (BitVec.ofInt 64 (b : Int)).toNat=b:=by simp [BitVec.toNat_ofInt];omega
  rw [BitVec.toNat_or,h1,h2]
theorem okW_or {a b : Int} (ha : okW a) (hb : okW b) : okW (orW a b):=by
  obtain ⟨m,rfl,hm⟩:=okW_nat ha
  obtain ⟨n,rfl,hn⟩:=okW_nat hb
  rw [orW_nat hm hn]
  have:=Nat.or_lt_two_pow hm hn
  unfold okW;omega
theorem bitG_or {a b : Int} (ha : okW a) (hb : okW b) (x : Nat) : bitG (orW a b) x=(bitG a x || bitG b x):=by
  obtain ⟨m,rfl,hm⟩:=okW_nat ha
  obtain ⟨n,rfl,hn⟩:=okW_nat hb
  rw [orW_nat hm hn,bitG_nat,bitG_nat,bitG_nat,Nat.testBit_or]
theorem bitG_0 (x : Nat) : bitG 0 x=false:=by
  have:=bitG_nat 0 x
  simpa using this
theorem four {P : Nat→Prop} (h0 : P 0) (h1 : P 1) (h2 : P 2) (h3 : P 3) (h4 : ∀ n,4≤n→P n) (n : Nat) : P n:=by
  rcases Nat.lt_or_ge n 4 with h | h
  · match n,h with
    | 0,_=>exact h0
    | 1,_=>exact h1
    | 2,_=>exact h2
    | 3,_=>exact h3
  · exact h4 n h
theorem inG_or {a b c d a' b' c' d' : Int} (ha : okW a) (hb : okW b) (hc : okW c) (hd : okW d) (ha' : okW a') (hb' : okW b') (hc' : okW c') (hd' : okW d') (x : Nat) :
    inG (orW a a') (orW b b') (orW c c') (orW d d') x=(inG a b c d x || inG a' b' c' d' x):=by
  unfold inG
  generalize x / 64=n
  revert n
  refine four ?_ ?_ ?_ ?_ ?_
  · exact bitG_or ha ha' x
  · exact bitG_or hb hb' x
  · exact bitG_or hc hc' x
  · exact bitG_or hd hd' x
  · intro n h
    rw [List.getD_eq_getElem?_getD,List.getElem?_eq_none (by simpa using h),List.getD_eq_getElem?_getD,List.getElem?_eq_none (by simpa using h),List.getD_eq_getElem?_getD,List.getElem?_eq_none (by simpa using h)]
    simp [bitG_0]
theorem inG_0 (x : Nat) : inG 0 0 0 0 x=false:=by
  unfold inG
  generalize x / 64=n
  revert n
  refine four (bitG_0 x) (bitG_0 x) (bitG_0 x) (bitG_0 x) ?_
  intro n h
  rw [List.getD_eq_getElem?_getD,List.getElem?_eq_none (by simpa using h)]
  simp [bitG_0]

theorem isNo_L {t : T} (h : isNo t=true) (w : List Nat) : ¬ L t w:=by
  obtain ⟨k,a,b,c,d,mn,mx,subs⟩:=t
  simp [isNo,isZero] at h
  obtain ⟨rfl,rfl,rfl,rfl,rfl⟩:=h
  rw [L_k2]
  rintro ⟨x,_,h⟩
  rw [inG_0] at h;cases h
theorem L_noneT (w : List Nat) : ¬ L noneT w:=isNo_L rfl w
theorem L_emptyT (w : List Nat) : L emptyT w↔w=[]:=L_k1
theorem L_of4 (l : List T) (w : List Nat) : L (ofT 4 l noneT) w↔altL l w:=by
  unfold ofT
  split
  · simp only [altL,iff_false];exact L_noneT w
  · simp only [altL,or_false]
  · rw [L_k4]
theorem L_of3 (l : List T) (w : List Nat) : L (ofT 3 l emptyT) w↔catL l w:=by
  unfold ofT
  split
  · simp only [catL];exact L_emptyT w
  · rw [catL_one]
  · rw [L_k3]
theorem altL_flat : ∀ (l : List T) (w : List Nat),altL (flatL 4 l) w↔altL l w
  | [],w=>Iff.rfl
  | t :: l,w=>by
    rw [flatL,altL_app,altL_flat l w,altL]
    refine or_congr ?_ Iff.rfl
    unfold flatO
    split
    · rename_i h
      obtain ⟨k,a,b,c,d,mn,mx,subs⟩:=t
      simp only [T.kind] at h
      subst h
      rw [L_k4,T.subs]
    · simp [altL]
theorem catL_flat : ∀ (l : List T) (w : List Nat),catL (flatL 3 l) w↔catL l w
  | [],w=>Iff.rfl
  | t :: l,w=>by
    rw [flatL,catL_app,catL]
    have e : ∀ u,catL (flatO 3 t) u↔L t u:=by
      intro u
      unfold flatO
      split
      · rename_i h
        obtain ⟨k,a,b,c,d,mn,mx,subs⟩:=t
        simp only [T.kind] at h
        subst h
        rw [L_k3,T.subs]
      · exact catL_one t u
    simp only [e,catL_flat l]
theorem catL_no : ∀ (l : List T) (w : List Nat),l.any isNo=true→¬ catL l w
  | t :: l,w,h=>by
    rintro ⟨u,v,rfl,h1,h2⟩
    rw [List.any_cons,Bool.or_eq_true] at h
    rcases h with h | h
    · exact isNo_L h u h1
    · exact catL_no l v h h2
theorem kind1_L {t : T} (h : t.kind=1) (w : List Nat) : L t w↔w=[]:=by
  obtain ⟨k,a,b,c,d,mn,mx,subs⟩:=t
  simp only [T.kind] at h
  subst h
  exact L_k1
theorem catL_filter : ∀ (l : List T) (w : List Nat),catL (l.filter notE) w↔catL l w
  | [],w=>Iff.rfl
  | t :: l,w=>by
    rw [List.filter_cons]
    split
    · simp only [catL,catL_filter l]
    · rename_i h
      have hk : t.kind=1:=by simpa [notE] using h
      rw [catL_filter l w,catL]
      simp only [kind1_L hk]
      constructor
      · intro h;exact ⟨[],w,rfl,rfl,h⟩
      · rintro ⟨u,v,rfl,rfl,h⟩;exact h
theorem catS_L (l : List T) (w : List Nat) : L (catS l) w↔catL l w:=by
  unfold catS
  split
  · rename_i h
    rw [← catL_flat]
    exact ⟨fun h1=>absurd h1 (L_noneT w),fun h1=>absurd h1 (catL_no _ w h)⟩
  · rw [L_of3,catL_filter,catL_flat]
def okS : T→Prop
  | .node _ a b c d _ _ _=>okW a∧okW b∧okW c∧okW d
theorem altL_set : ∀ (l : List T) (i : Nat) (u : T) (h : i < l.length) (w : List Nat),(∀ w,L l[i] w→L u w)→(altL (l.set i u) w↔altL l w ∨ L u w)
  | t :: l,0,u,_,w,hu=>by
    simp only [List.set_cons_zero,altL]
    constructor
    · rintro (h | h)
      · exact .inr h
      · exact .inl (.inr h)
    · rintro ((h | h) | h)
      · exact .inl (hu w h)
      · exact .inr h
      · exact .inl h
  | t :: l,i + 1,u,h,w,hu=>by
    simp only [List.set_cons_succ,altL,altL_set l i u (by simpa using h) w hu,or_assoc]
theorem altL_mem : ∀ (l : List T) (t : T),t ∈ l→∀ w,L t w→altL l w
  | u :: l,t,h,w,hw=>by
    rcases List.mem_cons.1 h with rfl | h
    · exact .inl hw
    · exact .inr (altL_mem l t h w hw)
theorem orN_L {t u : T} (ht : t.kind=2) (hu : u.kind=2) (h1 : okS t) (h2 : okS u) (w : List Nat) : L (orN t u) w↔L t w ∨ L u w:=by
  obtain ⟨k,a,b,c,d,mn,mx,subs⟩:=t
  obtain ⟨k',a',b',c',d',mn',mx',subs'⟩:=u
  simp only [T.kind] at ht hu
  subst ht hu
  obtain ⟨p1,p2,p3,p4⟩:=h1
  obtain ⟨q1,q2,q3,q4⟩:=h2
  rw [orN,L_k2,L_k2,L_k2]
  simp only [inG_or p1 p2 p3 p4 q1 q2 q3 q4,Bool.or_eq_true]
  constructor
  · rintro ⟨x,rfl,h | h⟩
    · exact .inl ⟨x,rfl,h⟩
    · exact .inr ⟨x,rfl,h⟩
  · rintro (⟨x,rfl,h⟩ | ⟨x,rfl,h⟩)
    · exact ⟨x,rfl,.inl h⟩
    · exact ⟨x,rfl,.inr h⟩
theorem clsN_L {t : T} (h : t.kind=2) (w : List Nat) : L (clsN t) w↔L t w:=by
  obtain ⟨k,a,b,c,d,mn,mx,subs⟩:=t
  simp only [T.kind] at h
  subst h
  rw [clsN,L_k2,L_k2]
def AltI (s : List T × Option Nat) : Prop:=∀ i,s.2=some i→∃ a b c d,s.1[i]?=some (.node 2 a b c d 0 0 [])∧okW a∧okW b∧okW c∧okW d
theorem AltI.lt {s : List T × Option Nat} (h : AltI s) {i : Nat} (hi : s.2=some i) : i < s.1.length:=by
  obtain ⟨a,b,c,d,h,_⟩:=h i hi
  exact (List.getElem?_eq_some_iff.1 h).1
theorem altStep_I {s : List T × Option Nat} {t : T} (h : AltI s) (ht : okS t) : AltI (altStep s t):=by
  unfold altStep
  split
  · exact h
  split
  · split
    · rename_i i hi
      intro j hj
      cases hj
      obtain ⟨a,b,c,d,h1,ha,hb,hc,hd⟩:=h i hi
      have hlt:=(List.getElem?_eq_some_iff.1 h1).1
      obtain ⟨k',a',b',c',d',mn',mx',subs'⟩:=t
      obtain ⟨q1,q2,q3,q4⟩:=ht
      refine ⟨orW a a',orW b b',orW c c',orW d d',?_,okW_or ha q1,okW_or hb q2,okW_or hc q3,okW_or hd q4⟩
      rw [List.getElem?_set_self hlt,List.getD_eq_getElem?_getD,h1]
      rfl
    · intro j hj
      cases hj
      obtain ⟨k',a',b',c',d',mn',mx',subs'⟩:=t
      exact ⟨a',b',c',d',by rw [List.getElem?_append_right (Nat.le_refl _),Nat.sub_self];rfl,ht⟩
  · split
    · exact h
    · intro j hj
      obtain ⟨a,b,c,d,h1,h2⟩:=h j hj
      exact ⟨a,b,c,d,by rw [List.getElem?_append_left (List.getElem?_eq_some_iff.1 h1).1];exact h1,h2⟩
theorem altStep_L {s : List T × Option Nat} {t : T} (h : AltI s) (ht : okS t) (w : List Nat) : altL (altStep s t).1 w↔altL s.1 w ∨ L t w:=by
  unfold altStep
  split
  · rename_i hn
    have:=isNo_L hn w
    simp [this]
  split
  · rename_i hk
    split
    · rename_i i hi
      obtain ⟨a,b,c,d,h1,ha,hb,hc,hd⟩:=h i hi
      obtain ⟨hlt,h1'⟩:=List.getElem?_eq_some_iff.1 h1
      have e : s.1.getD i noneT=.node 2 a b c d 0 0 []:=by rw [List.getD_eq_getElem?_getD,h1];rfl
      have ho:=orN_L (t:=.node 2 a b c d 0 0 []) rfl hk ⟨ha,hb,hc,hd⟩ ht
      simp only [e]
      rw [altL_set _ _ _ hlt _ (fun w hw=>(ho w).2 (.inl (h1' ▸ hw))),ho w]
      constructor
      · rintro (h | h | h)
        · exact .inl h
        · exact .inl (altL_mem _ _ (List.getElem_mem hlt) w (h1' ▸ h))
        · exact .inr h
      · rintro (h | h)
        · exact .inl h
        · exact .inr (.inr h)
    · simp only [altL_app,altL,or_false,clsN_L hk]
  · split
    · rename_i hs
      obtain ⟨u,hu,he⟩:=List.any_eq_true.1 hs
      have:=(sameT_iff u t).1 he
      subst this
      constructor
      · exact .inl
      · rintro (h | h)
        · exact h
        · exact altL_mem _ _ hu w h
    · simp only [altL_app,altL,or_false]
theorem altFold_L : ∀ (l : List T) (s : List T × Option Nat),AltI s→(∀ t ∈ l,okS t)→∀ w,altL (l.foldl altStep s).1 w↔altL s.1 w ∨ altL l w
  | [],s,_,_,w=>by simp [altL]
  | t :: l,s,h,ht,w=>by
    rw [List.foldl_cons,altFold_L l _ (altStep_I h (ht t (by simp))) (fun u hu=>ht u (by simp [hu])) w,altStep_L h (ht t (by simp)) w,altL,or_assoc]
theorem altS_L (l : List T) (h : ∀ t ∈ flatL 4 l,okS t) (w : List Nat) : L (altS l) w↔altL l w:=by
  unfold altS altF
  rw [L_of4,altFold_L _ _ (fun i hi=>by cases hi) h w,altL_flat]
  simp [altL]
theorem okT_S {t : T} (h : okT t) : okS t:=by
  obtain ⟨k,a,b,c,d,mn,mx,subs⟩:=t
  simp only [okT,okN] at h
  exact ⟨h.1.1,h.1.2.1,h.1.2.2.1,h.1.2.2.2.1⟩
theorem okT_subs' {t : T} (h : okT t) : okL t.subs:=by cases t;exact okT_subs h
theorem okL_flat (k : Int) : ∀ {l : List T},okL l→okL (flatL k l)
  | [],_=>trivial
  | t :: l,h=>by
    simp only [okL] at h
    rw [flatL,okL_iff]
    intro u hu
    rcases List.mem_append.1 hu with hu | hu
    · unfold flatO at hu
      split at hu
      · exact (okL_iff _).1 (okT_subs' h.1) u hu
      · rw [List.mem_singleton] at hu;rw [hu];exact h.1
    · exact (okL_iff _).1 (okL_flat k h.2) u hu
end Go.Sv
namespace Go.Sv
open Go
def AltN (l : List T) (at' : Option Nat) : Prop :=
  (∀ j,(∃ u,l[j]?=some u∧u.kind=2)↔at'=some j)∧(∀ u ∈ l,isNo u=false)∧l.Nodup∧(∀ u ∈ l,u.kind=2→clsN u=u∧okS u)
def sfN : T→Prop
  | .node k _ _ _ _ mn mx subs =>
    (k=3→2≤subs.length∧∀ u ∈ subs,u.kind ≠ 3∧u.kind ≠ 1∧isNo u=false) ∧
    (k=4→2≤subs.length∧(∀ u ∈ subs,u.kind ≠ 4)∧∃ at',AltN subs at') ∧
    (k=5→mx ≠ 0∧∃ u,subs=[u]∧u.kind ≠ 1∧isNo u=false∧¬ (mn=1∧mx=1)∧isStar u=false∧¬ (mn=0∧mx=-1∧u.kind=5∧u.mn≤1∧0≤u.mn))
mutual
def sfT : T→Prop
  | .node k a b c d mn mx subs=>sfN (.node k a b c d mn mx subs)∧sfL subs
def sfL : List T→Prop
  | []=>True
  | t :: l=>sfT t∧sfL l
end
theorem sfL_iff : ∀ (l : List T),sfL l↔∀ t ∈ l,sfT t
  | []=>by simp [sfL]
  | t :: l=>by simp [sfL,sfL_iff l]
theorem sfT_subs {t : T} (h : sfT t) : sfL t.subs:=by cases t;exact h.2
theorem sf_leaf {k a b c d mn mx : Int} (h3 : k ≠ 3) (h4 : k ≠ 4) (h5 : k ≠ 5) : sfT (.node k a b c d mn mx []):=⟨⟨fun h=>absurd h h3,fun h=>absurd h h4,fun h=>absurd h h5⟩,trivial⟩
theorem sf_empty : sfT emptyT:=sf_leaf (by omega) (by omega) (by omega)
theorem sf_none : sfT noneT:=sf_leaf (by omega) (by omega) (by omega)

theorem isNo_cls (t : T) (h : t.kind=2) : isNo (clsN t)=isNo t:=by
  obtain ⟨k,a,b,c,d,mn,mx,subs⟩:=t
  simp only [T.kind] at h
  subst h;rfl
theorem clsN_cls (t : T) : clsN (clsN t)=clsN t:=by cases t;rfl
theorem clsN_kind (t : T) : (clsN t).kind=2:=by cases t;rfl
theorem okS_cls {t : T} (h : okS t) : okS (clsN t):=by cases t;exact h
theorem orN_kind (t u : T) : (orN t u).kind=2:=by cases t;cases u;rfl
theorem clsN_or (t u : T) : clsN (orN t u)=orN t u:=by cases t;cases u;rfl
theorem okS_or {t u : T} (h1 : okS t) (h2 : okS u) : okS (orN t u):=by
  cases t;cases u
  exact ⟨okW_or h1.1 h2.1,okW_or h1.2.1 h2.2.1,okW_or h1.2.2.1 h2.2.2.1,okW_or h1.2.2.2 h2.2.2.2⟩
theorem orW_zero {a b : Int} (ha : okW a) (hb : okW b) (h : orW a b=0) : b=0:=by
  obtain ⟨m,rfl,hm⟩:=okW_nat ha
  obtain ⟨n,rfl,hn⟩:=okW_nat hb
  rw [orW_nat hm hn] at h
  have h : m ||| n=0:=by omega
  have : n=0:=by
    refine Nat.eq_of_testBit_eq fun i=>?_
    have:=congrArg (fun x=>Nat.testBit x i) h
    simp only [Nat.testBit_or,Nat.zero_testBit,Bool.or_eq_false_iff] at this
    rw [this.2,Nat.zero_testBit]
  omega
theorem isNo_or {t u : T} (h1 : okS t) (h2 : okS u) (hu : u.kind=2) (hn : isNo u=false) : isNo (orN t u)=false:=by
  obtain ⟨k,a,b,c,d,mn,mx,subs⟩:=t
  obtain ⟨k',a',b',c',d',mn',mx',subs'⟩:=u
  simp only [T.kind] at hu
  subst hu
  cases e : isNo (orN (.node k a b c d mn mx subs) (.node 2 a' b' c' d' mn' mx' subs')) with
  | false=>rfl
  | true =>
    exfalso
    simp [isNo,orN,isZero] at e hn
    exact hn (orW_zero h1.1 h2.1 e.1) (orW_zero h1.2.1 h2.2.1 e.2.1) (orW_zero h1.2.2.1 h2.2.2.1 e.2.2.1) (orW_zero h1.2.2.2 h2.2.2.2 e.2.2.2)
theorem altN_nil : AltN [] none:=⟨fun j=>by simp,fun u h=>absurd h (by simp),List.nodup_nil,fun u h=>absurd h (by simp)⟩
theorem AltN.lt {l : List T} {q : Option Nat} (h : AltN l q) {j : Nat} (hj : q=some j) : j < l.length:=by
  obtain ⟨u,hu,_⟩:=(h.1 j).2 hj
  exact (List.getElem?_eq_some_iff.1 hu).1
theorem altN_snoc {l : List T} {q q' : Option Nat} (h : AltN l q) {t : T} (hn : isNo t=false) (hs : ∀ u ∈ l,u ≠ t) (hc : t.kind=2→clsN t=t∧okS t) (hq : (t.kind=2∧q=none∧q'=some l.length) ∨ (t.kind ≠ 2∧q'=q)) : AltN (l++[t]) q':=by
  obtain ⟨h1,h2,h3,h4⟩:=h
  have hlt : ∀ j,q=some j→j < l.length:=fun j hj=>AltN.lt ⟨h1,h2,h3,h4⟩ hj
  refine ⟨fun j=>?_,fun u hu=>?_,?_,fun u hu=>?_⟩
  · rcases Nat.lt_trichotomy j l.length with hj | rfl | hj
    · rw [List.getElem?_append_left hj,h1 j]
      rcases hq with ⟨_,rfl,rfl⟩ | ⟨_,rfl⟩
      · simp;omega
      · exact Iff.rfl
    · rw [List.getElem?_append_right (Nat.le_refl _),Nat.sub_self]
      simp only [List.getElem?_cons_zero,Option.some.injEq,exists_eq_left']
      rcases hq with ⟨hk,rfl,rfl⟩ | ⟨hk,rfl⟩
      · simp [hk]
      · simp only [hk,false_iff]
        intro e;have:=hlt _ e;omega
    · rw [List.getElem?_eq_none (by simp;omega)]
      constructor
      · rintro ⟨u,hu,_⟩;cases hu
      · intro e
        rcases hq with ⟨_,rfl,rfl⟩ | ⟨_,rfl⟩
        · cases e;omega
        · have:=hlt _ e;omega
  · rcases List.mem_append.1 hu with hu | hu
    · exact h2 u hu
    · rw [List.mem_singleton] at hu;rw [hu];exact hn
  · rw [List.nodup_append]
    refine ⟨h3,by simp,fun a ha b hb=>?_⟩
    rw [List.mem_singleton] at hb;rw [hb];exact hs a ha
  · rcases List.mem_append.1 hu with hu | hu
    · exact h4 u hu
    · rw [List.mem_singleton] at hu;rw [hu];exact hc
theorem nodup_set {l : List T} (h : l.Nodup) (i : Nat) (u : T) (hu : ∀ j x,j ≠ i→l[j]?=some x→x ≠ u) : (l.set i u).Nodup:=by
  have h:=List.pairwise_iff_getElem.1 h
  refine List.pairwise_iff_getElem.2 fun a b ha hb hab=>?_
  rw [List.length_set] at ha hb
  rw [List.getElem_set,List.getElem_set]
  split
  · rename_i e
    rw [if_neg (by omega)]
    exact fun e2=>hu b _ (by omega) (List.getElem?_eq_getElem hb) e2.symm
  · split
    · exact fun e2=>hu a _ (by omega) (List.getElem?_eq_getElem ha) e2
    · exact h a b ha hb hab
theorem altStep_N {s : List T × Option Nat} {t : T} (h : AltN s.1 s.2) (ht : okS t) : AltN (altStep s t).1 (altStep s t).2:=by
  unfold altStep
  split
  · exact h
  rename_i hn
  have hn : isNo t=false:=by simpa using hn
  split
  · rename_i hk
    split
    · rename_i i hi
      have hlt:=h.lt hi
      obtain ⟨x,hx,hxk⟩:=(h.1 i).2 hi
      obtain ⟨h1,h2,h3,h4⟩:=h
      have hxm : x ∈ s.1:=List.mem_of_getElem? hx
      have e : s.1.getD i noneT=x:=by rw [List.getD_eq_getElem?_getD,hx];rfl
      simp only [e]
      have hnk : ∀ j y,j ≠ i→s.1[j]?=some y→y.kind ≠ 2:=fun j y hj hy hk'=>hj (by
        have:=(h1 j).1 ⟨y,hy,hk'⟩
        rw [hi] at this;cases this;rfl)
      refine ⟨fun j=>?_,fun u hu=>?_,nodup_set h3 _ _ fun j y hj hy e=>hnk j y hj hy (e ▸ orN_kind x t),fun u hu hk'=>?_⟩
      · rw [List.getElem?_set]
        by_cases hj : i=j
        · subst hj
          rw [if_pos rfl,if_pos hlt]
          simp [orN_kind]
        · rw [if_neg hj,h1 j,hi]
      · rcases List.mem_or_eq_of_mem_set hu with hu | rfl
        · exact h2 u hu
        · exact isNo_or (h4 x hxm hxk).2 ht hk hn
      · rcases List.mem_or_eq_of_mem_set hu with hu | rfl
        · exact h4 u hu hk'
        · exact ⟨clsN_or _ _,okS_or (h4 x hxm hxk).2 ht⟩
    · rename_i hi
      refine altN_snoc h ((isNo_cls t hk).trans hn) (fun u hu e=>?_) (fun _=>⟨clsN_cls t,okS_cls ht⟩) (.inl ⟨clsN_kind t,hi,rfl⟩)
      obtain ⟨j,hj,rfl⟩:=List.getElem_of_mem hu
      have:=(h.1 j).1 ⟨_,List.getElem?_eq_getElem hj,by rw [e];exact clsN_kind t⟩
      rw [hi] at this;cases this
  · rename_i hk
    split
    · exact h
    · rename_i hs
      refine altN_snoc h hn (fun u hu e=>hs ?_) (fun h=>absurd h hk) (.inr ⟨hk,rfl⟩)
      exact List.any_eq_true.2 ⟨u,hu,by rw [e];exact sameT_self t⟩
theorem altF_N (l : List T) (h : ∀ t ∈ flatL 4 l,okS t) : AltN (altF l).1 (altF l).2:=by
  unfold altF
  have key : ∀ (l : List T) (s : List T × Option Nat),AltN s.1 s.2→(∀ t ∈ l,okS t)→AltN (l.foldl altStep s).1 (l.foldl altStep s).2:=by
    intro l
    induction l with
    | nil=>intro s h _;exact h
    | cons t l ih=>intro s h ht;exact ih _ (altStep_N h (ht t (by simp))) (fun u hu=>ht u (by simp [hu]))
  exact key _ _ altN_nil h
theorem plainT_34 {k a b c d mn mx : Int} {subs : List T} (hk : k=3 ∨ k=4) (h : plainT (.node k a b c d mn mx subs)=true) : a=0∧b=0∧c=0∧d=0∧mn=0∧mx=0∧2≤subs.length:=by
  rcases hk with rfl | rfl<;>(simp [plainT,isZero] at h;omega)
theorem sf_flat (k : Int) : ∀ {l : List T},sfL l→sfL (flatL k l)
  | [],_=>trivial
  | t :: l,h=>by
    simp only [sfL] at h
    rw [flatL,sfL_iff]
    intro u hu
    rcases List.mem_append.1 hu with hu | hu
    · unfold flatO at hu
      split at hu
      · exact (sfL_iff _).1 (sfT_subs h.1) u hu
      · rw [List.mem_singleton] at hu;rw [hu];exact h.1
    · exact (sfL_iff _).1 (sf_flat k h.2) u hu
theorem sf3_sub {t u : T} (h : sfT t) (hk : t.kind=3) (hu : u ∈ t.subs) : u.kind ≠ 3∧u.kind ≠ 1∧isNo u=false:=by
  obtain ⟨k,a,b,c,d,mn,mx,subs⟩:=t
  exact (h.1.1 hk).2 u hu
theorem sf4_sub {t u : T} (h : sfT t) (hk : t.kind=4) (hu : u ∈ t.subs) : u.kind ≠ 4:=by
  obtain ⟨k,a,b,c,d,mn,mx,subs⟩:=t
  exact (h.1.2.1 hk).2.1 u hu
theorem flat3_kind : ∀ {l : List T},sfL l→∀ u ∈ flatL 3 l,u.kind ≠ 3
  | [],_,u,h=>by simp [flatL] at h
  | t :: l,h,u,hu=>by
    simp only [sfL] at h
    rw [flatL] at hu
    rcases List.mem_append.1 hu with hu | hu
    · unfold flatO at hu
      split at hu
      · rename_i hk;exact (sf3_sub h.1 hk hu).1
      · rw [List.mem_singleton] at hu;rw [hu];assumption
    · exact flat3_kind h.2 u hu
theorem flat4_kind : ∀ {l : List T},sfL l→∀ u ∈ flatL 4 l,u.kind ≠ 4
  | [],_,u,h=>by simp [flatL] at h
  | t :: l,h,u,hu=>by
    simp only [sfL] at h
    rw [flatL] at hu
    rcases List.mem_append.1 hu with hu | hu
    · unfold flatO at hu
      split at hu
      · rename_i hk;exact sf4_sub h.1 hk hu
      · rw [List.mem_singleton] at hu;rw [hu];assumption
    · exact flat4_kind h.2 u hu
theorem two_of {l : List T} (h1 : l ≠ []) (h2 : ∀ t,l ≠ [t]) : 2≤l.length:=by
  match l with
  | []=>exact absurd rfl h1
  | [t]=>exact absurd rfl (h2 t)
  | _ :: _ :: _=>simp
theorem sf_cat {l : List T} (h : sfL l) : sfT (catS l):=by
  unfold catS
  split
  · exact sf_none
  · rename_i hn
    have hn : (flatL 3 l).any isNo=false:=by simpa using hn
    rw [List.any_eq_false] at hn
    have hs : ∀ u ∈ (flatL 3 l).filter notE,sfT u∧u.kind ≠ 3∧u.kind ≠ 1∧isNo u=false:=by
      intro u hu
      rw [List.mem_filter] at hu
      exact ⟨(sfL_iff _).1 (sf_flat 3 h) u hu.1,flat3_kind h u hu.1,by simpa [notE] using hu.2,by simpa using hn u hu.1⟩
    generalize (flatL 3 l).filter notE=r at hs
    unfold ofT
    split
    · exact sf_empty
    · rename_i u;exact (hs u (by simp)).1
    · rename_i h1 h2
      refine ⟨⟨fun _=>⟨two_of h1 h2,fun u hu=>(hs u hu).2⟩,fun h=>absurd h (by omega),fun h=>absurd h (by omega)⟩,(sfL_iff _).2 fun u hu=>(hs u hu).1⟩
theorem altStep_mem {P : T→Prop} (hc : ∀ t,t.kind=2→P (clsN t)) (ho : ∀ t u,P (orN t u)) {s : List T × Option Nat} {t : T} (h : ∀ u ∈ s.1,P u) (ht : P t) : ∀ u ∈ (altStep s t).1,P u:=by
  unfold altStep
  split
  · exact h
  split
  · rename_i hk
    split
    · intro u hu
      rcases List.mem_or_eq_of_mem_set hu with hu | rfl
      · exact h u hu
      · exact ho _ _
    · intro u hu
      rcases List.mem_append.1 hu with hu | hu
      · exact h u hu
      · rw [List.mem_singleton] at hu;rw [hu];exact hc t hk
  · split
    · exact h
    · intro u hu
      rcases List.mem_append.1 hu with hu | hu
      · exact h u hu
      · rw [List.mem_singleton] at hu;rw [hu];exact ht
theorem altF_mem {P : T→Prop} (hc : ∀ t,t.kind=2→P (clsN t)) (ho : ∀ t u,P (orN t u)) {l : List T} (h : ∀ u ∈ flatL 4 l,P u) : ∀ u ∈ (altF l).1,P u:=by
  unfold altF
  have key : ∀ (l : List T) (s : List T × Option Nat),(∀ u ∈ s.1,P u)→(∀ t ∈ l,P t)→∀ u ∈ (l.foldl altStep s).1,P u:=by
    intro l
    induction l with
    | nil=>intro s h _;exact h
    | cons t l ih=>intro s h ht;exact ih _ (altStep_mem hc ho h (ht t (by simp))) (fun u hu=>ht u (by simp [hu]))
  exact key _ _ (by simp) h
theorem sf_cls (t : T) : sfT (clsN t):=by cases t;exact sf_leaf (by omega) (by omega) (by omega)
theorem sf_or (t u : T) : sfT (orN t u):=by cases t;cases u;exact sf_leaf (by omega) (by omega) (by omega)
theorem sf_alt {l : List T} (h : sfL l) (ho : okL l) : sfT (altS l):=by
  unfold altS
  have hok : ∀ t ∈ flatL 4 l,okS t:=fun t ht=>okT_S ((okL_iff _).1 (okL_flat 4 ho) t ht)
  have hN:=altF_N l hok
  have hs : ∀ u ∈ (altF l).1,sfT u∧u.kind ≠ 4:=altF_mem (fun t _=>⟨sf_cls t,by rw [clsN_kind];omega⟩) (fun t u=>⟨sf_or t u,by rw [orN_kind];omega⟩) fun u hu=>⟨(sfL_iff _).1 (sf_flat 4 h) u hu,flat4_kind h u hu⟩
  generalize (altF l).2=q at hN
  generalize (altF l).1=r at hN hs
  unfold ofT
  split
  · exact sf_none
  · rename_i u;exact (hs u (by simp)).1
  · rename_i h1 h2
    refine ⟨⟨fun h=>absurd h (by omega),fun _=>⟨two_of h1 h2,fun u hu=>(hs u hu).2,q,hN⟩,fun h=>absurd h (by omega)⟩,(sfL_iff _).2 fun u hu=>(hs u hu).1⟩
theorem sf_rep : ∀ (t : T) (lo hi : Int),okT t→sfT t→sfT (repS t lo hi)
  | .node k a b c d mn mx subs,lo,hi,ho,hs=>by
    rw [repS]
    split
    · exact sf_empty
    rename_i h1
    split
    · exact hs
    rename_i h2
    have hk : ∀ (hsub : ¬ (lo=0∧hi=-1∧k=5∧mn≤1∧0≤mn)),sfT (.node 5 0 0 0 0 lo hi [.node k a b c d mn mx subs]):=by
      intro h3
      refine ⟨⟨fun h=>absurd h (by omega),fun h=>absurd h (by omega),fun _=>⟨fun h=>h1 (.inl h),_,rfl,fun h=>h1 (.inr (.inl h)),?_,fun h=>h2 (.inr (.inl h)),?_,fun h=>h3 ⟨h.1,h.2.1,h.2.2.1,h.2.2.2.1,h.2.2.2.2⟩⟩⟩,hs,trivial⟩
      · cases e : isNo (.node k a b c d mn mx subs) with
        | false=>rfl
        | true=>exact absurd (.inl e) h2
      · cases e : isStar (.node k a b c d mn mx subs) with
        | false=>rfl
        | true =>
          simp [isStar,T.kind,T.mn,T.mx] at e
          exact absurd (.inr (.inr ⟨e.1.1,e.1.2,e.2⟩)) h2
    split
    · rename_i h3
      obtain ⟨_,_,rfl,_,_⟩:=h3
      obtain ⟨u,rfl⟩:=plainT_5 (okT_plain ho)
      rw [repF_one]
      exact sf_rep u 0 (-1) (okT_subs ho).1 hs.2.1
    · rename_i h3
      exact hk h3
theorem okT_noneT : okT noneT:=okT_mk (by simp [plainT]) trivial
theorem okT_emptyT : okT emptyT:=okT_empty
theorem okT_of {k : Int} (hk : k=3 ∨ k=4) {l : List T} {e : T} (h : okL l) (he : okT e) : okT (ofT k l e):=by
  unfold ofT
  split
  · exact he
  · exact h.1
  · rename_i h1 h2
    refine okT_mk ?_ h
    have:=two_of h1 h2
    rcases hk with rfl | rfl<;>simp [plainT,isZero,this]
theorem okT_cat {l : List T} (h : okL l) : okT (catS l):=by
  unfold catS
  split
  · exact okT_noneT
  · refine okT_of (.inl rfl) ?_ okT_emptyT
    rw [okL_iff]
    intro u hu
    rw [List.mem_filter] at hu
    exact (okL_iff _).1 (okL_flat 3 h) u hu.1
theorem okT_clsS {t : T} (h : okS t) : okT (clsN t):=by
  obtain ⟨k,a,b,c,d,mn,mx,subs⟩:=t
  exact ⟨⟨h.1,h.2.1,h.2.2.1,h.2.2.2,by simp [plainT]⟩,trivial⟩
theorem okT_orS {t u : T} (h1 : okS t) (h2 : okS u) : okT (orN t u):=by
  have:=okT_clsS (okS_or h1 h2)
  rwa [clsN_or] at this
theorem okT_alt {l : List T} (h : okL l) : okT (altS l):=by
  have hok : ∀ t ∈ flatL 4 l,okT t:=(okL_iff _).1 (okL_flat 4 h)
  unfold altS
  refine okT_of (.inr rfl) ?_ okT_noneT
  unfold altF
  have key : ∀ (l : List T) (s : List T × Option Nat),(∀ u ∈ s.1,okT u)→(∀ t ∈ l,okT t)→∀ u ∈ (l.foldl altStep s).1,okT u:=by
    intro l
    induction l with
    | nil=>intro s h _;exact h
    | cons t l ih =>
      intro s h ht
      refine ih _ ?_ (fun u hu=>ht u (by simp [hu]))
      have htt:=ht t (by simp)
      unfold altStep
      split
      · exact h
      split
      · split
        · intro u hu
          rcases List.mem_or_eq_of_mem_set hu with hu | rfl
          · exact h u hu
          · refine okT_orS ?_ (okT_S htt)
            rw [List.getD_eq_getElem?_getD]
            cases e : s.1[‹Nat›]? with
            | none=>exact okT_S okT_noneT
            | some x=>exact okT_S (h x (List.mem_of_getElem? e))
        · intro u hu
          rcases List.mem_append.1 hu with hu | hu
          · exact h u hu
          · rw [List.mem_singleton] at hu;rw [hu];exact okT_clsS (okT_S htt)
      · split
        · exact h
        · intro u hu
          rcases List.mem_append.1 hu with hu | hu
          · exact h u hu
          · rw [List.mem_singleton] at hu;rw [hu];exact htt
  rw [okL_iff]
  exact key _ _ (by simp) hok
theorem okT_rep : ∀ (t : T) (lo hi : Int),okT t→((0≤lo∧lo≤20)∧(hi=-1 ∨ (lo≤hi∧hi≤20)))→okT (repS t lo hi)
  | .node k a b c d mn mx subs,lo,hi,ho,hr=>by
    rw [repS]
    split
    · exact okT_emptyT
    split
    · exact ho
    have hk : okT (.node 5 0 0 0 0 lo hi [.node k a b c d mn mx subs]):=okT_mk (by simp [plainT,isZero];omega) ⟨ho,trivial⟩
    split
    · rename_i h3
      obtain ⟨_,_,rfl,_,_⟩:=h3
      obtain ⟨u,rfl⟩:=plainT_5 (okT_plain ho)
      rw [repF_one]
      exact okT_rep u 0 (-1) (okT_subs ho).1 (by omega)
    · exact hk
mutual
theorem simT_ok : ∀ t : T,okT t→okT (simT t)
  | .node k a b c d mn mx subs,ho=>by
    have hx:=simL_ok subs (okT_subs ho)
    have hp:=okT_plain ho
    have hR:=okT_R ho
    rw [simT]
    split
    · exact okT_cat hx
    split
    · exact okT_alt hx
    split
    · rename_i h5
      subst h5
      obtain ⟨u,rfl⟩:=plainT_5 hp
      simp only [simL,List.headD_cons] at hx ⊢
      exact okT_rep _ _ _ hx.1 (hR rfl)
    · exact ho
theorem simL_ok : ∀ l : List T,okL l→okL (simL l)
  | [],_=>trivial
  | t :: l,ho=>by
    simp only [okL] at ho
    exact ⟨simT_ok t ho.1,simL_ok l ho.2⟩
end
mutual
theorem simT_sf : ∀ t : T,okT t→sfT (simT t)
  | .node k a b c d mn mx subs,ho=>by
    have hx:=simL_sf subs (okT_subs ho)
    have hxo:=simL_ok subs (okT_subs ho)
    have hp:=okT_plain ho
    rw [simT]
    split
    · exact sf_cat hx
    split
    · exact sf_alt hx hxo
    split
    · rename_i h5
      subst h5
      obtain ⟨u,rfl⟩:=plainT_5 hp
      simp only [simL,List.headD_cons] at hx hxo ⊢
      exact sf_rep _ _ _ hxo.1 hx.1
    · rename_i h3 h4 h5
      have hz : subs=[]:=by
        have:=(plainT_kind hp).1
        exact plainT_leaf (by omega) hp
      subst hz
      exact sf_leaf h3 h4 h5
theorem simL_sf : ∀ l : List T,okL l→sfL (simL l)
  | [],_=>trivial
  | t :: l,ho=>by
    simp only [okL] at ho
    exact ⟨simT_sf t ho.1,simL_sf l ho.2⟩
end
end Go.Sv
namespace Go.Sv
open Go
theorem powL_nil : ∀ (r : Nat) (w : List Nat),powL (fun w=>w=[]) r w↔w=[]
  | 0,w=>Iff.rfl
  | r + 1,w=>by
    simp only [powL,powL_nil r]
    constructor
    · rintro ⟨u,v,rfl,rfl,rfl⟩;rfl
    · rintro rfl;exact ⟨[],[],rfl,rfl,rfl⟩
theorem powL_no {P : List Nat→Prop} (h : ∀ w,¬ P w) {r : Nat} (hr : 0 < r) (w : List Nat) : ¬ powL P r w:=by
  cases r with
  | zero=>omega
  | succ r=>rintro ⟨u,v,_,h1,_⟩;exact h u h1
theorem powL_one (P : List Nat→Prop) (w : List Nat) : powL P 1 w↔P w:=by
  simp only [powL]
  constructor
  · rintro ⟨u,v,rfl,h,rfl⟩;simpa using h
  · intro h;exact ⟨w,[],by simp,h,rfl⟩
theorem powL_mono {P Q : List Nat→Prop} (h : ∀ w,P w→Q w) : ∀ (r : Nat) (w : List Nat),powL P r w→powL Q r w
  | 0,_,hw=>hw
  | r + 1,_,⟨u,v,e,h1,h2⟩=>⟨u,v,e,h u h1,powL_mono h r v h2⟩
theorem powL_pow {P Q : List Nat→Prop} (h : ∀ w,Q w→∃ j,powL P j w) : ∀ (r : Nat) (w : List Nat),powL Q r w→∃ j,powL P j w
  | 0,_,hw=>⟨0,hw⟩
  | r + 1,_,⟨u,v,e,h1,h2⟩=>by
    obtain ⟨i,hi⟩:=h u h1
    obtain ⟨j,hj⟩:=powL_pow h r v h2
    exact ⟨i + j,(powL_add P i j _).2 ⟨u,v,e,hi,hj⟩⟩
theorem repS_L : ∀ (t : T) (lo hi : Int),okT t→sfT t→0≤lo→(hi=-1 ∨ lo≤hi)→∀ w,L (repS t lo hi) w↔∃ r : Nat,lo≤r∧(hi < 0 ∨ (r : Int)≤hi)∧powL (L t) r w
  | .node k a b c d mn mx subs,lo,hi,ho,hs,h0,hh,w=>by
    rw [repS]
    obtain ⟨m,rfl⟩:=Int.eq_ofNat_of_zero_le h0
    split
    · rename_i h1
      rw [L_emptyT]
      rcases h1 with rfl | rfl | ⟨h1,h2⟩
      · constructor
        · rintro rfl;exact ⟨0,by omega,by omega,rfl⟩
        · rintro ⟨r,_,h,h2⟩
          have : r=0:=by omega
          subst this;exact h2
      · simp only [powL_congr (fun w=>(L_k1 (a:=a) (b:=b) (c:=c) (d:=d) (mn:=mn) (mx:=mx) (subs:=subs) (w:=w))),powL_nil]
        constructor
        · intro h;exact ⟨m,by omega,by omega,h⟩
        · rintro ⟨_,_,_,h⟩;exact h
      · constructor
        · rintro rfl;exact ⟨0,by omega,by omega,rfl⟩
        · rintro ⟨r,_,_,h⟩
          cases r with
          | zero=>exact h
          | succ r=>exact absurd h (powL_no (isNo_L h1) (by omega) w)
    rename_i h1
    split
    · rename_i h2
      rcases h2 with h2 | ⟨h2,h3⟩ | ⟨rfl,rfl,rfl⟩
      · have hm : 0 < m:=by
          rcases Nat.eq_zero_or_pos m with h | h
          · exact absurd (.inr (.inr ⟨h2,by omega⟩)) h1
          · exact h
        constructor
        · intro h;exact absurd h (isNo_L h2 w)
        · rintro ⟨r,h3,_,h⟩;exact absurd h (powL_no (isNo_L h2) (by omega) w)
      · have hm : m=1:=by omega
        subst hm h3
        constructor
        · intro h;exact ⟨1,by omega,by omega,(powL_one _ w).2 h⟩
        · rintro ⟨r,h3,h4,h⟩
          have : r=1:=by omega
          subst this;exact (powL_one _ w).1 h
      · have hL : ∀ w,L (.node 5 a b c d 0 (-1) subs) w↔∃ r : Nat,powL (fstL subs) r w:=fun w=>by
          rw [L_k5]
          constructor
          · rintro ⟨r,_,_,h⟩;exact ⟨r,h⟩
          · rintro ⟨r,h⟩;exact ⟨r,by omega,.inl (by omega),h⟩
        constructor
        · intro h
          rcases Nat.eq_zero_or_pos m with hm | hm
          · refine ⟨1,by omega,?_,(powL_one _ w).2 h⟩
            have : hi ≠ 0:=fun e=>h1 (.inl e)
            omega
          · obtain ⟨q,rfl⟩ : ∃ q,m=q + 1:=⟨m - 1,by omega⟩
            refine ⟨q + 1,by omega,by omega,w,[],by simp,h,?_⟩
            refine powL_mono (P:=fun w=>w=[]) ?_ q [] ((powL_nil q []).2 rfl)
            rintro w rfl
            exact (hL []).2 ⟨0,rfl⟩
        · rintro ⟨r,_,_,h⟩
          exact (hL w).2 (powL_pow (fun w hw=>(hL w).1 hw) r w h)
    rename_i h2
    have hk : L (.node 5 0 0 0 0 (m : Int) hi [.node k a b c d mn mx subs]) w↔∃ r : Nat,(m : Int)≤r∧(hi < 0 ∨ (r : Int)≤hi)∧powL (L (.node k a b c d mn mx subs)) r w:=by
      rw [L_k5]
      have : ∀ w,fstL [.node k a b c d mn mx subs] w↔L (.node k a b c d mn mx subs) w:=fun w=>by rw [fstL]
      simp only [powL_congr this]
    split
    · rename_i h3
      obtain ⟨e0,rfl,rfl,h4,h5⟩:=h3
      have e0 : m=0:=by omega
      subst e0
      obtain ⟨u,rfl⟩:=plainT_5 (okT_plain ho)
      obtain ⟨hm0,_⟩:=hs.1.2.2 rfl
      have hR:=okT_R ho rfl
      rw [repF_one,repS_L u 0 (-1) (okT_subs ho).1 hs.2.1 (by omega) (by omega) w]
      constructor
      · rintro ⟨r,_,_,h⟩
        refine ⟨r,by omega,by omega,powL_mono (fun w hw=>?_) r w h⟩
        rw [L_k5]
        exact ⟨1,by omega,by omega,(powL_one _ w).2 (by rw [fstL];exact hw)⟩
      · rintro ⟨r,_,_,h⟩
        obtain ⟨j,hj⟩:=powL_pow (P:=L u) (fun w hw=>by
          rw [L_k5] at hw
          obtain ⟨j,_,_,h⟩:=hw
          exact ⟨j,powL_mono (fun w hw=>by rwa [fstL] at hw) j w h⟩) r w h
        exact ⟨j,by omega,by omega,hj⟩
    · exact hk
mutual
theorem simT_L : ∀ (t : T),okT t→∀ w,L (simT t) w↔L t w
  | .node k a b c d mn mx subs,ho,w=>by
    have hx:=simL_L subs (okT_subs ho)
    have hxo:=simL_ok subs (okT_subs ho)
    have hxs:=simL_sf subs (okT_subs ho)
    have hp:=okT_plain ho
    have hR:=okT_R ho
    rw [simT]
    split
    · rename_i h;subst h
      rw [catS_L,L_k3];exact hx.1 w
    split
    · rename_i h;subst h
      rw [altS_L _ (fun t ht=>okT_S ((okL_iff _).1 (okL_flat 4 hxo) t ht)),L_k4];exact hx.2.1 w
    split
    · rename_i h5
      subst h5
      obtain ⟨u,rfl⟩:=plainT_5 hp
      simp only [simL,List.headD_cons] at hx hxo hxs ⊢
      have hr:=hR rfl
      rw [repS_L _ _ _ hxo.1 hxs.1 (by omega) (by omega),L_k5]
      have hu : ∀ w,L (simT u) w↔fstL [u] w:=fun w=>hx.2.2 w
      simp only [powL_congr hu]
    · exact Iff.rfl
theorem simL_L : ∀ (l : List T),okL l→(∀ w,catL (simL l) w↔catL l w)∧(∀ w,altL (simL l) w↔altL l w)∧(∀ w,fstL (simL l) w↔fstL l w)
  | [],_=>⟨fun _=>Iff.rfl,fun _=>Iff.rfl,fun _=>Iff.rfl⟩
  | t :: l,h=>by
    simp only [okL] at h
    have h1:=simT_L t h.1
    have h2:=simL_L l h.2
    refine ⟨fun w=>?_,fun w=>?_,fun w=>?_⟩
    · simp only [simL,catL,h1,h2.1]
    · simp only [simL,altL,h1,h2.2.1]
    · simp only [simL,fstL,h1]
end

theorem cntL_filter (p : T→Bool) : ∀ l : List T,cntL (l.filter p)≤cntL l
  | []=>Nat.le_refl _
  | t :: l=>by
    have:=cntL_filter p l
    rw [List.filter_cons]
    split<;>(simp only [cntL];omega)
theorem cntL_flat (k : Int) : ∀ l : List T,cntL (flatL k l)≤cntL l
  | []=>Nat.le_refl _
  | t :: l=>by
    have:=cntL_flat k l
    rw [flatL,cntL_app,cntL]
    have : cntL (flatO k t)≤t.cnt:=by
      unfold flatO
      split
      · cases t;simp [T.subs,T.cnt]
      · simp [cntL]
    omega
theorem cnt_of (k : Int) (l : List T) (e : T) (h : e.cnt=1) : (ofT k l e).cnt≤1 + cntL l:=by
  unfold ofT
  split
  · omega
  · simp [cntL]
  · rw [T.cnt];exact Nat.le_refl _
theorem cnt_cat (l : List T) : (catS l).cnt≤1 + cntL l:=by
  unfold catS
  split
  · simp [noneT,T.cnt,cntL]
  · have:=cnt_of 3 ((flatL 3 l).filter notE) emptyT rfl
    have:=cntL_filter notE (flatL 3 l)
    have:=cntL_flat 3 l
    omega
theorem cntL_set : ∀ (l : List T) (i : Nat) (u : T),u.cnt=1→cntL (l.set i u)≤cntL l
  | [],_,_,_=>by simp
  | t :: l,0,u,h=>by
    have:=cnt_pos t
    simp only [List.set_cons_zero,cntL];omega
  | t :: l,i + 1,u,h=>by
    have:=cntL_set l i u h
    simp only [List.set_cons_succ,cntL];omega
theorem cnt_cls (t : T) : (clsN t).cnt=1:=by cases t;rfl
theorem cnt_or (t u : T) : (orN t u).cnt=1:=by cases t;cases u;rfl
theorem cnt_step (s : List T × Option Nat) (t : T) : cntL (altStep s t).1≤cntL s.1 + t.cnt:=by
  have:=cnt_pos t
  unfold altStep
  split
  · omega
  split
  · split
    · have:=cntL_set s.1 ‹Nat› _ (cnt_or (s.1.getD ‹Nat› noneT) t)
      simp only;omega
    · simp only [cntL_app,cntL,cnt_cls];omega
  · split
    · omega
    · simp only [cntL_app,cntL];omega
theorem cnt_alt (l : List T) : (altS l).cnt≤1 + cntL l:=by
  unfold altS
  have h1:=cnt_of 4 (altF l).1 noneT rfl
  have h2:=cntL_flat 4 l
  have key : ∀ (l : List T) (s : List T × Option Nat),cntL (l.foldl altStep s).1≤cntL s.1 + cntL l:=by
    intro l
    induction l with
    | nil=>intro s;simp [cntL]
    | cons t l ih =>
      intro s
      have h1:=ih (altStep s t)
      have h2:=cnt_step s t
      rw [List.foldl_cons,cntL];omega
  have h3:=key (flatL 4 l) ([],none)
  simp only [cntL] at h3
  unfold altF at *
  omega
mutual
theorem cnt_rep : ∀ (t : T) (lo hi : Int),(repS t lo hi).cnt≤1 + t.cnt
  | .node k a b c d mn mx subs,lo,hi=>by
    have h:=cnt_repF subs (.node k a b c d mn mx subs) (by rw [T.cnt];omega)
    rw [repS]
    split
    · simp [emptyT,T.cnt,cntL]
    split
    · omega
    split
    · exact h
    · rw [T.cnt,cntL,cntL];omega
theorem cnt_repF : ∀ (l : List T) (t : T),cntL l≤t.cnt→(repF l t).cnt≤1 + t.cnt
  | [],t,_=>by rw [repF,T.cnt,cntL,cntL];omega
  | u :: l,t,h=>by
    have h1:=cnt_rep u 0 (-1)
    rw [cntL] at h
    rw [repF]
    split
    · omega
    · rw [T.cnt,cntL,cntL];omega
end
mutual
theorem simT_cnt : ∀ t : T,okT t→(simT t).cnt≤t.cnt
  | .node k a b c d mn mx subs,ho=>by
    have hx:=simL_cnt subs (okT_subs ho)
    have hp:=okT_plain ho
    rw [simT,T.cnt]
    split
    · have:=cnt_cat (simL subs);omega
    split
    · have:=cnt_alt (simL subs);omega
    split
    · rename_i h5
      subst h5
      obtain ⟨u,rfl⟩:=plainT_5 hp
      simp only [simL,List.headD_cons,cntL] at hx ⊢
      have:=cnt_rep (simT u) mn mx
      omega
    · rw [T.cnt];exact Nat.le_refl _
theorem simL_cnt : ∀ l : List T,okL l→cntL (simL l)≤cntL l
  | [],_=>Nat.le_refl _
  | t :: l,ho=>by
    simp only [okL] at ho
    have:=simT_cnt t ho.1
    have:=simL_cnt l ho.2
    rw [simL,cntL,cntL];omega
end

end Go.Sv
namespace Go.Sv
open Go
set_option linter.unusedVariables false
def addB (ws : List Int) (x : Nat) : List Int:=if bitG (ws.getD (x / 64) 0) x=true then ws else ws.set (x / 64) (ws.getD (x / 64) 0 + 2 ^ (x % 64))
def setWs (l : List Nat) : List Int:=l.foldl addB [0,0,0,0]
def inWs (ws : List Int) (x : Nat) : Bool:=bitG (ws.getD (x / 64) 0) x
def okWs (ws : List Int) : Prop:=ws.length=4∧∀ w ∈ ws,okW w
theorem okWs_getD {ws : List Int} (h : okWs ws) (j : Nat) : okW (ws.getD j 0):=by
  rw [List.getD_eq_getElem?_getD]
  cases e : ws[j]? with
  | none=>exact okW_0
  | some w=>exact h.2 w (List.mem_of_getElem? e)
theorem add_bit {w k : Nat} (hw : w < 2 ^ 64) (hk : k < 64) (hb : w.testBit k=false) : w + 2 ^ k < 2 ^ 64∧∀ j,(w + 2 ^ k).testBit j=(w.testBit j || j == k):=by
  have h0 : w / 2 ^ k % 2=0:=by
    rw [Nat.testBit_eq_decide_div_mod_eq] at hb
    simp at hb;omega
  have hr : w % 2 ^ k < 2 ^ k:=Nat.mod_lt _ (Nat.two_pow_pos k)
  have e1 : w=2 ^ k * (2 * (w / 2 ^ k / 2)) + w % 2 ^ k:=by
    have:=Nat.div_add_mod w (2 ^ k)
    have h2 : 2 * (w / 2 ^ k / 2)=w / 2 ^ k:=by omega
    rw [h2];omega
  have e2 : w + 2 ^ k=2 ^ k * (2 * (w / 2 ^ k / 2) + 1) + w % 2 ^ k:=by
    rw [Nat.mul_add,Nat.mul_one];omega
  generalize hq : w / 2 ^ k / 2=q at e1 e2
  generalize w % 2 ^ k=r at hr e1 e2
  constructor
  · have h64 : 2 ^ 64=2 ^ k * 2 ^ (64 - k):=by rw [← Nat.pow_add];congr 1;omega
    have hev : ∃ m,2 ^ (64 - k)=2 * m:=⟨2 ^ (63 - k),by rw [show 64 - k=63 - k + 1 by omega,Nat.pow_succ,Nat.mul_comm]⟩
    obtain ⟨m,hm⟩:=hev
    have hlt : 2 * q < 2 * m:=by
      have : 2 ^ k * (2 * q) < 2 ^ k * (2 * m):=by rw [← hm,← h64];omega
      exact Nat.lt_of_mul_lt_mul_left this
    have h3 : 2 ^ k * (2 * q + 1) + 2 ^ k≤2 ^ k * (2 * m):=by
      have : 2 ^ k * (2 * q + 1) + 2 ^ k=2 ^ k * (2 * q + 2):=by simp only [Nat.mul_add];omega
      rw [this]
      exact Nat.mul_le_mul_left _ (by omega)
    rw [h64,hm]
    omega
  · intro j
    have l1 : w.testBit j=if j < k then r.testBit j else (2 * q).testBit (j - k):=by
      rw [e1];exact Nat.testBit_two_pow_mul_add _ hr j
    have l2 : (w + 2 ^ k).testBit j=if j < k then r.testBit j else (2 * q + 1).testBit (j - k):=by
      rw [e2];exact Nat.testBit_two_pow_mul_add _ hr j
    rw [l1,l2]
    by_cases hj : j < k
    · rw [if_pos hj,if_pos hj]
      have : (j == k)=false:=by simp;omega
      rw [this,Bool.or_false]
    · rw [if_neg hj,if_neg hj]
      rcases Nat.eq_or_lt_of_le (Nat.le_of_not_lt hj) with h | h
      · subst h;simp
      · obtain ⟨i,hi⟩ : ∃ i,j - k=i + 1:=⟨j - k - 1,by omega⟩
        have : (j == k)=false:=by simp;omega
        rw [hi,this,Bool.or_false,Nat.testBit_succ,Nat.testBit_succ]
        congr 1;omega
theorem two_pow_int (k : Nat) : ((2 : Int) ^ k)=((2 ^ k : Nat) : Int):=by rw [Int.natCast_pow];rfl
theorem addW_ok {w : Int} {x : Nat} (h : okW w) (hb : bitG w x=false) : okW (w + 2 ^ (x % 64))∧∀ y,bitG (w + 2 ^ (x % 64)) y=(bitG w y || (y % 64 == x % 64)):=by
  obtain ⟨n,rfl,hn⟩:=okW_nat h
  rw [bitG_nat] at hb
  obtain ⟨h1,h2⟩:=add_bit hn (Nat.mod_lt x (by omega)) hb
  have e : ((n : Int) + 2 ^ (x % 64))=((n + 2 ^ (x % 64) : Nat) : Int):=by rw [two_pow_int,Int.natCast_add]
  rw [e]
  refine ⟨?_,fun y=>by rw [bitG_nat,bitG_nat,h2]⟩
  generalize n + 2 ^ (x % 64)=m at h1
  unfold okW;omega
theorem addB_ok {ws : List Int} (h : okWs ws) {x : Nat} (hx : x < 256) : okWs (addB ws x)∧∀ y,y < 256→inWs (addB ws x) y=(inWs ws y || y == x):=by
  unfold addB
  split
  · rename_i hb
    refine ⟨h,fun y _=>?_⟩
    by_cases e : y=x
    · subst e;unfold inWs;rw [hb];rfl
    · have : (y == x)=false:=by simpa using e
      rw [this,Bool.or_false]
  · rename_i hb
    have hb : bitG (ws.getD (x / 64) 0) x=false:=by simpa using hb
    obtain ⟨h1,h2⟩:=addW_ok (okWs_getD h (x / 64)) hb
    have hlt : x / 64 < ws.length:=by rw [h.1];omega
    refine ⟨⟨by rw [List.length_set];exact h.1,fun w hw=>?_⟩,fun y hy=>?_⟩
    · rcases List.mem_or_eq_of_mem_set hw with hw | rfl
      · exact h.2 w hw
      · exact h1
    · unfold inWs
      by_cases e : x / 64=y / 64
      · rw [List.getD_eq_getElem?_getD,← e,List.getElem?_set_self hlt,Option.getD_some,h2]
        have : (y % 64 == x % 64)=(y == x):=by
          rw [Bool.eq_iff_iff];simp;omega
        rw [this]
      · rw [List.getD_eq_getElem?_getD,List.getElem?_set_ne e,← List.getD_eq_getElem?_getD]
        have : (y == x)=false:=by simp;omega
        rw [this,Bool.or_false]
theorem okWs_0 : okWs [0,0,0,0]:=⟨rfl,fun w h=>by simp at h;rw [h];exact okW_0⟩
theorem setWs_ok' : ∀ (l : List Nat) (ws : List Int),okWs ws→(∀ x ∈ l,x < 256)→okWs (l.foldl addB ws)∧∀ y,y < 256→(inWs (l.foldl addB ws) y=true↔inWs ws y=true ∨ y ∈ l)
  | [],ws,h,_=>⟨h,fun y _=>by simp⟩
  | x :: l,ws,h,hx=>by
    obtain ⟨h1,h2⟩:=addB_ok h (hx x (by simp))
    obtain ⟨h3,h4⟩:=setWs_ok' l (addB ws x) h1 (fun y hy=>hx y (by simp [hy]))
    refine ⟨h3,fun y hy=>?_⟩
    rw [List.foldl_cons,h4 y hy,h2 y hy,Bool.or_eq_true,beq_iff_eq,List.mem_cons,or_assoc]
theorem setWs_ok {l : List Nat} (h : ∀ x ∈ l,x < 256) : okWs (setWs l)∧∀ y,y < 256→(inWs (setWs l) y=true↔y ∈ l):=by
  obtain ⟨h1,h2⟩:=setWs_ok' l [0,0,0,0] okWs_0 h
  refine ⟨h1,fun y hy=>?_⟩
  unfold setWs
  rw [h2 y hy]
  have : inWs [0,0,0,0] y=false:=inG_0 y
  rw [this];simp
theorem setWs_snoc (l : List Nat) (x : Nat) : setWs (l++[x])=addB (setWs l) x:=by simp [setWs,List.foldl_append]
theorem words_ext {ws vs : List Int} (h : okWs ws) (g : okWs vs) (e : ∀ y,y < 256→inWs ws y=inWs vs y) : ws=vs:=by
  refine List.ext_getElem (by rw [h.1,g.1]) fun j h1 h2=>?_
  have hj : j < 4:=by rw [h.1] at h1;exact h1
  obtain ⟨m,hm,hm2⟩:=okW_nat (h.2 _ (List.getElem_mem h1))
  obtain ⟨n,hn,hn2⟩:=okW_nat (g.2 _ (List.getElem_mem h2))
  rw [hm,hn]
  congr 1
  refine Nat.eq_of_testBit_eq fun i=>?_
  rcases Nat.lt_or_ge i 64 with hi | hi
  · have:=e (64 * j + i) (by omega)
    unfold inWs at this
    rw [show (64 * j + i) / 64=j by omega,List.getD_eq_getElem?_getD,List.getElem?_eq_getElem h1,List.getD_eq_getElem?_getD,List.getElem?_eq_getElem h2,Option.getD_some,Option.getD_some,hm,hn,bitG_nat,bitG_nat,show (64 * j + i) % 64=i by omega] at this
    exact this
  · rw [Nat.testBit_lt_two_pow (Nat.lt_of_lt_of_le hm2 (Nat.pow_le_pow_right (by omega) hi)),Nat.testBit_lt_two_pow (Nat.lt_of_lt_of_le hn2 (Nat.pow_le_pow_right (by omega) hi))]
def listTo (a b c d : Int) : Nat→List Nat
  | 0=>[]
  | m + 1=>if inG a b c d m=true then listTo a b c d m++[m] else listTo a b c d m
theorem mem_listTo (a b c d : Int) (y : Nat) : ∀ m,y ∈ listTo a b c d m↔y < m∧inG a b c d y=true
  | 0=>by simp [listTo]
  | m + 1=>by
    rw [listTo]
    have ih:=mem_listTo a b c d y m
    split
    · rename_i h
      rw [List.mem_append,ih,List.mem_singleton]
      constructor
      · rintro (⟨h1,h2⟩ | rfl)
        · exact ⟨by omega,h2⟩
        · exact ⟨by omega,h⟩
      · rintro ⟨h1,h2⟩
        by_cases e : y=m
        · exact .inr e
        · exact .inl ⟨by omega,h2⟩
    · rename_i h
      rw [ih]
      constructor
      · rintro ⟨h1,h2⟩;exact ⟨by omega,h2⟩
      · rintro ⟨h1,h2⟩
        refine ⟨?_,h2⟩
        rcases Nat.lt_or_ge y m with h3 | h3
        · exact h3
        · have : y=m:=by omega
          subst this;exact absurd h2 h
theorem listTo_len (a b c d : Int) : ∀ m,(listTo a b c d m).length≤m
  | 0=>by simp [listTo]
  | m + 1=>by
    have:=listTo_len a b c d m
    rw [listTo]
    split
    · rw [List.length_append];simp;omega
    · omega
def encJ (l : List Nat) : List Int:=List.map (fun (x : Nat)=>(x : Int)) l
theorem encJ_app (l r : List Nat) : encJ (l++r)=encJ l++encJ r:=List.map_append
theorem encJ_len (l : List Nat) : (encJ l).length=l.length:=List.length_map _

section
variable {P : Program} {Q : Cont} {fr : Fr} {C : Heap} {Z : Frz} {nx : Nat} {base n d : Nat} {l : List (Nat × XO)} {kp : Option (List Nat)} {x i y s : X} {j c : Nat}
theorem r_quoI {e : Int} (hx : x.ev fr=.i e) (hy : y.ev fr=.i 64) (he : e=(c : Nat)) (hc : c < 1000000) (k : R P l base kp Q nx (fr.put d (.i ((c / 64 : Nat) : Int))) C Z) : R P ((n,⟨some d,none,.arith .quo x y⟩) :: l) base kp Q nx fr C Z:=by
  subst he
  refine r_p ?_ k
  have e : IntKind.wrap .i64 (Int.tdiv (c : Int) 64)=((c / 64 : Nat) : Int):=by
    rw [Int.tdiv_eq_ediv_of_nonneg (by omega),wrap_in (by omega)];omega
  simp only [xp,hx,hy,arith]
  exact congrArg (fun z=>some (AV.d (DV.val (Value.int .i64 z)))) e
theorem r_remI {e : Int} (hx : x.ev fr=.i e) (hy : y.ev fr=.i 64) (he : e=(c : Nat)) (k : R P l base kp Q nx (fr.put d (.i ((c % 64 : Nat) : Int))) C Z) : R P ((n,⟨some d,none,.arith .rem x y⟩) :: l) base kp Q nx fr C Z:=by
  subst he
  refine r_p ?_ k
  have e : Int.tmod (c : Int) 64=((c % 64 : Nat) : Int):=by
    rw [Int.tmod_eq_emod_of_nonneg (by omega)];omega
  simp only [xp,hx,hy,arith]
  exact congrArg (fun z=>some (AV.d (DV.val (Value.int .i64 z)))) e
theorem r_shrI {w : Int} (hx : x.ev fr=.d (.val (.int .u64 w))) (hy : y.ev fr=.i (c : Nat)) (hw : okW w) (hc : c < 64) (k : R P l base kp Q nx (fr.put d (.d (.val (.int .u64 (w / 2 ^ c))))) C Z) : R P ((n,⟨some d,none,.arith .shr x y⟩) :: l) base kp Q nx fr C Z:=by
  refine r_p ?_ k
  simp only [xp,hx,hy,arith]
  simp [IntKind.bits]
  rw [Nat.min_eq_left (by omega),Int.fdiv_eq_ediv_of_nonneg _ (by exact Int.le_of_lt (Int.pow_pos (by omega)))]
theorem r_shlI (hx : x.ev fr=.d (.val (.int .u64 1))) (hy : y.ev fr=.i (c : Nat)) (hc : c < 64) (k : R P l base kp Q nx (fr.put d (.d (.val (.int .u64 (2 ^ c))))) C Z) : R P ((n,⟨some d,none,.arith .shl x y⟩) :: l) base kp Q nx fr C Z:=by
  refine r_p ?_ k
  have e : IntKind.wrap .u64 (1 * 2 ^ (min ((c : Int).toNat) 64))=2 ^ c:=by
    rw [Int.toNat_natCast,Nat.min_eq_left (by omega),Int.one_mul,two_pow_int]
    have h1 : 2 ^ c < 2 ^ 64:=Nat.pow_lt_pow_right (by omega) hc
    simp only [IntKind.wrap,IntKind.signed,IntKind.bits]
    generalize 2 ^ c=z at *
    simp;omega
  have h0 : (0 : Int)≤(c : Int):=by omega
  simp only [xp,hx,hy,arith,h0,if_true]
  exact congrArg (fun z=>some (AV.d (DV.val (Value.int .u64 z)))) e
theorem r_addW {a b : Int} (hx : x.ev fr=.d (.val (.int .u64 a))) (hy : y.ev fr=.d (.val (.int .u64 b))) (h : okW (a + b)) (k : R P l base kp Q nx (fr.put d (.d (.val (.int .u64 (a + b))))) C Z) : R P ((n,⟨some d,none,.arith .add x y⟩) :: l) base kp Q nx fr C Z:=by
  refine r_p ?_ k
  have e : IntKind.wrap .u64 (a + b)=a + b:=by
    obtain ⟨h1,h2⟩:=h
    simp [IntKind.wrap,IntKind.signed,IntKind.bits];omega
  simp only [xp,hx,hy,arith,if_true]
  exact congrArg (fun z=>some (AV.d (DV.val (Value.int .u64 z)))) e
def encW (ws : List Int) : List AV:=ws.map fun w=>.d (.val (.int .u64 w))
theorem encW_len (ws : List Int) : (encW ws).length=ws.length:=List.length_map _
theorem encW_isD (ws : List Int) : (encW ws).all AV.isD=true:=by simp [encW,AV.isD]
theorem r_ldWs {b : Nat} {ws : List Int} (hx : x.ev fr=.ptrL b (0 + j)) (hC : C b=some (encW ws)) (hj : j < ws.length) (k : R P l base kp Q nx (fr.put d (.d (.val (.int .u64 (ws.getD j 0))))) C Z) : R P ((n,⟨some d,none,.load none x⟩) :: l) base kp Q nx fr C Z:=by
  refine r_l ?_ k
  simp only [xl,hx,rowOf,hC,Option.map_some,Option.bind_some,subA,Nat.zero_add,encW,List.getElem?_map,List.getElem?_eq_getElem hj,List.getD_eq_getElem?_getD,Option.getD_some]
theorem r_stWs {a : X} {b : Nat} {w : Int} {ws : List Int} (ha : a.ev fr=.ptrL b (0 + j)) (hx : x.ev fr=.d (.val (.int .u64 w))) (hC : C b=some (encW ws)) (hz : Z b=false) (hj : j < ws.length) (k : R P l base kp Q nx fr (C.put b (encW (ws.set j w))) Z) : R P ((n,⟨none,none,.store 1 a x⟩) :: l) base kp Q nx fr C Z:=by
  refine r_stL (cs:=[.d (.val (.int .u64 w))]) ha hC hx rfl hz ?_ ?_ k
  · simp [AV.one,encW_len];omega
  · have : ws.set j w=ws.take j++w :: ws.drop (j + 1):=by rw [List.set_eq_take_append_cons_drop,if_pos hj]
    rw [this]
    simp [splice,encW,List.map_take,List.map_drop]
theorem r_eqX {a b c e a' b' c' e' : Int} {q r : Bool} (hx : x.ev fr=.agg [.d (.val (.int .u64 a)),.d (.val (.int .u64 b)),.d (.val (.int .u64 c)),.d (.val (.int .u64 e))]) (hy : y.ev fr=.agg [.d (.val (.int .u64 a')),.d (.val (.int .u64 b')),.d (.val (.int .u64 c')),.d (.val (.int .u64 e'))]) (h : (if q then !(a == a' && (b == b' && (c == c' && e == e'))) else (a == a' && (b == b' && (c == c' && e == e'))))=r) (k : R P l base kp Q nx (fr.put d (.b r)) C Z) : R P ((n,⟨some d,none,.eqAgg 4 q x y⟩) :: l) base kp Q nx fr C Z:=by
  subst h
  refine r_p ?_ k
  simp only [xp,hx,hy,eqCells,List.length_cons,List.length_nil,if_true,Option.map_some]
  simp
end
end Go.Sv
namespace Go.Sv
open Go Go.Proofs
def x124 : XC:=(.seq (.ops 2 [ (0,⟨some 2,none,.box (.t 0)⟩),(1,⟨some 4,none,.mv (.k (.d (.val (.bool false))))⟩)] (some [1,2])) (.seq (.ops 10 [ (0,⟨some 5,none,.mv (.t 1)⟩),(1,⟨some 6,none,.arith .quo (.t 5) (.k (.d (.val (.int .i64 64))))⟩),(2,⟨some 7,none,.idxP 4 1 (.t 2) (.t 6)⟩),(3,⟨some 8,none,.load none (.t 7)⟩),(4,⟨some 9,none,.mv (.t 1)⟩),(5,⟨some 10,none,.arith .rem (.t 9) (.k (.d (.val (.int .i64 64))))⟩),(6,⟨some 11,none,.arith .shr (.t 8) (.t 10)⟩),(7,⟨some 12,none,.arith .rem (.t 11) (.k (.d (.val (.int .u64 2))))⟩),(8,⟨some 13,none,.arith .eql (.t 12) (.k (.d (.val (.int .u64 1))))⟩),(9,⟨some 4,none,.mv (.t 13)⟩)] (some [4])) .ret))
def md124 : FuncId→Option Nat × Bool
  | _=>(none,false)
def od124 : Nat→List (List Nat) × List Nat × Option (List Nat)
  | 0=>([],[],some [1,2])
  | 1=>([],[],some [4])
  | _=>([],[],none)
theorem b124 {ags : List AV} {row : Option (List DV)} {r : AV} {row' nw : Option (List DV)} (hal : ags.length≤14) (hrow : row'.isSome=true→row.isSome=true) (h : xwp Try.prog x124 (retK [.tmp 4] row.isSome r row' nw) (St.init ags row)) : Good Try.prog 124 ags row r row' nw :=
  good_of_body' (md:=md124) (od:=od124) Try.f124 (by kernel_rfl) (by kernel_rfl) (by kernel_rfl) (by kernel_rfl) (by kernel_rfl) hal hrow h

def x74 : XC:=(.seq (.ops 2 [ (0,⟨some 1,none,.box (.t 0)⟩),(1,⟨some 2,none,.mv (.k (.d (.val (.slice none 0 0))))⟩)] (some [1])) (.seq (.ops 1 [ (0,⟨some 3,none,.mv (.k (.d (.val (.slice none 0 0))))⟩)] (some [1,3])) (.seq (.seq (.ops 1 [ (0,⟨some 4,none,.mv (.k (.d (.val (.int .i64 0))))⟩)] (some [1,3,4])) (.block 0 (.loop (.seq (.seq (.ops 2 [ (0,⟨some 5,none,.mv (.t 4)⟩),(1,⟨some 6,none,.arith .lss (.t 5) (.k (.d (.val (.int .i64 256))))⟩)] (some [1,3,4,6])) (.cond (.t 6) .skip (.exit 0))) (.seq (.block 1 (.seq (.ops 3 [ (0,⟨some 9,none,.load (some 4) (.t 1)⟩),(1,⟨some 10,none,.mv (.t 4)⟩),(2,⟨some 11,none,.call 124 [(.t 9),(.t 10)] none false⟩)] (some [1,3,4,11])) (.cond (.t 11) (.ops 5 [ (0,⟨some 12,none,.mv (.t 3)⟩),(1,⟨some 13,none,.mv (.t 4)⟩),(2,⟨some 14,none,.mkrow [(.int .i64 0)] 1 1 [(0,1,(.t 13))]⟩),(3,⟨some 15,none,.app [(.int .i64 0)] 8 (.t 12) (.t 14)⟩),(4,⟨some 3,none,.mv (.t 15)⟩)] (some [1,3,4])) .skip))) (.ops 3 [ (0,⟨some 7,none,.mv (.t 4)⟩),(1,⟨some 8,none,.arith .add (.t 7) (.k (.d (.val (.int .i64 1))))⟩),(2,⟨some 4,none,.mv (.t 8)⟩)] (some [1,3,4]))))))) (.seq (.ops 2 [ (0,⟨some 16,none,.mv (.t 3)⟩),(1,⟨some 2,none,.mv (.t 16)⟩)] (some [2])) .ret))))
def md74 : FuncId→Option Nat × Bool
  | _=>(none,false)
def od74 : Nat→List (List Nat) × List Nat × Option (List Nat)
  | 0=>([],[],some [1])
  | 1=>([],[],some [1,3])
  | 2=>([],[],some [1,3,4])
  | 3=>([],[],some [1,3,4,6])
  | 4=>([],[],some [1,3,4])
  | 5=>([],[],some [1,3,4,11])
  | 6=>([],[],some [1,3,4])
  | 7=>([],[],some [2])
  | _=>([],[],none)
theorem b74 {ags : List AV} {row : Option (List DV)} {r : AV} {row' nw : Option (List DV)} (hal : ags.length≤17) (hrow : row'.isSome=true→row.isSome=true) (h : xwp Try.prog x74 (retK [.tmp 2] row.isSome r row' nw) (St.init ags row)) : Good Try.prog 74 ags row r row' nw :=
  good_of_body' (md:=md74) (od:=od74) Try.f74 (by kernel_rfl) (by kernel_rfl) (by kernel_rfl) (by kernel_rfl) (by kernel_rfl) hal hrow h

def x99 : XC:=(.seq (.ops 1 [ (0,⟨some 2,none,.alloc [(.int .u64 0),(.int .u64 0),(.int .u64 0),(.int .u64 0)]⟩)] (some [0,2])) (.seq (.ops 1 [ (0,⟨some 3,none,.alloc [(.int .u64 0),(.int .u64 0),(.int .u64 0),(.int .u64 0)]⟩)] (some [0,2,3])) (.seq (.seq (.ops 1 [ (0,⟨some 4,none,.mv (.k (.d (.val (.int .i64 0))))⟩)] (some [0,2,3,4])) (.block 0 (.loop (.seq (.seq (.ops 4 [ (0,⟨some 5,none,.mv (.t 4)⟩),(1,⟨some 6,none,.mv (.t 0)⟩),(2,⟨some 7,none,.lenS (.t 6)⟩),(3,⟨some 8,none,.arith .lss (.t 5) (.t 7)⟩)] (some [0,2,3,4,8])) (.cond (.t 8) .skip (.exit 0))) (.seq (.block 1 (.seq (.ops 7 [ (0,⟨some 11,none,.load (some 4) (.t 3)⟩),(1,⟨some 12,none,.mv (.t 0)⟩),(2,⟨some 13,none,.mv (.t 4)⟩),(3,⟨some 14,none,.idxS 1 (.t 12) (.t 13)⟩),(4,⟨some 15,none,.load none (.t 14)⟩),(5,⟨some 16,none,.call 124 [(.t 11),(.t 15)] none false⟩),(6,⟨some 17,none,.un .not (.t 16)⟩)] (some [0,2,3,4,17])) (.cond (.t 17) (.ops 16 [ (0,⟨some 18,none,.mv (.t 0)⟩),(1,⟨some 19,none,.mv (.t 4)⟩),(2,⟨some 20,none,.idxS 1 (.t 18) (.t 19)⟩),(3,⟨some 21,none,.load none (.t 20)⟩),(4,⟨some 22,none,.arith .quo (.t 21) (.k (.d (.val (.int .i64 64))))⟩),(5,⟨some 23,none,.idxP 4 1 (.t 3) (.t 22)⟩),(6,⟨some 24,none,.load none (.t 23)⟩),(7,⟨some 25,none,.mv (.t 0)⟩),(8,⟨some 26,none,.mv (.t 4)⟩),(9,⟨some 27,none,.idxS 1 (.t 25) (.t 26)⟩),(10,⟨some 28,none,.load none (.t 27)⟩),(11,⟨some 29,none,.arith .rem (.t 28) (.k (.d (.val (.int .i64 64))))⟩),(12,⟨some 30,none,.arith .shl (.k (.d (.val (.int .u64 1)))) (.t 29)⟩),(13,⟨some 31,none,.arith .add (.t 24) (.t 30)⟩),(14,⟨some 32,none,.idxP 4 1 (.t 3) (.t 22)⟩),(15,⟨none,none,.store 1 (.t 32) (.t 31)⟩)] (some [0,2,3,4])) .skip))) (.ops 3 [ (0,⟨some 9,none,.mv (.t 4)⟩),(1,⟨some 10,none,.arith .add (.t 9) (.k (.d (.val (.int .i64 1))))⟩),(2,⟨some 4,none,.mv (.t 10)⟩)] (some [0,2,3,4]))))))) (.seq (.ops 2 [ (0,⟨some 33,none,.load (some 4) (.t 3)⟩),(1,⟨none,none,.store 4 (.t 2) (.t 33)⟩)] (some [2])) .ret))))
def md99 : FuncId→Option Nat × Bool
  | _=>(none,false)
def od99 : Nat→List (List Nat) × List Nat × Option (List Nat)
  | 0=>([],[],some [0,2])
  | 1=>([],[],some [0,2,3])
  | 2=>([],[],some [0,2,3,4])
  | 3=>([],[],some [0,2,3,4,8])
  | 4=>([],[],some [0,2,3,4])
  | 5=>([[],[],[],[1,2],[1,2,3],[0,1,2,3,4],[0,1,2,3,4,5]],[0,1,2,3,4,5,6],some [0,2,3,4,17])
  | 6=>([[],[],[0,1],[0,1,2],[0,1,2,3],[0,1,2,3,4],[0,1,2,3,4,5],[],[],[7,8],[7,8,9],[7,8,9,10],[7,8,9,10,11],[0,1,2,3,4,5,6,7,8,9,10,11,12],[0,1,2,3,4,5,6,7,8,9,10,11,12,13],[0,1,2,3,4,5,6,7,8,9,10,11,12,13,14]],[0,1,2,3,4,5,6,7,8,9,10,11,12,13,14,15],some [0,2,3,4])
  | 7=>([],[],some [2])
  | _=>([],[],none)
theorem b99 {ags : List AV} {row : Option (List DV)} {r : AV} {row' nw : Option (List DV)} (hal : ags.length≤34) (hrow : row'.isSome=true→row.isSome=true) (h : xwp Try.prog x99 (retK [.cell 2 (some 4)] row.isSome r row' nw) (St.init ags row)) : Good Try.prog 99 ags row r row' nw :=
  good_of_body' (md:=md99) (od:=od99) Try.f99 (by kernel_rfl) (by kernel_rfl) (by kernel_rfl) (by kernel_rfl) (by kernel_rfl) hal hrow h

set_option maxRecDepth 100000
set_option maxHeartbeats 4000000
attribute [local irreducible] W E R KP thenK blockK retK Good xwp aRun
theorem has124_good {a b c d : Int} (ha : okW a) (hb : okW b) (hc : okW c) (hd : okW d) (x : Nat) (hx : x < 256) : Good Try.prog 124 [setA a b c d,.i (x : Nat)] none (.b (inG a b c d x)) none none:=by
  unfold setA
  refine b124 (by simp) (by simp) (w_init ?_)
  unfold x124
  have hw : okW ([a,b,c,d].getD (x / 64) 0):=by
    have : x / 64 < 4:=by omega
    match x / 64,this with
    | 0,_=>exact ha
    | 1,_=>exact hb
    | 2,_=>exact hc
    | 3,_=>exact hd
  repeat' (first|(apply r_mvV;rfl)|(apply r_quoI;rfl;rfl;rfl;omega)|(apply r_remI;rfl;rfl;rfl)|(apply r_ixPL;rfl;rfl;omega)|(apply r_ldWL;rfl;rfl;omega)|(apply r_shrI;rfl;rfl;exact hw;omega)|(apply r_rem2;rfl;rfl;exact (okW_div hw _).1)|(apply r_eqlU;rfl;rfl;rfl)|(apply r_box;((conv=>lhs;simp only [Nat.reduceAdd])<;>rfl);rfl;rfl;rfl)|(apply r_nilK)|(apply k_V;rfl)|(apply k_PL;rfl)|(apply k_nil)|(apply e_ret (vs:=[.d (.val _)]);rfl)|(apply w_seq)|(apply w_ops;((conv=>lhs;simp only [Nat.reduceAdd])<;>rfl))|(apply e_thenN)|(apply w_ret))
  exact retB rfl
theorem list74_good {a b c d : Int} (ha : okW a) (hb : okW b) (hc : okW c) (hd : okW d) : Good Try.prog 74 [setA a b c d] none (.d (.sl (encI (encJ (listTo a b c d 256))) (listTo a b c d 256).length)) none none:=by
  unfold setA
  refine b74 (by simp) (by simp) (w_init ?_)
  unfold x74
  repeat' (first|(apply r_mvV;rfl)|(apply r_box;((conv=>lhs;simp only [Nat.reduceAdd])<;>rfl);rfl;rfl;rfl)|(apply r_nilK)|(apply k_V;rfl)|(apply k_PL;rfl)|(apply k_nil)|(apply w_seq)|(apply w_ops;((conv=>lhs;simp only [Nat.reduceAdd])<;>rfl))|(apply e_thenN)|(apply w_block))
  apply w_loopI (S:=fun i : Nat=>⟨((Fr.nil.put 1 (.ptrL 1 0)).put 3 (.slL 50 0 (listTo a b c d i).length 1)).put 4 (.i i),rowsOf [(1,[.d (.val (.int .u64 a)),.d (.val (.int .u64 b)),.d (.val (.int .u64 c)),.d (.val (.int .u64 d))]),(50,(encI (encJ (listTo a b c d i))).map AV.d)],Frz.buts 100 [50],100⟩) (m:=fun i=>256 - i) (I:=fun i=>i≤256) (i0:=0)
  · exact Nat.zero_le _
  · refine wkM [] [50] rfl ?_ ?_ rfl ?_
    · intro p hp
      simp only [List.mem_cons,List.not_mem_nil,or_false] at hp
      rcases hp with rfl | rfl
      · exact ⟨by omega,.inr ⟨rfl,_,rfl,.data rfl⟩⟩
      · exact ⟨by omega,.inl ⟨rfl,rfl⟩⟩
    · intro q hq;simp only [List.mem_cons,List.not_mem_nil,or_false] at hq;rcases hq with rfl<;>rfl
    · repeat' (first|exact FWk.nil|(apply FWk.i;rfl;(first|rfl|omega|(simp;done)))|(apply FWk.ptr;rfl;rfl;rfl;omega;rfl)|(apply FWk.slN;rfl;omega;rfl))
  intro i K hi hK
  dsimp only
  rcases Nat.lt_or_ge i 256 with hlt | hge
  · have hh:=has124_good ha hb hc hd i hlt
    unfold setA at hh
    have hidx:=listTo_len a b c d i
    rcases Bool.eq_false_or_eq_true (inG a b c d i) with hq | hq
    · rw [hq] at hh
      have e : listTo a b c d (i + 1)=listTo a b c d i++[i]:=by rw [listTo,if_pos hq]
      repeat' (first|(apply r_mvV;rfl)|(apply r_mvSL;rfl)|(apply r_ldL (v:=.agg [.d (.val (.int .u64 a)),.d (.val (.int .u64 b)),.d (.val (.int .u64 c)),.d (.val (.int .u64 d))]);rfl;rfl;rfl)|(apply r_callA;rfl;rfl;exact hh)|(apply r_mkrow1;rfl;((conv=>lhs;simp only [Nat.reduceAdd])<;>rfl))|(apply r_app1 (li:=encJ (listTo a b c d i));rfl;rfl;rfl;rfl;rfl;((conv=>lhs;simp only [Nat.reduceAdd])<;>rfl);exact encJ_len _;omega)|(apply r_lss;rfl;rfl;(first|(apply dT;omega)|(apply dF;omega)|rfl))|(apply r_add;rfl;rfl;rfl;omega)|(apply r_nilK)|(apply k_V;rfl)|(apply k_PL;rfl)|(apply k_SL;rfl)|(apply k_nil)|(apply w_seq)|(apply w_ops;((conv=>lhs;simp only [Nat.reduceAdd])<;>rfl))|(apply w_condT;rfl)|(apply e_thenN)|(apply w_block)|(apply e_blkN)|(apply w_skip))
      apply e_thenK
      apply hK (i + 1)
      · omega
      · omega
      · rw [e]
        refine wkM [(50,108)] [] rfl ?_ ?_ rfl ?_
        · intro p hp
          simp only [List.mem_cons,List.not_mem_nil,or_false] at hp
          rcases hp with rfl | rfl
          · exact ⟨by omega,.inr ⟨rfl,_,rfl,.data rfl⟩⟩
          · refine ⟨by omega,.inr ⟨rfl,_,?_,.data (by simp [encI,AV.isD])⟩⟩
            rw [encJ_app];rfl
        · intro q hq;simp only [List.mem_cons,List.not_mem_nil,or_false] at hq;rcases hq with rfl<;>rfl
        · rw [List.length_append]
          repeat' (first|exact FWk.nil|(apply FWk.i;rfl;(first|rfl|omega|(simp;done)))|(apply FWk.sl;rfl;rfl;rfl;rfl;omega;rfl)|(apply FWk.ptr;rfl;rfl;rfl;omega;rfl))
    · rw [hq] at hh
      have e : listTo a b c d (i + 1)=listTo a b c d i:=by rw [listTo,if_neg (by simp [hq])]
      repeat' (first|(apply r_mvV;rfl)|(apply r_ldL (v:=.agg [.d (.val (.int .u64 a)),.d (.val (.int .u64 b)),.d (.val (.int .u64 c)),.d (.val (.int .u64 d))]);rfl;rfl;rfl)|(apply r_callA;rfl;rfl;exact hh)|(apply r_lss;rfl;rfl;(first|(apply dT;omega)|(apply dF;omega)|rfl))|(apply r_add;rfl;rfl;rfl;omega)|(apply r_nilK)|(apply k_V;rfl)|(apply k_PL;rfl)|(apply k_SL;rfl)|(apply k_nil)|(apply w_seq)|(apply w_ops;((conv=>lhs;simp only [Nat.reduceAdd])<;>rfl))|(apply w_condT;rfl)|(apply w_condF;rfl)|(apply e_thenN)|(apply w_block)|(apply e_blkN)|(apply w_skip))
      apply e_thenK
      apply hK (i + 1)
      · omega
      · omega
      · rw [e]
        refine wkM [] [] rfl ?_ ?_ rfl ?_
        · intro p hp
          simp only [List.mem_cons,List.not_mem_nil,or_false] at hp
          rcases hp with rfl | rfl
          · exact ⟨by omega,.inr ⟨rfl,_,rfl,.data rfl⟩⟩
          · exact ⟨by omega,.inr ⟨rfl,_,rfl,.data (by simp [encI,AV.isD])⟩⟩
        · intro q hq;simp only [List.mem_cons,List.not_mem_nil,or_false] at hq;rcases hq with rfl<;>rfl
        · repeat' (first|exact FWk.nil|(apply FWk.i;rfl;(first|rfl|omega|(simp;done)))|(apply FWk.sl;rfl;rfl;rfl;rfl;omega;rfl)|(apply FWk.ptr;rfl;rfl;rfl;omega;rfl))
  · have ei : i=256:=by omega
    subst ei
    repeat' (first|(apply r_mvV;rfl)|(apply r_mvSL;rfl)|(apply r_lss;rfl;rfl;(first|(apply dT;omega)|(apply dF;omega)|rfl))|(apply r_nilK)|(apply k_V;rfl)|(apply k_PL;rfl)|(apply k_SL;rfl)|(apply k_nil)|(apply e_ret;rfl)|(apply w_seq)|(apply w_ops;((conv=>lhs;simp only [Nat.reduceAdd])<;>rfl))|(apply w_condF;rfl)|(apply e_thenN)|(apply e_thenX)|(apply e_blkE)|(apply w_exit)|(apply w_ret))
    exact retL1 rfl (encJ_len _)
theorem set99_good (l : List Nat) (hx : ∀ x ∈ l,x < 256) (hl : l.length≤10000000000) : Good Try.prog 99 [.d (.sl (encI (encJ l)) l.length)] none (.agg (encW (setWs l))) none none:=by
  have hle : (encJ l).length=l.length:=encJ_len l
  refine b99 (by simp) (by simp) (w_init ?_)
  unfold x99
  repeat' (first|(apply r_mvV;rfl)|(apply r_alloc;((conv=>lhs;simp only [Nat.reduceAdd])<;>rfl);rfl)|(apply r_nilK)|(apply k_V;rfl)|(apply k_PL;rfl)|(apply k_S;rfl)|(apply k_nil)|(apply w_seq)|(apply w_ops;((conv=>lhs;simp only [Nat.reduceAdd])<;>rfl))|(apply e_thenN)|(apply w_block))
  apply w_loopI (S:=fun i : Nat=>⟨(((Fr.nil.put 0 (.d (.sl (encI (encJ l)) l.length))).put 2 (.ptrL 1 0)).put 3 (.ptrL 2 0)).put 4 (.i i),rowsOf [(1,encW [0,0,0,0]),(2,encW (setWs (l.take i)))],Frz.buts 100 [1,2],100⟩) (m:=fun i=>l.length - i) (I:=fun i=>i≤l.length) (i0:=0)
  · exact Nat.zero_le _
  · refine wkM [] [] rfl ?_ ?_ rfl ?_
    · intro p hp
      simp only [List.mem_cons,List.not_mem_nil,or_false] at hp
      rcases hp with rfl | rfl
      · exact ⟨by omega,.inr ⟨rfl,_,rfl,.data rfl⟩⟩
      · exact ⟨by omega,.inr ⟨rfl,_,rfl,.data rfl⟩⟩
    · intro q hq;simp only [List.mem_cons,List.not_mem_nil,or_false] at hq;rcases hq with rfl | rfl<;>rfl
    · repeat' (first|exact FWk.nil|(apply FWk.i;rfl;(first|rfl|omega|(simp;done)))|(apply FWk.ptr;rfl;rfl;rfl;omega;rfl)|(apply FWk.d;rfl;rfl))
  intro i K hi hK
  dsimp only
  rcases Nat.lt_or_ge i l.length with hlt | hge
  · have hxi : l[i] < 256:=hx _ (List.getElem_mem hlt)
    have hget : (encJ l)[i]?=some ((l[i] : Nat) : Int):=by
      simp [encJ,List.getElem?_eq_getElem hlt]
    have htk : l.take (i + 1)=l.take i++[l[i]]:=List.take_succ_eq_append_getElem hlt
    obtain ⟨hok,_⟩:=setWs_ok (l:=l.take i) (fun x h=>hx x (List.mem_of_mem_take h))
    have hst : setWs (l.take (i + 1))=addB (setWs (l.take i)) l[i]:=by rw [htk,setWs_snoc]
    generalize l[i]=x at hxi hget hst
    generalize setWs (l.take i)=ws at hok hst ⊢
    have h4:=hok.1
    have hw:=okWs_getD hok (x / 64)
    have key : ∀ w,bitG (ws.getD (x / 64) 0) x=w→(if w=true then ws else ws.set (x / 64) (ws.getD (x / 64) 0 + 2 ^ (x % 64)))=addB ws x:=by
      intro w h;subst h;rfl
    have hadd:=fun h=>(addW_ok (x:=x) hw h).1
    match ws,h4 with
    | [w0,w1,w2,w3],_ =>
    have hh:=has124_good (hok.2 w0 (by simp)) (hok.2 w1 (by simp)) (hok.2 w2 (by simp)) (hok.2 w3 (by simp)) x hxi
    unfold setA at hh
    have hin : inG w0 w1 w2 w3 x=bitG ([w0,w1,w2,w3].getD (x / 64) 0) x:=rfl
    rcases Bool.eq_false_or_eq_true (bitG ([w0,w1,w2,w3].getD (x / 64) 0) x) with hq | hq
    · rw [hin,hq] at hh
      have e:=key true hq
      rw [if_pos rfl] at e
      repeat' (first|(apply r_mvV;rfl)|(apply r_mvS;rfl)|(apply r_ldL (v:=.agg [.d (.val (.int .u64 w0)),.d (.val (.int .u64 w1)),.d (.val (.int .u64 w2)),.d (.val (.int .u64 w3))]);rfl;rfl;rfl)|(apply r_ixI (j:=i);rfl;rfl;rfl;exact hle;exact hlt)|(apply r_ldI;rfl;exact hget)|(apply r_callA;rfl;rfl;exact hh)|(apply r_lss;rfl;rfl;(first|(apply dT;omega)|(apply dF;omega)|rfl))|(apply r_add;rfl;rfl;rfl;omega)|(apply r_not;rfl;rfl)|(apply r_lenD;rfl)|(apply r_nilK)|(apply k_V;rfl)|(apply k_PL;rfl)|(apply k_S;rfl)|(apply k_nil)|(apply w_seq)|(apply w_ops;((conv=>lhs;simp only [Nat.reduceAdd])<;>rfl))|(apply w_condT;rfl)|(apply w_condF;rfl)|(apply e_thenN)|(apply w_block)|(apply e_blkN)|(apply w_skip))
      apply e_thenK
      apply hK (i + 1)
      · omega
      · omega
      · rw [hst,← e]
        refine wkM [] [] rfl ?_ ?_ rfl ?_
        · intro p hp
          simp only [List.mem_cons,List.not_mem_nil,or_false] at hp
          rcases hp with rfl | rfl
          · exact ⟨by omega,.inr ⟨rfl,_,rfl,.data rfl⟩⟩
          · exact ⟨by omega,.inr ⟨rfl,_,rfl,.data rfl⟩⟩
        · intro q hq;simp only [List.mem_cons,List.not_mem_nil,or_false] at hq;rcases hq with rfl | rfl<;>rfl
        · repeat' (first|exact FWk.nil|(apply FWk.i;rfl;(first|rfl|omega|(simp;done)))|(apply FWk.ptr;rfl;rfl;rfl;omega;rfl)|(apply FWk.d;rfl;rfl))
    · rw [hin,hq] at hh
      have e:=key false hq
      rw [if_neg (by simp)] at e
      have ha:=hadd hq
      repeat' (first|(apply r_mvV;rfl)|(apply r_mvS;rfl)|(apply r_ldL (v:=.agg [.d (.val (.int .u64 w0)),.d (.val (.int .u64 w1)),.d (.val (.int .u64 w2)),.d (.val (.int .u64 w3))]);rfl;rfl;rfl)|(apply r_ixI (j:=i);rfl;rfl;rfl;exact hle;exact hlt)|(apply r_ldI;rfl;exact hget)|(apply r_callA;rfl;rfl;exact hh)|(apply r_quoI;rfl;rfl;rfl;omega)|(apply r_remI;rfl;rfl;rfl)|(apply r_ixPL;rfl;rfl;omega)|(apply r_ldWs (ws:=[w0,w1,w2,w3]);rfl;rfl;(simp;omega))|(apply r_shlI;rfl;rfl;omega)|(apply r_addW;rfl;rfl;exact ha)|(apply r_stWs (ws:=[w0,w1,w2,w3]);rfl;rfl;rfl;rfl;(simp;omega))|(apply r_lss;rfl;rfl;(first|(apply dT;omega)|(apply dF;omega)|rfl))|(apply r_add;rfl;rfl;rfl;omega)|(apply r_not;rfl;rfl)|(apply r_lenD;rfl)|(apply r_nilK)|(apply k_V;rfl)|(apply k_PL;rfl)|(apply k_S;rfl)|(apply k_nil)|(apply w_seq)|(apply w_ops;((conv=>lhs;simp only [Nat.reduceAdd])<;>rfl))|(apply w_condT;rfl)|(apply e_thenN)|(apply w_block)|(apply e_blkN)|(apply w_skip))
      apply e_thenK
      apply hK (i + 1)
      · omega
      · omega
      · rw [hst,← e]
        refine wkM [] [] rfl ?_ ?_ rfl ?_
        · intro p hp
          simp only [List.mem_cons,List.not_mem_nil,or_false] at hp
          rcases hp with rfl | rfl
          · exact ⟨by omega,.inr ⟨rfl,_,rfl,.data rfl⟩⟩
          · exact ⟨by omega,.inr ⟨rfl,_,rfl,.data (encW_isD _)⟩⟩
        · intro q hq;simp only [List.mem_cons,List.not_mem_nil,or_false] at hq;rcases hq with rfl | rfl<;>rfl
        · repeat' (first|exact FWk.nil|(apply FWk.i;rfl;(first|rfl|omega|(simp;done)))|(apply FWk.ptr;rfl;rfl;rfl;omega;rfl)|(apply FWk.d;rfl;rfl))
  · rw [List.take_of_length_le hge]
    obtain ⟨hok,_⟩:=setWs_ok hx
    generalize setWs l=ws at hok
    match ws,hok.1 with
    | [w0,w1,w2,w3],_ =>
    repeat' (first|(apply r_mvV;rfl)|(apply r_mvS;rfl)|(apply r_ldL (v:=.agg [.d (.val (.int .u64 w0)),.d (.val (.int .u64 w1)),.d (.val (.int .u64 w2)),.d (.val (.int .u64 w3))]);rfl;rfl;rfl)|(apply r_lss;rfl;rfl;(first|(apply dT;omega)|(apply dF;omega)|rfl))|(apply r_lenD;rfl)|(apply r_stL;rfl;rfl;rfl;rfl;(first|rfl|(simp only [z_nil,z_add]<;>rfl));rfl;rfl)|(apply r_nilK)|(apply k_V;rfl)|(apply k_PL;rfl)|(apply k_S;rfl)|(apply k_nil)|(apply e_ret;rfl)|(apply w_seq)|(apply w_ops;((conv=>lhs;simp only [Nat.reduceAdd])<;>rfl))|(apply w_condF;rfl)|(apply e_thenN)|(apply e_thenX)|(apply e_blkE)|(apply w_exit)|(apply w_ret))
    exact .data _ rfl
end Go.Sv
namespace Go.Sv
open Go Go.Proofs
section
variable {P : Program} {Q : Cont} {fr : Fr} {C : Heap} {Z : Frz} {nx : Nat} {base n d : Nat} {l : List (Nat × XO)} {kp : Option (List Nat)} {x i y s : X}
theorem r_callS2 {f : FuncId} {xs : List X} {pre pre' post post' : List AV} {b m : Nat} {L : List T} {r : AV} {us : List Nat} (ha : xs.map (X.ev fr)=pre++.slL b 0 m 8 :: post) (hn : convAs C (fun _=>false) pre=some (pre',[])) (hp : convAs C (fun _=>false) post=some (post',[])) (hC : C b=some ((encL L).map AV.d)) (hm : L.length=m) (hg : Good P f (pre'++.d (.sl (encL L) m) :: post') none r none none) (hu : (if r.scalar=true then [] else if m=0 then [] else [b])=us)
    (k : R P l base kp Q nx (fr.put d r) C (Z.add us)) : R P ((n,⟨some d,none,.call f xs none false⟩) :: l) base kp Q nx fr C Z:=by
  subst hu
  refine r_call (bs:=pre'++.d (.sl (encL L) m) :: post') (us:=[]++((if m=0 then [] else [b])++[])) ha ?_ hg (by simp) k
  refine convAs_app hn ?_
  simp only [convAs,conv_rowA (ex:=fun _=>false) hC hm rfl,Option.bind_some,hp,Option.map_some]
end
theorem flatL_take (k : Int) (l : List T) (i : Nat) (h : i < l.length) : flatL k (l.take (i + 1))=flatL k (l.take i)++flatO k l[i]:=by
  rw [List.take_succ_eq_append_getElem h]
  have : ∀ l r : List T,flatL k (l++r)=flatL k l++flatL k r:=by
    intro l r
    induction l with
    | nil=>rfl
    | cons t l ih=>rw [List.cons_append,flatL,ih,flatL,List.append_assoc]
  rw [this,flatL,flatL,List.append_nil]
theorem flatL_len (k : Int) (l : List T) : (flatL k l).length≤cntL l:=Nat.le_trans (cntL_len _) (cntL_flat k l)
theorem filter_take (p : T→Bool) (l : List T) (i : Nat) (h : i < l.length) : (l.take (i + 1)).filter p=(l.take i).filter p++(if p l[i]=true then [l[i]] else []):=by
  rw [List.take_succ_eq_append_getElem h,List.filter_append]
  congr 1
  rw [List.filter_cons]
  split<;>rfl
set_option maxRecDepth 100000
set_option maxHeartbeats 4000000
attribute [local irreducible] W E R KP thenK blockK retK Good xwp aRun
end Go.Sv
namespace Go.Sv
open Go Go.Proofs
set_option maxRecDepth 100000
set_option maxHeartbeats 4000000
attribute [local irreducible] W E R KP thenK blockK retK Good xwp aRun
def repN (t : T) (lo hi : Int) : T:=.node 5 0 0 0 0 lo hi [t]
theorem repF_two {l : List T} {t : T} (h : l.length ≠ 1) : repF l t=repN t 0 (-1):=by
  match l,h with
  | [],_=>rw [repF];rfl
  | x :: y :: z,_=>simp [repF];rfl
end Go.Sv
namespace Go.Sv
open Go
end Go.Sv
namespace Go.Sv
open Go Go.Proofs
def atI : Option Nat→Int
  | none=>-1
  | some i=>(i : Nat)
section
variable {P : Program} {Q : Cont} {fr : Fr} {C : Heap} {Z : Frz} {nx : Nat} {base n d : Nat} {l : List (Nat × XO)} {kp : Option (List Nat)} {x i y s : X}
theorem r_appI {b m j id : Nat} {K L : List Int} (hs : s.ev fr=.slL b 0 m 1) (hx : x.ev fr=.d (.sl (encI L) j)) (hC : C b=some ((encI K).map AV.d)) (hz : Z b=false) (hid : base + n=id) (hm : K.length=m) (hj : L.length=j) (hb : m + j≤100000000000)
    (k : R P l base kp Q nx (fr.put d (.slL id 0 (m + j) 1)) ((C.del b).put id ((encI (K++L)).map AV.d)) Z) : R P ((n,⟨some d,none,.app [(.int .i64 0)] 8 s x⟩) :: l) base kp Q nx fr C Z:=by
  subst hid hm hj
  refine r_w (v:=.slL (base + n) 0 (K.length + L.length) 1) (C':=(C.del b).put (base + n) ((encI (K++L)).map AV.d)) ?_ k
  have h2 : srcOf C 1 (.d (.sl (encI L) L.length))=some ((encI L).map AV.d,L.length):=by
    unfold srcOf
    split
    · rename_i e;cases e
    · rename_i e;cases e;rw [if_pos (by rw [encI_len];omega)]
    · rename_i e;cases e
    · rename_i h1 h2 h3;exact absurd rfl (h2 _ _)
  have hone : ((encI L).map AV.d).all AV.one=true:=by simp [encI,AV.one]
  simp only [xw,List.length_cons,List.length_nil,Nat.zero_add,hx,h2,Option.bind_some,hs,hC]
  rw [if_pos hone,if_pos ⟨trivial,hz,by simp [encI],by omega⟩,List.take_of_length_le (by simp [encI])]
  simp [encI]
theorem encL_set : ∀ (K : List T) (j : Nat) (t : T),j < K.length→encL (K.set j t)=splice (encL K) (j * 8) (encN t)
  | u :: K,0,t,_=>by
    simp only [List.set_cons_zero,encL,splice,Nat.zero_mul,List.take_zero,List.nil_append,Nat.zero_add,encN_len]
    rw [List.drop_append_of_le_length (by rw [encN_len];omega),List.drop_of_length_le (by rw [encN_len];omega),List.nil_append]
  | u :: K,j + 1,t,h=>by
    have ih:=encL_set K j t (by simpa using h)
    simp only [List.set_cons_succ,encL,ih,splice,encN_len]
    rw [List.take_append,List.drop_append,encN_len,List.take_of_length_le (l:=encN u) (by rw [encN_len];omega),List.drop_of_length_le (l:=encN u) (by rw [encN_len];omega),List.nil_append,show (j + 1) * 8 - 8=j * 8 by omega,show (j + 1) * 8 + 8 - 8=j * 8 + 8 by omega]
    simp only [List.append_assoc]
theorem r_callLI {f : FuncId} {xs : List X} {b m : Nat} {L : List Int} {r : AV} {us : List Nat} (ha : xs.map (X.ev fr)=[.slL b 0 m 1]) (hC : C b=some ((encI L).map AV.d)) (hm : L.length=m) (hg : Good P f [.d (.sl (encI L) m)] none r none none) (hu : (if r.scalar=true then [] else if m=0 then [] else [b])=us)
    (k : R P l base kp Q nx (fr.put d r) C (Z.add us)) : R P ((n,⟨some d,none,.call f xs none false⟩) :: l) base kp Q nx fr C Z:=by
  subst hu
  refine r_call (bs:=[.d (.sl (encI L) m)]) (us:=(if m=0 then [] else [b])++[]) ha ?_ hg (by simp) k
  simp only [convAs,convA,conv_slI (ex:=fun _=>false) rfl hC hm,Option.map_some,Option.bind_some]
end
set_option maxRecDepth 100000
set_option maxHeartbeats 4000000
attribute [local irreducible] W E R KP thenK blockK retK Good xwp aRun
end Go.Sv
namespace Go.Sv
open Go Go.Proofs
def x105 : XC:=(.seq (.ops 2 [ (0,⟨some 1,none,.box (.t 0)⟩),(1,⟨some 2,none,.mv (.k (.d (.val (.bool false))))⟩)] (some [1])) (.seq (.ops 10 [ (0,⟨some 3,none,.fadd 0 (.t 1)⟩),(1,⟨some 4,none,.load none (.t 3)⟩),(2,⟨some 5,none,.arith .eql (.t 4) (.k (.d (.val (.int .i64 2))))⟩),(3,⟨some 6,none,.mv (.t 5)⟩),(4,⟨some 7,(some (6,true)),.fadd 1 (.t 1)⟩),(5,⟨some 8,(some (6,true)),.load (some 4) (.t 7)⟩),(6,⟨some 9,(some (6,true)),.build [(.int .u64 0),(.int .u64 0),(.int .u64 0),(.int .u64 0)] []⟩),(7,⟨some 10,(some (6,true)),.eqAgg 4 false (.t 8) (.t 9)⟩),(8,⟨some 11,none,.pick (.t 6) (.t 10) (.k (.d (.val (.bool false))))⟩),(9,⟨some 2,none,.mv (.t 11)⟩)] (some [2])) .ret))
def md105 : FuncId→Option Nat × Bool
  | _=>(none,false)
def od105 : Nat→List (List Nat) × List Nat × Option (List Nat)
  | 0=>([],[],some [1])
  | 1=>([],[],some [2])
  | _=>([],[],none)
theorem b105 {ags : List AV} {row : Option (List DV)} {r : AV} {row' nw : Option (List DV)} (hal : ags.length≤12) (hrow : row'.isSome=true→row.isSome=true) (h : xwp Try.prog x105 (retK [.tmp 2] row.isSome r row' nw) (St.init ags row)) : Good Try.prog 105 ags row r row' nw :=
  good_of_body' (md:=md105) (od:=od105) Try.f105 (by kernel_rfl) (by kernel_rfl) (by kernel_rfl) (by kernel_rfl) (by kernel_rfl) hal hrow h

def x108 : XC:=(.seq (.ops 2 [ (0,⟨some 1,none,.box (.t 0)⟩),(1,⟨some 2,none,.mv (.k (.d (.val (.bool false))))⟩)] (some [1])) (.seq (.ops 4 [ (0,⟨some 3,none,.fadd 0 (.t 1)⟩),(1,⟨some 4,none,.load none (.t 3)⟩),(2,⟨some 5,none,.arith .eql (.t 4) (.k (.d (.val (.int .i64 1))))⟩),(3,⟨some 2,none,.mv (.t 5)⟩)] (some [2])) .ret))
def md108 : FuncId→Option Nat × Bool
  | _=>(none,false)
def od108 : Nat→List (List Nat) × List Nat × Option (List Nat)
  | 0=>([],[],some [1])
  | 1=>([],[],some [2])
  | _=>([],[],none)
theorem b108 {ags : List AV} {row : Option (List DV)} {r : AV} {row' nw : Option (List DV)} (hal : ags.length≤6) (hrow : row'.isSome=true→row.isSome=true) (h : xwp Try.prog x108 (retK [.tmp 2] row.isSome r row' nw) (St.init ags row)) : Good Try.prog 108 ags row r row' nw :=
  good_of_body' (md:=md108) (od:=od108) Try.f108 (by kernel_rfl) (by kernel_rfl) (by kernel_rfl) (by kernel_rfl) (by kernel_rfl) hal hrow h

def x110 : XC:=(.seq (.ops 1 [ (0,⟨some 0,none,.alloc [(.int .i64 0),(.int .u64 0),(.int .u64 0),(.int .u64 0),(.int .u64 0),(.int .i64 0),(.int .i64 0),(.slice none 0 0)]⟩)] (some [0])) (.seq (.ops 2 [ (0,⟨some 1,none,.build [(.int .i64 0),(.int .u64 0),(.int .u64 0),(.int .u64 0),(.int .u64 0),(.int .i64 0),(.int .i64 0),(.slice none 0 0)] [(0,1,(.k (.d (.val (.int .i64 1)))))]⟩),(1,⟨none,none,.store 8 (.t 0) (.t 1)⟩)] (some [0])) .ret))
def md110 : FuncId→Option Nat × Bool
  | _=>(none,false)
def od110 : Nat→List (List Nat) × List Nat × Option (List Nat)
  | 0=>([],[],some [0])
  | 1=>([],[],some [0])
  | _=>([],[],none)
theorem b110 {ags : List AV} {row : Option (List DV)} {r : AV} {row' nw : Option (List DV)} (hal : ags.length≤2) (hrow : row'.isSome=true→row.isSome=true) (h : xwp Try.prog x110 (retK [.cell 0 (some 8)] row.isSome r row' nw) (St.init ags row)) : Good Try.prog 110 ags row r row' nw :=
  good_of_body' (md:=md110) (od:=od110) Try.f110 (by kernel_rfl) (by kernel_rfl) (by kernel_rfl) (by kernel_rfl) (by kernel_rfl) hal hrow h

def x106 : XC:=(.seq (.ops 1 [ (0,⟨some 0,none,.alloc [(.int .i64 0),(.int .u64 0),(.int .u64 0),(.int .u64 0),(.int .u64 0),(.int .i64 0),(.int .i64 0),(.slice none 0 0)]⟩)] (some [0])) (.seq (.ops 2 [ (0,⟨some 1,none,.build [(.int .i64 0),(.int .u64 0),(.int .u64 0),(.int .u64 0),(.int .u64 0),(.int .i64 0),(.int .i64 0),(.slice none 0 0)] [(0,1,(.k (.d (.val (.int .i64 2)))))]⟩),(1,⟨none,none,.store 8 (.t 0) (.t 1)⟩)] (some [0])) .ret))
def md106 : FuncId→Option Nat × Bool
  | _=>(none,false)
def od106 : Nat→List (List Nat) × List Nat × Option (List Nat)
  | 0=>([],[],some [0])
  | 1=>([],[],some [0])
  | _=>([],[],none)
theorem b106 {ags : List AV} {row : Option (List DV)} {r : AV} {row' nw : Option (List DV)} (hal : ags.length≤2) (hrow : row'.isSome=true→row.isSome=true) (h : xwp Try.prog x106 (retK [.cell 0 (some 8)] row.isSome r row' nw) (St.init ags row)) : Good Try.prog 106 ags row r row' nw :=
  good_of_body' (md:=md106) (od:=od106) Try.f106 (by kernel_rfl) (by kernel_rfl) (by kernel_rfl) (by kernel_rfl) (by kernel_rfl) hal hrow h

def x109 : XC:=(.seq (.ops 2 [ (0,⟨some 5,none,.box (.t 2)⟩),(1,⟨some 6,none,.alloc [(.int .i64 0),(.int .u64 0),(.int .u64 0),(.int .u64 0),(.int .u64 0),(.int .i64 0),(.int .i64 0),(.slice none 0 0)]⟩)] (some [0,1,5,6])) (.seq (.seq (.ops 2 [ (0,⟨some 7,none,.mv (.t 1)⟩),(1,⟨some 8,none,.lenS (.t 7)⟩)] (some [0,1,5,6,8])) (.block 0 (.seq (.ops 2 [ (0,⟨some 10,none,.arith .eql (.t 8) (.k (.d (.val (.int .i64 0))))⟩),(1,⟨some 9,none,.mv (.t 10)⟩)] (some [0,1,5,6,8,9])) (.cond (.t 9) (.seq (.ops 2 [ (0,⟨some 11,none,.load (some 8) (.t 5)⟩),(1,⟨none,none,.store 8 (.t 6) (.t 11)⟩)] (some [6])) .ret) (.seq (.ops 2 [ (0,⟨some 13,none,.arith .eql (.t 8) (.k (.d (.val (.int .i64 1))))⟩),(1,⟨some 12,none,.mv (.t 13)⟩)] (some [0,1,6,12])) (.cond (.t 12) (.seq (.ops 4 [ (0,⟨some 14,none,.mv (.t 1)⟩),(1,⟨some 15,none,.idxS 8 (.t 14) (.k (.d (.val (.int .i64 0))))⟩),(2,⟨some 16,none,.load (some 8) (.t 15)⟩),(3,⟨none,none,.store 8 (.t 6) (.t 16)⟩)] (some [6])) .ret) .skip)))))) (.seq (.ops 4 [ (0,⟨some 17,none,.mv (.t 0)⟩),(1,⟨some 18,none,.mv (.t 1)⟩),(2,⟨some 19,none,.build [(.int .i64 0),(.int .u64 0),(.int .u64 0),(.int .u64 0),(.int .u64 0),(.int .i64 0),(.int .i64 0),(.slice none 0 0)] [(0,1,(.t 17)),(7,1,(.t 18))]⟩),(3,⟨none,none,.store 8 (.t 6) (.t 19)⟩)] (some [6])) .ret)))
def md109 : FuncId→Option Nat × Bool
  | _=>(none,false)
def od109 : Nat→List (List Nat) × List Nat × Option (List Nat)
  | 0=>([],[],some [0,1,5,6])
  | 1=>([],[],some [0,1,5,6,8])
  | 2=>([],[],some [0,1,5,6,8,9])
  | 3=>([],[],some [6])
  | 4=>([],[],some [0,1,6,12])
  | 5=>([],[],some [6])
  | 6=>([],[],some [6])
  | _=>([],[],none)
theorem b109 {ags : List AV} {row : Option (List DV)} {r : AV} {row' nw : Option (List DV)} (hal : ags.length≤20) (hrow : row'.isSome=true→row.isSome=true) (h : xwp Try.prog x109 (retK [.cell 6 (some 8)] row.isSome r row' nw) (St.init ags row)) : Good Try.prog 109 ags row r row' nw :=
  good_of_body' (md:=md109) (od:=od109) Try.f109 (by kernel_rfl) (by kernel_rfl) (by kernel_rfl) (by kernel_rfl) (by kernel_rfl) hal hrow h

def x113 : XC:=(.seq (.ops 2 [ (0,⟨some 1,none,.box (.t 0)⟩),(1,⟨some 2,none,.mv (.k (.d (.val (.bool false))))⟩)] (some [1])) (.seq (.ops 14 [ (0,⟨some 3,none,.fadd 0 (.t 1)⟩),(1,⟨some 4,none,.load none (.t 3)⟩),(2,⟨some 5,none,.arith .eql (.t 4) (.k (.d (.val (.int .i64 5))))⟩),(3,⟨some 6,none,.mv (.t 5)⟩),(4,⟨some 7,(some (6,true)),.fadd 5 (.t 1)⟩),(5,⟨some 8,(some (6,true)),.load none (.t 7)⟩),(6,⟨some 9,(some (6,true)),.arith .eql (.t 8) (.k (.d (.val (.int .i64 0))))⟩),(7,⟨some 10,none,.pick (.t 6) (.t 9) (.k (.d (.val (.bool false))))⟩),(8,⟨some 11,none,.mv (.t 10)⟩),(9,⟨some 12,(some (11,true)),.fadd 6 (.t 1)⟩),(10,⟨some 13,(some (11,true)),.load none (.t 12)⟩),(11,⟨some 14,(some (11,true)),.arith .eql (.t 13) (.k (.d (.val (.int .i64 (-1)))))⟩),(12,⟨some 15,none,.pick (.t 11) (.t 14) (.k (.d (.val (.bool false))))⟩),(13,⟨some 2,none,.mv (.t 15)⟩)] (some [2])) .ret))
def md113 : FuncId→Option Nat × Bool
  | _=>(none,false)
def od113 : Nat→List (List Nat) × List Nat × Option (List Nat)
  | 0=>([],[],some [1])
  | 1=>([],[],some [2])
  | _=>([],[],none)
theorem b113 {ags : List AV} {row : Option (List DV)} {r : AV} {row' nw : Option (List DV)} (hal : ags.length≤16) (hrow : row'.isSome=true→row.isSome=true) (h : xwp Try.prog x113 (retK [.tmp 2] row.isSome r row' nw) (St.init ags row)) : Good Try.prog 113 ags row r row' nw :=
  good_of_body' (md:=md113) (od:=od113) Try.f113 (by kernel_rfl) (by kernel_rfl) (by kernel_rfl) (by kernel_rfl) (by kernel_rfl) hal hrow h

def x103 : XC:=(.seq (.ops 1 [ (0,⟨some 4,none,.mv (.k (.d (.val (.slice none 0 0))))⟩)] (some [0,1,4])) (.seq (.seq (.ops 3 [ (0,⟨some 7,none,.mv (.t 1)⟩),(1,⟨some 8,none,.lenS (.t 7)⟩),(2,⟨some 9,none,.mv (.k (.d (.val (.int .i64 0))))⟩)] (some [0,4,7,8,9])) (.block 0 (.loop (.seq (.ops 1 [ (0,⟨some 10,none,.arith .lss (.t 9) (.t 8)⟩)] (some [0,4,7,8,9,10])) (.seq (.cond (.t 10) .skip (.exit 0)) (.seq (.block 1 (.seq (.ops 4 [ (0,⟨some 11,none,.idxS 8 (.t 7) (.t 9)⟩),(1,⟨some 12,none,.load (some 8) (.t 11)⟩),(2,⟨some 6,none,.alloc [(.int .i64 0),(.int .u64 0),(.int .u64 0),(.int .u64 0),(.int .u64 0),(.int .i64 0),(.int .i64 0),(.slice none 0 0)]⟩),(3,⟨none,none,.store 8 (.t 6) (.t 12)⟩)] (some [0,4,6,7,8,9])) (.seq (.ops 4 [ (0,⟨some 13,none,.fadd 0 (.t 6)⟩),(1,⟨some 14,none,.load none (.t 13)⟩),(2,⟨some 15,none,.mv (.t 0)⟩),(3,⟨some 16,none,.arith .eql (.t 14) (.t 15)⟩)] (some [0,4,6,7,8,9,16])) (.cond (.t 16) (.ops 5 [ (0,⟨some 17,none,.mv (.t 4)⟩),(1,⟨some 18,none,.fadd 7 (.t 6)⟩),(2,⟨some 19,none,.load none (.t 18)⟩),(3,⟨some 20,none,.app [(.int .i64 0),(.int .u64 0),(.int .u64 0),(.int .u64 0),(.int .u64 0),(.int .i64 0),(.int .i64 0),(.slice none 0 0)] 80 (.t 17) (.t 19)⟩),(4,⟨some 4,none,.mv (.t 20)⟩)] (some [0,4,7,8,9])) (.ops 5 [ (0,⟨some 21,none,.mv (.t 4)⟩),(1,⟨some 22,none,.load (some 8) (.t 6)⟩),(2,⟨some 23,none,.mkrow [(.int .i64 0),(.int .u64 0),(.int .u64 0),(.int .u64 0),(.int .u64 0),(.int .i64 0),(.int .i64 0),(.slice none 0 0)] 1 8 [(0,8,(.t 22))]⟩),(3,⟨some 24,none,.app [(.int .i64 0),(.int .u64 0),(.int .u64 0),(.int .u64 0),(.int .u64 0),(.int .i64 0),(.int .i64 0),(.slice none 0 0)] 80 (.t 21) (.t 23)⟩),(4,⟨some 4,none,.mv (.t 24)⟩)] (some [0,4,7,8,9])))))) (.ops 2 [ (0,⟨some 25,none,.arith .add (.t 9) (.k (.d (.val (.int .i64 1))))⟩),(1,⟨some 9,none,.mv (.t 25)⟩)] (some [0,4,7,8,9])))))))) (.seq (.ops 2 [ (0,⟨some 26,none,.mv (.t 4)⟩),(1,⟨some 4,none,.mv (.t 26)⟩)] (some [4])) .ret)))
def md103 : FuncId→Option Nat × Bool
  | _=>(none,false)
def od103 : Nat→List (List Nat) × List Nat × Option (List Nat)
  | 0=>([],[],some [0,1,4])
  | 1=>([],[],some [0,4,7,8,9])
  | 2=>([],[],some [0,4,7,8,9,10])
  | 3=>([],[],some [0,4,6,7,8,9])
  | 4=>([],[],some [0,4,6,7,8,9,16])
  | 5=>([],[],some [0,4,7,8,9])
  | 6=>([],[],some [0,4,7,8,9])
  | 7=>([],[],some [0,4,7,8,9])
  | 8=>([],[],some [4])
  | _=>([],[],none)
theorem b103 {ags : List AV} {row : Option (List DV)} {r : AV} {row' nw : Option (List DV)} (hal : ags.length≤27) (hrow : row'.isSome=true→row.isSome=true) (h : xwp Try.prog x103 (retK [.tmp 4] row.isSome r row' nw) (St.init ags row)) : Good Try.prog 103 ags row r row' nw :=
  good_of_body' (md:=md103) (od:=od103) Try.f103 (by kernel_rfl) (by kernel_rfl) (by kernel_rfl) (by kernel_rfl) (by kernel_rfl) hal hrow h

set_option maxRecDepth 100000
set_option maxHeartbeats 4000000
attribute [local irreducible] W E R KP thenK blockK retK Good xwp aRun
theorem no105_good (t : T) : Good Try.prog 105 [nodeA t] none (.b (isNo t)) none none:=by
  obtain ⟨k,a,b,c,d,mn,mx,subs⟩:=t
  have e0 : nodeA (.node k a b c d mn mx subs)=.agg [.i k,.d (.val (.int .u64 a)),.d (.val (.int .u64 b)),.d (.val (.int .u64 c)),.d (.val (.int .u64 d)),.i mn,.i mx,.d (.sl (encL subs) subs.length)]:=rfl
  rw [e0]
  by_cases hk : k=2
  · refine b105 (by simp) (by simp) (w_init ?_)
    unfold x105
    repeat' (first|(apply r_mvV;rfl)|(apply r_faddL;rfl)|(apply r_ldL (v:=.agg [.d (.val (.int .u64 a)),.d (.val (.int .u64 b)),.d (.val (.int .u64 c)),.d (.val (.int .u64 d))]);rfl;rfl;rfl)|(apply r_p (v:=.agg [.d (.val (.int .u64 0)),.d (.val (.int .u64 0)),.d (.val (.int .u64 0)),.d (.val (.int .u64 0))]);rfl)|(apply r_eqX;rfl;rfl;rfl)|(apply r_ldL;rfl;rfl;rfl)|(apply r_eql;rfl;rfl;(first|(apply dT;omega)|(apply dF;omega)|rfl))|(apply r_pickT;rfl)|(apply r_gT;rfl)|(apply r_box;((conv=>lhs;simp only [Nat.reduceAdd])<;>rfl);rfl;rfl;rfl)|(apply r_nilK)|(apply k_V;rfl)|(apply k_PL;rfl)|(apply k_nil)|(apply e_ret (vs:=[.d (.val _)]);rfl)|(apply w_seq)|(apply w_ops;((conv=>lhs;simp only [Nat.reduceAdd])<;>rfl))|(apply e_thenN)|(apply w_ret))
    exact retB (by simp [isNo,isZero,hk])
  · refine b105 (by simp) (by simp) (w_init ?_)
    unfold x105
    repeat' (first|(apply r_mvV;rfl)|(apply r_faddL;rfl)|(apply r_ldL;rfl;rfl;rfl)|(apply r_eql;rfl;rfl;(first|(apply dT;omega)|(apply dF;omega)|rfl))|(apply r_pickF;rfl)|(apply r_gF';rfl;rfl)|(apply r_box;((conv=>lhs;simp only [Nat.reduceAdd])<;>rfl);rfl;rfl;rfl)|(apply r_nilK)|(apply k_V;rfl)|(apply k_PL;rfl)|(apply k_nil)|(apply e_ret (vs:=[.d (.val _)]);rfl)|(apply w_seq)|(apply w_ops;((conv=>lhs;simp only [Nat.reduceAdd])<;>rfl))|(apply e_thenN)|(apply w_ret))
    exact retB (by simp [isNo,hk])
theorem e108_good (t : T) : Good Try.prog 108 [nodeA t] none (.b (!notE t)) none none:=by
  obtain ⟨k,a,b,c,d,mn,mx,subs⟩:=t
  have e0 : nodeA (.node k a b c d mn mx subs)=.agg [.i k,.d (.val (.int .u64 a)),.d (.val (.int .u64 b)),.d (.val (.int .u64 c)),.d (.val (.int .u64 d)),.i mn,.i mx,.d (.sl (encL subs) subs.length)]:=rfl
  rw [e0]
  by_cases hk : k=1
  · refine b108 (by simp) (by simp) (w_init ?_)
    unfold x108
    repeat' (first|(apply r_mvV;rfl)|(apply r_faddL;rfl)|(apply r_ldL;rfl;rfl;rfl)|(apply r_eql;rfl;rfl;(first|(apply dT;omega)|(apply dF;omega)|rfl))|(apply r_box;((conv=>lhs;simp only [Nat.reduceAdd])<;>rfl);rfl;rfl;rfl)|(apply r_nilK)|(apply k_V;rfl)|(apply k_PL;rfl)|(apply k_nil)|(apply e_ret (vs:=[.d (.val _)]);rfl)|(apply w_seq)|(apply w_ops;((conv=>lhs;simp only [Nat.reduceAdd])<;>rfl))|(apply e_thenN)|(apply w_ret))
    exact retB (by simp [notE,T.kind,hk])
  · refine b108 (by simp) (by simp) (w_init ?_)
    unfold x108
    repeat' (first|(apply r_mvV;rfl)|(apply r_faddL;rfl)|(apply r_ldL;rfl;rfl;rfl)|(apply r_eql;rfl;rfl;(first|(apply dT;omega)|(apply dF;omega)|rfl))|(apply r_box;((conv=>lhs;simp only [Nat.reduceAdd])<;>rfl);rfl;rfl;rfl)|(apply r_nilK)|(apply k_V;rfl)|(apply k_PL;rfl)|(apply k_nil)|(apply e_ret (vs:=[.d (.val _)]);rfl)|(apply w_seq)|(apply w_ops;((conv=>lhs;simp only [Nat.reduceAdd])<;>rfl))|(apply e_thenN)|(apply w_ret))
    exact retB (by simp [notE,T.kind,hk])
theorem empty110_good : Good Try.prog 110 [] none (nodeA emptyT) none none:=by
  refine b110 (by simp) (by simp) (w_init ?_)
  unfold x110
  repeat' (first|(apply r_alloc;((conv=>lhs;simp only [Nat.reduceAdd])<;>rfl);rfl)|(apply r_stL;rfl;rfl;rfl;rfl;(first|rfl|(simp only [z_nil,z_add]<;>rfl));rfl;rfl)|(apply r_p;rfl)|(apply r_nilK)|(apply k_PL;rfl)|(apply k_nil)|(apply e_ret;rfl)|(apply w_seq)|(apply w_ops;((conv=>lhs;simp only [Nat.reduceAdd])<;>rfl))|(apply e_thenN)|(apply w_ret))
  exact .data _ rfl
theorem no106_good : Good Try.prog 106 [] none (nodeA noneT) none none:=by
  refine b106 (by simp) (by simp) (w_init ?_)
  unfold x106
  repeat' (first|(apply r_alloc;((conv=>lhs;simp only [Nat.reduceAdd])<;>rfl);rfl)|(apply r_stL;rfl;rfl;rfl;rfl;(first|rfl|(simp only [z_nil,z_add]<;>rfl));rfl;rfl)|(apply r_p;rfl)|(apply r_nilK)|(apply k_PL;rfl)|(apply k_nil)|(apply e_ret;rfl)|(apply w_seq)|(apply w_ops;((conv=>lhs;simp only [Nat.reduceAdd])<;>rfl))|(apply e_thenN)|(apply w_ret))
  exact .data _ rfl
theorem star113_good (t : T) : Good Try.prog 113 [nodeA t] none (.b (isStar t)) none none:=by
  obtain ⟨k,a,b,c,d,mn,mx,subs⟩:=t
  have e0 : nodeA (.node k a b c d mn mx subs)=.agg [.i k,.d (.val (.int .u64 a)),.d (.val (.int .u64 b)),.d (.val (.int .u64 c)),.d (.val (.int .u64 d)),.i mn,.i mx,.d (.sl (encL subs) subs.length)]:=rfl
  rw [e0]
  refine b113 (by simp) (by simp) (w_init ?_)
  unfold x113
  repeat' (first|(apply r_mvV;rfl)|(apply r_faddL;rfl)|(apply r_ldL;rfl;rfl;rfl)|(apply r_eql;rfl;rfl;(first|(apply dT;omega)|(apply dF;omega)|rfl))|(apply r_pickT;rfl)|(apply r_pickF;rfl)|(apply r_gT;rfl)|(apply r_gF';rfl;rfl)|((apply r_gS (o:=default);rfl)<;>(intro h;try simp only [decide_eq_true_eq,decide_eq_false_iff_not,Bool.not_eq_true,Bool.not_eq_false] at h))|(apply r_box;((conv=>lhs;simp only [Nat.reduceAdd])<;>rfl);rfl;rfl;rfl)|(apply r_nilK)|(apply k_V;rfl)|(apply k_PL;rfl)|(apply k_nil)|(apply e_ret (vs:=[.d (.val _)]);rfl)|(apply w_seq)|(apply w_ops;((conv=>lhs;simp only [Nat.reduceAdd])<;>rfl))|(apply e_thenN)|(apply w_ret))
  all_goals refine retB (Bool.eq_iff_iff.2 ?_)
  all_goals (simp_all [isStar,T.kind,T.mn,T.mx]<;>omega)
theorem put109_good (k : Int) (l : List T) (e : T) (hl : l.length≤100000000) : Good Try.prog 109 [.i k,.d (.sl (encL l) l.length),nodeA e] none (nodeA (ofT k l e)) none none:=by
  obtain ⟨k1,a1,b1,c1,d1,mn1,mx1,subs1⟩:=e
  have e1 : nodeA (.node k1 a1 b1 c1 d1 mn1 mx1 subs1)=.agg [.i k1,.d (.val (.int .u64 a1)),.d (.val (.int .u64 b1)),.d (.val (.int .u64 c1)),.d (.val (.int .u64 d1)),.i mn1,.i mx1,.d (.sl (encL subs1) subs1.length)]:=rfl
  rw [e1]
  match l,hl with
  | [],_ =>
    refine b109 (by simp) (by simp) (w_init ?_)
    unfold x109
    simp only [List.length_nil]
    repeat' (first|(apply r_mvV;rfl)|(apply r_mvS;rfl)|(apply r_ldL (v:=.agg [.i k1,.d (.val (.int .u64 a1)),.d (.val (.int .u64 b1)),.d (.val (.int .u64 c1)),.d (.val (.int .u64 d1)),.i mn1,.i mx1,.d (.sl (encL subs1) subs1.length)]);rfl;rfl;rfl)|(apply r_eql;rfl;rfl;(first|(apply dT;omega)|(apply dF;omega)|rfl))|(apply r_lenD;rfl)|(apply r_alloc;((conv=>lhs;simp only [Nat.reduceAdd])<;>rfl);rfl)|(apply r_box;((conv=>lhs;simp only [Nat.reduceAdd])<;>rfl);rfl;rfl;rfl)|(apply r_stL;rfl;rfl;rfl;rfl;(first|rfl|(simp only [z_nil,z_add]<;>rfl));rfl;rfl)|(apply r_nilK)|(apply k_V;rfl)|(apply k_PL;rfl)|(apply k_S;rfl)|(apply k_nil)|(apply e_ret;rfl)|(apply w_seq)|(apply w_ops;((conv=>lhs;simp only [Nat.reduceAdd])<;>rfl))|(apply w_condT;rfl)|(apply e_thenN)|(apply w_block)|(apply e_thenR)|(apply e_blkR)|(apply w_ret))
    exact .data _ rfl
  | [u],_ =>
    obtain ⟨k2,a2,b2,c2,d2,mn2,mx2,subs2⟩:=u
    refine b109 (by simp) (by simp) (w_init ?_)
    unfold x109
    simp only [List.length_cons,List.length_nil,Nat.zero_add]
    repeat' (first|(apply r_mvV;rfl)|(apply r_mvS;rfl)|(apply r_p (v:=.d (.ptr (encL [.node k2 a2 b2 c2 d2 mn2 mx2 subs2]) 0));rfl)|(apply r_l (v:=.agg [.i k2,.d (.val (.int .u64 a2)),.d (.val (.int .u64 b2)),.d (.val (.int .u64 c2)),.d (.val (.int .u64 d2)),.i mn2,.i mx2,.d (.sl (encL subs2) subs2.length)]);rfl)|(apply r_eql;rfl;rfl;(first|(apply dT;omega)|(apply dF;omega)|rfl))|(apply r_lenD;rfl)|(apply r_alloc;((conv=>lhs;simp only [Nat.reduceAdd])<;>rfl);rfl)|(apply r_box;((conv=>lhs;simp only [Nat.reduceAdd])<;>rfl);rfl;rfl;rfl)|(apply r_stL;rfl;rfl;rfl;rfl;(first|rfl|(simp only [z_nil,z_add]<;>rfl));rfl;rfl)|(apply r_nilK)|(apply k_V;rfl)|(apply k_PL;rfl)|(apply k_S;rfl)|(apply k_nil)|(apply e_ret;rfl)|(apply w_seq)|(apply w_ops;((conv=>lhs;simp only [Nat.reduceAdd])<;>rfl))|(apply w_condT;rfl)|(apply w_condF;rfl)|(apply e_thenN)|(apply w_block)|(apply e_thenR)|(apply e_blkR)|(apply w_ret))
    exact .data _ rfl
  | x :: y :: z,hl =>
    refine b109 (by simp) (by simp) (w_init ?_)
    unfold x109
    simp only [List.length_cons] at hl ⊢
    repeat' (first|(apply r_mvV;rfl)|(apply r_mvS;rfl)|(apply r_p (v:=.agg [.i k,.d (.val (.int .u64 0)),.d (.val (.int .u64 0)),.d (.val (.int .u64 0)),.d (.val (.int .u64 0)),.i 0,.i 0,.d (.sl (encL (x :: y :: z)) (z.length + 1 + 1))]);rfl)|(apply r_eql;rfl;rfl;(first|(apply dT;omega)|(apply dF;omega)|rfl))|(apply r_lenD;rfl)|(apply r_alloc;((conv=>lhs;simp only [Nat.reduceAdd])<;>rfl);rfl)|(apply r_box;((conv=>lhs;simp only [Nat.reduceAdd])<;>rfl);rfl;rfl;rfl)|(apply r_stL;rfl;rfl;rfl;rfl;(first|rfl|(simp only [z_nil,z_add]<;>rfl));rfl;rfl)|(apply r_nilK)|(apply k_V;rfl)|(apply k_PL;rfl)|(apply k_S;rfl)|(apply k_nil)|(apply e_ret;rfl)|(apply w_seq)|(apply w_ops;((conv=>lhs;simp only [Nat.reduceAdd])<;>rfl))|(apply w_condF;rfl)|(apply e_thenN)|(apply w_block)|(apply e_blkN)|(apply w_ret)|(apply w_skip))
    exact .data _ rfl
theorem flat103_good (k : Int) (l : List T) (hc : cntL l≤50000000) : Good Try.prog 103 [.i k,.d (.sl (encL l) l.length)] none (.slL 1 0 (flatL k l).length 8) none (some (encL (flatL k l))):=by
  have hll:=cntL_len l
  have hft : ∀ i,(flatL k (l.take i)).length≤50000000:=fun i=>by
    have h1:=flatL_len k (l.take i)
    have h2:=cntL_take_le l i
    omega
  refine b103 (by simp) (by simp) (w_init ?_)
  unfold x103
  repeat' (first|(apply r_mvV;rfl)|(apply r_mvS;rfl)|(apply r_lenD;rfl)|(apply r_nilK)|(apply k_V;rfl)|(apply k_S;rfl)|(apply k_nil)|(apply w_seq)|(apply w_ops;((conv=>lhs;simp only [Nat.reduceAdd])<;>rfl))|(apply e_thenN)|(apply w_block))
  apply w_loopI (S:=fun i : Nat=>⟨((((Fr.nil.put 0 (.i k)).put 4 (.slL 50 0 (flatL k (l.take i)).length 8)).put 7 (.d (.sl (encL l) l.length))).put 8 (.i l.length)).put 9 (.i i),rowsOf [(50,(encL (flatL k (l.take i))).map AV.d)],Frz.buts 100 [50],100⟩) (m:=fun i=>l.length - i) (I:=fun i=>i≤l.length) (i0:=0)
  · exact Nat.zero_le _
  · refine wkM [] [50] rfl ?_ ?_ rfl ?_
    · intro p hp
      simp only [List.mem_cons,List.not_mem_nil,or_false] at hp
      rcases hp with rfl
      · exact ⟨by omega,.inl ⟨rfl,rfl⟩⟩
    · intro q hq;simp only [List.mem_cons,List.not_mem_nil,or_false] at hq;rcases hq with rfl<;>rfl
    · repeat' (first|exact FWk.nil|(apply FWk.i;rfl;(first|rfl|omega|(simp;done)))|(apply FWk.d;rfl;rfl)|(apply FWk.slN;rfl;omega;rfl))
  intro i K hi hK
  dsimp only
  rcases Nat.lt_or_ge i l.length with hlt | hge
  · have hs:=NodeAt.sub hlt
    have htk:=flatL_take k l i hlt
    have h1:=hft i
    have h2:=hft (i + 1)
    have hsub : l[i].subs.length≤50000000:=by
      have h3:=cntL_get l i hlt
      have h4:=cntL_len l[i].subs
      have h5 : cntL l[i].subs≤l[i].cnt:=by cases l[i];simp [T.subs,T.cnt]
      omega
    by_cases hk : l[i].kind=k
    · have e : flatO k l[i]=l[i].subs:=by rw [flatO,if_pos hk]
      rw [e] at htk
      generalize l[i]=v at hs hk htk hsub
      obtain ⟨k2,a2,b2,c2,d2,mn2,mx2,subs2⟩:=v
      simp only [T.kind] at hk
      simp only [T.subs] at htk hsub
      repeat' (first|(apply r_mvV;rfl)|(apply r_mvSL;rfl)|(apply r_faddL;rfl)|(apply r_p;apply ix_sub;rfl;rfl;omega)|(apply r_l (v:=.agg [.i k2,.d (.val (.int .u64 a2)),.d (.val (.int .u64 b2)),.d (.val (.int .u64 c2)),.d (.val (.int .u64 d2)),.i mn2,.i mx2,.d (.sl (encL subs2) subs2.length)]);exact ld_node hs rfl)|(apply r_ldL (v:=.d (.sl (encL subs2) subs2.length));rfl;rfl;rfl)|(apply r_appD (b:=50) (id:=112) (K:=flatL k (l.take i)) (L:=subs2);rfl;rfl;rfl;rfl;rfl;rfl;rfl;omega)|(apply r_ldL;rfl;rfl;rfl)|(apply r_eql;rfl;rfl;(first|(apply dT;omega)|(apply dF;omega)|rfl))|(apply r_lss;rfl;rfl;(first|(apply dT;omega)|(apply dF;omega)|rfl))|(apply r_add;rfl;rfl;rfl;omega)|(apply r_alloc;((conv=>lhs;simp only [Nat.reduceAdd])<;>rfl);rfl)|(apply r_stL;rfl;rfl;rfl;rfl;(first|rfl|(simp only [z_nil,z_add]<;>rfl));rfl;rfl)|(apply r_nilK)|(apply k_V;rfl)|(apply k_PL;rfl)|(apply k_S;rfl)|(apply k_SL;rfl)|(apply k_nil)|(apply w_seq)|(apply w_ops;((conv=>lhs;simp only [Nat.reduceAdd])<;>rfl))|(apply w_condT;rfl)|(apply e_thenN)|(apply w_block)|(apply e_blkN)|(apply w_skip))
      apply e_thenK
      apply hK (i + 1)
      · omega
      · omega
      · rw [htk]
        refine wkM [(50,112)] [] rfl ?_ ?_ rfl ?_
        · intro p hp
          simp only [List.mem_cons,List.not_mem_nil,or_false] at hp
          rcases hp with rfl
          · exact ⟨by omega,.inr ⟨rfl,_,rfl,.data (isD_encL _)⟩⟩
        · intro q hq;simp only [List.mem_cons,List.not_mem_nil,or_false] at hq;rcases hq with rfl<;>rfl
        · rw [List.length_append]
          repeat' (first|exact FWk.nil|(apply FWk.i;rfl;(first|rfl|omega|(simp;done)))|(apply FWk.sl;rfl;rfl;rfl;rfl;omega;rfl)|(apply FWk.d;rfl;rfl))
    · have e : flatO k l[i]=[l[i]]:=by rw [flatO,if_neg hk]
      rw [e] at htk
      generalize l[i]=v at hs hk htk hsub
      obtain ⟨k2,a2,b2,c2,d2,mn2,mx2,subs2⟩:=v
      simp only [T.kind] at hk
      repeat' (first|(apply r_mvV;rfl)|(apply r_mvSL;rfl)|(apply r_faddL;rfl)|(apply r_p;apply ix_sub;rfl;rfl;omega)|(apply r_l (v:=.agg [.i k2,.d (.val (.int .u64 a2)),.d (.val (.int .u64 b2)),.d (.val (.int .u64 c2)),.d (.val (.int .u64 d2)),.i mn2,.i mx2,.d (.sl (encL subs2) subs2.length)]);exact ld_node hs rfl)|(apply r_ldL (v:=.agg [.i k2,.d (.val (.int .u64 a2)),.d (.val (.int .u64 b2)),.d (.val (.int .u64 c2)),.d (.val (.int .u64 d2)),.i mn2,.i mx2,.d (.sl (encL subs2) subs2.length)]);rfl;rfl;rfl)|(apply r_mkN (t:=.node k2 a2 b2 c2 d2 mn2 mx2 subs2) (id:=111);rfl;rfl)|(apply r_appE (b:=50) (c:=111) (id:=112) (K:=flatL k (l.take i)) (L:=[.node k2 a2 b2 c2 d2 mn2 mx2 subs2]) (j:=1);rfl;rfl;rfl;rfl;rfl;rfl;rfl;rfl;omega)|(apply r_ldL;rfl;rfl;rfl)|(apply r_eql;rfl;rfl;(first|(apply dT;omega)|(apply dF;omega)|rfl))|(apply r_lss;rfl;rfl;(first|(apply dT;omega)|(apply dF;omega)|rfl))|(apply r_add;rfl;rfl;rfl;omega)|(apply r_alloc;((conv=>lhs;simp only [Nat.reduceAdd])<;>rfl);rfl)|(apply r_stL;rfl;rfl;rfl;rfl;(first|rfl|(simp only [z_nil,z_add]<;>rfl));rfl;rfl)|(apply r_nilK)|(apply k_V;rfl)|(apply k_PL;rfl)|(apply k_S;rfl)|(apply k_SL;rfl)|(apply k_nil)|(apply w_seq)|(apply w_ops;((conv=>lhs;simp only [Nat.reduceAdd])<;>rfl))|(apply w_condT;rfl)|(apply w_condF;rfl)|(apply e_thenN)|(apply w_block)|(apply e_blkN)|(apply w_skip))
      apply e_thenK
      apply hK (i + 1)
      · omega
      · omega
      · rw [htk]
        refine wkM [(50,112)] [] rfl ?_ ?_ rfl ?_
        · intro p hp
          simp only [List.mem_cons,List.not_mem_nil,or_false] at hp
          rcases hp with rfl
          · exact ⟨by omega,.inr ⟨rfl,_,rfl,.data (isD_encL _)⟩⟩
        · intro q hq;simp only [List.mem_cons,List.not_mem_nil,or_false] at hq;rcases hq with rfl<;>rfl
        · rw [List.length_append]
          repeat' (first|exact FWk.nil|(apply FWk.i;rfl;(first|rfl|omega|(simp;done)))|(apply FWk.sl;rfl;rfl;rfl;rfl;omega;rfl)|(apply FWk.d;rfl;rfl))
  have ei : i=l.length:=by omega
  subst ei
  rw [List.take_length]
  repeat' (first|(apply r_mvSL;rfl)|(apply r_lss;rfl;rfl;(first|(apply dT;omega)|(apply dF;omega)|rfl))|(apply r_nilK)|(apply k_V;rfl)|(apply k_S;rfl)|(apply k_SL;rfl)|(apply k_nil)|(apply e_ret;rfl)|(apply w_seq)|(apply w_ops;((conv=>lhs;simp only [Nat.reduceAdd])<;>rfl))|(apply w_condF;rfl)|(apply e_thenN)|(apply e_thenX)|(apply e_blkE)|(apply w_exit)|(apply w_ret))
  exact .new 50 _ _ _ _ rfl rfl rfl
end Go.Sv
namespace Go.Sv
open Go Go.Proofs
section
variable {P : Program} {Q : Cont} {fr : Fr} {C : Heap} {Z : Frz} {nx : Nat} {base n d0 : Nat} {l : List (Nat × XO)} {kp : Option (List Nat)} {x y : X}
theorem r_callvC {f : FuncId} {g : X} {xs : List X} {ags : List AV} {caps : List DV} {r : AV} (hf : g.ev fr=.d (.fn f caps)) (ha : xs.map (X.ev fr)=ags) (hn : (ags++caps.map AV.d).all AV.nrm=true) (hg : Good P f (ags++caps.map AV.d) none r none none)
    (k : R P l base kp Q nx (fr.put d0 r) C Z) : R P ((n,⟨some d0,none,.callv g xs⟩) :: l) base kp Q nx fr C Z:=by
  refine ⟨r,C,Z,.inl ⟨rfl,f,caps.map AV.d,.inr ⟨caps,hf,rfl⟩,?_⟩,k⟩
  subst ha
  refine ⟨_,[],r,none,none,convAs_nrm _ hn,hg,rfl,fun h=>(by cases h),rfl,rfl,?_⟩
  simp [Frz.add_nil]
end
def firstP (p : T→Bool) : List T→Nat→Int
  | [],_=>-1
  | t :: l,i=>if p t=true then i else firstP p l (i + 1)
theorem firstP_drop (p : T→Bool) (l : List T) (i : Nat) (h : i < l.length) : firstP p (l.drop i) i=if p l[i]=true then (i : Int) else firstP p (l.drop (i + 1)) (i + 1):=by
  rw [List.drop_eq_getElem_cons h,firstP]
theorem firstP_any (p : T→Bool) : ∀ (l : List T) (i : Nat),decide (0≤firstP p l i)=l.any p
  | [],_=>by simp [firstP]
  | t :: l,i=>by
    rw [firstP,List.any_cons]
    rcases Bool.eq_false_or_eq_true (p t) with h | h
    · rw [if_pos h,h];simp
    · rw [if_neg (by simp [h]),firstP_any p l (i + 1),h,Bool.false_or]
theorem firstP_spec (p : T→Bool) : ∀ (l : List T) (i : Nat),(firstP p l i=-1∧l.any p=false) ∨ ∃ j,firstP p l i=((i + j : Nat) : Int)∧j < l.length∧(l.take j).any p=false∧∀ h : j < l.length,p l[j]=true
  | [],i=>.inl ⟨rfl,rfl⟩
  | t :: l,i=>by
    rw [firstP]
    rcases Bool.eq_false_or_eq_true (p t) with h | h
    · rw [if_pos h]
      exact .inr ⟨0,by simp,by simp,rfl,fun _=>h⟩
    · rw [if_neg (by simp [h])]
      rcases firstP_spec p l (i + 1) with ⟨h1,h2⟩ | ⟨j,h1,h2,h3,h4⟩
      · exact .inl ⟨h1,by rw [List.any_cons,h,h2];rfl⟩
      · refine .inr ⟨j + 1,by rw [h1];congr 1;omega,by simp;omega,?_,fun hj=>?_⟩
        · rw [List.take_succ_cons,List.any_cons,h,h3];rfl
        · simpa using h4 h2
set_option maxRecDepth 100000
set_option maxHeartbeats 4000000
attribute [local irreducible] W E R KP thenK blockK retK Good xwp aRun
def PredOK (f : FuncId) (caps : List DV) (p : T→Bool) (l : List T) : Prop:=(caps.map AV.d).all AV.nrm=true∧∀ i (hi : i < l.length),Good Try.prog f (nodeA l[i] :: caps.map AV.d) none (.b (p l[i])) none none
theorem idx145_good {f : FuncId} {caps : List DV} {p : T→Bool} {l : List T} (hp : PredOK f caps p l) (hl : l.length≤100000000) : Good Try.prog 145 [.d (.sl (encL l) l.length),.d (.fn f caps)] none (.i (firstP p l 0)) none none:=by
  refine b145 (by simp) (by simp) (w_init ?_)
  unfold x145
  repeat' (first|(apply r_mvV;rfl)|(apply r_mvS;rfl)|(apply k_E (v:=.d (.fn f caps));rfl)|(apply r_lenD;rfl)|(apply r_nilK)|(apply k_V;rfl)|(apply k_S;rfl)|(apply k_nil)|(apply w_seq)|(apply w_ops;((conv=>lhs;simp only [Nat.reduceAdd])<;>rfl))|(apply e_thenN)|(apply w_block))
  apply w_loopI (S:=fun i : Nat=>⟨(((Fr.nil.put 0 (.d (.sl (encL l) l.length))).put 1 (.d (.fn f caps))).put 7 (.i l.length)).put 8 (.i i),Heap.nil,Frz.lo 100,100⟩) (m:=fun i=>l.length - i) (I:=fun i=>i≤l.length∧firstP p l 0=firstP p (l.drop i) i) (i0:=0)
  · exact ⟨Nat.zero_le _,rfl⟩
  · refine wk0 (by omega) ?_
    repeat' (first|exact FWk.nil|(apply FWk.i;rfl;(first|rfl|omega|(simp;done)))|(apply FWk.d;rfl;rfl))
  rintro i K ⟨hi,hpp⟩ hK
  dsimp only
  rcases Nat.lt_or_ge i l.length with hlt | hge
  · have hs:=NodeAt.sub hlt
    have hg:=hp.2 i hlt
    have hd:=firstP_drop p l i hlt
    have hna : ([nodeA l[i]]++caps.map AV.d).all AV.nrm=true:=by rw [List.singleton_append,List.all_cons,nodeA_nrm,hp.1];rfl
    rcases Bool.eq_false_or_eq_true (p l[i]) with hq | hq
    · rw [hq] at hg
      rw [if_pos hq] at hd
      repeat' (first|(apply r_mvV;rfl)|(apply r_mvS;rfl)|(apply k_E (v:=.d (.fn f caps));rfl)|(apply r_p;apply ix_sub;rfl;rfl;omega)|(apply r_l;apply ld_node';exact hs;rfl)|(apply r_callvC (ags:=[nodeA l[i]]) (caps:=caps);rfl;rfl;exact hna;exact hg)|(apply r_lss;rfl;rfl;(first|(apply dT;omega)|(apply dF;omega)|rfl))|(apply r_p;rfl)|(apply r_nilK)|(apply k_V;rfl)|(apply k_S;rfl)|(apply k_nil)|(apply e_ret (vs:=[.d (.val _)]);rfl)|(apply w_seq)|(apply w_ops;((conv=>lhs;simp only [Nat.reduceAdd])<;>rfl))|(apply w_condT;rfl)|(apply e_thenN)|(apply w_block)|(apply e_thenR)|(apply e_blkR)|(apply w_ret)|(apply w_skip))
      exact retI (by rw [hpp,hd])
    · rw [hq] at hg
      rw [if_neg (by simp [hq])] at hd
      repeat' (first|(apply r_mvV;rfl)|(apply r_mvS;rfl)|(apply k_E (v:=.d (.fn f caps));rfl)|(apply r_p;apply ix_sub;rfl;rfl;omega)|(apply r_l;apply ld_node';exact hs;rfl)|(apply r_callvC (ags:=[nodeA l[i]]) (caps:=caps);rfl;rfl;exact hna;exact hg)|(apply r_lss;rfl;rfl;(first|(apply dT;omega)|(apply dF;omega)|rfl))|(apply r_add;rfl;rfl;rfl;omega)|(apply r_p;rfl)|(apply r_nilK)|(apply k_V;rfl)|(apply k_S;rfl)|(apply k_nil)|(apply w_seq)|(apply w_ops;((conv=>lhs;simp only [Nat.reduceAdd])<;>rfl))|(apply w_condT;rfl)|(apply w_condF;rfl)|(apply e_thenN)|(apply w_block)|(apply e_blkN)|(apply w_skip))
      apply e_thenK
      apply hK (i + 1)
      · exact ⟨by omega,by rw [hpp,hd]⟩
      · omega
      · refine wk0 (by omega) ?_
        repeat' (first|exact FWk.nil|(apply FWk.i;rfl;(first|rfl|omega|(simp;done)))|(apply FWk.d;rfl;rfl))
  · have e : firstP p l 0=-1:=by rw [hpp,List.drop_of_length_le hge,firstP]
    repeat' (first|(apply r_mvV;rfl)|(apply k_E (v:=.d (.fn f caps));rfl)|(apply r_lss;rfl;rfl;(first|(apply dT;omega)|(apply dF;omega)|rfl))|(apply r_nilK)|(apply k_V;rfl)|(apply k_S;rfl)|(apply k_nil)|(apply e_ret (vs:=[.d (.val _)]);rfl)|(apply w_seq)|(apply w_ops;((conv=>lhs;simp only [Nat.reduceAdd])<;>rfl))|(apply w_condF;rfl)|(apply e_thenN)|(apply e_thenX)|(apply e_blkE)|(apply w_exit)|(apply w_ret))
    exact retI e.symm
theorem contains104_good {f : FuncId} {caps : List DV} {p : T→Bool} {l : List T} (hp : PredOK f caps p l) (hl : l.length≤100000000) : Good Try.prog 104 [.d (.sl (encL l) l.length),.d (.fn f caps)] none (.b (l.any p)) none none:=by
  have h:=idx145_good hp hl
  have hq:=firstP_any p l 0
  generalize firstP p l 0=q at h hq
  refine b104 (by simp) (by simp) (w_init ?_)
  unfold x104
  have hna : [AV.d (.sl (encL l) l.length),.d (.fn f caps)].all AV.nrm=true:=rfl
  repeat' (first|(apply r_mvV;rfl)|(apply r_mvS;rfl)|(apply k_E (v:=.d (.fn f caps));rfl)|(apply r_mv (v:=.d (.fn f caps));rfl)|(apply r_callA (ags:=[.d (.sl (encL l) l.length),.d (.fn f caps)]);rfl;exact hna;exact h)|(apply r_geq;rfl;rfl;(first|(apply dT;omega)|(apply dF;omega)|rfl))|(apply r_nilK)|(apply k_V;rfl)|(apply k_S;rfl)|(apply k_nil)|(apply e_ret (vs:=[.d (.val _)]);rfl)|(apply w_seq)|(apply w_ops;((conv=>lhs;simp only [Nat.reduceAdd])<;>rfl))|(apply e_thenN)|(apply w_ret))
  all_goals exact retB hq
end Go.Sv
namespace Go.Sv
open Go Go.Proofs
def x112 : XC:=(.seq (.ops 3 [ (0,⟨some 2,none,.box (.t 0)⟩),(1,⟨some 3,none,.box (.t 1)⟩),(2,⟨some 4,none,.mv (.k (.d (.val (.bool false))))⟩)] (some [2,3])) (.seq (.ops 34 [ (0,⟨some 5,none,.fadd 0 (.t 2)⟩),(1,⟨some 6,none,.load none (.t 5)⟩),(2,⟨some 7,none,.fadd 0 (.t 3)⟩),(3,⟨some 8,none,.load none (.t 7)⟩),(4,⟨some 9,none,.arith .eql (.t 6) (.t 8)⟩),(5,⟨some 10,none,.mv (.t 9)⟩),(6,⟨some 11,(some (10,true)),.fadd 1 (.t 2)⟩),(7,⟨some 12,(some (10,true)),.load (some 4) (.t 11)⟩),(8,⟨some 13,(some (10,true)),.fadd 1 (.t 3)⟩),(9,⟨some 14,(some (10,true)),.load (some 4) (.t 13)⟩),(10,⟨some 15,(some (10,true)),.eqAgg 4 false (.t 12) (.t 14)⟩),(11,⟨some 16,none,.pick (.t 10) (.t 15) (.k (.d (.val (.bool false))))⟩),(12,⟨some 17,none,.mv (.t 16)⟩),(13,⟨some 18,(some (17,true)),.fadd 5 (.t 2)⟩),(14,⟨some 19,(some (17,true)),.load none (.t 18)⟩),(15,⟨some 20,(some (17,true)),.fadd 5 (.t 3)⟩),(16,⟨some 21,(some (17,true)),.load none (.t 20)⟩),(17,⟨some 22,(some (17,true)),.arith .eql (.t 19) (.t 21)⟩),(18,⟨some 23,none,.pick (.t 17) (.t 22) (.k (.d (.val (.bool false))))⟩),(19,⟨some 24,none,.mv (.t 23)⟩),(20,⟨some 25,(some (24,true)),.fadd 6 (.t 2)⟩),(21,⟨some 26,(some (24,true)),.load none (.t 25)⟩),(22,⟨some 27,(some (24,true)),.fadd 6 (.t 3)⟩),(23,⟨some 28,(some (24,true)),.load none (.t 27)⟩),(24,⟨some 29,(some (24,true)),.arith .eql (.t 26) (.t 28)⟩),(25,⟨some 30,none,.pick (.t 24) (.t 29) (.k (.d (.val (.bool false))))⟩),(26,⟨some 31,none,.mv (.t 30)⟩),(27,⟨some 32,(some (31,true)),.fadd 7 (.t 2)⟩),(28,⟨some 33,(some (31,true)),.load none (.t 32)⟩),(29,⟨some 34,(some (31,true)),.fadd 7 (.t 3)⟩),(30,⟨some 35,(some (31,true)),.load none (.t 34)⟩),(31,⟨some 36,(some (31,true)),.call 146 [(.t 33),(.t 35),(.k (.d (.fn 112 [])))] none false⟩),(32,⟨some 37,none,.pick (.t 31) (.t 36) (.k (.d (.val (.bool false))))⟩),(33,⟨some 4,none,.mv (.t 37)⟩)] (some [4])) .ret))
def md112 : FuncId→Option Nat × Bool
  | _=>(none,false)
def od112 : Nat→List (List Nat) × List Nat × Option (List Nat)
  | 0=>([],[],some [2,3])
  | 1=>([],[],some [4])
  | _=>([],[],none)
theorem b112 {ags : List AV} {row : Option (List DV)} {r : AV} {row' nw : Option (List DV)} (hal : ags.length≤38) (hrow : row'.isSome=true→row.isSome=true) (h : xwp Try.prog x112 (retK [.tmp 4] row.isSome r row' nw) (St.init ags row)) : Good Try.prog 112 ags row r row' nw :=
  good_of_body' (md:=md112) (od:=od112) Try.f112 (by kernel_rfl) (by kernel_rfl) (by kernel_rfl) (by kernel_rfl) (by kernel_rfl) hal hrow h

def x146 : XC:=(.seq (.ops 1 [ (0,⟨some 6,none,.mv (.k (.d (.val (.bool false))))⟩)] (some [0,1,2])) (.seq (.seq (.ops 5 [ (0,⟨some 10,none,.mv (.t 0)⟩),(1,⟨some 11,none,.lenS (.t 10)⟩),(2,⟨some 12,none,.mv (.t 1)⟩),(3,⟨some 13,none,.lenS (.t 12)⟩),(4,⟨some 14,none,.arith .neq (.t 11) (.t 13)⟩)] (some [0,1,2,14])) (.cond (.t 14) (.seq (.ops 1 [ (0,⟨some 6,none,.mv (.k (.d (.val (.bool false))))⟩)] (some [6])) .ret) .skip)) (.seq (.seq (.ops 3 [ (0,⟨some 15,none,.mv (.t 0)⟩),(1,⟨some 16,none,.lenS (.t 15)⟩),(2,⟨some 17,none,.mv (.k (.d (.val (.int .i64 0))))⟩)] (some [1,2,15,16,17])) (.block 0 (.loop (.seq (.ops 1 [ (0,⟨some 18,none,.arith .lss (.t 17) (.t 16)⟩)] (some [1,2,15,16,17,18])) (.seq (.cond (.t 18) .skip (.exit 0)) (.seq (.block 1 (.seq (.ops 6 [ (0,⟨some 19,none,.mv (.t 17)⟩),(1,⟨some 20,none,.idxS 8 (.t 15) (.t 17)⟩),(2,⟨some 21,none,.load (some 8) (.t 20)⟩),(3,⟨some 8,none,.alloc [(.int .i64 0),(.int .u64 0),(.int .u64 0),(.int .u64 0),(.int .u64 0),(.int .i64 0),(.int .i64 0),(.slice none 0 0)]⟩),(4,⟨some 7,none,.mv (.t 19)⟩),(5,⟨none,none,.store 8 (.t 8) (.t 21)⟩)] (some [1,2,7,8,15,16,17])) (.seq (.ops 6 [ (0,⟨some 22,none,.mv (.t 1)⟩),(1,⟨some 23,none,.mv (.t 7)⟩),(2,⟨some 24,none,.idxS 8 (.t 22) (.t 23)⟩),(3,⟨some 25,none,.load (some 8) (.t 24)⟩),(4,⟨some 9,none,.alloc [(.int .i64 0),(.int .u64 0),(.int .u64 0),(.int .u64 0),(.int .u64 0),(.int .i64 0),(.int .i64 0),(.slice none 0 0)]⟩),(5,⟨none,none,.store 8 (.t 9) (.t 25)⟩)] (some [1,2,8,9,15,16,17])) (.seq (.ops 5 [ (0,⟨some 26,none,.mv (.t 2)⟩),(1,⟨some 27,none,.load (some 8) (.t 8)⟩),(2,⟨some 28,none,.load (some 8) (.t 9)⟩),(3,⟨some 29,none,.callv (.t 26) [(.t 27),(.t 28)]⟩),(4,⟨some 30,none,.un .not (.t 29)⟩)] (some [1,2,15,16,17,30])) (.cond (.t 30) (.seq (.ops 1 [ (0,⟨some 6,none,.mv (.k (.d (.val (.bool false))))⟩)] (some [6])) .ret) .skip))))) (.ops 2 [ (0,⟨some 31,none,.arith .add (.t 17) (.k (.d (.val (.int .i64 1))))⟩),(1,⟨some 17,none,.mv (.t 31)⟩)] (some [1,2,15,16,17])))))))) (.seq (.ops 1 [ (0,⟨some 6,none,.mv (.k (.d (.val (.bool true))))⟩)] (some [6])) .ret))))
def md146 : FuncId→Option Nat × Bool
  | _=>(none,false)
def od146 : Nat→List (List Nat) × List Nat × Option (List Nat)
  | 0=>([],[],some [0,1,2])
  | 1=>([],[],some [0,1,2,14])
  | 2=>([],[],some [6])
  | 3=>([],[],some [1,2,15,16,17])
  | 4=>([],[],some [1,2,15,16,17,18])
  | 5=>([],[],some [1,2,7,8,15,16,17])
  | 6=>([],[],some [1,2,8,9,15,16,17])
  | 7=>([],[],some [1,2,15,16,17,30])
  | 8=>([],[],some [6])
  | 9=>([],[],some [1,2,15,16,17])
  | 10=>([],[],some [6])
  | _=>([],[],none)
theorem b146 {ags : List AV} {row : Option (List DV)} {r : AV} {row' nw : Option (List DV)} (hal : ags.length≤32) (hrow : row'.isSome=true→row.isSome=true) (h : xwp Try.prog x146 (retK [.tmp 6] row.isSome r row' nw) (St.init ags row)) : Good Try.prog 146 ags row r row' nw :=
  good_of_body' (md:=md146) (od:=od146) Try.f146 (by kernel_rfl) (by kernel_rfl) (by kernel_rfl) (by kernel_rfl) (by kernel_rfl) hal hrow h

def x111 : XC:=(.seq (.ops 2 [ (0,⟨some 2,none,.box (.t 0)⟩),(1,⟨some 3,none,.mv (.k (.d (.val (.bool false))))⟩)] (some [1,2])) (.seq (.ops 4 [ (0,⟨some 4,none,.load (some 8) (.t 2)⟩),(1,⟨some 5,none,.load (some 8) (.t 1)⟩),(2,⟨some 6,none,.call 112 [(.t 4),(.t 5)] none false⟩),(3,⟨some 3,none,.mv (.t 6)⟩)] (some [3])) .ret))
def md111 : FuncId→Option Nat × Bool
  | _=>(none,false)
def od111 : Nat→List (List Nat) × List Nat × Option (List Nat)
  | 0=>([],[],some [1,2])
  | 1=>([],[],some [3])
  | _=>([],[],none)
theorem b111 {ags : List AV} {row : Option (List DV)} {r : AV} {row' nw : Option (List DV)} (hal : ags.length≤7) (hrow : row'.isSome=true→row.isSome=true) (h : xwp Try.prog x111 (retK [.tmp 3] row.isSome r row' nw) (St.init ags row)) : Good Try.prog 111 ags row r row' nw :=
  good_of_body' (md:=md111) (od:=od111) Try.f111 (by kernel_rfl) (by kernel_rfl) (by kernel_rfl) (by kernel_rfl) (by kernel_rfl) hal hrow h

set_option maxRecDepth 100000
set_option maxHeartbeats 4000000
attribute [local irreducible] W E R KP thenK blockK retK Good xwp aRun
theorem eq146_of (l r : List T) (hl : l.length≤100000000) (h : ∀ i (h1 : i < l.length) (h2 : i < r.length),Good Try.prog 112 [nodeA l[i],nodeA r[i]] none (.b (sameT l[i] r[i])) none none) : Good Try.prog 146 [.d (.sl (encL l) l.length),.d (.sl (encL r) r.length),.d (.fn 112 [])] none (.b (sameL l r)) none none:=by
  by_cases hlen : l.length=r.length
  case neg =>
    refine b146 (by simp) (by simp) (w_init ?_)
    unfold x146
    repeat' (first|(apply r_mvV;rfl)|(apply r_mvS;rfl)|(apply k_E (v:=.d (.fn 112 []));rfl)|(apply r_neq;rfl;rfl;(first|(apply dT;omega)|(apply dF;omega)|rfl))|(apply r_lenD;rfl)|(apply r_nilK)|(apply k_V;rfl)|(apply k_S;rfl)|(apply k_nil)|(apply e_ret (vs:=[.d (.val _)]);rfl)|(apply w_seq)|(apply w_ops;((conv=>lhs;simp only [Nat.reduceAdd])<;>rfl))|(apply w_condT;rfl)|(apply e_thenN)|(apply e_thenR)|(apply w_ret))
    exact retB (sameL_len hlen).symm
  refine b146 (by simp) (by simp) (w_init ?_)
  unfold x146
  repeat' (first|(apply r_mvV;rfl)|(apply r_mvS;rfl)|(apply k_E (v:=.d (.fn 112 []));rfl)|(apply r_neq;rfl;rfl;(first|(apply dT;omega)|(apply dF;omega)|rfl))|(apply r_lenD;rfl)|(apply r_nilK)|(apply k_V;rfl)|(apply k_S;rfl)|(apply k_nil)|(apply w_seq)|(apply w_ops;((conv=>lhs;simp only [Nat.reduceAdd])<;>rfl))|(apply w_condF;rfl)|(apply e_thenN)|(apply w_block)|(apply w_skip))
  apply w_loopI (S:=fun i : Nat=>⟨((((Fr.nil.put 1 (.d (.sl (encL r) r.length))).put 2 (.d (.fn 112 []))).put 15 (.d (.sl (encL l) l.length))).put 16 (.i l.length)).put 17 (.i i),Heap.nil,Frz.lo 100,100⟩) (m:=fun i=>l.length - i) (I:=fun i=>i≤l.length∧sameL l r=sameL (l.drop i) (r.drop i)) (i0:=0)
  · exact ⟨Nat.zero_le _,rfl⟩
  · refine wk0 (by omega) ?_
    repeat' (first|exact FWk.nil|(apply FWk.i;rfl;(first|rfl|omega|(simp;done)))|(apply FWk.d;rfl;rfl))
  rintro i K ⟨hi,hp⟩ hK
  dsimp only
  rcases Nat.lt_or_ge i l.length with hlt | hge
  · have hlt2 : i < r.length:=by omega
    have hs:=NodeAt.sub hlt
    have hs2:=NodeAt.sub hlt2
    have hg:=h i hlt hlt2
    have hd:=sameL_drop l r i hlt hlt2
    rcases Bool.eq_false_or_eq_true (sameT l[i] r[i]) with hq | hq
    · rw [hq] at hg hd
      generalize l[i]=v at hs hg
      generalize r[i]=w at hs2 hg
      obtain ⟨k,a,b,c,d,mn,mx,subs⟩:=v
      obtain ⟨k2,a2,b2,c2,d2,mn2,mx2,subs2⟩:=w
      repeat' (first|(apply r_mvV;rfl)|(apply r_mvS;rfl)|(apply k_E (v:=.d (.fn 112 []));rfl)|(apply r_mv (v:=.d (.fn 112 []));rfl)|(apply r_p;apply ix_sub;rfl;rfl;omega)|(apply r_l (v:=.agg [.i k,.d (.val (.int .u64 a)),.d (.val (.int .u64 b)),.d (.val (.int .u64 c)),.d (.val (.int .u64 d)),.i mn,.i mx,.d (.sl (encL subs) subs.length)]);exact ld_node hs rfl)|(apply r_l (v:=.agg [.i k2,.d (.val (.int .u64 a2)),.d (.val (.int .u64 b2)),.d (.val (.int .u64 c2)),.d (.val (.int .u64 d2)),.i mn2,.i mx2,.d (.sl (encL subs2) subs2.length)]);exact ld_node hs2 rfl)|(apply r_ldL (v:=.agg [.i k,.d (.val (.int .u64 a)),.d (.val (.int .u64 b)),.d (.val (.int .u64 c)),.d (.val (.int .u64 d)),.i mn,.i mx,.d (.sl (encL subs) subs.length)]);rfl;rfl;rfl)|(apply r_ldL (v:=.agg [.i k2,.d (.val (.int .u64 a2)),.d (.val (.int .u64 b2)),.d (.val (.int .u64 c2)),.d (.val (.int .u64 d2)),.i mn2,.i mx2,.d (.sl (encL subs2) subs2.length)]);rfl;rfl;rfl)|(apply r_callv (ags:=[.agg [.i k,.d (.val (.int .u64 a)),.d (.val (.int .u64 b)),.d (.val (.int .u64 c)),.d (.val (.int .u64 d)),.i mn,.i mx,.d (.sl (encL subs) subs.length)],.agg [.i k2,.d (.val (.int .u64 a2)),.d (.val (.int .u64 b2)),.d (.val (.int .u64 c2)),.d (.val (.int .u64 d2)),.i mn2,.i mx2,.d (.sl (encL subs2) subs2.length)]]);rfl;rfl;rfl;exact hg)|(apply r_lss;rfl;rfl;(first|(apply dT;omega)|(apply dF;omega)|rfl))|(apply r_add;rfl;rfl;rfl;omega)|(apply r_not;rfl;rfl)|(apply r_alloc;((conv=>lhs;simp only [Nat.reduceAdd])<;>rfl);rfl)|(apply r_stL;rfl;rfl;rfl;rfl;(first|rfl|(simp only [z_nil,z_add]<;>rfl));rfl;rfl)|(apply r_nilK)|(apply k_V;rfl)|(apply k_PL;rfl)|(apply k_S;rfl)|(apply k_nil)|(apply w_seq)|(apply w_ops;((conv=>lhs;simp only [Nat.reduceAdd])<;>rfl))|(apply w_condT;rfl)|(apply w_condF;rfl)|(apply e_thenN)|(apply w_block)|(apply e_blkN)|(apply w_skip))
      apply e_thenK
      apply hK (i + 1)
      · exact ⟨by omega,by rw [hp,hd,Bool.true_and]⟩
      · omega
      · refine wk0 (by omega) ?_
        repeat' (first|exact FWk.nil|(apply FWk.i;rfl;(first|rfl|omega|(simp;done)))|(apply FWk.d;rfl;rfl))
    · rw [hq] at hg hd
      generalize l[i]=v at hs hg
      generalize r[i]=w at hs2 hg
      obtain ⟨k,a,b,c,d,mn,mx,subs⟩:=v
      obtain ⟨k2,a2,b2,c2,d2,mn2,mx2,subs2⟩:=w
      repeat' (first|(apply r_mvV;rfl)|(apply r_mvS;rfl)|(apply k_E (v:=.d (.fn 112 []));rfl)|(apply r_mv (v:=.d (.fn 112 []));rfl)|(apply r_p;apply ix_sub;rfl;rfl;omega)|(apply r_l (v:=.agg [.i k,.d (.val (.int .u64 a)),.d (.val (.int .u64 b)),.d (.val (.int .u64 c)),.d (.val (.int .u64 d)),.i mn,.i mx,.d (.sl (encL subs) subs.length)]);exact ld_node hs rfl)|(apply r_l (v:=.agg [.i k2,.d (.val (.int .u64 a2)),.d (.val (.int .u64 b2)),.d (.val (.int .u64 c2)),.d (.val (.int .u64 d2)),.i mn2,.i mx2,.d (.sl (encL subs2) subs2.length)]);exact ld_node hs2 rfl)|(apply r_ldL (v:=.agg [.i k,.d (.val (.int .u64 a)),.d (.val (.int .u64 b)),.d (.val (.int .u64 c)),.d (.val (.int .u64 d)),.i mn,.i mx,.d (.sl (encL subs) subs.length)]);rfl;rfl;rfl)|(apply r_ldL (v:=.agg [.i k2,.d (.val (.int .u64 a2)),.d (.val (.int .u64 b2)),.d (.val (.int .u64 c2)),.d (.val (.int .u64 d2)),.i mn2,.i mx2,.d (.sl (encL subs2) subs2.length)]);rfl;rfl;rfl)|(apply r_callv (ags:=[.agg [.i k,.d (.val (.int .u64 a)),.d (.val (.int .u64 b)),.d (.val (.int .u64 c)),.d (.val (.int .u64 d)),.i mn,.i mx,.d (.sl (encL subs) subs.length)],.agg [.i k2,.d (.val (.int .u64 a2)),.d (.val (.int .u64 b2)),.d (.val (.int .u64 c2)),.d (.val (.int .u64 d2)),.i mn2,.i mx2,.d (.sl (encL subs2) subs2.length)]]);rfl;rfl;rfl;exact hg)|(apply r_lss;rfl;rfl;(first|(apply dT;omega)|(apply dF;omega)|rfl))|(apply r_not;rfl;rfl)|(apply r_alloc;((conv=>lhs;simp only [Nat.reduceAdd])<;>rfl);rfl)|(apply r_stL;rfl;rfl;rfl;rfl;(first|rfl|(simp only [z_nil,z_add]<;>rfl));rfl;rfl)|(apply r_nilK)|(apply k_V;rfl)|(apply k_PL;rfl)|(apply k_S;rfl)|(apply k_nil)|(apply e_ret (vs:=[.d (.val _)]);rfl)|(apply w_seq)|(apply w_ops;((conv=>lhs;simp only [Nat.reduceAdd])<;>rfl))|(apply w_condT;rfl)|(apply e_thenN)|(apply w_block)|(apply e_thenR)|(apply e_blkR)|(apply w_ret)|(apply w_skip))
      exact retB (by rw [hp,hd,Bool.false_and])
  · have e : sameL l r=true:=by rw [hp,List.drop_of_length_le hge,List.drop_of_length_le (by omega),sameL]
    repeat' (first|(apply r_mvV;rfl)|(apply k_E (v:=.d (.fn 112 []));rfl)|(apply r_lss;rfl;rfl;(first|(apply dT;omega)|(apply dF;omega)|rfl))|(apply r_nilK)|(apply k_V;rfl)|(apply k_S;rfl)|(apply k_nil)|(apply e_ret (vs:=[.d (.val _)]);rfl)|(apply w_seq)|(apply w_ops;((conv=>lhs;simp only [Nat.reduceAdd])<;>rfl))|(apply w_condF;rfl)|(apply e_thenN)|(apply e_thenX)|(apply e_blkE)|(apply w_exit)|(apply w_ret))
    exact retB e.symm
theorem same112_good : ∀ (n : Nat) (t u : T),t.cnt≤n→n≤100000000→Good Try.prog 112 [nodeA t,nodeA u] none (.b (sameT t u)) none none:=by
  intro n
  induction n with
  | zero=>intro t u ht;have:=cnt_pos t;omega
  | succ n ih =>
  intro t u ht hc
  obtain ⟨k,a,b,c,d,mn,mx,subs⟩:=t
  obtain ⟨k2,a2,b2,c2,d2,mn2,mx2,subs2⟩:=u
  have hlen : subs.length≤100000000:=by
    have:=cntL_len subs
    simp only [T.cnt] at ht
    omega
  have h146:=eq146_of subs subs2 hlen fun i h1 h2=>by
    refine ih _ _ ?_ (by omega)
    have:=cntL_get subs i h1
    simp only [T.cnt] at ht
    omega
  have e0 : nodeA (.node k a b c d mn mx subs)=.agg [.i k,.d (.val (.int .u64 a)),.d (.val (.int .u64 b)),.d (.val (.int .u64 c)),.d (.val (.int .u64 d)),.i mn,.i mx,.d (.sl (encL subs) subs.length)]:=rfl
  have e1 : nodeA (.node k2 a2 b2 c2 d2 mn2 mx2 subs2)=.agg [.i k2,.d (.val (.int .u64 a2)),.d (.val (.int .u64 b2)),.d (.val (.int .u64 c2)),.d (.val (.int .u64 d2)),.i mn2,.i mx2,.d (.sl (encL subs2) subs2.length)]:=rfl
  rw [e0,e1]
  clear ih ht
  by_cases hk : k=k2
  case neg =>
    refine b112 (by simp) (by simp) (w_init ?_)
    unfold x112
    repeat' (first|(apply r_mvV;rfl)|(apply r_faddL;rfl)|(apply r_ldL;rfl;rfl;rfl)|(apply r_eql;rfl;rfl;(first|(apply dT;omega)|(apply dF;omega)|rfl))|(apply r_pickF;rfl)|(apply r_gF';rfl;rfl)|(apply r_box;((conv=>lhs;simp only [Nat.reduceAdd])<;>rfl);rfl;rfl;rfl)|(apply r_nilK)|(apply k_V;rfl)|(apply k_PL;rfl)|(apply k_nil)|(apply e_ret (vs:=[.d (.val _)]);rfl)|(apply w_seq)|(apply w_ops;((conv=>lhs;simp only [Nat.reduceAdd])<;>rfl))|(apply e_thenN)|(apply w_ret))
    exact retB (by simp [sameT,hk])
  subst hk
  rcases Bool.eq_false_or_eq_true (a == a2 && (b == b2 && (c == c2 && d == d2))) with hw | hw
  case inr =>
    refine b112 (by simp) (by simp) (w_init ?_)
    unfold x112
    repeat' (first|(apply r_mvV;rfl)|(apply r_faddL;rfl)|(apply r_ldL (v:=.agg [.d (.val (.int .u64 a)),.d (.val (.int .u64 b)),.d (.val (.int .u64 c)),.d (.val (.int .u64 d))]);rfl;rfl;rfl)|(apply r_ldL (v:=.agg [.d (.val (.int .u64 a2)),.d (.val (.int .u64 b2)),.d (.val (.int .u64 c2)),.d (.val (.int .u64 d2))]);rfl;rfl;rfl)|(apply r_eqX (r:=false);rfl;rfl;(rw [if_neg (by simp),hw]))|(apply r_ldL;rfl;rfl;rfl)|(apply r_eql;rfl;rfl;(first|(apply dT;omega)|(apply dF;omega)|rfl))|(apply r_pickT;rfl)|(apply r_pickF;rfl)|(apply r_gT;rfl)|(apply r_gF';rfl;rfl)|(apply r_box;((conv=>lhs;simp only [Nat.reduceAdd])<;>rfl);rfl;rfl;rfl)|(apply r_nilK)|(apply k_V;rfl)|(apply k_PL;rfl)|(apply k_nil)|(apply e_ret (vs:=[.d (.val _)]);rfl)|(apply w_seq)|(apply w_ops;((conv=>lhs;simp only [Nat.reduceAdd])<;>rfl))|(apply e_thenN)|(apply w_ret))
    refine retB ?_
    simp only [Bool.and_eq_false_iff,beq_eq_false_iff_ne] at hw
    simp only [sameT]
    symm
    simp only [Bool.and_eq_false_iff,beq_eq_false_iff_ne]
    rcases hw with h | h | h | h
    · exact .inl (.inl (.inl (.inr (.inl (.inl (.inl h))))))
    · exact .inl (.inl (.inl (.inr (.inl (.inl (.inr h))))))
    · exact .inl (.inl (.inl (.inr (.inl (.inr h)))))
    · exact .inl (.inl (.inl (.inr (.inr h))))
  have hs : sameT (.node k a b c d mn mx subs) (.node k a2 b2 c2 d2 mn2 mx2 subs2)=(mn == mn2 && mx == mx2 && sameL subs subs2):=by
    simp only [Bool.and_eq_true,beq_iff_eq] at hw
    obtain ⟨h1,h2,h3,h4⟩:=hw
    simp [sameT,h1,h2,h3,h4]
  rw [hs]
  clear hs
  by_cases hm : mn=mn2
  case neg =>
    refine b112 (by simp) (by simp) (w_init ?_)
    unfold x112
    repeat' (first|(apply r_mvV;rfl)|(apply r_faddL;rfl)|(apply r_ldL (v:=.agg [.d (.val (.int .u64 a)),.d (.val (.int .u64 b)),.d (.val (.int .u64 c)),.d (.val (.int .u64 d))]);rfl;rfl;rfl)|(apply r_ldL (v:=.agg [.d (.val (.int .u64 a2)),.d (.val (.int .u64 b2)),.d (.val (.int .u64 c2)),.d (.val (.int .u64 d2))]);rfl;rfl;rfl)|(apply r_eqX (r:=true);rfl;rfl;(rw [if_neg (by simp),hw]))|(apply r_ldL;rfl;rfl;rfl)|(apply r_eql;rfl;rfl;(first|(apply dT;omega)|(apply dF;omega)|rfl))|(apply r_pickT;rfl)|(apply r_pickF;rfl)|(apply r_gT;rfl)|(apply r_gF';rfl;rfl)|(apply r_box;((conv=>lhs;simp only [Nat.reduceAdd])<;>rfl);rfl;rfl;rfl)|(apply r_nilK)|(apply k_V;rfl)|(apply k_PL;rfl)|(apply k_nil)|(apply e_ret (vs:=[.d (.val _)]);rfl)|(apply w_seq)|(apply w_ops;((conv=>lhs;simp only [Nat.reduceAdd])<;>rfl))|(apply e_thenN)|(apply w_ret))
    exact retB (by simp [hm])
  by_cases hx : mx=mx2
  case neg =>
    refine b112 (by simp) (by simp) (w_init ?_)
    unfold x112
    repeat' (first|(apply r_mvV;rfl)|(apply r_faddL;rfl)|(apply r_ldL (v:=.agg [.d (.val (.int .u64 a)),.d (.val (.int .u64 b)),.d (.val (.int .u64 c)),.d (.val (.int .u64 d))]);rfl;rfl;rfl)|(apply r_ldL (v:=.agg [.d (.val (.int .u64 a2)),.d (.val (.int .u64 b2)),.d (.val (.int .u64 c2)),.d (.val (.int .u64 d2))]);rfl;rfl;rfl)|(apply r_eqX (r:=true);rfl;rfl;(rw [if_neg (by simp),hw]))|(apply r_ldL;rfl;rfl;rfl)|(apply r_eql;rfl;rfl;(first|(apply dT;omega)|(apply dF;omega)|rfl))|(apply r_pickT;rfl)|(apply r_pickF;rfl)|(apply r_gT;rfl)|(apply r_gF';rfl;rfl)|(apply r_box;((conv=>lhs;simp only [Nat.reduceAdd])<;>rfl);rfl;rfl;rfl)|(apply r_nilK)|(apply k_V;rfl)|(apply k_PL;rfl)|(apply k_nil)|(apply e_ret (vs:=[.d (.val _)]);rfl)|(apply w_seq)|(apply w_ops;((conv=>lhs;simp only [Nat.reduceAdd])<;>rfl))|(apply e_thenN)|(apply w_ret))
    exact retB (by simp [hx])
  subst hm hx
  rw [show (mn == mn && mx == mx && sameL subs subs2)=sameL subs subs2 by simp]
  generalize sameL subs subs2=q at h146
  refine b112 (by simp) (by simp) (w_init ?_)
  unfold x112
  repeat' (first|(apply r_mvV;rfl)|(apply r_faddL;rfl)|(apply r_ldL (v:=.agg [.d (.val (.int .u64 a)),.d (.val (.int .u64 b)),.d (.val (.int .u64 c)),.d (.val (.int .u64 d))]);rfl;rfl;rfl)|(apply r_ldL (v:=.agg [.d (.val (.int .u64 a2)),.d (.val (.int .u64 b2)),.d (.val (.int .u64 c2)),.d (.val (.int .u64 d2))]);rfl;rfl;rfl)|(apply r_eqX (r:=true);rfl;rfl;(rw [if_neg (by simp),hw]))|(apply r_callA (ags:=[.d (.sl (encL subs) subs.length),.d (.sl (encL subs2) subs2.length),.d (.fn 112 [])]);rfl;rfl;exact h146)|(apply r_ldL;rfl;rfl;rfl)|(apply r_eql;rfl;rfl;(first|(apply dT;omega)|(apply dF;omega)|rfl))|(apply r_pickT;rfl)|(apply r_gT;rfl)|(apply r_box;((conv=>lhs;simp only [Nat.reduceAdd])<;>rfl);rfl;rfl;rfl)|(apply r_nilK)|(apply k_V;rfl)|(apply k_PL;rfl)|(apply k_nil)|(apply e_ret (vs:=[.d (.val _)]);rfl)|(apply w_seq)|(apply w_ops;((conv=>lhs;simp only [Nat.reduceAdd])<;>rfl))|(apply e_thenN)|(apply w_ret))
  exact retB rfl
theorem clo111_good (o v : T) (h : o.cnt≤100000000) : Good Try.prog 111 [nodeA o,.d (.ptr (encN v) 0)] none (.b (sameT o v)) none none:=by
  have h112:=same112_good 100000000 o v h (Nat.le_refl _)
  obtain ⟨k,a,b,c,d,mn,mx,subs⟩:=o
  obtain ⟨k2,a2,b2,c2,d2,mn2,mx2,subs2⟩:=v
  have e0 : nodeA (.node k a b c d mn mx subs)=.agg [.i k,.d (.val (.int .u64 a)),.d (.val (.int .u64 b)),.d (.val (.int .u64 c)),.d (.val (.int .u64 d)),.i mn,.i mx,.d (.sl (encL subs) subs.length)]:=rfl
  have e1 : nodeA (.node k2 a2 b2 c2 d2 mn2 mx2 subs2)=.agg [.i k2,.d (.val (.int .u64 a2)),.d (.val (.int .u64 b2)),.d (.val (.int .u64 c2)),.d (.val (.int .u64 d2)),.i mn2,.i mx2,.d (.sl (encL subs2) subs2.length)]:=rfl
  rw [e0,e1] at h112
  rw [e0]
  refine b111 (by simp) (by simp) (w_init ?_)
  unfold x111
  repeat' (first|(apply r_mvV;rfl)|(apply r_ldL (v:=.agg [.i k,.d (.val (.int .u64 a)),.d (.val (.int .u64 b)),.d (.val (.int .u64 c)),.d (.val (.int .u64 d)),.i mn,.i mx,.d (.sl (encL subs) subs.length)]);rfl;rfl;rfl)|(apply r_l (v:=.agg [.i k2,.d (.val (.int .u64 a2)),.d (.val (.int .u64 b2)),.d (.val (.int .u64 c2)),.d (.val (.int .u64 d2)),.i mn2,.i mx2,.d (.sl (encL subs2) subs2.length)]);rfl)|(apply r_callA (ags:=[.agg [.i k,.d (.val (.int .u64 a)),.d (.val (.int .u64 b)),.d (.val (.int .u64 c)),.d (.val (.int .u64 d)),.i mn,.i mx,.d (.sl (encL subs) subs.length)],.agg [.i k2,.d (.val (.int .u64 a2)),.d (.val (.int .u64 b2)),.d (.val (.int .u64 c2)),.d (.val (.int .u64 d2)),.i mn2,.i mx2,.d (.sl (encL subs2) subs2.length)]]);rfl;rfl;exact h112)|(apply r_box;((conv=>lhs;simp only [Nat.reduceAdd])<;>rfl);rfl;rfl;rfl)|(apply r_nilK)|(apply k_V;rfl)|(apply k_P;rfl)|(apply k_PL;rfl)|(apply k_nil)|(apply e_ret (vs:=[.d (.val _)]);rfl)|(apply w_seq)|(apply w_ops;((conv=>lhs;simp only [Nat.reduceAdd])<;>rfl))|(apply e_thenN)|(apply w_ret))
  exact retB rfl
end Go.Sv
namespace Go.Sv
open Go Go.Proofs
def x107 : XC:=(.seq (.ops 1 [ (0,⟨some 4,none,.mv (.k (.d (.val (.slice none 0 0))))⟩)] (some [0,1])) (.seq (.ops 4 [ (0,⟨some 8,none,.mv (.t 0)⟩),(1,⟨some 9,none,.mv (.t 1)⟩),(2,⟨some 10,none,.call 145 [(.t 8),(.t 9)] none false⟩),(3,⟨some 5,none,.mv (.t 10)⟩)] (some [0,1,5])) (.seq (.seq (.ops 2 [ (0,⟨some 11,none,.mv (.t 5)⟩),(1,⟨some 12,none,.arith .eql (.t 11) (.k (.d (.val (.int .i64 (-1)))))⟩)] (some [0,1,5,12])) (.cond (.t 12) (.seq (.ops 2 [ (0,⟨some 13,none,.mv (.t 0)⟩),(1,⟨some 4,none,.mv (.t 13)⟩)] (some [4])) .ret) .skip)) (.seq (.seq (.ops 3 [ (0,⟨some 14,none,.mv (.t 5)⟩),(1,⟨some 15,none,.arith .add (.t 14) (.k (.d (.val (.int .i64 1))))⟩),(2,⟨some 6,none,.mv (.t 15)⟩)] (some [0,1,5,6])) (.block 0 (.loop (.seq (.seq (.ops 4 [ (0,⟨some 16,none,.mv (.t 6)⟩),(1,⟨some 17,none,.mv (.t 0)⟩),(2,⟨some 18,none,.lenS (.t 17)⟩),(3,⟨some 19,none,.arith .lss (.t 16) (.t 18)⟩)] (some [0,1,5,6,19])) (.cond (.t 19) .skip (.exit 0))) (.seq (.block 1 (.seq (.ops 6 [ (0,⟨some 22,none,.mv (.t 0)⟩),(1,⟨some 23,none,.mv (.t 6)⟩),(2,⟨some 24,none,.idxS 8 (.t 22) (.t 23)⟩),(3,⟨some 25,none,.load (some 8) (.t 24)⟩),(4,⟨some 7,none,.alloc [(.int .i64 0),(.int .u64 0),(.int .u64 0),(.int .u64 0),(.int .u64 0),(.int .i64 0),(.int .i64 0),(.slice none 0 0)]⟩),(5,⟨none,none,.store 8 (.t 7) (.t 25)⟩)] (some [0,1,5,6,7])) (.seq (.ops 4 [ (0,⟨some 26,none,.mv (.t 1)⟩),(1,⟨some 27,none,.load (some 8) (.t 7)⟩),(2,⟨some 28,none,.callv (.t 26) [(.t 27)]⟩),(3,⟨some 29,none,.un .not (.t 28)⟩)] (some [0,1,5,6,7,29])) (.cond (.t 29) (.seq (.ops 5 [ (0,⟨some 30,none,.mv (.t 0)⟩),(1,⟨some 31,none,.mv (.t 5)⟩),(2,⟨some 32,none,.load (some 8) (.t 7)⟩),(3,⟨some 33,none,.idxS 8 (.t 30) (.t 31)⟩),(4,⟨none,none,.store 8 (.t 33) (.t 32)⟩)] (some [0,1,5,6])) (.ops 3 [ (0,⟨some 34,none,.mv (.t 5)⟩),(1,⟨some 35,none,.arith .add (.t 34) (.k (.d (.val (.int .i64 1))))⟩),(2,⟨some 5,none,.mv (.t 35)⟩)] (some [0,1,5,6]))) .skip)))) (.ops 3 [ (0,⟨some 20,none,.mv (.t 6)⟩),(1,⟨some 21,none,.arith .add (.t 20) (.k (.d (.val (.int .i64 1))))⟩),(2,⟨some 6,none,.mv (.t 21)⟩)] (some [0,1,5,6]))))))) (.seq (.ops 4 [ (0,⟨some 36,none,.mv (.t 0)⟩),(1,⟨some 37,none,.mv (.t 5)⟩),(2,⟨some 38,none,.slS 8 (.t 36) (some (.t 37)) none⟩),(3,⟨none,none,.clr [(.int .i64 0),(.int .u64 0),(.int .u64 0),(.int .u64 0),(.int .u64 0),(.int .i64 0),(.int .i64 0),(.slice none 0 0)] (.t 38)⟩)] (some [0,5])) (.seq (.ops 4 [ (0,⟨some 39,none,.mv (.t 0)⟩),(1,⟨some 40,none,.mv (.t 5)⟩),(2,⟨some 41,none,.slS 8 (.t 39) none (some (.t 40))⟩),(3,⟨some 4,none,.mv (.t 41)⟩)] (some [4])) .ret))))))
def md107 : FuncId→Option Nat × Bool
  | _=>(none,false)
def od107 : Nat→List (List Nat) × List Nat × Option (List Nat)
  | 0=>([],[],some [0,1])
  | 1=>([],[],some [0,1,5])
  | 2=>([],[],some [0,1,5,12])
  | 3=>([],[],some [4])
  | 4=>([],[],some [0,1,5,6])
  | 5=>([],[],some [0,1,5,6,19])
  | 6=>([],[],some [0,1,5,6])
  | 7=>([],[],some [0,1,5,6,7])
  | 8=>([],[],some [0,1,5,6,7,29])
  | 9=>([],[],some [0,1,5,6])
  | 10=>([],[],some [0,1,5,6])
  | 11=>([],[],some [0,5])
  | 12=>([],[],some [4])
  | _=>([],[],none)
theorem b107 {ags : List AV} {row : Option (List DV)} {r : AV} {row' nw : Option (List DV)} (hal : ags.length≤42) (hrow : row'.isSome=true→row.isSome=true) (h : xwp Try.prog x107 (retK [.tmp 4] row.isSome r row' nw) (St.init ags row)) : Good Try.prog 107 ags row r row' nw :=
  good_of_body' (md:=md107) (od:=od107) Try.f107 (by kernel_rfl) (by kernel_rfl) (by kernel_rfl) (by kernel_rfl) (by kernel_rfl) hal hrow h

def zDV : List DV:=[.val (.int .i64 0),.val (.int .u64 0),.val (.int .u64 0),.val (.int .u64 0),.val (.int .u64 0),.val (.int .i64 0),.val (.int .i64 0),.val (.slice none 0 0)]
def zerosD : Nat→List DV
  | 0=>[]
  | n + 1=>zDV++zerosD n
theorem repl_zeros : ∀ n,repl (zeroA zsN) n=(zerosD n).map AV.d
  | 0=>rfl
  | n + 1=>by rw [repl,repl_zeros n,zerosD,List.map_append];rfl
theorem zerosD_len : ∀ n,(zerosD n).length=n * 8
  | 0=>rfl
  | n + 1=>by rw [zerosD,List.length_append,zerosD_len n,show zDV.length=8 from rfl];omega
section
variable {P : Program} {Q : Cont} {fr : Fr} {C : Heap} {Z : Frz} {nx : Nat} {base n d : Nat} {l : List (Nat × XO)} {kp : Option (List Nat)} {x i y s : X} {j : Nat}
theorem r_stN {a : X} {b : Nat} {t : T} {K : List T} (ha : a.ev fr=.ptrL b (j * 8)) (hx : x.ev fr=nodeA t) (hC : C b=some ((encL K).map AV.d)) (hz : Z b=false) (hj : j < K.length) (k : R P l base kp Q nx fr (C.put b ((encL (K.set j t)).map AV.d)) Z) : R P ((n,⟨none,none,.store 8 a x⟩) :: l) base kp Q nx fr C Z:=by
  refine r_stL (cs:=(encN t).map AV.d) ha hC hx rfl hz ?_ ?_ k
  · have h1 : (((encN t).map AV.d).length == 8)=true:=by rw [List.length_map,encN_len];rfl
    have h2 : Nat.ble (j * 8 + 8) ((encL K).map AV.d).length=true:=by
      rw [List.length_map,encL_length]
      exact Eq.mpr Nat.ble_eq (by omega)
    have h3 : ((encN t).map AV.d).all AV.one=true:=by cases t;rfl
    rw [h1,h2,h3];rfl
  · rw [encL_set K j t hj]
    simp [splice,List.map_take,List.map_drop]
theorem encL_take : ∀ (K : List T) (j : Nat),(encL K).take (j * 8)=encL (K.take j)
  | [],j=>by simp [encL]
  | t :: K,0=>by simp [encL]
  | t :: K,j + 1=>by
    rw [List.take_succ_cons,encL,encL,List.take_append,encN_len,List.take_of_length_le (l:=encN t) (by rw [encN_len];omega),show (j + 1) * 8 - 8=j * 8 by omega,encL_take K j]
theorem r_clrN {b m : Nat} {K : List T} (hx : x.ev fr=.slL b (j * 8) m 8) (hC : C b=some ((encL K).map AV.d)) (hz : Z b=false) (hj : j + m=K.length) (k : R P l base kp Q nx fr (C.put b ((encL (K.take j)++zerosD m).map AV.d)) Z) : R P ((n,⟨none,none,.clr [.int .i64 0,.int .u64 0,.int .u64 0,.int .u64 0,.int .u64 0,.int .i64 0,.int .i64 0,.slice none 0 0] x⟩) :: l) base kp Q nx fr C Z:=by
  refine r_w (v:=.tup []) (C':=C.put b ((encL (K.take j)++zerosD m).map AV.d)) ?_ k
  have hl : ((encL K).map AV.d).length=K.length * 8:=by rw [List.length_map,encL_length]
  have h1 : (8=([.int .i64 0,.int .u64 0,.int .u64 0,.int .u64 0,.int .u64 0,.int .i64 0,.int .i64 0,.slice none 0 0] : List Value).length∧Z b=false∧j * 8 + m * 8≤((encL K).map AV.d).length∧([.int .i64 0,.int .u64 0,.int .u64 0,.int .u64 0,.int .u64 0,.int .i64 0,.int .i64 0,.slice none 0 0] : List Value).all (·.oneCell')=true):=⟨rfl,hz,by omega,rfl⟩
  simp only [xw,hx,hC,Option.bind_some]
  rw [if_pos h1]
  congr 3
  have hr : repl (zeroA [.int .i64 0,.int .u64 0,.int .u64 0,.int .u64 0,.int .u64 0,.int .i64 0,.int .i64 0,.slice none 0 0]) m=(zerosD m).map AV.d:=repl_zeros m
  rw [hr,splice,List.drop_of_length_le (by rw [hl,List.length_map,zerosD_len];omega),List.append_nil,← List.map_take,encL_take,List.map_append]
theorem r_slLo {b m : Nat} {e : Int} (hx : x.ev fr=.slL b 0 m 8) (hi : i.ev fr=.i e) (he : e=(j : Nat)) (hj : j < m) (k : R P l base kp Q nx (fr.put d (.slL b (j * 8) (m - j) 8)) C Z) : R P ((n,⟨some d,none,.slS 8 x (some i) none⟩) :: l) base kp Q nx fr C Z:=by
  subst he
  refine r_p ?_ k
  have h1 : (0 : Int)≤(j : Int)∧(j : Int)≤(m : Int):=by omega
  simp only [xp,hx,if_true,hiOf,loOf,Option.bind_some,hi,intUpto,h1,and_self,Option.map_some,Int.toNat_natCast,Nat.zero_add]
  by_cases h0 : j=0
  · subst h0;simp
  · rw [if_neg h0,if_neg (by omega)]
theorem r_slHi {b m : Nat} {e : Int} (hx : x.ev fr=.slL b 0 m 8) (hi : i.ev fr=.i e) (he : e=(j : Nat)) (hj : j≤m) (k : R P l base kp Q nx (fr.put d (.slL b 0 j 8)) C Z) : R P ((n,⟨some d,none,.slS 8 x none (some i)⟩) :: l) base kp Q nx fr C Z:=by
  subst he
  refine r_p ?_ k
  have h1 : (0 : Int)≤(j : Int)∧(j : Int)≤(m : Int):=by omega
  simp only [xp,hx,if_true,hiOf,loOf,Option.bind_some,hi,intUpto,h1,and_self,Option.map_some,Int.toNat_natCast]
end
set_option maxRecDepth 100000
set_option maxHeartbeats 4000000
attribute [local irreducible] W E R KP thenK blockK retK Good xwp aRun
theorem filter_any {p : T→Bool} {l : List T} (h : l.any p=false) : l.filter (fun t=>!p t)=l:=by
  rw [List.filter_eq_self]
  intro t ht
  rw [List.any_eq_false] at h
  have:=h t ht
  simpa using this
theorem del107_good {f : FuncId} {caps : List DV} {p : T→Bool} {l : List T} (hp : PredOK f caps p l) (hl : l.length≤100000000) :
    Good Try.prog 107 [.slL 0 0 l.length 8,.d (.fn f caps)] (some (encL l)) (.slL 0 0 (l.filter fun t=>!p t).length 8) (some (encL (l.filter fun t=>!p t)++zerosD (l.length - (l.filter fun t=>!p t).length))) none:=by
  have h145:=idx145_good hp hl
  rcases firstP_spec p l 0 with ⟨h1,h2⟩ | ⟨j0,h1,h2,h3,h4⟩
  · rw [h1] at h145
    rw [filter_any h2,Nat.sub_self,zerosD,List.append_nil]
    refine b107 (by simp) (by simp) (w_init ?_)
    unfold x107
    repeat' (first|(apply r_mvV;rfl)|(apply r_mvSL;rfl)|(apply k_E (v:=.d (.fn f caps));rfl)|(apply r_mv (v:=.d (.fn f caps));rfl)|(apply r_callS2 (pre:=[]) (pre':=[]) (post:=[.d (.fn f caps)]) (post':=[.d (.fn f caps)]) (b:=0) (L:=l) (us:=[]);rfl;rfl;rfl;rfl;rfl;exact h145;rfl)|(apply r_eql;rfl;rfl;(first|(apply dT;omega)|(apply dF;omega)|rfl))|(apply r_nilK)|(apply k_V;rfl)|(apply k_SL;rfl)|(apply k_nil)|(apply e_ret;rfl)|(apply w_seq)|(apply w_ops;((conv=>lhs;simp only [Nat.reduceAdd])<;>rfl))|(apply w_condT;rfl)|(apply e_thenN)|(apply e_thenR)|(apply w_ret))
    exact .own 0 _ _ _ rfl rfl rfl rfl
  · rw [h1,Nat.zero_add] at h145
    refine b107 (by simp) (by simp) (w_init ?_)
    unfold x107
    repeat' (first|(apply r_mvV;rfl)|(apply r_mvSL;rfl)|(apply k_E (v:=.d (.fn f caps));rfl)|(apply r_mv (v:=.d (.fn f caps));rfl)|(apply r_callS2 (pre:=[]) (pre':=[]) (post:=[.d (.fn f caps)]) (post':=[.d (.fn f caps)]) (b:=0) (L:=l) (us:=[]);rfl;rfl;rfl;rfl;rfl;exact h145;rfl)|(apply r_eql;rfl;rfl;(first|(apply dT;omega)|(apply dF;omega)|rfl))|(apply r_add;rfl;rfl;rfl;omega)|(apply r_nilK)|(apply k_V;rfl)|(apply k_SL;rfl)|(apply k_nil)|(apply w_seq)|(apply w_ops;((conv=>lhs;simp only [Nat.reduceAdd])<;>rfl))|(apply w_condF;rfl)|(apply e_thenN)|(apply w_block)|(apply w_skip))
    apply w_loopI (ι:=Nat × Nat × List T) (S:=fun q=>⟨(((Fr.nil.put 0 (.slL 0 0 l.length 8)).put 1 (.d (.fn f caps))).put 5 (.i q.1)).put 6 (.i q.2.1),rowsOf [(0,(encL q.2.2).map AV.d)],Frz.buts 100 [0],100⟩) (m:=fun q=>l.length - q.2.1)
      (I:=fun q=>q.1 < q.2.1∧q.2.1≤l.length∧q.2.2.length=l.length∧q.2.2.take q.1=(l.take q.2.1).filter (fun t=>!p t)∧∀ x,q.2.1≤x→q.2.2[x]?=l[x]?) (i0:=(j0,j0 + 1,l))
    · refine ⟨by dsimp only;omega,by dsimp only;omega,rfl,?_,fun x _=>rfl⟩
      dsimp only
      rw [filter_take _ l j0 h2,if_neg (by simp [h4 h2]),List.append_nil,filter_any h3]
    · refine wkM [] [] rfl ?_ ?_ rfl ?_
      · intro p hp
        simp only [List.mem_cons,List.not_mem_nil,or_false] at hp
        rcases hp with rfl
        exact ⟨by omega,.inr ⟨rfl,_,rfl,.data (isD_encL _)⟩⟩
      · intro q hq;simp only [List.mem_cons,List.not_mem_nil,or_false] at hq;rcases hq with rfl<;>rfl
      · dsimp only
        repeat' (first|exact FWk.nil|(apply FWk.i;rfl;(first|rfl|omega|(simp;done)))|(apply FWk.sl;rfl;rfl;rfl;rfl;omega;rfl)|(apply FWk.d;rfl;rfl))
    rintro ⟨i,j,D⟩ K ⟨q1,q2,q3,q4,q5⟩ hK
    dsimp only at q1 q2 q3 q4 q5 hK ⊢
    rcases Nat.lt_or_ge j l.length with hlt | hge
    · have hltD : j < D.length:=by omega
      have hDj : D[j]=l[j]:=by
        have:=q5 j (Nat.le_refl _)
        rw [List.getElem?_eq_getElem hltD,List.getElem?_eq_getElem hlt] at this
        exact Option.some.inj this
      have hs:=NodeAt.sub hltD
      rw [hDj] at hs
      have hg:=hp.2 j hlt
      have hft : (l.take (j + 1)).filter (fun t=>!p t)=(l.take j).filter (fun t=>!p t)++(if (!p l[j])=true then [l[j]] else []):=filter_take (fun t=>!p t) l j hlt
      have hna : ([nodeA l[j]]++caps.map AV.d).all AV.nrm=true:=by rw [List.singleton_append,List.all_cons,nodeA_nrm,hp.1];rfl
      have hDx : ∀ x,j + 1≤x→D[x]?=l[x]?:=fun x hx=>q5 x (by omega)
      generalize hpv : p l[j]=b at hg hft
      generalize l[j]=v at hs hg hna hft
      obtain ⟨k2,a2,b2,c2,d2,mn2,mx2,subs2⟩:=v
      have e1 : nodeA (.node k2 a2 b2 c2 d2 mn2 mx2 subs2)=.agg [.i k2,.d (.val (.int .u64 a2)),.d (.val (.int .u64 b2)),.d (.val (.int .u64 c2)),.d (.val (.int .u64 d2)),.i mn2,.i mx2,.d (.sl (encL subs2) subs2.length)]:=rfl
      rw [e1] at hg hna
      cases b
      · simp only [Bool.not_false,if_true] at hft
        have hset : (D.set i (.node k2 a2 b2 c2 d2 mn2 mx2 subs2)).take (i + 1)=D.take i++[.node k2 a2 b2 c2 d2 mn2 mx2 subs2]:=by
          rw [List.take_succ_eq_append_getElem (by rw [List.length_set];omega),List.getElem_set_self,List.take_set_of_le (Nat.le_refl _)]
        repeat' (first|(apply r_mvV;rfl)|(apply r_mvSL;rfl)|(apply k_E (v:=.d (.fn f caps));rfl)|(apply r_mv (v:=.d (.fn f caps));rfl)|(apply r_ixN (j:=j);rfl;rfl;rfl;omega)|(apply r_ldN;rfl;rfl;exact hs)|(apply r_ldL (v:=.agg [.i k2,.d (.val (.int .u64 a2)),.d (.val (.int .u64 b2)),.d (.val (.int .u64 c2)),.d (.val (.int .u64 d2)),.i mn2,.i mx2,.d (.sl (encL subs2) subs2.length)]);rfl;rfl;rfl)|(apply r_callvC (ags:=[.agg [.i k2,.d (.val (.int .u64 a2)),.d (.val (.int .u64 b2)),.d (.val (.int .u64 c2)),.d (.val (.int .u64 d2)),.i mn2,.i mx2,.d (.sl (encL subs2) subs2.length)]]) (caps:=caps);rfl;rfl;exact hna;exact hg)|(apply r_ixN (j:=i);rfl;rfl;rfl;omega)|(apply r_stN (j:=i) (t:=.node k2 a2 b2 c2 d2 mn2 mx2 subs2) (K:=D);rfl;rfl;rfl;rfl;omega)|(apply r_lss;rfl;rfl;(first|(apply dT;omega)|(apply dF;omega)|rfl))|(apply r_add;rfl;rfl;rfl;omega)|(apply r_not;rfl;rfl)|(apply r_lenL;rfl)|(apply r_alloc;((conv=>lhs;simp only [Nat.reduceAdd])<;>rfl);rfl)|(apply r_stL;rfl;rfl;rfl;rfl;(first|rfl|(simp only [z_nil,z_add]<;>rfl));rfl;rfl)|(apply r_nilK)|(apply k_V;rfl)|(apply k_PL;rfl)|(apply k_SL;rfl)|(apply k_nil)|(apply w_seq)|(apply w_ops;((conv=>lhs;simp only [Nat.reduceAdd])<;>rfl))|(apply w_condT;rfl)|(apply e_thenN)|(apply w_block)|(apply e_blkN)|(apply w_skip))
        apply e_thenK
        apply hK (i + 1,j + 1,D.set i (.node k2 a2 b2 c2 d2 mn2 mx2 subs2))
        · refine ⟨by dsimp only;omega,by dsimp only;omega,by dsimp only;rw [List.length_set];exact q3,?_,fun x hx=>?_⟩
          · dsimp only
            rw [hft,← q4,hset]
          · dsimp only at hx ⊢
            rw [List.getElem?_set_ne (by omega)]
            exact hDx x hx
        · dsimp only;omega
        · refine wkM [] [] rfl ?_ ?_ rfl ?_
          · intro p hp
            simp only [List.mem_cons,List.not_mem_nil,or_false] at hp
            rcases hp with rfl
            exact ⟨by omega,.inr ⟨rfl,_,rfl,.data (isD_encL _)⟩⟩
          · intro q hq;simp only [List.mem_cons,List.not_mem_nil,or_false] at hq;rcases hq with rfl<;>rfl
          · dsimp only
            repeat' (first|exact FWk.nil|(apply FWk.i;rfl;(first|rfl|omega|(simp;done)))|(apply FWk.sl;rfl;rfl;rfl;rfl;omega;rfl)|(apply FWk.d;rfl;rfl))
      · simp only [Bool.not_true,Bool.false_eq_true,if_false,List.append_nil] at hft
        repeat' (first|(apply r_mvV;rfl)|(apply r_mvSL;rfl)|(apply k_E (v:=.d (.fn f caps));rfl)|(apply r_mv (v:=.d (.fn f caps));rfl)|(apply r_ixN (j:=j);rfl;rfl;rfl;omega)|(apply r_ldN;rfl;rfl;exact hs)|(apply r_ldL (v:=.agg [.i k2,.d (.val (.int .u64 a2)),.d (.val (.int .u64 b2)),.d (.val (.int .u64 c2)),.d (.val (.int .u64 d2)),.i mn2,.i mx2,.d (.sl (encL subs2) subs2.length)]);rfl;rfl;rfl)|(apply r_callvC (ags:=[.agg [.i k2,.d (.val (.int .u64 a2)),.d (.val (.int .u64 b2)),.d (.val (.int .u64 c2)),.d (.val (.int .u64 d2)),.i mn2,.i mx2,.d (.sl (encL subs2) subs2.length)]]) (caps:=caps);rfl;rfl;exact hna;exact hg)|(apply r_lss;rfl;rfl;(first|(apply dT;omega)|(apply dF;omega)|rfl))|(apply r_add;rfl;rfl;rfl;omega)|(apply r_not;rfl;rfl)|(apply r_lenL;rfl)|(apply r_alloc;((conv=>lhs;simp only [Nat.reduceAdd])<;>rfl);rfl)|(apply r_stL;rfl;rfl;rfl;rfl;(first|rfl|(simp only [z_nil,z_add]<;>rfl));rfl;rfl)|(apply r_nilK)|(apply k_V;rfl)|(apply k_PL;rfl)|(apply k_SL;rfl)|(apply k_nil)|(apply w_seq)|(apply w_ops;((conv=>lhs;simp only [Nat.reduceAdd])<;>rfl))|(apply w_condT;rfl)|(apply w_condF;rfl)|(apply e_thenN)|(apply w_block)|(apply e_blkN)|(apply w_skip))
        apply e_thenK
        apply hK (i,j + 1,D)
        · exact ⟨by dsimp only;omega,by dsimp only;omega,q3,by dsimp only;rw [hft,q4],hDx⟩
        · dsimp only;omega
        · refine wkM [] [] rfl ?_ ?_ rfl ?_
          · intro p hp
            simp only [List.mem_cons,List.not_mem_nil,or_false] at hp
            rcases hp with rfl
            exact ⟨by omega,.inr ⟨rfl,_,rfl,.data (isD_encL _)⟩⟩
          · intro q hq;simp only [List.mem_cons,List.not_mem_nil,or_false] at hq;rcases hq with rfl<;>rfl
          · dsimp only
            repeat' (first|exact FWk.nil|(apply FWk.i;rfl;(first|rfl|omega|(simp;done)))|(apply FWk.sl;rfl;rfl;rfl;rfl;omega;rfl)|(apply FWk.d;rfl;rfl))
    · have ej : j=l.length:=by omega
      subst ej
      rw [List.take_length] at q4
      rw [← q4]
      have hil : (D.take i).length=i:=by rw [List.length_take];omega
      rw [hil]
      repeat' (first|(apply r_mvV;rfl)|(apply r_mvSL;rfl)|(apply k_E (v:=.d (.fn f caps));rfl)|(apply r_slLo (j:=i);rfl;rfl;rfl;omega)|(apply r_clrN (j:=i) (K:=D);rfl;rfl;rfl;omega)|(apply r_slHi (j:=i);rfl;rfl;rfl;omega)|(apply r_lss;rfl;rfl;(first|(apply dT;omega)|(apply dF;omega)|rfl))|(apply r_lenL;rfl)|(apply r_nilK)|(apply k_V;rfl)|(apply k_SL;rfl)|(apply k_nil)|(apply e_ret;rfl)|(apply w_seq)|(apply w_ops;((conv=>lhs;simp only [Nat.reduceAdd])<;>rfl))|(apply w_condF;rfl)|(apply e_thenN)|(apply e_thenX)|(apply e_blkE)|(apply w_exit)|(apply w_ret))
      exact .own 0 _ _ _ rfl rfl rfl rfl
end Go.Sv
namespace Go.Sv
open Go Go.Proofs
def x53 : XC:=(.seq (.ops 1 [ (0,⟨some 2,none,.alloc [(.int .i64 0),(.int .u64 0),(.int .u64 0),(.int .u64 0),(.int .u64 0),(.int .i64 0),(.int .i64 0),(.slice none 0 0)]⟩)] (some [0,2])) (.seq (.ops 3 [ (0,⟨some 3,none,.mv (.t 0)⟩),(1,⟨some 4,none,.call 103 [(.k (.d (.val (.int .i64 3)))),(.t 3)] none true⟩),(2,⟨some 0,none,.mv (.t 4)⟩)] (some [0,2])) (.seq (.seq (.ops 2 [ (0,⟨some 5,none,.mv (.t 0)⟩),(1,⟨some 6,none,.call 104 [(.t 5),(.k (.d (.fn 105 [])))] none false⟩)] (some [0,2,6])) (.cond (.t 6) (.seq (.ops 2 [ (0,⟨some 7,none,.call 106 [] none false⟩),(1,⟨none,none,.store 8 (.t 2) (.t 7)⟩)] (some [2])) .ret) .skip)) (.seq (.ops 3 [ (0,⟨some 8,none,.mv (.t 0)⟩),(1,⟨some 9,none,.call 107 [(.t 8),(.k (.d (.fn 108 [])))] (some 0) false⟩),(2,⟨some 0,none,.mv (.t 9)⟩)] (some [0,2])) (.seq (.ops 4 [ (0,⟨some 10,none,.mv (.t 0)⟩),(1,⟨some 11,none,.call 110 [] none false⟩),(2,⟨some 12,none,.call 109 [(.k (.d (.val (.int .i64 3)))),(.t 10),(.t 11)] none false⟩),(3,⟨none,none,.store 8 (.t 2) (.t 12)⟩)] (some [2])) .ret)))))
def md53 : FuncId→Option Nat × Bool
  | 103=>(none,true)
  | 107=>(some 0,false)
  | _=>(none,false)
def od53 : Nat→List (List Nat) × List Nat × Option (List Nat)
  | 0=>([],[],some [0,2])
  | 1=>([],[],some [0,2])
  | 2=>([],[],some [0,2,6])
  | 3=>([],[],some [2])
  | 4=>([],[],some [0,2])
  | 5=>([],[],some [2])
  | _=>([],[],none)
theorem b53 {ags : List AV} {row : Option (List DV)} {r : AV} {row' nw : Option (List DV)} (hal : ags.length≤13) (hrow : row'.isSome=true→row.isSome=true) (h : xwp Try.prog x53 (retK [.cell 2 (some 8)] row.isSome r row' nw) (St.init ags row)) : Good Try.prog 53 ags row r row' nw :=
  good_of_body' (md:=md53) (od:=od53) Try.f53 (by kernel_rfl) (by kernel_rfl) (by kernel_rfl) (by kernel_rfl) (by kernel_rfl) hal hrow h

section
variable {P : Program} {Q : Cont} {fr : Fr} {C : Heap} {Z : Frz} {nx : Nat} {base n d : Nat} {l : List (Nat × XO)} {kp : Option (List Nat)} {x i y s : X} {j : Nat}
theorem conv_rowT {ex : Nat→Bool} {id m : Nat} {L : List T} {M : List DV} (hC : C id=some ((encL L++M).map AV.d)) (hm : L.length=m) (hex : ex id=false) : convC C ex 9 (.slL id 0 m 8)=some (.sl (encL L) m,if m=0 then [] else [id]):=by
  subst hm
  rcases Nat.eq_zero_or_pos L.length with h | h
  · have : L=[]:=List.length_eq_zero_iff.1 h
    subst this
    simp [convC,encL]
  · have hl : ((encL L++M).map AV.d).length=L.length * 8 + M.length:=by rw [List.length_map,List.length_append,encL_length]
    simp only [convC]
    rw [if_neg (by omega),if_neg (by simp [hex]),if_neg (by omega)]
    simp only [hC,Option.bind_some]
    rw [if_pos (by omega),List.drop_zero,List.map_append,List.take_append_of_le_length (by rw [List.length_map,encL_length];omega),List.take_of_length_le (by rw [List.length_map,encL_length];omega),mapO_encL]
    rfl
theorem r_callS4 {f : FuncId} {xs : List X} {pre pre' post post' : List AV} {b m : Nat} {L : List T} {M : List DV} {r : AV} {us : List Nat} (ha : xs.map (X.ev fr)=pre++.slL b 0 m 8 :: post) (hn : convAs C (fun _=>false) pre=some (pre',[])) (hp : convAs C (fun _=>false) post=some (post',[])) (hC : C b=some ((encL L++M).map AV.d)) (hm : L.length=m) (hg : Good P f (pre'++.d (.sl (encL L) m) :: post') none r none none) (hu : (if r.scalar=true then [] else if m=0 then [] else [b])=us)
    (k : R P l base kp Q nx (fr.put d r) C (Z.add us)) : R P ((n,⟨some d,none,.call f xs none false⟩) :: l) base kp Q nx fr C Z:=by
  subst hu
  refine r_call (bs:=pre'++.d (.sl (encL L) m) :: post') (us:=[]++((if m=0 then [] else [b])++[])) ha ?_ hg (by simp) k
  refine convAs_app hn ?_
  simp only [convAs,convA,conv_rowT (ex:=fun _=>false) hC hm rfl,Option.map_some,Option.bind_some,hp]
theorem r_callOwn {f : FuncId} {xs : List X} {ags : List AV} {b m m' : Nat} {ds ds' : List DV} (ha : xs.map (X.ev fr)=.slL b 0 m 8 :: ags) (hn : ags.all AV.nrm=true) (hC : C b=some (ds.map AV.d)) (hz : Z b=false) (hg : Good P f (.slL 0 0 m 8 :: ags) (some ds) (.slL 0 0 m' 8) (some ds') none)
    (k : R P l base kp Q nx (fr.put d (.slL b 0 m' 8)) (C.put b (ds'.map AV.d)) Z) : R P ((n,⟨some d,none,.call f xs (some 0) false⟩) :: l) base kp Q nx fr C Z:=by
  have hcv : convAsL C b 0 (.slL b 0 m 8 :: ags)=some (.slL 0 0 m 8 :: ags,[]):=by
    simp only [convAsL,convAs_nrm ags hn,Option.map_some,toZ]
  exact s_callL (Z':=Z) ha rfl hC hz hcv hg (by simp [Frz.add_nil]) rfl k
end
set_option maxRecDepth 100000
set_option maxHeartbeats 4000000
attribute [local irreducible] W E R KP thenK blockK retK Good xwp aRun
theorem cat53_good (l : List T) (hc : cntL l≤50000000) : Good Try.prog 53 [.d (.sl (encL l) l.length)] none (nodeA (catS l)) none none:=by
  have hll:=cntL_len l
  have hfl:=flatL_len 3 l
  have h103:=flat103_good 3 l hc
  have hpn : PredOK 105 [] isNo (flatL 3 l):=⟨rfl,fun i _=>no105_good _⟩
  have hpe : PredOK 108 [] (fun t=>!notE t) (flatL 3 l):=⟨rfl,fun i _=>e108_good _⟩
  have h104:=contains104_good hpn (by omega)
  have h107:=del107_good hpe (by omega)
  have h110:=empty110_good
  have h106:=no106_good
  have e1 : (flatL 3 l).filter (fun t=>!(fun t=>!notE t) t)=(flatL 3 l).filter notE:=by
    congr 1;funext t;simp
  rw [e1] at h107
  have hfle:=List.length_filter_le notE (flatL 3 l)
  have hof:=put109_good 3 ((flatL 3 l).filter notE) emptyT (by omega)
  have hcat : catS l=if (flatL 3 l).any isNo=true then noneT else ofT 3 ((flatL 3 l).filter notE) emptyT:=rfl
  rw [hcat]
  clear hcat hpn hpe e1
  generalize hq : (flatL 3 l).any isNo=q at h104 ⊢
  generalize (flatL 3 l).filter notE=r at h107 hof hfle ⊢
  generalize flatL 3 l=out at h103 h104 h107 hfl hfle
  have hE : nodeA emptyT=.agg [.i 1,.d (.val (.int .u64 0)),.d (.val (.int .u64 0)),.d (.val (.int .u64 0)),.d (.val (.int .u64 0)),.i 0,.i 0,.d (.sl [] 0)]:=rfl
  rw [hE] at h110 hof
  cases q
  · rw [if_neg (by simp)]
    generalize ofT 3 r emptyT=u at hof
    obtain ⟨k2,a2,b2,c2,d2,mn2,mx2,subs2⟩:=u
    match out,r,h103,h104,h107,hof with
    | [],[],h103,h104,h107,hof =>
      simp only [List.length_nil] at h103 h104 h107 hof ⊢
      refine b53 (by simp) (by simp) (w_init ?_)
      unfold x53
      repeat' (first|(apply r_mvS;rfl)|(apply r_mvSL;rfl)|(apply r_callMN (id:=3) (us:=[]);rfl;rfl;rfl;exact h103;rfl)|(apply r_callS2 (pre:=[]) (pre':=[]) (post:=[.d (.fn 105 [])]) (post':=[.d (.fn 105 [])]) (b:=3) (L:=[]) (us:=[]);rfl;rfl;rfl;rfl;rfl;exact h104;rfl)|(apply r_callOwn (b:=3) (ags:=[.d (.fn 108 [])]) (ds:=encL []);rfl;rfl;rfl;rfl;exact h107)|(apply r_callA (ags:=[]);rfl;rfl;exact h110)|(apply r_callS4 (pre:=[.i 3]) (pre':=[.i 3]) (post:=[.agg [.i 1,.d (.val (.int .u64 0)),.d (.val (.int .u64 0)),.d (.val (.int .u64 0)),.d (.val (.int .u64 0)),.i 0,.i 0,.d (.sl [] 0)]]) (post':=[.agg [.i 1,.d (.val (.int .u64 0)),.d (.val (.int .u64 0)),.d (.val (.int .u64 0)),.d (.val (.int .u64 0)),.i 0,.i 0,.d (.sl [] 0)]]) (b:=3) (L:=[]) (us:=[]);rfl;rfl;rfl;rfl;rfl;exact hof;rfl)|(apply r_alloc;((conv=>lhs;simp only [Nat.reduceAdd])<;>rfl);rfl)|(apply r_stL;rfl;rfl;rfl;rfl;(first|rfl|(simp only [z_nil,z_add]<;>rfl));rfl;rfl)|(apply r_nilK)|(apply k_V;rfl)|(apply k_PL;rfl)|(apply k_S;rfl)|(apply k_SL;rfl)|(apply k_nil)|(apply e_ret;rfl)|(apply w_seq)|(apply w_ops;((conv=>lhs;simp only [Nat.reduceAdd])<;>rfl))|(apply w_condF;rfl)|(apply e_thenN)|(apply w_ret)|(apply w_skip))
      exact .data _ rfl
    | x :: o,[],h103,h104,h107,hof =>
      simp only [List.length_nil,List.length_cons] at h103 h104 h107 hof ⊢
      refine b53 (by simp) (by simp) (w_init ?_)
      unfold x53
      repeat' (first|(apply r_mvS;rfl)|(apply r_mvSL;rfl)|(apply r_callMN (id:=3) (us:=[]);rfl;rfl;rfl;exact h103;rfl)|(apply r_callS2 (pre:=[]) (pre':=[]) (post:=[.d (.fn 105 [])]) (post':=[.d (.fn 105 [])]) (b:=3) (L:=x :: o) (us:=[]);rfl;rfl;rfl;rfl;rfl;exact h104;rfl)|(apply r_callOwn (b:=3) (ags:=[.d (.fn 108 [])]) (ds:=encL (x :: o));rfl;rfl;rfl;rfl;exact h107)|(apply r_callA (ags:=[]);rfl;rfl;exact h110)|(apply r_callS4 (pre:=[.i 3]) (pre':=[.i 3]) (post:=[.agg [.i 1,.d (.val (.int .u64 0)),.d (.val (.int .u64 0)),.d (.val (.int .u64 0)),.d (.val (.int .u64 0)),.i 0,.i 0,.d (.sl [] 0)]]) (post':=[.agg [.i 1,.d (.val (.int .u64 0)),.d (.val (.int .u64 0)),.d (.val (.int .u64 0)),.d (.val (.int .u64 0)),.i 0,.i 0,.d (.sl [] 0)]]) (b:=3) (L:=[]) (us:=[]);rfl;rfl;rfl;rfl;rfl;exact hof;rfl)|(apply r_alloc;((conv=>lhs;simp only [Nat.reduceAdd])<;>rfl);rfl)|(apply r_stL;rfl;rfl;rfl;rfl;(first|rfl|(simp only [z_nil,z_add]<;>rfl));rfl;rfl)|(apply r_nilK)|(apply k_V;rfl)|(apply k_PL;rfl)|(apply k_S;rfl)|(apply k_SL;rfl)|(apply k_nil)|(apply e_ret;rfl)|(apply w_seq)|(apply w_ops;((conv=>lhs;simp only [Nat.reduceAdd])<;>rfl))|(apply w_condF;rfl)|(apply e_thenN)|(apply w_ret)|(apply w_skip))
      exact .data _ rfl
    | x :: o,y :: r,h103,h104,h107,hof =>
      simp only [List.length_cons] at h103 h104 h107 hof ⊢
      refine b53 (by simp) (by simp) (w_init ?_)
      unfold x53
      repeat' (first|(apply r_mvS;rfl)|(apply r_mvSL;rfl)|(apply r_callMN (id:=3) (us:=[]);rfl;rfl;rfl;exact h103;rfl)|(apply r_callS2 (pre:=[]) (pre':=[]) (post:=[.d (.fn 105 [])]) (post':=[.d (.fn 105 [])]) (b:=3) (L:=x :: o) (us:=[]);rfl;rfl;rfl;rfl;rfl;exact h104;rfl)|(apply r_callOwn (b:=3) (ags:=[.d (.fn 108 [])]) (ds:=encL (x :: o));rfl;rfl;rfl;rfl;exact h107)|(apply r_callA (ags:=[]);rfl;rfl;exact h110)|(apply r_callS4 (pre:=[.i 3]) (pre':=[.i 3]) (post:=[.agg [.i 1,.d (.val (.int .u64 0)),.d (.val (.int .u64 0)),.d (.val (.int .u64 0)),.d (.val (.int .u64 0)),.i 0,.i 0,.d (.sl [] 0)]]) (post':=[.agg [.i 1,.d (.val (.int .u64 0)),.d (.val (.int .u64 0)),.d (.val (.int .u64 0)),.d (.val (.int .u64 0)),.i 0,.i 0,.d (.sl [] 0)]]) (b:=3) (L:=y :: r) (us:=[3]);rfl;rfl;rfl;rfl;rfl;exact hof;rfl)|(apply r_alloc;((conv=>lhs;simp only [Nat.reduceAdd])<;>rfl);rfl)|(apply r_stL;rfl;rfl;rfl;rfl;(first|rfl|(simp only [z_nil,z_add]<;>rfl));rfl;rfl)|(apply r_nilK)|(apply k_V;rfl)|(apply k_PL;rfl)|(apply k_S;rfl)|(apply k_SL;rfl)|(apply k_nil)|(apply e_ret;rfl)|(apply w_seq)|(apply w_ops;((conv=>lhs;simp only [Nat.reduceAdd])<;>rfl))|(apply w_condF;rfl)|(apply e_thenN)|(apply w_ret)|(apply w_skip))
      exact .data _ rfl
  · rw [if_pos rfl]
    have hN : nodeA noneT=.agg [.i 2,.d (.val (.int .u64 0)),.d (.val (.int .u64 0)),.d (.val (.int .u64 0)),.d (.val (.int .u64 0)),.i 0,.i 0,.d (.sl [] 0)]:=rfl
    rw [hN] at h106
    refine b53 (by simp) (by simp) (w_init ?_)
    unfold x53
    repeat' (first|(apply r_mvS;rfl)|(apply r_mvSL;rfl)|(apply r_callMN (id:=3) (us:=[]);rfl;rfl;rfl;exact h103;rfl)|(apply r_callS2 (pre:=[]) (pre':=[]) (post:=[.d (.fn 105 [])]) (post':=[.d (.fn 105 [])]) (b:=3) (L:=out) (us:=[]);rfl;rfl;rfl;rfl;rfl;exact h104;rfl)|(apply r_callA (ags:=[]);rfl;rfl;exact h106)|(apply r_alloc;((conv=>lhs;simp only [Nat.reduceAdd])<;>rfl);rfl)|(apply r_stL;rfl;rfl;rfl;rfl;(first|rfl|(simp only [z_nil,z_add]<;>rfl));rfl;rfl)|(apply r_nilK)|(apply k_V;rfl)|(apply k_PL;rfl)|(apply k_S;rfl)|(apply k_SL;rfl)|(apply k_nil)|(apply e_ret;rfl)|(apply w_seq)|(apply w_ops;((conv=>lhs;simp only [Nat.reduceAdd])<;>rfl))|(apply w_condT;rfl)|(apply e_thenN)|(apply e_thenR)|(apply w_ret))
    exact .data _ rfl
end Go.Sv
namespace Go.Sv
open Go Go.Proofs

section
variable {P : Program} {Q : Cont} {fr : Fr} {C : Heap} {Z : Frz} {nx : Nat} {base n d : Nat} {l : List (Nat × XO)} {kp : Option (List Nat)} {x i y s : X} {j : Nat}
theorem r_orW {a b : Int} (hx : x.ev fr=.d (.val (.int .u64 a))) (hy : y.ev fr=.d (.val (.int .u64 b))) (ha : okW a) (hb : okW b) (k : R P l base kp Q nx (fr.put d (.d (.val (.int .u64 (orW a b))))) C Z) : R P ((n,⟨some d,none,.arith .or x y⟩) :: l) base kp Q nx fr C Z:=by
  refine r_p ?_ k
  have e : IntKind.wrap .u64 (orW a b)=orW a b:=by
    obtain ⟨h1,h2⟩:=okW_or ha hb
    generalize orW a b=w at h1 h2
    simp [IntKind.wrap,IntKind.signed,IntKind.bits];omega
  simp only [xp,hx,hy,arith,if_true]
  exact congrArg (fun z=>some (AV.d (DV.val (Value.int .u64 z)))) e
end
def zipO (a b c d a' b' c' d' : Int) (i : Nat) : List Int:=[orW a a',orW b b',orW c c',orW d d'].take i++[a,b,c,d].drop i
theorem encL_setW : ∀ (K : List T) (j : Nat) (a b c d w0 w1 w2 w3 : Int),K[j]?=some (.node 2 a b c d 0 0 [])→splice ((encL K).map AV.d) (j * 8 + 1) [.d (.val (.int .u64 w0)),.d (.val (.int .u64 w1)),.d (.val (.int .u64 w2)),.d (.val (.int .u64 w3))]=(encL (K.set j (.node 2 w0 w1 w2 w3 0 0 []))).map AV.d
  | t :: K,0,a,b,c,d,w0,w1,w2,w3,h=>by
    simp only [List.getElem?_cons_zero,Option.some.injEq] at h
    subst h
    simp [splice,encL,encN]
  | t :: K,j + 1,a,b,c,d,w0,w1,w2,w3,h=>by
    have ih:=encL_setW K j a b c d w0 w1 w2 w3 (by simpa using h)
    have hl : ((encN t).map AV.d).length=8:=by rw [List.length_map,encN_len]
    simp only [List.set_cons_succ,encL,List.map_append,← ih,splice]
    rw [List.take_append,List.drop_append,hl,List.take_of_length_le (l:=(encN t).map AV.d) (by rw [hl];omega),List.drop_of_length_le (l:=(encN t).map AV.d) (by rw [hl];simp;omega),List.nil_append,show (j + 1) * 8 + 1 - 8=j * 8 + 1 by omega]
    simp only [List.append_assoc,List.length_cons,List.length_nil]
    rw [show (j + 1) * 8 + 1 + (0 + 1 + 1 + 1 + 1) - 8=j * 8 + 1 + (0 + 1 + 1 + 1 + 1) by omega]
set_option maxRecDepth 100000
set_option maxHeartbeats 4000000
attribute [local irreducible] W E R KP thenK blockK retK Good xwp aRun
theorem or73_good {a b c d a' b' c' d' : Int} (ha : okW a) (hb : okW b) (hc : okW c) (hd : okW d) (ha' : okW a') (hb' : okW b') (hc' : okW c') (hd' : okW d') :
    Good Try.prog 73 [setA a b c d,setA a' b' c' d'] none (setA (orW a a') (orW b b') (orW c c') (orW d d')) none none:=by
  unfold setA
  refine b73 (by simp) (by simp) (w_init ?_)
  unfold x73
  repeat' (first|(apply r_mvV;rfl)|(apply r_alloc;((conv=>lhs;simp only [Nat.reduceAdd])<;>rfl);rfl)|(apply r_box;((conv=>lhs;simp only [Nat.reduceAdd])<;>rfl);rfl;rfl;rfl)|(apply r_nilK)|(apply k_V;rfl)|(apply k_PL;rfl)|(apply k_nil)|(apply w_seq)|(apply w_ops;((conv=>lhs;simp only [Nat.reduceAdd])<;>rfl))|(apply e_thenN)|(apply w_block))
  apply w_loopI (S:=fun i : Nat=>⟨(((Fr.nil.put 2 (.ptrL 1 0)).put 3 (.ptrL 2 0)).put 4 (.ptrL 3 0)).put 6 (.i i),rowsOf [(1,encW (zipO a b c d a' b' c' d' i)),(2,encW [a',b',c',d']),(3,encW [0,0,0,0])],Frz.buts 100 [1,3],100⟩) (m:=fun i=>4 - i) (I:=fun i=>i≤4) (i0:=0)
  · exact Nat.zero_le _
  · refine wkM [] [] rfl ?_ ?_ rfl ?_
    · intro p hp
      simp only [List.mem_cons,List.not_mem_nil,or_false] at hp
      rcases hp with rfl | rfl | rfl
      · exact ⟨by omega,.inr ⟨rfl,_,rfl,.data rfl⟩⟩
      · exact ⟨by omega,.inr ⟨rfl,_,rfl,.data rfl⟩⟩
      · exact ⟨by omega,.inr ⟨rfl,_,rfl,.data rfl⟩⟩
    · intro q hq;simp only [List.mem_cons,List.not_mem_nil,or_false] at hq;rcases hq with rfl | rfl<;>rfl
    · repeat' (first|exact FWk.nil|(apply FWk.i;rfl;(first|rfl|omega|(simp;done)))|(apply FWk.ptr;rfl;rfl;rfl;omega;rfl))
  intro i K hi hK
  dsimp only
  rcases Nat.lt_or_ge i 4 with hlt | hge
  · have hzl : (zipO a b c d a' b' c' d' i).length=4:=by
      match i,hlt with
      | 0,_=>rfl
      | 1,_=>rfl
      | 2,_=>rfl
      | 3,_=>rfl
    have h1 : okW ((zipO a b c d a' b' c' d' i).getD i 0)∧okW ([a',b',c',d'].getD i 0):=by
      match i,hlt with
      | 0,_=>exact ⟨ha,ha'⟩
      | 1,_=>exact ⟨hb,hb'⟩
      | 2,_=>exact ⟨hc,hc'⟩
      | 3,_=>exact ⟨hd,hd'⟩
    have h2 : (zipO a b c d a' b' c' d' i).set i (orW ((zipO a b c d a' b' c' d' i).getD i 0) ([a',b',c',d'].getD i 0))=zipO a b c d a' b' c' d' (i + 1):=by
      match i,hlt with
      | 0,_=>rfl
      | 1,_=>rfl
      | 2,_=>rfl
      | 3,_=>rfl
    repeat' (first|(apply r_mvV;rfl)|(apply r_ixPL (j:=i);rfl;rfl;omega)|(apply r_ldWs (b:=1) (ws:=zipO a b c d a' b' c' d' i) (j:=i);rfl;rfl;omega)|(apply r_ldWs (b:=2) (ws:=[a',b',c',d']) (j:=i);rfl;rfl;(simp;omega))|(apply r_orW;rfl;rfl;exact h1.1;exact h1.2)|(apply r_stWs (b:=1) (ws:=zipO a b c d a' b' c' d' i) (j:=i);rfl;rfl;rfl;rfl;omega)|(apply r_lss;rfl;rfl;(first|(apply dT;omega)|(apply dF;omega)|rfl))|(apply r_add;rfl;rfl;rfl;omega)|(apply r_nilK)|(apply k_V;rfl)|(apply k_PL;rfl)|(apply k_nil)|(apply w_seq)|(apply w_ops;((conv=>lhs;simp only [Nat.reduceAdd])<;>rfl))|(apply w_condT;rfl)|(apply e_thenN)|(apply w_block)|(apply e_blkN)|(apply w_skip))
    apply e_thenK
    apply hK (i + 1)
    · omega
    · omega
    · rw [← h2]
      refine wkM [] [] rfl ?_ ?_ rfl ?_
      · intro p hp
        simp only [List.mem_cons,List.not_mem_nil,or_false] at hp
        rcases hp with rfl | rfl | rfl
        · exact ⟨by omega,.inr ⟨rfl,_,rfl,.data (encW_isD _)⟩⟩
        · exact ⟨by omega,.inr ⟨rfl,_,rfl,.data rfl⟩⟩
        · exact ⟨by omega,.inr ⟨rfl,_,rfl,.data rfl⟩⟩
      · intro q hq;simp only [List.mem_cons,List.not_mem_nil,or_false] at hq;rcases hq with rfl | rfl<;>rfl
      · repeat' (first|exact FWk.nil|(apply FWk.i;rfl;(first|rfl|omega|(simp;done)))|(apply FWk.ptr;rfl;rfl;rfl;omega;rfl))
  · have ei : i=4:=by omega
    subst ei
    repeat' (first|(apply r_ldL (v:=.agg [.d (.val (.int .u64 (orW a a'))),.d (.val (.int .u64 (orW b b'))),.d (.val (.int .u64 (orW c c'))),.d (.val (.int .u64 (orW d d')))]);rfl;rfl;rfl)|(apply r_lss;rfl;rfl;(first|(apply dT;omega)|(apply dF;omega)|rfl))|(apply r_stL;rfl;rfl;rfl;rfl;(first|rfl|(simp only [z_nil,z_add]<;>rfl));rfl;rfl)|(apply r_nilK)|(apply k_V;rfl)|(apply k_PL;rfl)|(apply k_nil)|(apply e_ret;rfl)|(apply w_seq)|(apply w_ops;((conv=>lhs;simp only [Nat.reduceAdd])<;>rfl))|(apply w_condF;rfl)|(apply e_thenN)|(apply e_thenX)|(apply e_blkE)|(apply w_exit)|(apply w_ret))
    exact .data _ rfl
end Go.Sv
