/- A part of the proof of the law DeriveSimple: that it answers true for every input, and that the input reads behind the call as before (no condition). -/
import Derived.Test.YtcnlgmajkclgjaaDeriveSimpleG4
set_option linter.all false
set_option linter.unusedSectionVars false
set_option linter.unusedVariables false
set_option linter.unusedSimpArgs false
namespace Go.Sv
open Go
mutual
def sameT : T→T→Bool
  | .node k a b c d mn mx s,.node k' a' b' c' d' mn' mx' s'=>(k == k' && (a == a' && b == b' && c == c' && d == d') && mn == mn' && mx == mx') && sameL s s'
def sameL : List T→List T→Bool
  | [],[]=>true
  | t :: l,u :: r=>sameT t u && sameL l r
  | [],_ :: _=>false
  | _ :: _,[]=>false
end
mutual
theorem sameT_iff : ∀ (t u : T),sameT t u=true↔t=u
  | .node k a b c d mn mx s,.node k' a' b' c' d' mn' mx' s'=>by
    simp only [sameT,Bool.and_eq_true,beq_iff_eq,sameL_iff s s',T.node.injEq]
    constructor
    · rintro ⟨⟨⟨⟨h1,⟨⟨h2,h3⟩,h4⟩,h5⟩,h6⟩,h7⟩,h8⟩;exact ⟨h1,h2,h3,h4,h5,h6,h7,h8⟩
    · rintro ⟨h1,h2,h3,h4,h5,h6,h7,h8⟩;exact ⟨⟨⟨⟨h1,⟨⟨h2,h3⟩,h4⟩,h5⟩,h6⟩,h7⟩,h8⟩
theorem sameL_iff : ∀ (l r : List T),sameL l r=true↔l=r
  | [],[]=>by simp [sameL]
  | t :: l,u :: r=>by simp only [sameL,Bool.and_eq_true,sameT_iff t u,sameL_iff l r,List.cons.injEq]
  | [],_ :: _=>by simp [sameL]
  | _ :: _,[]=>by simp [sameL]
end
theorem sameT_self (t : T) : sameT t t=true:=(sameT_iff t t).2 rfl
theorem sameL_drop (l r : List T) (i : Nat) (h : i < l.length) (h2 : i < r.length) : sameL (l.drop i) (r.drop i)=(sameT l[i] r[i] && sameL (l.drop (i + 1)) (r.drop (i + 1))):=by
  rw [List.drop_eq_getElem_cons h,List.drop_eq_getElem_cons h2,sameL]
theorem sameL_len {l r : List T} (h : l.length ≠ r.length) : sameL l r=false:=by
  cases e : sameL l r with
  | false=>rfl
  | true=>exact absurd (congrArg List.length ((sameL_iff l r).1 e)) h

def isNo : T→Bool
  | .node k a b c d _ _ _=>k == 2 && isZero a b c d
def emptyT : T:=.node 1 0 0 0 0 0 0 []
def noneT : T:=.node 2 0 0 0 0 0 0 []
def ofT (k : Int) (l : List T) (e : T) : T:=match l with
  | []=>e
  | [t]=>t
  | l=>.node k 0 0 0 0 0 0 l
theorem ofT_two {k : Int} {l : List T} {e : T} (h : 2≤l.length) : ofT k l e=.node k 0 0 0 0 0 0 l:=by
  unfold ofT
  split
  · simp at h
  · simp at h
  · rfl
def flatO (k : Int) (t : T) : List T:=if t.kind=k then t.subs else [t]
def flatL (k : Int) : List T→List T
  | []=>[]
  | t :: l=>flatO k t++flatL k l
def notE (t : T) : Bool:=!(t.kind == 1)
def catS (l : List T) : T:=if (flatL 3 l).any isNo=true then noneT else ofT 3 ((flatL 3 l).filter notE) emptyT
def orW (a b : Int) : Int:=((BitVec.ofInt 64 a ||| BitVec.ofInt 64 b).toNat : Int)
def clsN : T→T
  | .node _ a b c d _ _ _=>.node 2 a b c d 0 0 []
def orN : T→T→T
  | .node _ a b c d _ _ _,.node _ a' b' c' d' _ _ _=>.node 2 (orW a a') (orW b b') (orW c c') (orW d d') 0 0 []
def altStep (s : List T × Option Nat) (t : T) : List T × Option Nat :=
  if isNo t=true then s
  else if t.kind=2 then match s.2 with
    | some i=>(s.1.set i (orN (s.1.getD i noneT) t),some i)
    | none=>(s.1++[clsN t],some s.1.length)
  else if s.1.any (fun u=>sameT u t)=true then s else (s.1++[t],s.2)
def altF (l : List T) : List T × Option Nat:=(flatL 4 l).foldl altStep ([],none)
def altS (l : List T) : T:=ofT 4 (altF l).1 noneT
def isStar (t : T) : Bool:=t.kind == 5 && t.mn == 0 && t.mx == -1
mutual
def repS : T→Int→Int→T
  | .node k a b c d mn mx subs,lo,hi =>
    if hi=0 ∨ k=1 ∨ (isNo (.node k a b c d mn mx subs)=true∧lo=0) then emptyT
    else if isNo (.node k a b c d mn mx subs)=true ∨ (lo=1∧hi=1) ∨ (k=5∧mn=0∧mx=-1) then .node k a b c d mn mx subs
    else if lo=0∧hi=-1∧k=5∧mn≤1∧0≤mn then repF subs (.node k a b c d mn mx subs)
    else .node 5 0 0 0 0 lo hi [.node k a b c d mn mx subs]
def repF : List T→T→T
  | [],t=>.node 5 0 0 0 0 0 (-1) [t]
  | u :: l,t=>if l.isEmpty=true then repS u 0 (-1) else .node 5 0 0 0 0 0 (-1) [t]
end
theorem repF_one (u t : T) : repF [u] t=repS u 0 (-1):=by simp [repF]
mutual
def simT : T→T
  | .node k a b c d mn mx subs =>
    if k=3 then catS (simL subs) else if k=4 then altS (simL subs) else if k=5 then repS ((simL subs).headD emptyT) mn mx else .node k a b c d mn mx subs
def simL : List T→List T
  | []=>[]
  | t :: l=>simT t :: simL l
end
theorem simL_len : ∀ l : List T,(simL l).length=l.length
  | []=>rfl
  | t :: l=>by rw [simL,List.length_cons,simL_len l,List.length_cons]
theorem simL_get : ∀ (l : List T) (i : Nat) (h : i < l.length) (h2 : i < (simL l).length),(simL l)[i]=simT l[i]
  | t :: l,0,_,_=>by simp [simL]
  | t :: l,i + 1,h,h2=>by
    simp only [simL,List.getElem_cons_succ]
    exact simL_get l i (by simpa using h) _
theorem simL_map : ∀ l : List T,simL l=l.map simT
  | []=>rfl
  | t :: l=>by rw [simL,simL_map l,List.map_cons]

theorem okW_nat {w : Int} (h : okW w) : ∃ n : Nat,w=n∧n < 2 ^ 64:=by
  obtain ⟨n,rfl⟩:=Int.eq_ofNat_of_zero_le h.1
  exact ⟨n,rfl,by have:=h.2;omega⟩
theorem bitG_nat (n x : Nat) : bitG (n : Int) x=n.testBit (x % 64):=by
  unfold bitG
  rw [Nat.testBit_eq_decide_div_mod_eq]
  congr 1
  apply propext
  have : ((n : Int) / 2 ^ (x % 64) % 2=1)↔(((n / 2 ^ (x % 64) % 2 : Nat) : Int)=((1 : Nat) : Int)):=by
    rw [Int.natCast_emod,Int.natCast_ediv,Int.natCast_pow];rfl
  rw [this,Int.ofNat_inj]
theorem orW_nat {a b : Nat} (ha : a < 2 ^ 64) (hb : b < 2 ^ 64) : orW (a : Int) (b : Int)=((a ||| b : Nat) : Int):=by
  unfold orW
  have h1 : (BitVec.ofInt 64 (a : Int)).toNat=a:=by simp [BitVec.toNat_ofInt];omega
  have h2 : (BitVec.ofInt 64 (b : Int)).toNat=b:=by simp [BitVec.toNat_ofInt];omega
  rw [BitVec.toNat_or,h1,h2]
theorem okW_or {a b : Int} (ha : okW a) (hb : okW b) : okW (orW a b):=by
  obtain ⟨m,rfl,hm⟩:=okW_nat ha
  obtain ⟨n,rfl,hn⟩:=okW_nat hb
  rw [orW_nat hm hn]
  have:=Nat.or_lt_two_pow hm hn
  unfold okW;omega
theorem bitG_or {a b : Int} (ha : okW a) (hb : okW b) (x : Nat) : bitG (orW a b) x=(bitG a x || bitG b x):=by
  obtain ⟨m,rfl,hm⟩:=okW_nat ha
  obtain ⟨n,rfl,hn⟩:=okW_nat hb
  rw [orW_nat hm hn,bitG_nat,bitG_nat,bitG_nat,Nat.testBit_or]
theorem bitG_0 (x : Nat) : bitG 0 x=false:=by
  have:=bitG_nat 0 x
  simpa using this
theorem four {P : Nat→Prop} (h0 : P 0) (h1 : P 1) (h2 : P 2) (h3 : P 3) (h4 : ∀ n,4≤n→P n) (n : Nat) : P n:=by
  rcases Nat.lt_or_ge n 4 with h | h
  · match n,h with
    | 0,_=>exact h0
    | 1,_=>exact h1
    | 2,_=>exact h2
    | 3,_=>exact h3
  · exact h4 n h
theorem inG_or {a b c d a' b' c' d' : Int} (ha : okW a) (hb : okW b) (hc : okW c) (hd : okW d) (ha' : okW a') (hb' : okW b') (hc' : okW c') (hd' : okW d') (x : Nat) :
    inG (orW a a') (orW b b') (orW c c') (orW d d') x=(inG a b c d x || inG a' b' c' d' x):=by
  unfold inG
  generalize x / 64=n
  revert n
  refine four ?_ ?_ ?_ ?_ ?_
  · exact bitG_or ha ha' x
  · exact bitG_or hb hb' x
  · exact bitG_or hc hc' x
  · exact bitG_or hd hd' x
  · intro n h
    rw [List.getD_eq_getElem?_getD,List.getElem?_eq_none (by simpa using h),List.getD_eq_getElem?_getD,List.getElem?_eq_none (by simpa using h),List.getD_eq_getElem?_getD,List.getElem?_eq_none (by simpa using h)]
    simp [bitG_0]
theorem inG_0 (x : Nat) : inG 0 0 0 0 x=false:=by
  unfold inG
  generalize x / 64=n
  revert n
  refine four (bitG_0 x) (bitG_0 x) (bitG_0 x) (bitG_0 x) ?_
  intro n h
  rw [List.getD_eq_getElem?_getD,List.getElem?_eq_none (by simpa using h)]
  simp [bitG_0]

theorem isNo_L {t : T} (h : isNo t=true) (w : List Nat) : ¬ L t w:=by
  obtain ⟨k,a,b,c,d,mn,mx,subs⟩:=t
  simp [isNo,isZero] at h
  obtain ⟨rfl,rfl,rfl,rfl,rfl⟩:=h
  rw [L_k2]
  rintro ⟨x,_,h⟩
  rw [inG_0] at h;cases h
theorem L_noneT (w : List Nat) : ¬ L noneT w:=isNo_L rfl w
theorem L_emptyT (w : List Nat) : L emptyT w↔w=[]:=L_k1
theorem L_of4 (l : List T) (w : List Nat) : L (ofT 4 l noneT) w↔altL l w:=by
  unfold ofT
  split
  · simp only [altL,iff_false];exact L_noneT w
  · simp only [altL,or_false]
  · rw [L_k4]
theorem L_of3 (l : List T) (w : List Nat) : L (ofT 3 l emptyT) w↔catL l w:=by
  unfold ofT
  split
  · simp only [catL];exact L_emptyT w
  · rw [catL_one]
  · rw [L_k3]
theorem altL_flat : ∀ (l : List T) (w : List Nat),altL (flatL 4 l) w↔altL l w
  | [],w=>Iff.rfl
  | t :: l,w=>by
    rw [flatL,altL_app,altL_flat l w,altL]
    refine or_congr ?_ Iff.rfl
    unfold flatO
    split
    · rename_i h
      obtain ⟨k,a,b,c,d,mn,mx,subs⟩:=t
      simp only [T.kind] at h
      subst h
      rw [L_k4,T.subs]
    · simp [altL]
theorem catL_flat : ∀ (l : List T) (w : List Nat),catL (flatL 3 l) w↔catL l w
  | [],w=>Iff.rfl
  | t :: l,w=>by
    rw [flatL,catL_app,catL]
    have e : ∀ u,catL (flatO 3 t) u↔L t u:=by
      intro u
      unfold flatO
      split
      · rename_i h
        obtain ⟨k,a,b,c,d,mn,mx,subs⟩:=t
        simp only [T.kind] at h
        subst h
        rw [L_k3,T.subs]
      · exact catL_one t u
    simp only [e,catL_flat l]
theorem catL_no : ∀ (l : List T) (w : List Nat),l.any isNo=true→¬ catL l w
  | t :: l,w,h=>by
    rintro ⟨u,v,rfl,h1,h2⟩
    rw [List.any_cons,Bool.or_eq_true] at h
    rcases h with h | h
    · exact isNo_L h u h1
    · exact catL_no l v h h2
theorem kind1_L {t : T} (h : t.kind=1) (w : List Nat) : L t w↔w=[]:=by
  obtain ⟨k,a,b,c,d,mn,mx,subs⟩:=t
  simp only [T.kind] at h
  subst h
  exact L_k1
theorem catL_filter : ∀ (l : List T) (w : List Nat),catL (l.filter notE) w↔catL l w
  | [],w=>Iff.rfl
  | t :: l,w=>by
    rw [List.filter_cons]
    split
    · simp only [catL,catL_filter l]
    · rename_i h
      have hk : t.kind=1:=by simpa [notE] using h
      rw [catL_filter l w,catL]
      simp only [kind1_L hk]
      constructor
      · intro h;exact ⟨[],w,rfl,rfl,h⟩
      · rintro ⟨u,v,rfl,rfl,h⟩;exact h
theorem catS_L (l : List T) (w : List Nat) : L (catS l) w↔catL l w:=by
  unfold catS
  split
  · rename_i h
    rw [← catL_flat]
    exact ⟨fun h1=>absurd h1 (L_noneT w),fun h1=>absurd h1 (catL_no _ w h)⟩
  · rw [L_of3,catL_filter,catL_flat]
def okS : T→Prop
  | .node _ a b c d _ _ _=>okW a∧okW b∧okW c∧okW d
theorem altL_set : ∀ (l : List T) (i : Nat) (u : T) (h : i < l.length) (w : List Nat),(∀ w,L l[i] w→L u w)→(altL (l.set i u) w↔altL l w ∨ L u w)
  | t :: l,0,u,_,w,hu=>by
    simp only [List.set_cons_zero,altL]
    constructor
    · rintro (h | h)
      · exact .inr h
      · exact .inl (.inr h)
    · rintro ((h | h) | h)
      · exact .inl (hu w h)
      · exact .inr h
      · exact .inl h
  | t :: l,i + 1,u,h,w,hu=>by
    simp only [List.set_cons_succ,altL,altL_set l i u (by simpa using h) w hu,or_assoc]
theorem altL_mem : ∀ (l : List T) (t : T),t ∈ l→∀ w,L t w→altL l w
  | u :: l,t,h,w,hw=>by
    rcases List.mem_cons.1 h with rfl | h
    · exact .inl hw
    · exact .inr (altL_mem l t h w hw)
theorem orN_L {t u : T} (ht : t.kind=2) (hu : u.kind=2) (h1 : okS t) (h2 : okS u) (w : List Nat) : L (orN t u) w↔L t w ∨ L u w:=by
  obtain ⟨k,a,b,c,d,mn,mx,subs⟩:=t
  obtain ⟨k',a',b',c',d',mn',mx',subs'⟩:=u
  simp only [T.kind] at ht hu
  subst ht hu
  obtain ⟨p1,p2,p3,p4⟩:=h1
  obtain ⟨q1,q2,q3,q4⟩:=h2
  rw [orN,L_k2,L_k2,L_k2]
  simp only [inG_or p1 p2 p3 p4 q1 q2 q3 q4,Bool.or_eq_true]
  constructor
  · rintro ⟨x,rfl,h | h⟩
    · exact .inl ⟨x,rfl,h⟩
    · exact .inr ⟨x,rfl,h⟩
  · rintro (⟨x,rfl,h⟩ | ⟨x,rfl,h⟩)
    · exact ⟨x,rfl,.inl h⟩
    · exact ⟨x,rfl,.inr h⟩
theorem clsN_L {t : T} (h : t.kind=2) (w : List Nat) : L (clsN t) w↔L t w:=by
  obtain ⟨k,a,b,c,d,mn,mx,subs⟩:=t
  simp only [T.kind] at h
  subst h
  rw [clsN,L_k2,L_k2]
def AltI (s : List T × Option Nat) : Prop:=∀ i,s.2=some i→∃ a b c d,s.1[i]?=some (.node 2 a b c d 0 0 [])∧okW a∧okW b∧okW c∧okW d
theorem AltI.lt {s : List T × Option Nat} (h : AltI s) {i : Nat} (hi : s.2=some i) : i < s.1.length:=by
  obtain ⟨a,b,c,d,h,_⟩:=h i hi
  exact (List.getElem?_eq_some_iff.1 h).1
theorem altStep_I {s : List T × Option Nat} {t : T} (h : AltI s) (ht : okS t) : AltI (altStep s t):=by
  unfold altStep
  split
  · exact h
  split
  · split
    · rename_i i hi
      intro j hj
      cases hj
      obtain ⟨a,b,c,d,h1,ha,hb,hc,hd⟩:=h i hi
      have hlt:=(List.getElem?_eq_some_iff.1 h1).1
      obtain ⟨k',a',b',c',d',mn',mx',subs'⟩:=t
      obtain ⟨q1,q2,q3,q4⟩:=ht
      refine ⟨orW a a',orW b b',orW c c',orW d d',?_,okW_or ha q1,okW_or hb q2,okW_or hc q3,okW_or hd q4⟩
      rw [List.getElem?_set_self hlt,List.getD_eq_getElem?_getD,h1]
      rfl
    · intro j hj
      cases hj
      obtain ⟨k',a',b',c',d',mn',mx',subs'⟩:=t
      exact ⟨a',b',c',d',by rw [List.getElem?_append_right (Nat.le_refl _),Nat.sub_self];rfl,ht⟩
  · split
    · exact h
    · intro j hj
      obtain ⟨a,b,c,d,h1,h2⟩:=h j hj
      exact ⟨a,b,c,d,by rw [List.getElem?_append_left (List.getElem?_eq_some_iff.1 h1).1];exact h1,h2⟩
theorem altStep_L {s : List T × Option Nat} {t : T} (h : AltI s) (ht : okS t) (w : List Nat) : altL (altStep s t).1 w↔altL s.1 w ∨ L t w:=by
  unfold altStep
  split
  · rename_i hn
    have:=isNo_L hn w
    simp [this]
  split
  · rename_i hk
    split
    · rename_i i hi
      obtain ⟨a,b,c,d,h1,ha,hb,hc,hd⟩:=h i hi
      obtain ⟨hlt,h1'⟩:=List.getElem?_eq_some_iff.1 h1
      have e : s.1.getD i noneT=.node 2 a b c d 0 0 []:=by rw [List.getD_eq_getElem?_getD,h1];rfl
      have ho:=orN_L (t:=.node 2 a b c d 0 0 []) rfl hk ⟨ha,hb,hc,hd⟩ ht
      simp only [e]
      rw [altL_set _ _ _ hlt _ (fun w hw=>(ho w).2 (.inl (h1' ▸ hw))),ho w]
      constructor
      · rintro (h | h | h)
        · exact .inl h
        · exact .inl (altL_mem _ _ (List.getElem_mem hlt) w (h1' ▸ h))
        · exact .inr h
      · rintro (h | h)
        · exact .inl h
        · exact .inr (.inr h)
    · simp only [altL_app,altL,or_false,clsN_L hk]
  · split
    · rename_i hs
      obtain ⟨u,hu,he⟩:=List.any_eq_true.1 hs
      have:=(sameT_iff u t).1 he
      subst this
      constructor
      · exact .inl
      · rintro (h | h)
        · exact h
        · exact altL_mem _ _ hu w h
    · simp only [altL_app,altL,or_false]
theorem altFold_L : ∀ (l : List T) (s : List T × Option Nat),AltI s→(∀ t ∈ l,okS t)→∀ w,altL (l.foldl altStep s).1 w↔altL s.1 w ∨ altL l w
  | [],s,_,_,w=>by simp [altL]
  | t :: l,s,h,ht,w=>by
    rw [List.foldl_cons,altFold_L l _ (altStep_I h (ht t (by simp))) (fun u hu=>ht u (by simp [hu])) w,altStep_L h (ht t (by simp)) w,altL,or_assoc]
theorem altS_L (l : List T) (h : ∀ t ∈ flatL 4 l,okS t) (w : List Nat) : L (altS l) w↔altL l w:=by
  unfold altS altF
  rw [L_of4,altFold_L _ _ (fun i hi=>by cases hi) h w,altL_flat]
  simp [altL]
theorem okT_S {t : T} (h : okT t) : okS t:=by
  obtain ⟨k,a,b,c,d,mn,mx,subs⟩:=t
  simp only [okT,okN] at h
  exact ⟨h.1.1,h.1.2.1,h.1.2.2.1,h.1.2.2.2.1⟩
theorem okT_subs' {t : T} (h : okT t) : okL t.subs:=by cases t;exact okT_subs h
theorem okL_flat (k : Int) : ∀ {l : List T},okL l→okL (flatL k l)
  | [],_=>trivial
  | t :: l,h=>by
    simp only [okL] at h
    rw [flatL,okL_iff]
    intro u hu
    rcases List.mem_append.1 hu with hu | hu
    · unfold flatO at hu
      split at hu
      · exact (okL_iff _).1 (okT_subs' h.1) u hu
      · rw [List.mem_singleton] at hu;rw [hu];exact h.1
    · exact (okL_iff _).1 (okL_flat k h.2) u hu
end Go.Sv
namespace Go.Sv
open Go
def AltN (l : List T) (at' : Option Nat) : Prop :=
  (∀ j,(∃ u,l[j]?=some u∧u.kind=2)↔at'=some j)∧(∀ u ∈ l,isNo u=false)∧l.Nodup∧(∀ u ∈ l,u.kind=2→clsN u=u∧okS u)
def sfN : T→Prop
  | .node k _ _ _ _ mn mx subs =>
    (k=3→2≤subs.length∧∀ u ∈ subs,u.kind ≠ 3∧u.kind ≠ 1∧isNo u=false) ∧
    (k=4→2≤subs.length∧(∀ u ∈ subs,u.kind ≠ 4)∧∃ at',AltN subs at') ∧
    (k=5→mx ≠ 0∧∃ u,subs=[u]∧u.kind ≠ 1∧isNo u=false∧¬ (mn=1∧mx=1)∧isStar u=false∧¬ (mn=0∧mx=-1∧u.kind=5∧u.mn≤1∧0≤u.mn))
mutual
def sfT : T→Prop
  | .node k a b c d mn mx subs=>sfN (.node k a b c d mn mx subs)∧sfL subs
def sfL : List T→Prop
  | []=>True
  | t :: l=>sfT t∧sfL l
end
theorem sfL_iff : ∀ (l : List T),sfL l↔∀ t ∈ l,sfT t
  | []=>by simp [sfL]
  | t :: l=>by simp [sfL,sfL_iff l]
theorem sfT_subs {t : T} (h : sfT t) : sfL t.subs:=by cases t;exact h.2
theorem sf_leaf {k a b c d mn mx : Int} (h3 : k ≠ 3) (h4 : k ≠ 4) (h5 : k ≠ 5) : sfT (.node k a b c d mn mx []):=⟨⟨fun h=>absurd h h3,fun h=>absurd h h4,fun h=>absurd h h5⟩,trivial⟩
theorem sf_empty : sfT emptyT:=sf_leaf (by omega) (by omega) (by omega)
theorem sf_none : sfT noneT:=sf_leaf (by omega) (by omega) (by omega)

theorem isNo_cls (t : T) (h : t.kind=2) : isNo (clsN t)=isNo t:=by
  obtain ⟨k,a,b,c,d,mn,mx,subs⟩:=t
  simp only [T.kind] at h
  subst h;rfl
theorem clsN_cls (t : T) : clsN (clsN t)=clsN t:=by cases t;rfl
theorem clsN_kind (t : T) : (clsN t).kind=2:=by cases t;rfl
theorem okS_cls {t : T} (h : okS t) : okS (clsN t):=by cases t;exact h
theorem orN_kind (t u : T) : (orN t u).kind=2:=by cases t;cases u;rfl
theorem clsN_or (t u : T) : clsN (orN t u)=orN t u:=by cases t;cases u;rfl
theorem okS_or {t u : T} (h1 : okS t) (h2 : okS u) : okS (orN t u):=by
  cases t;cases u
  exact ⟨okW_or h1.1 h2.1,okW_or h1.2.1 h2.2.1,okW_or h1.2.2.1 h2.2.2.1,okW_or h1.2.2.2 h2.2.2.2⟩
theorem orW_zero {a b : Int} (ha : okW a) (hb : okW b) (h : orW a b=0) : b=0:=by
  obtain ⟨m,rfl,hm⟩:=okW_nat ha
  obtain ⟨n,rfl,hn⟩:=okW_nat hb
  rw [orW_nat hm hn] at h
  have h : m ||| n=0:=by omega
  have : n=0:=by
    refine Nat.eq_of_testBit_eq fun i=>?_
    have:=congrArg (fun x=>Nat.testBit x i) h
    simp only [Nat.testBit_or,Nat.zero_testBit,Bool.or_eq_false_iff] at this
    rw [this.2,Nat.zero_testBit]
  omega
theorem isNo_or {t u : T} (h1 : okS t) (h2 : okS u) (hu : u.kind=2) (hn : isNo u=false) : isNo (orN t u)=false:=by
  obtain ⟨k,a,b,c,d,mn,mx,subs⟩:=t
  obtain ⟨k',a',b',c',d',mn',mx',subs'⟩:=u
  simp only [T.kind] at hu
  subst hu
  cases e : isNo (orN (.node k a b c d mn mx subs) (.node 2 a' b' c' d' mn' mx' subs')) with
  | false=>rfl
  | true =>
    exfalso
    simp [isNo,orN,isZero] at e hn
    exact hn (orW_zero h1.1 h2.1 e.1) (orW_zero h1.2.1 h2.2.1 e.2.1) (orW_zero h1.2.2.1 h2.2.2.1 e.2.2.1) (orW_zero h1.2.2.2 h2.2.2.2 e.2.2.2)
theorem altN_nil : AltN [] none:=⟨fun j=>by simp,fun u h=>absurd h (by simp),List.nodup_nil,fun u h=>absurd h (by simp)⟩
theorem AltN.lt {l : List T} {q : Option Nat} (h : AltN l q) {j : Nat} (hj : q=some j) : j < l.length:=by
  obtain ⟨u,hu,_⟩:=(h.1 j).2 hj
  exact (List.getElem?_eq_some_iff.1 hu).1
theorem altN_snoc {l : List T} {q q' : Option Nat} (h : AltN l q) {t : T} (hn : isNo t=false) (hs : ∀ u ∈ l,u ≠ t) (hc : t.kind=2→clsN t=t∧okS t) (hq : (t.kind=2∧q=none∧q'=some l.length) ∨ (t.kind ≠ 2∧q'=q)) : AltN (l++[t]) q':=by
  obtain ⟨h1,h2,h3,h4⟩:=h
  have hlt : ∀ j,q=some j→j < l.length:=fun j hj=>AltN.lt ⟨h1,h2,h3,h4⟩ hj
  refine ⟨fun j=>?_,fun u hu=>?_,?_,fun u hu=>?_⟩
  · rcases Nat.lt_trichotomy j l.length with hj | rfl | hj
    · rw [List.getElem?_append_left hj,h1 j]
      rcases hq with ⟨_,rfl,rfl⟩ | ⟨_,rfl⟩
      · simp;omega
      · exact Iff.rfl
    · rw [List.getElem?_append_right (Nat.le_refl _),Nat.sub_self]
      simp only [List.getElem?_cons_zero,Option.some.injEq,exists_eq_left']
      rcases hq with ⟨hk,rfl,rfl⟩ | ⟨hk,rfl⟩
      · simp [hk]
      · simp only [hk,false_iff]
        intro e;have:=hlt _ e;omega
    · rw [List.getElem?_eq_none (by simp;omega)]
      constructor
      · rintro ⟨u,hu,_⟩;cases hu
      · intro e
        rcases hq with ⟨_,rfl,rfl⟩ | ⟨_,rfl⟩
        · cases e;omega
        · have:=hlt _ e;omega
  · rcases List.mem_append.1 hu with hu | hu
    · exact h2 u hu
    · rw [List.mem_singleton] at hu;rw [hu];exact hn
  · rw [List.nodup_append]
    refine ⟨h3,by simp,fun a ha b hb=>?_⟩
    rw [List.mem_singleton] at hb;rw [hb];exact hs a ha
  · rcases List.mem_append.1 hu with hu | hu
    · exact h4 u hu
    · rw [List.mem_singleton] at hu;rw [hu];exact hc
theorem nodup_set {l : List T} (h : l.Nodup) (i : Nat) (u : T) (hu : ∀ j x,j ≠ i→l[j]?=some x→x ≠ u) : (l.set i u).Nodup:=by
  have h:=List.pairwise_iff_getElem.1 h
  refine List.pairwise_iff_getElem.2 fun a b ha hb hab=>?_
  rw [List.length_set] at ha hb
  rw [List.getElem_set,List.getElem_set]
  split
  · rename_i e
    rw [if_neg (by omega)]
    exact fun e2=>hu b _ (by omega) (List.getElem?_eq_getElem hb) e2.symm
  · split
    · exact fun e2=>hu a _ (by omega) (List.getElem?_eq_getElem ha) e2
    · exact h a b ha hb hab
theorem altStep_N {s : List T × Option Nat} {t : T} (h : AltN s.1 s.2) (ht : okS t) : AltN (altStep s t).1 (altStep s t).2:=by
  unfold altStep
  split
  · exact h
  rename_i hn
  have hn : isNo t=false:=by simpa using hn
  split
  · rename_i hk
    split
    · rename_i i hi
      have hlt:=h.lt hi
      obtain ⟨x,hx,hxk⟩:=(h.1 i).2 hi
      obtain ⟨h1,h2,h3,h4⟩:=h
      have hxm : x ∈ s.1:=List.mem_of_getElem? hx
      have e : s.1.getD i noneT=x:=by rw [List.getD_eq_getElem?_getD,hx];rfl
      simp only [e]
      have hnk : ∀ j y,j ≠ i→s.1[j]?=some y→y.kind ≠ 2:=fun j y hj hy hk'=>hj (by
        have:=(h1 j).1 ⟨y,hy,hk'⟩
        rw [hi] at this;cases this;rfl)
      refine ⟨fun j=>?_,fun u hu=>?_,nodup_set h3 _ _ fun j y hj hy e=>hnk j y hj hy (e ▸ orN_kind x t),fun u hu hk'=>?_⟩
      · rw [List.getElem?_set]
        by_cases hj : i=j
        · subst hj
          rw [if_pos rfl,if_pos hlt]
          simp [orN_kind]
        · rw [if_neg hj,h1 j,hi]
      · rcases List.mem_or_eq_of_mem_set hu with hu | rfl
        · exact h2 u hu
        · exact isNo_or (h4 x hxm hxk).2 ht hk hn
      · rcases List.mem_or_eq_of_mem_set hu with hu | rfl
        · exact h4 u hu hk'
        · exact ⟨clsN_or _ _,okS_or (h4 x hxm hxk).2 ht⟩
    · rename_i hi
      refine altN_snoc h ((isNo_cls t hk).trans hn) (fun u hu e=>?_) (fun _=>⟨clsN_cls t,okS_cls ht⟩) (.inl ⟨clsN_kind t,hi,rfl⟩)
      obtain ⟨j,hj,rfl⟩:=List.getElem_of_mem hu
      have:=(h.1 j).1 ⟨_,List.getElem?_eq_getElem hj,by rw [e];exact clsN_kind t⟩
      rw [hi] at this;cases this
  · rename_i hk
    split
    · exact h
    · rename_i hs
      refine altN_snoc h hn (fun u hu e=>hs ?_) (fun h=>absurd h hk) (.inr ⟨hk,rfl⟩)
      exact List.any_eq_true.2 ⟨u,hu,by rw [e];exact sameT_self t⟩
theorem altF_N (l : List T) (h : ∀ t ∈ flatL 4 l,okS t) : AltN (altF l).1 (altF l).2:=by
  unfold altF
  have key : ∀ (l : List T) (s : List T × Option Nat),AltN s.1 s.2→(∀ t ∈ l,okS t)→AltN (l.foldl altStep s).1 (l.foldl altStep s).2:=by
    intro l
    induction l with
    | nil=>intro s h _;exact h
    | cons t l ih=>intro s h ht;exact ih _ (altStep_N h (ht t (by simp))) (fun u hu=>ht u (by simp [hu]))
  exact key _ _ altN_nil h
theorem altN_fold : ∀ (r l : List T) (q : Option Nat),AltN (l++r) q→∃ q',r.foldl altStep (l,if ∃ j,q=some j∧j < l.length then q else none)=(l++r,q')
  | [],l,q,_=>⟨_,by rw [List.append_nil];rfl⟩
  | t :: r,l,q,h=>by
    have e : l++t :: r=(l++[t])++r:=by simp
    obtain ⟨q',ih⟩:=altN_fold r (l++[t]) q (by rw [← e];exact h)
    refine ⟨q',?_⟩
    rw [List.foldl_cons,e,← ih]
    congr 1
    obtain ⟨h1,h2,h3,h4⟩:=h
    have hm : t ∈ l++t :: r:=by simp
    have hn:=h2 t hm
    unfold altStep
    rw [if_neg (by simp [hn])]
    have hat : (l++t :: r)[l.length]?=some t:=by rw [List.getElem?_append_right (Nat.le_refl _),Nat.sub_self];rfl
    by_cases hk : t.kind=2
    · rw [if_pos hk]
      have hq:=(h1 l.length).1 ⟨t,hat,hk⟩
      rw [if_neg (by rintro ⟨j,hj,hlt⟩;rw [hq] at hj;cases hj;omega)]
      simp only
      rw [(h4 t hm hk).1,if_pos ⟨l.length,hq,by simp⟩,hq]
    · rw [if_neg hk,if_neg]
      · have : (∃ j,q=some j∧j < l.length)↔(∃ j,q=some j∧j < (l++[t]).length):=by
          constructor
          · rintro ⟨j,hj,hlt⟩;exact ⟨j,hj,by simp;omega⟩
          · rintro ⟨j,hj,hlt⟩
            refine ⟨j,hj,?_⟩
            rw [List.length_append] at hlt
            simp only [List.length_cons,List.length_nil] at hlt
            rcases Nat.lt_or_ge j l.length with h | h
            · exact h
            · exfalso
              have : j=l.length:=by omega
              subst this
              obtain ⟨u,hu,huk⟩:=(h1 l.length).2 hj
              rw [hat] at hu;cases hu;exact hk huk
        simp only [this]
      · rw [List.any_eq_true]
        rintro ⟨u,hu,hs⟩
        have:=(sameT_iff u t).1 hs
        subst this
        rw [List.nodup_append] at h3
        exact h3.2.2 u hu u (by simp) rfl
theorem flatL_id {k : Int} : ∀ {l : List T},(∀ u ∈ l,u.kind ≠ k)→flatL k l=l
  | [],_=>rfl
  | t :: l,h=>by
    rw [flatL,flatO,if_neg (h t (by simp)),flatL_id fun u hu=>h u (by simp [hu])];rfl
theorem altF_id {l : List T} {q : Option Nat} (h : AltN l q) (hk : ∀ u ∈ l,u.kind ≠ 4) : (altF l).1=l:=by
  unfold altF
  rw [flatL_id hk]
  obtain ⟨q',e⟩:=altN_fold l [] q h
  rw [if_neg (by rintro ⟨j,_,h⟩;simp at h)] at e
  rw [e];rfl

theorem plainT_34 {k a b c d mn mx : Int} {subs : List T} (hk : k=3 ∨ k=4) (h : plainT (.node k a b c d mn mx subs)=true) : a=0∧b=0∧c=0∧d=0∧mn=0∧mx=0∧2≤subs.length:=by
  rcases hk with rfl | rfl<;>(simp [plainT,isZero] at h;omega)
theorem plainT_50 {a b c d mn mx : Int} {subs : List T} (h : plainT (.node 5 a b c d mn mx subs)=true) : a=0∧b=0∧c=0∧d=0:=by
  simp [plainT,isZero] at h;omega
mutual
theorem simT_id : ∀ t : T,okT t→sfT t→simT t=t
  | .node k a b c d mn mx subs,ho,hs=>by
    have hx:=simL_id subs (okT_subs ho) hs.2
    have hp:=okT_plain ho
    have hf:=hs.1
    simp only [sfN] at hf
    rw [simT,hx]
    by_cases h3 : k=3
    · rw [if_pos h3]
      subst h3
      obtain ⟨h2,hu⟩:=hf.1 rfl
      obtain ⟨rfl,rfl,rfl,rfl,rfl,rfl,_⟩:=plainT_34 (.inl rfl) hp
      have e1 : flatL 3 subs=subs:=flatL_id fun u h=>(hu u h).1
      have e2 : subs.any isNo=false:=by
        rw [List.any_eq_false];intro u h;rw [(hu u h).2.2];simp
      have e3 : subs.filter notE=subs:=by
        rw [List.filter_eq_self];intro u h;simp [notE,(hu u h).2.1]
      unfold catS
      rw [e1,e2,if_neg (by simp),e3,ofT_two h2]
    rw [if_neg h3]
    by_cases h4 : k=4
    · rw [if_pos h4]
      subst h4
      obtain ⟨h2,hu,q,hq⟩:=hf.2.1 rfl
      obtain ⟨rfl,rfl,rfl,rfl,rfl,rfl,_⟩:=plainT_34 (.inr rfl) hp
      unfold altS
      rw [altF_id hq hu,ofT_two h2]
    rw [if_neg h4]
    by_cases h5 : k=5
    · rw [if_pos h5]
      subst h5
      obtain ⟨h0,u,rfl,g1,g2,g3,g4,g5⟩:=hf.2.2 rfl
      obtain ⟨rfl,rfl,rfl,rfl⟩:=plainT_50 hp
      rw [List.headD_cons]
      obtain ⟨k',a',b',c',d',mn',mx',subs'⟩:=u
      simp only [T.kind,T.mn] at g1 g5
      have g4 : ¬ (k'=5∧mn'=0∧mx'=-1):=by
        rintro ⟨rfl,rfl,rfl⟩;simp [isStar,T.kind,T.mn,T.mx] at g4
      rw [repS,if_neg,if_neg,if_neg]
      · rintro ⟨q1,q2,q3,q4,q5⟩;exact g5 ⟨q1,q2,q3,q4,q5⟩
      · rintro (h | h | h)
        · rw [g2] at h;cases h
        · exact g3 h
        · exact g4 h
      · rintro (h | h | h)
        · exact h0 h
        · exact g1 h
        · rw [g2] at h;cases h.1
    · rw [if_neg h5]
theorem simL_id : ∀ l : List T,okL l→sfL l→simL l=l
  | [],_,_=>rfl
  | t :: l,ho,hs=>by
    simp only [okL] at ho
    simp only [sfL] at hs
    rw [simL,simT_id t ho.1 hs.1,simL_id l ho.2 hs.2]
end

theorem sf_flat (k : Int) : ∀ {l : List T},sfL l→sfL (flatL k l)
  | [],_=>trivial
  | t :: l,h=>by
    simp only [sfL] at h
    rw [flatL,sfL_iff]
    intro u hu
    rcases List.mem_append.1 hu with hu | hu
    · unfold flatO at hu
      split at hu
      · exact (sfL_iff _).1 (sfT_subs h.1) u hu
      · rw [List.mem_singleton] at hu;rw [hu];exact h.1
    · exact (sfL_iff _).1 (sf_flat k h.2) u hu
theorem sf3_sub {t u : T} (h : sfT t) (hk : t.kind=3) (hu : u ∈ t.subs) : u.kind ≠ 3∧u.kind ≠ 1∧isNo u=false:=by
  obtain ⟨k,a,b,c,d,mn,mx,subs⟩:=t
  exact (h.1.1 hk).2 u hu
theorem sf4_sub {t u : T} (h : sfT t) (hk : t.kind=4) (hu : u ∈ t.subs) : u.kind ≠ 4:=by
  obtain ⟨k,a,b,c,d,mn,mx,subs⟩:=t
  exact (h.1.2.1 hk).2.1 u hu
theorem flat3_kind : ∀ {l : List T},sfL l→∀ u ∈ flatL 3 l,u.kind ≠ 3
  | [],_,u,h=>by simp [flatL] at h
  | t :: l,h,u,hu=>by
    simp only [sfL] at h
    rw [flatL] at hu
    rcases List.mem_append.1 hu with hu | hu
    · unfold flatO at hu
      split at hu
      · rename_i hk;exact (sf3_sub h.1 hk hu).1
      · rw [List.mem_singleton] at hu;rw [hu];assumption
    · exact flat3_kind h.2 u hu
theorem flat4_kind : ∀ {l : List T},sfL l→∀ u ∈ flatL 4 l,u.kind ≠ 4
  | [],_,u,h=>by simp [flatL] at h
  | t :: l,h,u,hu=>by
    simp only [sfL] at h
    rw [flatL] at hu
    rcases List.mem_append.1 hu with hu | hu
    · unfold flatO at hu
      split at hu
      · rename_i hk;exact sf4_sub h.1 hk hu
      · rw [List.mem_singleton] at hu;rw [hu];assumption
    · exact flat4_kind h.2 u hu
theorem two_of {l : List T} (h1 : l ≠ []) (h2 : ∀ t,l ≠ [t]) : 2≤l.length:=by
  match l with
  | []=>exact absurd rfl h1
  | [t]=>exact absurd rfl (h2 t)
  | _ :: _ :: _=>simp
theorem sf_cat {l : List T} (h : sfL l) : sfT (catS l):=by
  unfold catS
  split
  · exact sf_none
  · rename_i hn
    have hn : (flatL 3 l).any isNo=false:=by simpa using hn
    rw [List.any_eq_false] at hn
    have hs : ∀ u ∈ (flatL 3 l).filter notE,sfT u∧u.kind ≠ 3∧u.kind ≠ 1∧isNo u=false:=by
      intro u hu
      rw [List.mem_filter] at hu
      exact ⟨(sfL_iff _).1 (sf_flat 3 h) u hu.1,flat3_kind h u hu.1,by simpa [notE] using hu.2,by simpa using hn u hu.1⟩
    generalize (flatL 3 l).filter notE=r at hs
    unfold ofT
    split
    · exact sf_empty
    · rename_i u;exact (hs u (by simp)).1
    · rename_i h1 h2
      refine ⟨⟨fun _=>⟨two_of h1 h2,fun u hu=>(hs u hu).2⟩,fun h=>absurd h (by omega),fun h=>absurd h (by omega)⟩,(sfL_iff _).2 fun u hu=>(hs u hu).1⟩
theorem altStep_mem {P : T→Prop} (hc : ∀ t,t.kind=2→P (clsN t)) (ho : ∀ t u,P (orN t u)) {s : List T × Option Nat} {t : T} (h : ∀ u ∈ s.1,P u) (ht : P t) : ∀ u ∈ (altStep s t).1,P u:=by
  unfold altStep
  split
  · exact h
  split
  · rename_i hk
    split
    · intro u hu
      rcases List.mem_or_eq_of_mem_set hu with hu | rfl
      · exact h u hu
      · exact ho _ _
    · intro u hu
      rcases List.mem_append.1 hu with hu | hu
      · exact h u hu
      · rw [List.mem_singleton] at hu;rw [hu];exact hc t hk
  · split
    · exact h
    · intro u hu
      rcases List.mem_append.1 hu with hu | hu
      · exact h u hu
      · rw [List.mem_singleton] at hu;rw [hu];exact ht
theorem altF_mem {P : T→Prop} (hc : ∀ t,t.kind=2→P (clsN t)) (ho : ∀ t u,P (orN t u)) {l : List T} (h : ∀ u ∈ flatL 4 l,P u) : ∀ u ∈ (altF l).1,P u:=by
  unfold altF
  have key : ∀ (l : List T) (s : List T × Option Nat),(∀ u ∈ s.1,P u)→(∀ t ∈ l,P t)→∀ u ∈ (l.foldl altStep s).1,P u:=by
    intro l
    induction l with
    | nil=>intro s h _;exact h
    | cons t l ih=>intro s h ht;exact ih _ (altStep_mem hc ho h (ht t (by simp))) (fun u hu=>ht u (by simp [hu]))
  exact key _ _ (by simp) h
theorem sf_cls (t : T) : sfT (clsN t):=by cases t;exact sf_leaf (by omega) (by omega) (by omega)
theorem sf_or (t u : T) : sfT (orN t u):=by cases t;cases u;exact sf_leaf (by omega) (by omega) (by omega)
theorem sf_alt {l : List T} (h : sfL l) (ho : okL l) : sfT (altS l):=by
  unfold altS
  have hok : ∀ t ∈ flatL 4 l,okS t:=fun t ht=>okT_S ((okL_iff _).1 (okL_flat 4 ho) t ht)
  have hN:=altF_N l hok
  have hs : ∀ u ∈ (altF l).1,sfT u∧u.kind ≠ 4:=altF_mem (fun t _=>⟨sf_cls t,by rw [clsN_kind];omega⟩) (fun t u=>⟨sf_or t u,by rw [orN_kind];omega⟩) fun u hu=>⟨(sfL_iff _).1 (sf_flat 4 h) u hu,flat4_kind h u hu⟩
  generalize (altF l).2=q at hN
  generalize (altF l).1=r at hN hs
  unfold ofT
  split
  · exact sf_none
  · rename_i u;exact (hs u (by simp)).1
  · rename_i h1 h2
    refine ⟨⟨fun h=>absurd h (by omega),fun _=>⟨two_of h1 h2,fun u hu=>(hs u hu).2,q,hN⟩,fun h=>absurd h (by omega)⟩,(sfL_iff _).2 fun u hu=>(hs u hu).1⟩
theorem sf_rep : ∀ (t : T) (lo hi : Int),okT t→sfT t→sfT (repS t lo hi)
  | .node k a b c d mn mx subs,lo,hi,ho,hs=>by
    rw [repS]
    split
    · exact sf_empty
    rename_i h1
    split
    · exact hs
    rename_i h2
    have hk : ∀ (hsub : ¬ (lo=0∧hi=-1∧k=5∧mn≤1∧0≤mn)),sfT (.node 5 0 0 0 0 lo hi [.node k a b c d mn mx subs]):=by
      intro h3
      refine ⟨⟨fun h=>absurd h (by omega),fun h=>absurd h (by omega),fun _=>⟨fun h=>h1 (.inl h),_,rfl,fun h=>h1 (.inr (.inl h)),?_,fun h=>h2 (.inr (.inl h)),?_,fun h=>h3 ⟨h.1,h.2.1,h.2.2.1,h.2.2.2.1,h.2.2.2.2⟩⟩⟩,hs,trivial⟩
      · cases e : isNo (.node k a b c d mn mx subs) with
        | false=>rfl
        | true=>exact absurd (.inl e) h2
      · cases e : isStar (.node k a b c d mn mx subs) with
        | false=>rfl
        | true =>
          simp [isStar,T.kind,T.mn,T.mx] at e
          exact absurd (.inr (.inr ⟨e.1.1,e.1.2,e.2⟩)) h2
    split
    · rename_i h3
      obtain ⟨_,_,rfl,_,_⟩:=h3
      obtain ⟨u,rfl⟩:=plainT_5 (okT_plain ho)
      rw [repF_one]
      exact sf_rep u 0 (-1) (okT_subs ho).1 hs.2.1
    · rename_i h3
      exact hk h3
theorem okT_noneT : okT noneT:=okT_mk (by simp [plainT]) trivial
theorem okT_emptyT : okT emptyT:=okT_empty
theorem okT_of {k : Int} (hk : k=3 ∨ k=4) {l : List T} {e : T} (h : okL l) (he : okT e) : okT (ofT k l e):=by
  unfold ofT
  split
  · exact he
  · exact h.1
  · rename_i h1 h2
    refine okT_mk ?_ h
    have:=two_of h1 h2
    rcases hk with rfl | rfl<;>simp [plainT,isZero,this]
theorem okT_cat {l : List T} (h : okL l) : okT (catS l):=by
  unfold catS
  split
  · exact okT_noneT
  · refine okT_of (.inl rfl) ?_ okT_emptyT
    rw [okL_iff]
    intro u hu
    rw [List.mem_filter] at hu
    exact (okL_iff _).1 (okL_flat 3 h) u hu.1
theorem okT_clsS {t : T} (h : okS t) : okT (clsN t):=by
  obtain ⟨k,a,b,c,d,mn,mx,subs⟩:=t
  exact ⟨⟨h.1,h.2.1,h.2.2.1,h.2.2.2,by simp [plainT]⟩,trivial⟩
theorem okT_orS {t u : T} (h1 : okS t) (h2 : okS u) : okT (orN t u):=by
  have:=okT_clsS (okS_or h1 h2)
  rwa [clsN_or] at this
theorem okT_alt {l : List T} (h : okL l) : okT (altS l):=by
  have hok : ∀ t ∈ flatL 4 l,okT t:=(okL_iff _).1 (okL_flat 4 h)
  unfold altS
  refine okT_of (.inr rfl) ?_ okT_noneT
  unfold altF
  have key : ∀ (l : List T) (s : List T × Option Nat),(∀ u ∈ s.1,okT u)→(∀ t ∈ l,okT t)→∀ u ∈ (l.foldl altStep s).1,okT u:=by
    intro l
    induction l with
    | nil=>intro s h _;exact h
    | cons t l ih =>
      intro s h ht
      refine ih _ ?_ (fun u hu=>ht u (by simp [hu]))
      have htt:=ht t (by simp)
      unfold altStep
      split
      · exact h
      split
      · split
        · intro u hu
          rcases List.mem_or_eq_of_mem_set hu with hu | rfl
          · exact h u hu
          · refine okT_orS ?_ (okT_S htt)
            rw [List.getD_eq_getElem?_getD]
            cases e : s.1[‹Nat›]? with
            | none=>exact okT_S okT_noneT
            | some x=>exact okT_S (h x (List.mem_of_getElem? e))
        · intro u hu
          rcases List.mem_append.1 hu with hu | hu
          · exact h u hu
          · rw [List.mem_singleton] at hu;rw [hu];exact okT_clsS (okT_S htt)
      · split
        · exact h
        · intro u hu
          rcases List.mem_append.1 hu with hu | hu
          · exact h u hu
          · rw [List.mem_singleton] at hu;rw [hu];exact htt
  rw [okL_iff]
  exact key _ _ (by simp) hok
theorem okT_rep : ∀ (t : T) (lo hi : Int),okT t→((0≤lo∧lo≤20)∧(hi=-1 ∨ (lo≤hi∧hi≤20)))→okT (repS t lo hi)
  | .node k a b c d mn mx subs,lo,hi,ho,hr=>by
    rw [repS]
    split
    · exact okT_emptyT
    split
    · exact ho
    have hk : okT (.node 5 0 0 0 0 lo hi [.node k a b c d mn mx subs]):=okT_mk (by simp [plainT,isZero];omega) ⟨ho,trivial⟩
    split
    · rename_i h3
      obtain ⟨_,_,rfl,_,_⟩:=h3
      obtain ⟨u,rfl⟩:=plainT_5 (okT_plain ho)
      rw [repF_one]
      exact okT_rep u 0 (-1) (okT_subs ho).1 (by omega)
    · exact hk
mutual
theorem simT_ok : ∀ t : T,okT t→okT (simT t)
  | .node k a b c d mn mx subs,ho=>by
    have hx:=simL_ok subs (okT_subs ho)
    have hp:=okT_plain ho
    have hR:=okT_R ho
    rw [simT]
    split
    · exact okT_cat hx
    split
    · exact okT_alt hx
    split
    · rename_i h5
      subst h5
      obtain ⟨u,rfl⟩:=plainT_5 hp
      simp only [simL,List.headD_cons] at hx ⊢
      exact okT_rep _ _ _ hx.1 (hR rfl)
    · exact ho
theorem simL_ok : ∀ l : List T,okL l→okL (simL l)
  | [],_=>trivial
  | t :: l,ho=>by
    simp only [okL] at ho
    exact ⟨simT_ok t ho.1,simL_ok l ho.2⟩
end
mutual
theorem simT_sf : ∀ t : T,okT t→sfT (simT t)
  | .node k a b c d mn mx subs,ho=>by
    have hx:=simL_sf subs (okT_subs ho)
    have hxo:=simL_ok subs (okT_subs ho)
    have hp:=okT_plain ho
    rw [simT]
    split
    · exact sf_cat hx
    split
    · exact sf_alt hx hxo
    split
    · rename_i h5
      subst h5
      obtain ⟨u,rfl⟩:=plainT_5 hp
      simp only [simL,List.headD_cons] at hx hxo ⊢
      exact sf_rep _ _ _ hxo.1 hx.1
    · rename_i h3 h4 h5
      have hz : subs=[]:=by
        have:=(plainT_kind hp).1
        exact plainT_leaf (by omega) hp
      subst hz
      exact sf_leaf h3 h4 h5
theorem simL_sf : ∀ l : List T,okL l→sfL (simL l)
  | [],_=>trivial
  | t :: l,ho=>by
    simp only [okL] at ho
    exact ⟨simT_sf t ho.1,simL_sf l ho.2⟩
end
theorem simT_again (t : T) (h : okT t) : simT (simT t)=simT t:=simT_id _ (simT_ok t h) (simT_sf t h)
end Go.Sv
namespace Go.Sv
open Go
theorem powL_nil : ∀ (r : Nat) (w : List Nat),powL (fun w=>w=[]) r w↔w=[]
  | 0,w=>Iff.rfl
  | r + 1,w=>by
    simp only [powL,powL_nil r]
    constructor
    · rintro ⟨u,v,rfl,rfl,rfl⟩;rfl
    · rintro rfl;exact ⟨[],[],rfl,rfl,rfl⟩
theorem powL_no {P : List Nat→Prop} (h : ∀ w,¬ P w) {r : Nat} (hr : 0 < r) (w : List Nat) : ¬ powL P r w:=by
  cases r with
  | zero=>omega
  | succ r=>rintro ⟨u,v,_,h1,_⟩;exact h u h1
theorem powL_one (P : List Nat→Prop) (w : List Nat) : powL P 1 w↔P w:=by
  simp only [powL]
  constructor
  · rintro ⟨u,v,rfl,h,rfl⟩;simpa using h
  · intro h;exact ⟨w,[],by simp,h,rfl⟩
theorem powL_mono {P Q : List Nat→Prop} (h : ∀ w,P w→Q w) : ∀ (r : Nat) (w : List Nat),powL P r w→powL Q r w
  | 0,_,hw=>hw
  | r + 1,_,⟨u,v,e,h1,h2⟩=>⟨u,v,e,h u h1,powL_mono h r v h2⟩
theorem powL_pow {P Q : List Nat→Prop} (h : ∀ w,Q w→∃ j,powL P j w) : ∀ (r : Nat) (w : List Nat),powL Q r w→∃ j,powL P j w
  | 0,_,hw=>⟨0,hw⟩
  | r + 1,_,⟨u,v,e,h1,h2⟩=>by
    obtain ⟨i,hi⟩:=h u h1
    obtain ⟨j,hj⟩:=powL_pow h r v h2
    exact ⟨i + j,(powL_add P i j _).2 ⟨u,v,e,hi,hj⟩⟩
theorem repS_L : ∀ (t : T) (lo hi : Int),okT t→sfT t→0≤lo→(hi=-1 ∨ lo≤hi)→∀ w,L (repS t lo hi) w↔∃ r : Nat,lo≤r∧(hi < 0 ∨ (r : Int)≤hi)∧powL (L t) r w
  | .node k a b c d mn mx subs,lo,hi,ho,hs,h0,hh,w=>by
    rw [repS]
    obtain ⟨m,rfl⟩:=Int.eq_ofNat_of_zero_le h0
    split
    · rename_i h1
      rw [L_emptyT]
      rcases h1 with rfl | rfl | ⟨h1,h2⟩
      · constructor
        · rintro rfl;exact ⟨0,by omega,by omega,rfl⟩
        · rintro ⟨r,_,h,h2⟩
          have : r=0:=by omega
          subst this;exact h2
      · simp only [powL_congr (fun w=>(L_k1 (a:=a) (b:=b) (c:=c) (d:=d) (mn:=mn) (mx:=mx) (subs:=subs) (w:=w))),powL_nil]
        constructor
        · intro h;exact ⟨m,by omega,by omega,h⟩
        · rintro ⟨_,_,_,h⟩;exact h
      · constructor
        · rintro rfl;exact ⟨0,by omega,by omega,rfl⟩
        · rintro ⟨r,_,_,h⟩
          cases r with
          | zero=>exact h
          | succ r=>exact absurd h (powL_no (isNo_L h1) (by omega) w)
    rename_i h1
    split
    · rename_i h2
      rcases h2 with h2 | ⟨h2,h3⟩ | ⟨rfl,rfl,rfl⟩
      · have hm : 0 < m:=by
          rcases Nat.eq_zero_or_pos m with h | h
          · exact absurd (.inr (.inr ⟨h2,by omega⟩)) h1
          · exact h
        constructor
        · intro h;exact absurd h (isNo_L h2 w)
        · rintro ⟨r,h3,_,h⟩;exact absurd h (powL_no (isNo_L h2) (by omega) w)
      · have hm : m=1:=by omega
        subst hm h3
        constructor
        · intro h;exact ⟨1,by omega,by omega,(powL_one _ w).2 h⟩
        · rintro ⟨r,h3,h4,h⟩
          have : r=1:=by omega
          subst this;exact (powL_one _ w).1 h
      · have hL : ∀ w,L (.node 5 a b c d 0 (-1) subs) w↔∃ r : Nat,powL (fstL subs) r w:=fun w=>by
          rw [L_k5]
          constructor
          · rintro ⟨r,_,_,h⟩;exact ⟨r,h⟩
          · rintro ⟨r,h⟩;exact ⟨r,by omega,.inl (by omega),h⟩
        constructor
        · intro h
          rcases Nat.eq_zero_or_pos m with hm | hm
          · refine ⟨1,by omega,?_,(powL_one _ w).2 h⟩
            have : hi ≠ 0:=fun e=>h1 (.inl e)
            omega
          · obtain ⟨q,rfl⟩ : ∃ q,m=q + 1:=⟨m - 1,by omega⟩
            refine ⟨q + 1,by omega,by omega,w,[],by simp,h,?_⟩
            refine powL_mono (P:=fun w=>w=[]) ?_ q [] ((powL_nil q []).2 rfl)
            rintro w rfl
            exact (hL []).2 ⟨0,rfl⟩
        · rintro ⟨r,_,_,h⟩
          exact (hL w).2 (powL_pow (fun w hw=>(hL w).1 hw) r w h)
    rename_i h2
    have hk : L (.node 5 0 0 0 0 (m : Int) hi [.node k a b c d mn mx subs]) w↔∃ r : Nat,(m : Int)≤r∧(hi < 0 ∨ (r : Int)≤hi)∧powL (L (.node k a b c d mn mx subs)) r w:=by
      rw [L_k5]
      have : ∀ w,fstL [.node k a b c d mn mx subs] w↔L (.node k a b c d mn mx subs) w:=fun w=>by rw [fstL]
      simp only [powL_congr this]
    split
    · rename_i h3
      obtain ⟨e0,rfl,rfl,h4,h5⟩:=h3
      have e0 : m=0:=by omega
      subst e0
      obtain ⟨u,rfl⟩:=plainT_5 (okT_plain ho)
      obtain ⟨hm0,_⟩:=hs.1.2.2 rfl
      have hR:=okT_R ho rfl
      rw [repF_one,repS_L u 0 (-1) (okT_subs ho).1 hs.2.1 (by omega) (by omega) w]
      constructor
      · rintro ⟨r,_,_,h⟩
        refine ⟨r,by omega,by omega,powL_mono (fun w hw=>?_) r w h⟩
        rw [L_k5]
        exact ⟨1,by omega,by omega,(powL_one _ w).2 (by rw [fstL];exact hw)⟩
      · rintro ⟨r,_,_,h⟩
        obtain ⟨j,hj⟩:=powL_pow (P:=L u) (fun w hw=>by
          rw [L_k5] at hw
          obtain ⟨j,_,_,h⟩:=hw
          exact ⟨j,powL_mono (fun w hw=>by rwa [fstL] at hw) j w h⟩) r w h
        exact ⟨j,by omega,by omega,hj⟩
    · exact hk
mutual
theorem simT_L : ∀ (t : T),okT t→∀ w,L (simT t) w↔L t w
  | .node k a b c d mn mx subs,ho,w=>by
    have hx:=simL_L subs (okT_subs ho)
    have hxo:=simL_ok subs (okT_subs ho)
    have hxs:=simL_sf subs (okT_subs ho)
    have hp:=okT_plain ho
    have hR:=okT_R ho
    rw [simT]
    split
    · rename_i h;subst h
      rw [catS_L,L_k3];exact hx.1 w
    split
    · rename_i h;subst h
      rw [altS_L _ (fun t ht=>okT_S ((okL_iff _).1 (okL_flat 4 hxo) t ht)),L_k4];exact hx.2.1 w
    split
    · rename_i h5
      subst h5
      obtain ⟨u,rfl⟩:=plainT_5 hp
      simp only [simL,List.headD_cons] at hx hxo hxs ⊢
      have hr:=hR rfl
      rw [repS_L _ _ _ hxo.1 hxs.1 (by omega) (by omega),L_k5]
      have hu : ∀ w,L (simT u) w↔fstL [u] w:=fun w=>hx.2.2 w
      simp only [powL_congr hu]
    · exact Iff.rfl
theorem simL_L : ∀ (l : List T),okL l→(∀ w,catL (simL l) w↔catL l w)∧(∀ w,altL (simL l) w↔altL l w)∧(∀ w,fstL (simL l) w↔fstL l w)
  | [],_=>⟨fun _=>Iff.rfl,fun _=>Iff.rfl,fun _=>Iff.rfl⟩
  | t :: l,h=>by
    simp only [okL] at h
    have h1:=simT_L t h.1
    have h2:=simL_L l h.2
    refine ⟨fun w=>?_,fun w=>?_,fun w=>?_⟩
    · simp only [simL,catL,h1,h2.1]
    · simp only [simL,altL,h1,h2.2.1]
    · simp only [simL,fstL,h1]
end

theorem cntL_filter (p : T→Bool) : ∀ l : List T,cntL (l.filter p)≤cntL l
  | []=>Nat.le_refl _
  | t :: l=>by
    have:=cntL_filter p l
    rw [List.filter_cons]
    split<;>(simp only [cntL];omega)
theorem cntL_flat (k : Int) : ∀ l : List T,cntL (flatL k l)≤cntL l
  | []=>Nat.le_refl _
  | t :: l=>by
    have:=cntL_flat k l
    rw [flatL,cntL_app,cntL]
    have : cntL (flatO k t)≤t.cnt:=by
      unfold flatO
      split
      · cases t;simp [T.subs,T.cnt]
      · simp [cntL]
    omega
theorem cnt_of (k : Int) (l : List T) (e : T) (h : e.cnt=1) : (ofT k l e).cnt≤1 + cntL l:=by
  unfold ofT
  split
  · omega
  · simp [cntL]
  · rw [T.cnt];exact Nat.le_refl _
theorem cnt_cat (l : List T) : (catS l).cnt≤1 + cntL l:=by
  unfold catS
  split
  · simp [noneT,T.cnt,cntL]
  · have:=cnt_of 3 ((flatL 3 l).filter notE) emptyT rfl
    have:=cntL_filter notE (flatL 3 l)
    have:=cntL_flat 3 l
    omega
theorem cntL_set : ∀ (l : List T) (i : Nat) (u : T),u.cnt=1→cntL (l.set i u)≤cntL l
  | [],_,_,_=>by simp
  | t :: l,0,u,h=>by
    have:=cnt_pos t
    simp only [List.set_cons_zero,cntL];omega
  | t :: l,i + 1,u,h=>by
    have:=cntL_set l i u h
    simp only [List.set_cons_succ,cntL];omega
theorem cnt_cls (t : T) : (clsN t).cnt=1:=by cases t;rfl
theorem cnt_or (t u : T) : (orN t u).cnt=1:=by cases t;cases u;rfl
theorem cnt_step (s : List T × Option Nat) (t : T) : cntL (altStep s t).1≤cntL s.1 + t.cnt:=by
  have:=cnt_pos t
  unfold altStep
  split
  · omega
  split
  · split
    · have:=cntL_set s.1 ‹Nat› _ (cnt_or (s.1.getD ‹Nat› noneT) t)
      simp only;omega
    · simp only [cntL_app,cntL,cnt_cls];omega
  · split
    · omega
    · simp only [cntL_app,cntL];omega
theorem cnt_alt (l : List T) : (altS l).cnt≤1 + cntL l:=by
  unfold altS
  have h1:=cnt_of 4 (altF l).1 noneT rfl
  have h2:=cntL_flat 4 l
  have key : ∀ (l : List T) (s : List T × Option Nat),cntL (l.foldl altStep s).1≤cntL s.1 + cntL l:=by
    intro l
    induction l with
    | nil=>intro s;simp [cntL]
    | cons t l ih =>
      intro s
      have h1:=ih (altStep s t)
      have h2:=cnt_step s t
      rw [List.foldl_cons,cntL];omega
  have h3:=key (flatL 4 l) ([],none)
  simp only [cntL] at h3
  unfold altF at *
  omega
mutual
theorem cnt_rep : ∀ (t : T) (lo hi : Int),(repS t lo hi).cnt≤1 + t.cnt
  | .node k a b c d mn mx subs,lo,hi=>by
    have h:=cnt_repF subs (.node k a b c d mn mx subs) (by rw [T.cnt];omega)
    rw [repS]
    split
    · simp [emptyT,T.cnt,cntL]
    split
    · omega
    split
    · exact h
    · rw [T.cnt,cntL,cntL];omega
theorem cnt_repF : ∀ (l : List T) (t : T),cntL l≤t.cnt→(repF l t).cnt≤1 + t.cnt
  | [],t,_=>by rw [repF,T.cnt,cntL,cntL];omega
  | u :: l,t,h=>by
    have h1:=cnt_rep u 0 (-1)
    rw [cntL] at h
    rw [repF]
    split
    · omega
    · rw [T.cnt,cntL,cntL];omega
end
mutual
theorem simT_cnt : ∀ t : T,okT t→(simT t).cnt≤t.cnt
  | .node k a b c d mn mx subs,ho=>by
    have hx:=simL_cnt subs (okT_subs ho)
    have hp:=okT_plain ho
    rw [simT,T.cnt]
    split
    · have:=cnt_cat (simL subs);omega
    split
    · have:=cnt_alt (simL subs);omega
    split
    · rename_i h5
      subst h5
      obtain ⟨u,rfl⟩:=plainT_5 hp
      simp only [simL,List.headD_cons,cntL] at hx ⊢
      have:=cnt_rep (simT u) mn mx
      omega
    · rw [T.cnt];exact Nat.le_refl _
theorem simL_cnt : ∀ l : List T,okL l→cntL (simL l)≤cntL l
  | [],_=>Nat.le_refl _
  | t :: l,ho=>by
    simp only [okL] at ho
    have:=simT_cnt t ho.1
    have:=simL_cnt l ho.2
    rw [simL,cntL,cntL];omega
end

def ob (k : Int) (t : T) : Int:=openT t + if roundG k t.kind=true then 1 else 0
mutual
theorem open_nonneg : ∀ t : T,okT t→0≤openT t
  | .node k a b c d mn mx subs,h=>by
    rw [openT,if_pos (okT_plain h)]
    exact openL_nonneg k subs (okT_subs h) 0 (Int.le_refl _)
theorem openL_nonneg (k : Int) : ∀ l : List T,okL l→∀ m : Int,0≤m→0≤openL k l m
  | [],_,m,h=>h
  | t :: l,ho,m,h=>by
    simp only [okL] at ho
    have:=open_nonneg t ho.1
    rw [openL,if_neg (by omega)]
    exact openL_nonneg k l ho.2 _ (by omega)
end
theorem openL_le (k : Int) : ∀ (l : List T),okL l→∀ (m B : Int),openL k l m≤B↔m≤B∧∀ u ∈ l,ob k u≤B
  | [],_,m,B=>by simp [openL]
  | t :: l,ho,m,B=>by
    simp only [okL] at ho
    have:=open_nonneg t ho.1
    rw [openL,if_neg (by omega),openL_le k l ho.2]
    have e : (if roundG k t.kind=true then openT t + 1 else openT t)=ob k t:=by
      unfold ob;split<;>omega
    rw [e]
    simp only [List.mem_cons,forall_eq_or_imp]
    constructor
    · rintro ⟨h1,h2⟩;exact ⟨by omega,by omega,h2⟩
    · rintro ⟨h1,h2,h3⟩;exact ⟨by omega,h3⟩
theorem openT_le {t : T} (h : okT t) (B : Int) : openT t≤B↔0≤B∧∀ u ∈ t.subs,ob t.kind u≤B:=by
  obtain ⟨k,a,b,c,d,mn,mx,subs⟩:=t
  rw [openT,if_pos (okT_plain h)]
  exact openL_le k subs (okT_subs h) 0 B
theorem ob_le (k : Int) (t : T) : openT t≤ob k t∧ob k t≤openT t + 1:=by
  unfold ob;split<;>omega
theorem ob_5 {k : Int} (hk : k=3 ∨ k=4) (t : T) : ob k t≤ob 5 t:=by
  unfold ob
  have : roundG k t.kind=true→roundG 5 t.kind=true:=by
    rcases hk with rfl | rfl<;>(simp [roundG];omega)
  by_cases h : roundG k t.kind=true
  · rw [if_pos h,if_pos (this h)];exact Int.le_refl _
  · rw [if_neg h];split<;>omega
theorem open_empty : openT emptyT=0:=by simp [emptyT,openT,plainT,isZero,openL]
theorem open_none : openT noneT=0:=by simp [noneT,openT,plainT,openL]
theorem ob_none4 : ob 4 noneT=0:=by unfold ob;rw [open_none];simp [roundG,noneT,T.kind]
theorem ob_empty4 : ob 4 emptyT=0:=by unfold ob;rw [open_empty];simp [roundG,emptyT,T.kind]
theorem open_leaf2 {t : T} (h : t.kind=2) (ho : okT t) : openT t=0:=by
  obtain ⟨k,a,b,c,d,mn,mx,subs⟩:=t
  simp only [T.kind] at h
  subst h
  have hp:=okT_plain ho
  have hz : subs=[]:=plainT_leaf (.inr rfl) hp
  subst hz
  rw [openT,if_pos hp,openL]
theorem openL_ofB {k : Int} (hk : k=3 ∨ k=4) {l : List T} (hl : okL l) {e : T} (he : openT e=0) {B : Int} (h0 : 0≤B) (h : ∀ u ∈ l,ob k u≤B) : openT (ofT k l e)≤B:=by
  have hok:=hl
  unfold ofT
  split
  · omega
  · rename_i u;have:=h u (by simp);have:=(ob_le k u).1;omega
  · rename_i h1 h2
    have hk' : okT (.node k 0 0 0 0 0 0 l):=by
      have:=okT_of (e:=emptyT) hk hl okT_emptyT
      rwa [ofT_two (two_of h1 h2)] at this
    exact (openT_le hk' B).2 ⟨h0,h⟩
theorem cat_open {l : List T} (ho : okL l) {B : Int} (h0 : 0≤B) (h : ∀ v ∈ l,ob 3 v≤B ∨ v.kind=1) : (∀ u ∈ (flatL 3 l).filter notE,ob 3 u≤B)∧openT (catS l)≤B∧ob 4 (catS l)≤B:=by
  have hf : ∀ u ∈ flatL 3 l,ob 3 u≤B ∨ u.kind=1:=by
    clear h0
    induction l with
    | nil=>intro u hu;simp [flatL] at hu
    | cons t l ih =>
      simp only [okL] at ho
      intro u hu
      rw [flatL] at hu
      rcases List.mem_append.1 hu with hu | hu
      · unfold flatO at hu
        split at hu
        · rename_i hk
          have ht:=h t (by simp)
          have hh:=((openT_le ho.1 (openT t)).1 (Int.le_refl _)).2 u hu
          rw [hk] at hh
          rcases ht with ht | ht
          · have:=(ob_le 3 t).1;left;omega
          · omega
        · rw [List.mem_singleton] at hu;rw [hu];exact h t (by simp)
      · exact ih ho.2 (fun v hv=>h v (by simp [hv])) u hu
  have hg : ∀ u ∈ (flatL 3 l).filter notE,ob 3 u≤B:=by
    intro u hu
    rw [List.mem_filter] at hu
    rcases hf u hu.1 with h | h
    · exact h
    · simp [notE,h] at hu
  have hok : okL ((flatL 3 l).filter notE):=by
    rw [okL_iff]
    intro u hu
    rw [List.mem_filter] at hu
    exact (okL_iff _).1 (okL_flat 3 ho) u hu.1
  refine ⟨hg,?_,?_⟩
  · unfold catS
    split
    · rw [open_none];exact h0
    · exact openL_ofB (.inl rfl) hok open_empty h0 hg
  · unfold catS
    split
    · rw [ob_none4];exact h0
    · have hp:=openL_ofB (.inl rfl) hok open_empty h0 hg
      generalize (flatL 3 l).filter notE=r at hg hp
      match r,hg,hp with
      | [],_,_=>exact (show ob 4 emptyT≤B by rw [ob_empty4];exact h0)
      | [u],hg,_ =>
        show ob 4 u≤B
        have:=hg u (by simp)
        unfold ob at *
        by_cases h4 : u.kind=4
        · simp [h4,roundG] at this ⊢;exact this
        · have h5 : roundG 4 u.kind=false:=by simp [roundG,h4]
          rw [if_neg (by simp [h5])]
          split at this<;>omega
      | x :: y :: z,_,hp =>
        have e : ofT 3 (x :: y :: z) emptyT=.node 3 0 0 0 0 0 0 (x :: y :: z):=rfl
        rw [e] at hp ⊢
        unfold ob
        rw [if_neg (by simp [roundG,T.kind])]
        omega
theorem alt_open {l : List T} (ho : okL l) {B : Int} (h0 : 0≤B) (h : ∀ v ∈ l,ob 4 v≤B) : openT (altS l)≤B:=by
  have hf : ∀ u ∈ flatL 4 l,ob 4 u≤B:=by
    clear h0
    induction l with
    | nil=>intro u hu;simp [flatL] at hu
    | cons t l ih =>
      simp only [okL] at ho
      intro u hu
      rw [flatL] at hu
      rcases List.mem_append.1 hu with hu | hu
      · unfold flatO at hu
        split at hu
        · rename_i hk
          have ht:=h t (by simp)
          have hh:=((openT_le ho.1 (openT t)).1 (Int.le_refl _)).2 u hu
          rw [hk] at hh
          have:=(ob_le 4 t).1;omega
        · rw [List.mem_singleton] at hu;rw [hu];exact h t (by simp)
      · exact ih ho.2 (fun v hv=>h v (by simp [hv])) u hu
  have hokA : okL (altF l).1:=by
    have:=okT_alt ho
    unfold altS at this
    rw [okL_iff]
    intro u hu
    unfold ofT at this
    split at this
    · rename_i e;rw [e] at hu;simp at hu
    · rename_i x e;rw [e,List.mem_singleton] at hu;rw [hu];exact this
    · exact (okL_iff _).1 (okT_subs this) u hu
  have hg : ∀ u ∈ (altF l).1,ob 4 u≤B ∨ u.kind=2:=altF_mem (fun t _=>.inr (clsN_kind t)) (fun t u=>.inr (orN_kind t u)) fun u hu=>.inl (hf u hu)
  unfold altS
  refine openL_ofB (.inr rfl) hokA open_none h0 fun u hu=>?_
  rcases hg u hu with h | h
  · exact h
  · have:=open_leaf2 h ((okL_iff _).1 hokA u hu)
    unfold ob
    rw [this,h]
    simp [roundG,h0]
theorem rep_open : ∀ (t : T) (lo hi : Int),okT t→((0≤lo∧lo≤20)∧(hi=-1 ∨ (lo≤hi∧hi≤20)))→∀ {B : Int},0≤B→ob 5 t≤B→openT (repS t lo hi)≤B∧∀ k,k=3 ∨ k=4→ob k (repS t lo hi)≤B ∨ (k=3∧(repS t lo hi).kind=1)
  | .node k a b c d mn mx subs,lo,hi,ho,hr,B,h0,h=>by
    rw [repS]
    split
    · refine ⟨by rw [open_empty];exact h0,?_⟩
      rintro k (rfl | rfl)
      · exact .inr ⟨rfl,rfl⟩
      · left;rw [ob_empty4];exact h0
    split
    · have h1:=(ob_le 5 (.node k a b c d mn mx subs)).1
      refine ⟨by omega,fun k' hk=>.inl ?_⟩
      have:=ob_5 hk (.node k a b c d mn mx subs)
      omega
    have hk : openT (.node 5 0 0 0 0 lo hi [.node k a b c d mn mx subs])≤B∧∀ k',k'=3 ∨ k'=4→ob k' (.node 5 0 0 0 0 lo hi [.node k a b c d mn mx subs])≤B ∨ (k'=3∧(T.node 5 0 0 0 0 lo hi [.node k a b c d mn mx subs]).kind=1):=by
      have hok : okT (.node 5 0 0 0 0 lo hi [.node k a b c d mn mx subs]):=okT_mk (by simp [plainT,isZero];omega) ⟨ho,trivial⟩
      have h1:=(openT_le hok B).2 ⟨h0,fun u hu=>by simp only [T.subs,List.mem_singleton] at hu;rw [hu];exact h⟩
      refine ⟨h1,fun k' hk'=>.inl ?_⟩
      unfold ob
      rw [if_neg (by rcases hk' with rfl | rfl<;>simp [roundG,T.kind])]
      omega
    split
    · rename_i h3
      obtain ⟨_,_,rfl,_,_⟩:=h3
      obtain ⟨u,rfl⟩:=plainT_5 (okT_plain ho)
      have h1:=(ob_le 5 (.node 5 a b c d mn mx [u])).1
      have h2:=((openT_le ho _).1 (Int.le_refl _)).2 u (by simp [T.subs])
      rw [repF_one]
      exact rep_open u 0 (-1) (okT_subs ho).1 (by omega) h0 (Int.le_trans h2 (by omega))
    · exact hk
mutual
theorem simT_open : ∀ t : T,okT t→openT (simT t)≤openT t∧∀ k,k=3 ∨ k=4 ∨ k=5→ob k (simT t)≤ob k t ∨ (k=3∧(simT t).kind=1)
  | .node k a b c d mn mx subs,ho=>by
    have hx:=simL_open subs (okT_subs ho)
    have hxo:=simL_ok subs (okT_subs ho)
    have hp:=okT_plain ho
    have hR:=okT_R ho
    have hself:=(openT_le ho _).1 (Int.le_refl _)
    simp only [T.subs,T.kind] at hself
    have hob : ∀ k',ob k' (.node k a b c d mn mx subs)=openT (.node k a b c d mn mx subs) + if roundG k' k=true then 1 else 0:=fun _=>rfl
    generalize openT (.node k a b c d mn mx subs)=B at hself hob
    rw [simT]
    split
    · rename_i h;subst h
      obtain ⟨_,h2,h3⟩:=cat_open hxo (B:=B) hself.1 (fun v hv=>by
        rw [simL_map,List.mem_map] at hv
        obtain ⟨u,hu,rfl⟩:=hv
        have h1:=hself.2 u hu
        rcases (hx u hu).2 3 (.inl rfl) with h | h
        · left;omega
        · exact .inr h.2)
      refine ⟨h2,fun k' hk=>.inl ?_⟩
      rw [hob]
      have h4:=(ob_le k' (catS (simL subs))).2
      rcases hk with rfl | rfl | rfl
      · simp [roundG];omega
      · simp [roundG];exact h3
      · simp [roundG];omega
    split
    · rename_i h;subst h
      have h2:=alt_open hxo (B:=B) hself.1 (fun v hv=>by
        rw [simL_map,List.mem_map] at hv
        obtain ⟨u,hu,rfl⟩:=hv
        have h1:=hself.2 u hu
        rcases (hx u hu).2 4 (.inr (.inl rfl)) with h | h
        · omega
        · omega)
      refine ⟨h2,fun k' hk=>.inl ?_⟩
      rw [hob]
      have h4:=(ob_le k' (altS (simL subs))).2
      rcases hk with rfl | rfl | rfl<;>(simp [roundG];omega)
    split
    · rename_i h5
      subst h5
      obtain ⟨u,rfl⟩:=plainT_5 hp
      simp only [simL,List.headD_cons] at hxo ⊢
      have hu:=hself.2 u (by simp)
      have hv : ob 5 (simT u)≤B:=by
        rcases (hx u (by simp)).2 5 (.inr (.inr rfl)) with h | h
        · omega
        · omega
      obtain ⟨h2,h3⟩:=rep_open (simT u) mn mx hxo.1 (hR rfl) hself.1 hv
      refine ⟨h2,fun k' hk=>?_⟩
      rw [hob]
      rcases hk with rfl | rfl | rfl
      · rcases h3 3 (.inl rfl) with h | h
        · left;simp [roundG];omega
        · exact .inr h
      · rcases h3 4 (.inr rfl) with h | h
        · left;simp [roundG];omega
        · omega
      · left
        have:=(ob_le 5 (repS (simT u) mn mx)).2
        simp [roundG];omega
    · rename_i h3 h4 h5
      have e:=hob
      refine ⟨?_,fun k' _=>.inl ?_⟩
      · have:=hob 2
        simp only [roundG] at this
        have h6:=(ob_le 2 (.node k a b c d mn mx subs))
        rcases Bool.eq_false_or_eq_true (k != 2) with hq | hq
        · simp [ob,roundG,T.kind,hq] at this;omega
        · simp [ob,roundG,T.kind,hq] at this;omega
      · rw [hob];exact Int.le_refl _
theorem simL_open : ∀ l : List T,okL l→∀ t ∈ l,openT (simT t)≤openT t∧∀ k,k=3 ∨ k=4 ∨ k=5→ob k (simT t)≤ob k t ∨ (k=3∧(simT t).kind=1)
  | [],_=>fun t h=>absurd h (by simp)
  | u :: l,ho=>by
    simp only [okL] at ho
    have h1:=simT_open u ho.1
    have h2:=simL_open l ho.2
    intro t ht
    rcases List.mem_cons.1 ht with rfl | ht
    · exact h1
    · exact h2 t ht
end
theorem simT_fits {t : T} (ho : okT t) {B : Int} (h : fitsT t B=true) : fitsT (simT t) B=true:=by
  rw [fits_open] at *
  have h1:=open_nonneg _ (simT_ok t ho)
  have h2:=(simT_open t ho).1
  omega
end Go.Sv
namespace Go.Sv
open Go
set_option linter.unusedVariables false
def addB (ws : List Int) (x : Nat) : List Int:=if bitG (ws.getD (x / 64) 0) x=true then ws else ws.set (x / 64) (ws.getD (x / 64) 0 + 2 ^ (x % 64))
def setWs (l : List Nat) : List Int:=l.foldl addB [0,0,0,0]
def inWs (ws : List Int) (x : Nat) : Bool:=bitG (ws.getD (x / 64) 0) x
def okWs (ws : List Int) : Prop:=ws.length=4∧∀ w ∈ ws,okW w
theorem okWs_getD {ws : List Int} (h : okWs ws) (j : Nat) : okW (ws.getD j 0):=by
  rw [List.getD_eq_getElem?_getD]
  cases e : ws[j]? with
  | none=>exact okW_0
  | some w=>exact h.2 w (List.mem_of_getElem? e)
theorem add_bit {w k : Nat} (hw : w < 2 ^ 64) (hk : k < 64) (hb : w.testBit k=false) : w + 2 ^ k < 2 ^ 64∧∀ j,(w + 2 ^ k).testBit j=(w.testBit j || j == k):=by
  have h0 : w / 2 ^ k % 2=0:=by
    rw [Nat.testBit_eq_decide_div_mod_eq] at hb
    simp at hb;omega
  have hr : w % 2 ^ k < 2 ^ k:=Nat.mod_lt _ (Nat.two_pow_pos k)
  have e1 : w=2 ^ k * (2 * (w / 2 ^ k / 2)) + w % 2 ^ k:=by
    have:=Nat.div_add_mod w (2 ^ k)
    have h2 : 2 * (w / 2 ^ k / 2)=w / 2 ^ k:=by omega
    rw [h2];omega
  have e2 : w + 2 ^ k=2 ^ k * (2 * (w / 2 ^ k / 2) + 1) + w % 2 ^ k:=by
    rw [Nat.mul_add,Nat.mul_one];omega
  generalize hq : w / 2 ^ k / 2=q at e1 e2
  generalize w % 2 ^ k=r at hr e1 e2
  constructor
  · have h64 : 2 ^ 64=2 ^ k * 2 ^ (64 - k):=by rw [← Nat.pow_add];congr 1;omega
    have hev : ∃ m,2 ^ (64 - k)=2 * m:=⟨2 ^ (63 - k),by rw [show 64 - k=63 - k + 1 by omega,Nat.pow_succ,Nat.mul_comm]⟩
    obtain ⟨m,hm⟩:=hev
    have hlt : 2 * q < 2 * m:=by
      have : 2 ^ k * (2 * q) < 2 ^ k * (2 * m):=by rw [← hm,← h64];omega
      exact Nat.lt_of_mul_lt_mul_left this
    have h3 : 2 ^ k * (2 * q + 1) + 2 ^ k≤2 ^ k * (2 * m):=by
      have : 2 ^ k * (2 * q + 1) + 2 ^ k=2 ^ k * (2 * q + 2):=by simp only [Nat.mul_add];omega
      rw [this]
      exact Nat.mul_le_mul_left _ (by omega)
    rw [h64,hm]
    omega
  · intro j
    have l1 : w.testBit j=if j < k then r.testBit j else (2 * q).testBit (j - k):=by
      rw [e1];exact Nat.testBit_two_pow_mul_add _ hr j
    have l2 : (w + 2 ^ k).testBit j=if j < k then r.testBit j else (2 * q + 1).testBit (j - k):=by
      rw [e2];exact Nat.testBit_two_pow_mul_add _ hr j
    rw [l1,l2]
    by_cases hj : j < k
    · rw [if_pos hj,if_pos hj]
      have : (j == k)=false:=by simp;omega
      rw [this,Bool.or_false]
    · rw [if_neg hj,if_neg hj]
      rcases Nat.eq_or_lt_of_le (Nat.le_of_not_lt hj) with h | h
      · subst h;simp
      · obtain ⟨i,hi⟩ : ∃ i,j - k=i + 1:=⟨j - k - 1,by omega⟩
        have : (j == k)=false:=by simp;omega
        rw [hi,this,Bool.or_false,Nat.testBit_succ,Nat.testBit_succ]
        congr 1;omega
theorem two_pow_int (k : Nat) : ((2 : Int) ^ k)=((2 ^ k : Nat) : Int):=by rw [Int.natCast_pow];rfl
theorem addW_ok {w : Int} {x : Nat} (h : okW w) (hb : bitG w x=false) : okW (w + 2 ^ (x % 64))∧∀ y,bitG (w + 2 ^ (x % 64)) y=(bitG w y || (y % 64 == x % 64)):=by
  obtain ⟨n,rfl,hn⟩:=okW_nat h
  rw [bitG_nat] at hb
  obtain ⟨h1,h2⟩:=add_bit hn (Nat.mod_lt x (by omega)) hb
  have e : ((n : Int) + 2 ^ (x % 64))=((n + 2 ^ (x % 64) : Nat) : Int):=by rw [two_pow_int,Int.natCast_add]
  rw [e]
  refine ⟨?_,fun y=>by rw [bitG_nat,bitG_nat,h2]⟩
  generalize n + 2 ^ (x % 64)=m at h1
  unfold okW;omega
theorem addB_ok {ws : List Int} (h : okWs ws) {x : Nat} (hx : x < 256) : okWs (addB ws x)∧∀ y,y < 256→inWs (addB ws x) y=(inWs ws y || y == x):=by
  unfold addB
  split
  · rename_i hb
    refine ⟨h,fun y _=>?_⟩
    by_cases e : y=x
    · subst e;unfold inWs;rw [hb];rfl
    · have : (y == x)=false:=by simpa using e
      rw [this,Bool.or_false]
  · rename_i hb
    have hb : bitG (ws.getD (x / 64) 0) x=false:=by simpa using hb
    obtain ⟨h1,h2⟩:=addW_ok (okWs_getD h (x / 64)) hb
    have hlt : x / 64 < ws.length:=by rw [h.1];omega
    refine ⟨⟨by rw [List.length_set];exact h.1,fun w hw=>?_⟩,fun y hy=>?_⟩
    · rcases List.mem_or_eq_of_mem_set hw with hw | rfl
      · exact h.2 w hw
      · exact h1
    · unfold inWs
      by_cases e : x / 64=y / 64
      · rw [List.getD_eq_getElem?_getD,← e,List.getElem?_set_self hlt,Option.getD_some,h2]
        have : (y % 64 == x % 64)=(y == x):=by
          rw [Bool.eq_iff_iff];simp;omega
        rw [this]
      · rw [List.getD_eq_getElem?_getD,List.getElem?_set_ne e,← List.getD_eq_getElem?_getD]
        have : (y == x)=false:=by simp;omega
        rw [this,Bool.or_false]
theorem okWs_0 : okWs [0,0,0,0]:=⟨rfl,fun w h=>by simp at h;rw [h];exact okW_0⟩
theorem setWs_ok' : ∀ (l : List Nat) (ws : List Int),okWs ws→(∀ x ∈ l,x < 256)→okWs (l.foldl addB ws)∧∀ y,y < 256→(inWs (l.foldl addB ws) y=true↔inWs ws y=true ∨ y ∈ l)
  | [],ws,h,_=>⟨h,fun y _=>by simp⟩
  | x :: l,ws,h,hx=>by
    obtain ⟨h1,h2⟩:=addB_ok h (hx x (by simp))
    obtain ⟨h3,h4⟩:=setWs_ok' l (addB ws x) h1 (fun y hy=>hx y (by simp [hy]))
    refine ⟨h3,fun y hy=>?_⟩
    rw [List.foldl_cons,h4 y hy,h2 y hy,Bool.or_eq_true,beq_iff_eq,List.mem_cons,or_assoc]
theorem setWs_ok {l : List Nat} (h : ∀ x ∈ l,x < 256) : okWs (setWs l)∧∀ y,y < 256→(inWs (setWs l) y=true↔y ∈ l):=by
  obtain ⟨h1,h2⟩:=setWs_ok' l [0,0,0,0] okWs_0 h
  refine ⟨h1,fun y hy=>?_⟩
  unfold setWs
  rw [h2 y hy]
  have : inWs [0,0,0,0] y=false:=inG_0 y
  rw [this];simp
theorem setWs_snoc (l : List Nat) (x : Nat) : setWs (l++[x])=addB (setWs l) x:=by simp [setWs,List.foldl_append]
theorem words_ext {ws vs : List Int} (h : okWs ws) (g : okWs vs) (e : ∀ y,y < 256→inWs ws y=inWs vs y) : ws=vs:=by
  refine List.ext_getElem (by rw [h.1,g.1]) fun j h1 h2=>?_
  have hj : j < 4:=by rw [h.1] at h1;exact h1
  obtain ⟨m,hm,hm2⟩:=okW_nat (h.2 _ (List.getElem_mem h1))
  obtain ⟨n,hn,hn2⟩:=okW_nat (g.2 _ (List.getElem_mem h2))
  rw [hm,hn]
  congr 1
  refine Nat.eq_of_testBit_eq fun i=>?_
  rcases Nat.lt_or_ge i 64 with hi | hi
  · have:=e (64 * j + i) (by omega)
    unfold inWs at this
    rw [show (64 * j + i) / 64=j by omega,List.getD_eq_getElem?_getD,List.getElem?_eq_getElem h1,List.getD_eq_getElem?_getD,List.getElem?_eq_getElem h2,Option.getD_some,Option.getD_some,hm,hn,bitG_nat,bitG_nat,show (64 * j + i) % 64=i by omega] at this
    exact this
  · rw [Nat.testBit_lt_two_pow (Nat.lt_of_lt_of_le hm2 (Nat.pow_le_pow_right (by omega) hi)),Nat.testBit_lt_two_pow (Nat.lt_of_lt_of_le hn2 (Nat.pow_le_pow_right (by omega) hi))]
def listTo (a b c d : Int) : Nat→List Nat
  | 0=>[]
  | m + 1=>if inG a b c d m=true then listTo a b c d m++[m] else listTo a b c d m
theorem mem_listTo (a b c d : Int) (y : Nat) : ∀ m,y ∈ listTo a b c d m↔y < m∧inG a b c d y=true
  | 0=>by simp [listTo]
  | m + 1=>by
    rw [listTo]
    have ih:=mem_listTo a b c d y m
    split
    · rename_i h
      rw [List.mem_append,ih,List.mem_singleton]
      constructor
      · rintro (⟨h1,h2⟩ | rfl)
        · exact ⟨by omega,h2⟩
        · exact ⟨by omega,h⟩
      · rintro ⟨h1,h2⟩
        by_cases e : y=m
        · exact .inr e
        · exact .inl ⟨by omega,h2⟩
    · rename_i h
      rw [ih]
      constructor
      · rintro ⟨h1,h2⟩;exact ⟨by omega,h2⟩
      · rintro ⟨h1,h2⟩
        refine ⟨?_,h2⟩
        rcases Nat.lt_or_ge y m with h3 | h3
        · exact h3
        · have : y=m:=by omega
          subst this;exact absurd h2 h
theorem listTo_len (a b c d : Int) : ∀ m,(listTo a b c d m).length≤m
  | 0=>by simp [listTo]
  | m + 1=>by
    have:=listTo_len a b c d m
    rw [listTo]
    split
    · rw [List.length_append];simp;omega
    · omega
def encJ (l : List Nat) : List Int:=List.map (fun (x : Nat)=>(x : Int)) l
theorem encJ_app (l r : List Nat) : encJ (l++r)=encJ l++encJ r:=List.map_append
theorem encJ_len (l : List Nat) : (encJ l).length=l.length:=List.length_map _

section
variable {P : Program} {Q : Cont} {fr : Fr} {C : Heap} {Z : Frz} {nx : Nat} {base n d : Nat} {l : List (Nat × XO)} {kp : Option (List Nat)} {x i y s : X} {j c : Nat}
theorem r_quoI {e : Int} (hx : x.ev fr=.i e) (hy : y.ev fr=.i 64) (he : e=(c : Nat)) (hc : c < 1000000) (k : R P l base kp Q nx (fr.put d (.i ((c / 64 : Nat) : Int))) C Z) : R P ((n,⟨some d,none,.arith .quo x y⟩) :: l) base kp Q nx fr C Z:=by
  subst he
  refine r_p ?_ k
  have e : IntKind.wrap .i64 (Int.tdiv (c : Int) 64)=((c / 64 : Nat) : Int):=by
    rw [Int.tdiv_eq_ediv_of_nonneg (by omega),wrap_in (by omega)];omega
  simp only [xp,hx,hy,arith]
  exact congrArg (fun z=>some (AV.d (DV.val (Value.int .i64 z)))) e
theorem r_remI {e : Int} (hx : x.ev fr=.i e) (hy : y.ev fr=.i 64) (he : e=(c : Nat)) (k : R P l base kp Q nx (fr.put d (.i ((c % 64 : Nat) : Int))) C Z) : R P ((n,⟨some d,none,.arith .rem x y⟩) :: l) base kp Q nx fr C Z:=by
  subst he
  refine r_p ?_ k
  have e : Int.tmod (c : Int) 64=((c % 64 : Nat) : Int):=by
    rw [Int.tmod_eq_emod_of_nonneg (by omega)];omega
  simp only [xp,hx,hy,arith]
  exact congrArg (fun z=>some (AV.d (DV.val (Value.int .i64 z)))) e
theorem r_shrI {w : Int} (hx : x.ev fr=.d (.val (.int .u64 w))) (hy : y.ev fr=.i (c : Nat)) (hw : okW w) (hc : c < 64) (k : R P l base kp Q nx (fr.put d (.d (.val (.int .u64 (w / 2 ^ c))))) C Z) : R P ((n,⟨some d,none,.arith .shr x y⟩) :: l) base kp Q nx fr C Z:=by
  refine r_p ?_ k
  simp only [xp,hx,hy,arith]
  simp [IntKind.bits]
  rw [Nat.min_eq_left (by omega),Int.fdiv_eq_ediv_of_nonneg _ (by exact Int.le_of_lt (Int.pow_pos (by omega)))]
theorem r_shlI (hx : x.ev fr=.d (.val (.int .u64 1))) (hy : y.ev fr=.i (c : Nat)) (hc : c < 64) (k : R P l base kp Q nx (fr.put d (.d (.val (.int .u64 (2 ^ c))))) C Z) : R P ((n,⟨some d,none,.arith .shl x y⟩) :: l) base kp Q nx fr C Z:=by
  refine r_p ?_ k
  have e : IntKind.wrap .u64 (1 * 2 ^ (min ((c : Int).toNat) 64))=2 ^ c:=by
    rw [Int.toNat_natCast,Nat.min_eq_left (by omega),Int.one_mul,two_pow_int]
    have h1 : 2 ^ c < 2 ^ 64:=Nat.pow_lt_pow_right (by omega) hc
    simp only [IntKind.wrap,IntKind.signed,IntKind.bits]
    generalize 2 ^ c=z at *
    simp;omega
  have h0 : (0 : Int)≤(c : Int):=by omega
  simp only [xp,hx,hy,arith,h0,if_true]
  exact congrArg (fun z=>some (AV.d (DV.val (Value.int .u64 z)))) e
theorem r_addW {a b : Int} (hx : x.ev fr=.d (.val (.int .u64 a))) (hy : y.ev fr=.d (.val (.int .u64 b))) (h : okW (a + b)) (k : R P l base kp Q nx (fr.put d (.d (.val (.int .u64 (a + b))))) C Z) : R P ((n,⟨some d,none,.arith .add x y⟩) :: l) base kp Q nx fr C Z:=by
  refine r_p ?_ k
  have e : IntKind.wrap .u64 (a + b)=a + b:=by
    obtain ⟨h1,h2⟩:=h
    simp [IntKind.wrap,IntKind.signed,IntKind.bits];omega
  simp only [xp,hx,hy,arith,if_true]
  exact congrArg (fun z=>some (AV.d (DV.val (Value.int .u64 z)))) e
def encW (ws : List Int) : List AV:=ws.map fun w=>.d (.val (.int .u64 w))
theorem encW_len (ws : List Int) : (encW ws).length=ws.length:=List.length_map _
theorem encW_isD (ws : List Int) : (encW ws).all AV.isD=true:=by simp [encW,AV.isD]
theorem r_ldWs {b : Nat} {ws : List Int} (hx : x.ev fr=.ptrL b (0 + j)) (hC : C b=some (encW ws)) (hj : j < ws.length) (k : R P l base kp Q nx (fr.put d (.d (.val (.int .u64 (ws.getD j 0))))) C Z) : R P ((n,⟨some d,none,.load none x⟩) :: l) base kp Q nx fr C Z:=by
  refine r_l ?_ k
  simp only [xl,hx,rowOf,hC,Option.map_some,Option.bind_some,subA,Nat.zero_add,encW,List.getElem?_map,List.getElem?_eq_getElem hj,List.getD_eq_getElem?_getD,Option.getD_some]
theorem r_stWs {a : X} {b : Nat} {w : Int} {ws : List Int} (ha : a.ev fr=.ptrL b (0 + j)) (hx : x.ev fr=.d (.val (.int .u64 w))) (hC : C b=some (encW ws)) (hz : Z b=false) (hj : j < ws.length) (k : R P l base kp Q nx fr (C.put b (encW (ws.set j w))) Z) : R P ((n,⟨none,none,.store 1 a x⟩) :: l) base kp Q nx fr C Z:=by
  refine r_stL (cs:=[.d (.val (.int .u64 w))]) ha hC hx rfl hz ?_ ?_ k
  · simp [AV.one,encW_len];omega
  · have : ws.set j w=ws.take j++w :: ws.drop (j + 1):=by rw [List.set_eq_take_append_cons_drop,if_pos hj]
    rw [this]
    simp [splice,encW,List.map_take,List.map_drop]
theorem r_eqX {a b c e a' b' c' e' : Int} {q r : Bool} (hx : x.ev fr=.agg [.d (.val (.int .u64 a)),.d (.val (.int .u64 b)),.d (.val (.int .u64 c)),.d (.val (.int .u64 e))]) (hy : y.ev fr=.agg [.d (.val (.int .u64 a')),.d (.val (.int .u64 b')),.d (.val (.int .u64 c')),.d (.val (.int .u64 e'))]) (h : (if q then !(a == a' && (b == b' && (c == c' && e == e'))) else (a == a' && (b == b' && (c == c' && e == e'))))=r) (k : R P l base kp Q nx (fr.put d (.b r)) C Z) : R P ((n,⟨some d,none,.eqAgg 4 q x y⟩) :: l) base kp Q nx fr C Z:=by
  subst h
  refine r_p ?_ k
  simp only [xp,hx,hy,eqCells,List.length_cons,List.length_nil,if_true,Option.map_some]
  simp
end
end Go.Sv
namespace Go.Sv
open Go Go.Proofs
def x138 : XC:=(.seq (.ops 2 [ (0,⟨some 1,none,.box (.t 0)⟩),(1,⟨some 2,none,.mv (.k (.d (.val (.bool false))))⟩)] (some [1])) (.seq (.ops 10 [ (0,⟨some 3,none,.fadd 0 (.t 1)⟩),(1,⟨some 4,none,.load none (.t 3)⟩),(2,⟨some 5,none,.arith .eql (.t 4) (.k (.d (.val (.int .i64 2))))⟩),(3,⟨some 6,none,.mv (.t 5)⟩),(4,⟨some 7,(some (6,true)),.fadd 1 (.t 1)⟩),(5,⟨some 8,(some (6,true)),.load (some 4) (.t 7)⟩),(6,⟨some 9,(some (6,true)),.build [(.int .u64 0),(.int .u64 0),(.int .u64 0),(.int .u64 0)] []⟩),(7,⟨some 10,(some (6,true)),.eqAgg 4 false (.t 8) (.t 9)⟩),(8,⟨some 11,none,.pick (.t 6) (.t 10) (.k (.d (.val (.bool false))))⟩),(9,⟨some 2,none,.mv (.t 11)⟩)] (some [2])) .ret))
def md138 : FuncId→Option Nat × Bool
  | _=>(none,false)
def od138 : Nat→List (List Nat) × List Nat × Option (List Nat)
  | 0=>([],[],some [1])
  | 1=>([],[],some [2])
  | _=>([],[],none)
theorem b138 {ags : List AV} {row : Option (List DV)} {r : AV} {row' nw : Option (List DV)} (hal : ags.length≤12) (hrow : row'.isSome=true→row.isSome=true) (h : xwp Try.prog x138 (retK [.tmp 2] row.isSome r row' nw) (St.init ags row)) : Good Try.prog 138 ags row r row' nw :=
  good_of_body' (md:=md138) (od:=od138) Try.f138 (by kernel_rfl) (by kernel_rfl) (by kernel_rfl) (by kernel_rfl) (by kernel_rfl) hal hrow h

def x139 : XC:=(.seq (.ops 2 [ (0,⟨some 5,none,.box (.t 2)⟩),(1,⟨some 6,none,.alloc [(.int .i64 0),(.int .u64 0),(.int .u64 0),(.int .u64 0),(.int .u64 0),(.int .i64 0),(.int .i64 0),(.slice none 0 0)]⟩)] (some [0,1,5,6])) (.seq (.seq (.ops 3 [ (0,⟨some 7,none,.mv (.t 1)⟩),(1,⟨some 8,none,.lenS (.t 7)⟩),(2,⟨some 9,none,.arith .eql (.t 8) (.k (.d (.val (.int .i64 0))))⟩)] (some [0,1,5,6,9])) (.cond (.t 9) (.seq (.ops 2 [ (0,⟨some 10,none,.load (some 8) (.t 5)⟩),(1,⟨none,none,.store 8 (.t 6) (.t 10)⟩)] (some [6])) .ret) .skip)) (.seq (.seq (.ops 3 [ (0,⟨some 11,none,.mv (.t 1)⟩),(1,⟨some 12,none,.lenS (.t 11)⟩),(2,⟨some 13,none,.arith .eql (.t 12) (.k (.d (.val (.int .i64 1))))⟩)] (some [0,1,6,13])) (.cond (.t 13) (.seq (.ops 4 [ (0,⟨some 14,none,.mv (.t 1)⟩),(1,⟨some 15,none,.idxS 8 (.t 14) (.k (.d (.val (.int .i64 0))))⟩),(2,⟨some 16,none,.load (some 8) (.t 15)⟩),(3,⟨none,none,.store 8 (.t 6) (.t 16)⟩)] (some [6])) .ret) .skip)) (.seq (.ops 4 [ (0,⟨some 17,none,.mv (.t 0)⟩),(1,⟨some 18,none,.mv (.t 1)⟩),(2,⟨some 19,none,.build [(.int .i64 0),(.int .u64 0),(.int .u64 0),(.int .u64 0),(.int .u64 0),(.int .i64 0),(.int .i64 0),(.slice none 0 0)] [(0,1,(.t 17)),(7,1,(.t 18))]⟩),(3,⟨none,none,.store 8 (.t 6) (.t 19)⟩)] (some [6])) .ret))))
def md139 : FuncId→Option Nat × Bool
  | _=>(none,false)
def od139 : Nat→List (List Nat) × List Nat × Option (List Nat)
  | 0=>([],[],some [0,1,5,6])
  | 1=>([],[],some [0,1,5,6,9])
  | 2=>([],[],some [6])
  | 3=>([],[],some [0,1,6,13])
  | 4=>([],[],some [6])
  | 5=>([],[],some [6])
  | _=>([],[],none)
theorem b139 {ags : List AV} {row : Option (List DV)} {r : AV} {row' nw : Option (List DV)} (hal : ags.length≤20) (hrow : row'.isSome=true→row.isSome=true) (h : xwp Try.prog x139 (retK [.cell 6 (some 8)] row.isSome r row' nw) (St.init ags row)) : Good Try.prog 139 ags row r row' nw :=
  good_of_body' (md:=md139) (od:=od139) Try.f139 (by kernel_rfl) (by kernel_rfl) (by kernel_rfl) (by kernel_rfl) (by kernel_rfl) hal hrow h

def x124 : XC:=(.seq (.ops 2 [ (0,⟨some 2,none,.box (.t 0)⟩),(1,⟨some 4,none,.mv (.k (.d (.val (.bool false))))⟩)] (some [1,2])) (.seq (.ops 10 [ (0,⟨some 5,none,.mv (.t 1)⟩),(1,⟨some 6,none,.arith .quo (.t 5) (.k (.d (.val (.int .i64 64))))⟩),(2,⟨some 7,none,.idxP 4 1 (.t 2) (.t 6)⟩),(3,⟨some 8,none,.load none (.t 7)⟩),(4,⟨some 9,none,.mv (.t 1)⟩),(5,⟨some 10,none,.arith .rem (.t 9) (.k (.d (.val (.int .i64 64))))⟩),(6,⟨some 11,none,.arith .shr (.t 8) (.t 10)⟩),(7,⟨some 12,none,.arith .rem (.t 11) (.k (.d (.val (.int .u64 2))))⟩),(8,⟨some 13,none,.arith .eql (.t 12) (.k (.d (.val (.int .u64 1))))⟩),(9,⟨some 4,none,.mv (.t 13)⟩)] (some [4])) .ret))
def md124 : FuncId→Option Nat × Bool
  | _=>(none,false)
def od124 : Nat→List (List Nat) × List Nat × Option (List Nat)
  | 0=>([],[],some [1,2])
  | 1=>([],[],some [4])
  | _=>([],[],none)
theorem b124 {ags : List AV} {row : Option (List DV)} {r : AV} {row' nw : Option (List DV)} (hal : ags.length≤14) (hrow : row'.isSome=true→row.isSome=true) (h : xwp Try.prog x124 (retK [.tmp 4] row.isSome r row' nw) (St.init ags row)) : Good Try.prog 124 ags row r row' nw :=
  good_of_body' (md:=md124) (od:=od124) Try.f124 (by kernel_rfl) (by kernel_rfl) (by kernel_rfl) (by kernel_rfl) (by kernel_rfl) hal hrow h

def x74 : XC:=(.seq (.ops 2 [ (0,⟨some 1,none,.box (.t 0)⟩),(1,⟨some 2,none,.mv (.k (.d (.val (.slice none 0 0))))⟩)] (some [1])) (.seq (.ops 1 [ (0,⟨some 3,none,.mv (.k (.d (.val (.slice none 0 0))))⟩)] (some [1,3])) (.seq (.seq (.ops 1 [ (0,⟨some 4,none,.mv (.k (.d (.val (.int .i64 0))))⟩)] (some [1,3,4])) (.block 0 (.loop (.seq (.seq (.ops 2 [ (0,⟨some 5,none,.mv (.t 4)⟩),(1,⟨some 6,none,.arith .lss (.t 5) (.k (.d (.val (.int .i64 256))))⟩)] (some [1,3,4,6])) (.cond (.t 6) .skip (.exit 0))) (.seq (.block 1 (.seq (.ops 3 [ (0,⟨some 9,none,.load (some 4) (.t 1)⟩),(1,⟨some 10,none,.mv (.t 4)⟩),(2,⟨some 11,none,.call 124 [(.t 9),(.t 10)] none false⟩)] (some [1,3,4,11])) (.cond (.t 11) (.ops 5 [ (0,⟨some 12,none,.mv (.t 3)⟩),(1,⟨some 13,none,.mv (.t 4)⟩),(2,⟨some 14,none,.mkrow [(.int .i64 0)] 1 1 [(0,1,(.t 13))]⟩),(3,⟨some 15,none,.app [(.int .i64 0)] 8 (.t 12) (.t 14)⟩),(4,⟨some 3,none,.mv (.t 15)⟩)] (some [1,3,4])) .skip))) (.ops 3 [ (0,⟨some 7,none,.mv (.t 4)⟩),(1,⟨some 8,none,.arith .add (.t 7) (.k (.d (.val (.int .i64 1))))⟩),(2,⟨some 4,none,.mv (.t 8)⟩)] (some [1,3,4]))))))) (.seq (.ops 2 [ (0,⟨some 16,none,.mv (.t 3)⟩),(1,⟨some 2,none,.mv (.t 16)⟩)] (some [2])) .ret))))
def md74 : FuncId→Option Nat × Bool
  | _=>(none,false)
def od74 : Nat→List (List Nat) × List Nat × Option (List Nat)
  | 0=>([],[],some [1])
  | 1=>([],[],some [1,3])
  | 2=>([],[],some [1,3,4])
  | 3=>([],[],some [1,3,4,6])
  | 4=>([],[],some [1,3,4])
  | 5=>([],[],some [1,3,4,11])
  | 6=>([],[],some [1,3,4])
  | 7=>([],[],some [2])
  | _=>([],[],none)
theorem b74 {ags : List AV} {row : Option (List DV)} {r : AV} {row' nw : Option (List DV)} (hal : ags.length≤17) (hrow : row'.isSome=true→row.isSome=true) (h : xwp Try.prog x74 (retK [.tmp 2] row.isSome r row' nw) (St.init ags row)) : Good Try.prog 74 ags row r row' nw :=
  good_of_body' (md:=md74) (od:=od74) Try.f74 (by kernel_rfl) (by kernel_rfl) (by kernel_rfl) (by kernel_rfl) (by kernel_rfl) hal hrow h

def x99 : XC:=(.seq (.ops 1 [ (0,⟨some 2,none,.alloc [(.int .u64 0),(.int .u64 0),(.int .u64 0),(.int .u64 0)]⟩)] (some [0,2])) (.seq (.ops 1 [ (0,⟨some 3,none,.alloc [(.int .u64 0),(.int .u64 0),(.int .u64 0),(.int .u64 0)]⟩)] (some [0,2,3])) (.seq (.seq (.ops 1 [ (0,⟨some 4,none,.mv (.k (.d (.val (.int .i64 0))))⟩)] (some [0,2,3,4])) (.block 0 (.loop (.seq (.seq (.ops 4 [ (0,⟨some 5,none,.mv (.t 4)⟩),(1,⟨some 6,none,.mv (.t 0)⟩),(2,⟨some 7,none,.lenS (.t 6)⟩),(3,⟨some 8,none,.arith .lss (.t 5) (.t 7)⟩)] (some [0,2,3,4,8])) (.cond (.t 8) .skip (.exit 0))) (.seq (.block 1 (.seq (.ops 7 [ (0,⟨some 11,none,.load (some 4) (.t 3)⟩),(1,⟨some 12,none,.mv (.t 0)⟩),(2,⟨some 13,none,.mv (.t 4)⟩),(3,⟨some 14,none,.idxS 1 (.t 12) (.t 13)⟩),(4,⟨some 15,none,.load none (.t 14)⟩),(5,⟨some 16,none,.call 124 [(.t 11),(.t 15)] none false⟩),(6,⟨some 17,none,.un .not (.t 16)⟩)] (some [0,2,3,4,17])) (.cond (.t 17) (.ops 16 [ (0,⟨some 18,none,.mv (.t 0)⟩),(1,⟨some 19,none,.mv (.t 4)⟩),(2,⟨some 20,none,.idxS 1 (.t 18) (.t 19)⟩),(3,⟨some 21,none,.load none (.t 20)⟩),(4,⟨some 22,none,.arith .quo (.t 21) (.k (.d (.val (.int .i64 64))))⟩),(5,⟨some 23,none,.idxP 4 1 (.t 3) (.t 22)⟩),(6,⟨some 24,none,.load none (.t 23)⟩),(7,⟨some 25,none,.mv (.t 0)⟩),(8,⟨some 26,none,.mv (.t 4)⟩),(9,⟨some 27,none,.idxS 1 (.t 25) (.t 26)⟩),(10,⟨some 28,none,.load none (.t 27)⟩),(11,⟨some 29,none,.arith .rem (.t 28) (.k (.d (.val (.int .i64 64))))⟩),(12,⟨some 30,none,.arith .shl (.k (.d (.val (.int .u64 1)))) (.t 29)⟩),(13,⟨some 31,none,.arith .add (.t 24) (.t 30)⟩),(14,⟨some 32,none,.idxP 4 1 (.t 3) (.t 22)⟩),(15,⟨none,none,.store 1 (.t 32) (.t 31)⟩)] (some [0,2,3,4])) .skip))) (.ops 3 [ (0,⟨some 9,none,.mv (.t 4)⟩),(1,⟨some 10,none,.arith .add (.t 9) (.k (.d (.val (.int .i64 1))))⟩),(2,⟨some 4,none,.mv (.t 10)⟩)] (some [0,2,3,4]))))))) (.seq (.ops 2 [ (0,⟨some 33,none,.load (some 4) (.t 3)⟩),(1,⟨none,none,.store 4 (.t 2) (.t 33)⟩)] (some [2])) .ret))))
def md99 : FuncId→Option Nat × Bool
  | _=>(none,false)
def od99 : Nat→List (List Nat) × List Nat × Option (List Nat)
  | 0=>([],[],some [0,2])
  | 1=>([],[],some [0,2,3])
  | 2=>([],[],some [0,2,3,4])
  | 3=>([],[],some [0,2,3,4,8])
  | 4=>([],[],some [0,2,3,4])
  | 5=>([[],[],[],[1,2],[1,2,3],[0,1,2,3,4],[0,1,2,3,4,5]],[0,1,2,3,4,5,6],some [0,2,3,4,17])
  | 6=>([[],[],[0,1],[0,1,2],[0,1,2,3],[0,1,2,3,4],[0,1,2,3,4,5],[],[],[7,8],[7,8,9],[7,8,9,10],[7,8,9,10,11],[0,1,2,3,4,5,6,7,8,9,10,11,12],[0,1,2,3,4,5,6,7,8,9,10,11,12,13],[0,1,2,3,4,5,6,7,8,9,10,11,12,13,14]],[0,1,2,3,4,5,6,7,8,9,10,11,12,13,14,15],some [0,2,3,4])
  | 7=>([],[],some [2])
  | _=>([],[],none)
theorem b99 {ags : List AV} {row : Option (List DV)} {r : AV} {row' nw : Option (List DV)} (hal : ags.length≤34) (hrow : row'.isSome=true→row.isSome=true) (h : xwp Try.prog x99 (retK [.cell 2 (some 4)] row.isSome r row' nw) (St.init ags row)) : Good Try.prog 99 ags row r row' nw :=
  good_of_body' (md:=md99) (od:=od99) Try.f99 (by kernel_rfl) (by kernel_rfl) (by kernel_rfl) (by kernel_rfl) (by kernel_rfl) hal hrow h

set_option maxRecDepth 100000
set_option maxHeartbeats 4000000
attribute [local irreducible] W E R KP thenK blockK retK Good xwp aRun
theorem same47g_good : ∀ (n : Nat) (t u : T),t.cnt≤n→n≤100000000→Good Try.prog 47 [nodeA t,nodeA u] none (.b (sameT t u)) none none:=by
  intro n
  induction n with
  | zero=>intro t u ht;have:=cnt_pos t;omega
  | succ n ih =>
  intro t u ht hc
  obtain ⟨k,a,b,c,d,mn,mx,subs⟩:=t
  obtain ⟨k2,a2,b2,c2,d2,mn2,mx2,subs2⟩:=u
  have ih' : ∀ i (h : i < subs.length) (h2 : i < subs2.length),Good Try.prog 47 [nodeA subs[i],nodeA subs2[i]] none (.b (sameT subs[i] subs2[i])) none none:=by
    intro i h h2
    refine ih _ _ ?_ (by omega)
    have:=cntL_get subs i h
    simp only [T.cnt] at ht
    omega
  have hlen : subs.length≤100000000:=by
    have:=cntL_len subs
    simp only [T.cnt] at ht
    omega
  have e0 : nodeA (.node k a b c d mn mx subs)=.agg [.i k,.d (.val (.int .u64 a)),.d (.val (.int .u64 b)),.d (.val (.int .u64 c)),.d (.val (.int .u64 d)),.i mn,.i mx,.d (.sl (encL subs) subs.length)]:=rfl
  have e1 : nodeA (.node k2 a2 b2 c2 d2 mn2 mx2 subs2)=.agg [.i k2,.d (.val (.int .u64 a2)),.d (.val (.int .u64 b2)),.d (.val (.int .u64 c2)),.d (.val (.int .u64 d2)),.i mn2,.i mx2,.d (.sl (encL subs2) subs2.length)]:=rfl
  rw [e0,e1]
  clear ih ht
  by_cases hk : k=k2
  case neg =>
    refine b47 (by simp) (by simp) (w_init ?_)
    unfold x47
    repeat' (first|(apply r_mvV;rfl)|(apply r_faddL;rfl)|(apply r_ldL;rfl;rfl;rfl)|(apply r_neq;rfl;rfl;(first|(apply dT;omega)|(apply dF;omega)|rfl))|(apply r_pickT;rfl)|(apply r_gF';rfl;rfl)|(apply r_box;((conv=>lhs;simp only [Nat.reduceAdd])<;>rfl);rfl;rfl;rfl)|(apply r_nilK)|(apply k_V;rfl)|(apply k_PL;rfl)|(apply k_nil)|(apply e_ret (vs:=[.d (.val _)]);rfl)|(apply w_seq)|(apply w_ops;((conv=>lhs;simp only [Nat.reduceAdd])<;>rfl))|(apply w_condT;rfl)|(apply e_thenN)|(apply e_thenR)|(apply w_ret))
    exact retB (by simp [sameT,hk])
  subst hk
  rcases Bool.eq_false_or_eq_true (a == a2 && (b == b2 && (c == c2 && d == d2))) with hw | hw
  case inr =>
    refine b47 (by simp) (by simp) (w_init ?_)
    unfold x47
    repeat' (first|(apply r_mvV;rfl)|(apply r_faddL;rfl)|(apply r_ldL (v:=.agg [.d (.val (.int .u64 a)),.d (.val (.int .u64 b)),.d (.val (.int .u64 c)),.d (.val (.int .u64 d))]);rfl;rfl;rfl)|(apply r_ldL (v:=.agg [.d (.val (.int .u64 a2)),.d (.val (.int .u64 b2)),.d (.val (.int .u64 c2)),.d (.val (.int .u64 d2))]);rfl;rfl;rfl)|(apply r_eqX (r:=true);rfl;rfl;(rw [if_pos rfl,hw];rfl))|(apply r_ldL;rfl;rfl;rfl)|(apply r_neq;rfl;rfl;(first|(apply dT;omega)|(apply dF;omega)|rfl))|(apply r_pickT;rfl)|(apply r_pickF;rfl)|(apply r_gT;rfl)|(apply r_gF';rfl;rfl)|(apply r_box;((conv=>lhs;simp only [Nat.reduceAdd])<;>rfl);rfl;rfl;rfl)|(apply r_nilK)|(apply k_V;rfl)|(apply k_PL;rfl)|(apply k_nil)|(apply e_ret (vs:=[.d (.val _)]);rfl)|(apply w_seq)|(apply w_ops;((conv=>lhs;simp only [Nat.reduceAdd])<;>rfl))|(apply w_condT;rfl)|(apply e_thenN)|(apply e_thenR)|(apply w_ret))
    refine retB ?_
    simp only [Bool.and_eq_false_iff,beq_eq_false_iff_ne] at hw
    simp only [sameT]
    symm
    simp only [Bool.and_eq_false_iff,beq_eq_false_iff_ne]
    rcases hw with h | h | h | h
    · exact .inl (.inl (.inl (.inr (.inl (.inl (.inl h))))))
    · exact .inl (.inl (.inl (.inr (.inl (.inl (.inr h))))))
    · exact .inl (.inl (.inl (.inr (.inl (.inr h)))))
    · exact .inl (.inl (.inl (.inr (.inr h))))
  have hs : sameT (.node k a b c d mn mx subs) (.node k a2 b2 c2 d2 mn2 mx2 subs2)=(mn == mn2 && mx == mx2 && sameL subs subs2):=by
    simp only [Bool.and_eq_true,beq_iff_eq] at hw
    obtain ⟨h1,h2,h3,h4⟩:=hw
    simp [sameT,h1,h2,h3,h4]
  rw [hs]
  clear hs
  by_cases hm : mn=mn2
  case neg =>
    refine b47 (by simp) (by simp) (w_init ?_)
    unfold x47
    repeat' (first|(apply r_mvV;rfl)|(apply r_faddL;rfl)|(apply r_ldL (v:=.agg [.d (.val (.int .u64 a)),.d (.val (.int .u64 b)),.d (.val (.int .u64 c)),.d (.val (.int .u64 d))]);rfl;rfl;rfl)|(apply r_ldL (v:=.agg [.d (.val (.int .u64 a2)),.d (.val (.int .u64 b2)),.d (.val (.int .u64 c2)),.d (.val (.int .u64 d2))]);rfl;rfl;rfl)|(apply r_eqX (r:=false);rfl;rfl;(rw [if_pos rfl,hw];rfl))|(apply r_ldL;rfl;rfl;rfl)|(apply r_neq;rfl;rfl;(first|(apply dT;omega)|(apply dF;omega)|rfl))|(apply r_pickT;rfl)|(apply r_pickF;rfl)|(apply r_gT;rfl)|(apply r_gF';rfl;rfl)|(apply r_box;((conv=>lhs;simp only [Nat.reduceAdd])<;>rfl);rfl;rfl;rfl)|(apply r_nilK)|(apply k_V;rfl)|(apply k_PL;rfl)|(apply k_nil)|(apply e_ret (vs:=[.d (.val _)]);rfl)|(apply w_seq)|(apply w_ops;((conv=>lhs;simp only [Nat.reduceAdd])<;>rfl))|(apply w_condT;rfl)|(apply e_thenN)|(apply e_thenR)|(apply w_ret))
    exact retB (by simp [hm])
  by_cases hx : mx=mx2
  case neg =>
    refine b47 (by simp) (by simp) (w_init ?_)
    unfold x47
    repeat' (first|(apply r_mvV;rfl)|(apply r_faddL;rfl)|(apply r_ldL (v:=.agg [.d (.val (.int .u64 a)),.d (.val (.int .u64 b)),.d (.val (.int .u64 c)),.d (.val (.int .u64 d))]);rfl;rfl;rfl)|(apply r_ldL (v:=.agg [.d (.val (.int .u64 a2)),.d (.val (.int .u64 b2)),.d (.val (.int .u64 c2)),.d (.val (.int .u64 d2))]);rfl;rfl;rfl)|(apply r_eqX (r:=false);rfl;rfl;(rw [if_pos rfl,hw];rfl))|(apply r_ldL;rfl;rfl;rfl)|(apply r_neq;rfl;rfl;(first|(apply dT;omega)|(apply dF;omega)|rfl))|(apply r_pickT;rfl)|(apply r_pickF;rfl)|(apply r_gT;rfl)|(apply r_gF';rfl;rfl)|(apply r_box;((conv=>lhs;simp only [Nat.reduceAdd])<;>rfl);rfl;rfl;rfl)|(apply r_nilK)|(apply k_V;rfl)|(apply k_PL;rfl)|(apply k_nil)|(apply e_ret (vs:=[.d (.val _)]);rfl)|(apply w_seq)|(apply w_ops;((conv=>lhs;simp only [Nat.reduceAdd])<;>rfl))|(apply w_condT;rfl)|(apply e_thenN)|(apply e_thenR)|(apply w_ret))
    exact retB (by simp [hx])
  by_cases hl : subs.length=subs2.length
  case neg =>
    refine b47 (by simp) (by simp) (w_init ?_)
    unfold x47
    repeat' (first|(apply r_mvV;rfl)|(apply r_faddL;rfl)|(apply r_ldL (v:=.agg [.d (.val (.int .u64 a)),.d (.val (.int .u64 b)),.d (.val (.int .u64 c)),.d (.val (.int .u64 d))]);rfl;rfl;rfl)|(apply r_ldL (v:=.agg [.d (.val (.int .u64 a2)),.d (.val (.int .u64 b2)),.d (.val (.int .u64 c2)),.d (.val (.int .u64 d2))]);rfl;rfl;rfl)|(apply r_eqX (r:=false);rfl;rfl;(rw [if_pos rfl,hw];rfl))|(apply r_ldL;rfl;rfl;rfl)|(apply r_neq;rfl;rfl;(first|(apply dT;omega)|(apply dF;omega)|rfl))|(apply r_pickF;rfl)|(apply r_lenD;rfl)|(apply r_gT;rfl)|(apply r_box;((conv=>lhs;simp only [Nat.reduceAdd])<;>rfl);rfl;rfl;rfl)|(apply r_nilK)|(apply k_V;rfl)|(apply k_PL;rfl)|(apply k_nil)|(apply e_ret (vs:=[.d (.val _)]);rfl)|(apply w_seq)|(apply w_ops;((conv=>lhs;simp only [Nat.reduceAdd])<;>rfl))|(apply w_condT;rfl)|(apply e_thenN)|(apply e_thenR)|(apply w_ret))
    exact retB (by rw [sameL_len hl];simp)
  subst hm hx
  rw [show (mn == mn && mx == mx && sameL subs subs2)=sameL subs subs2 by simp]
  refine b47 (by simp) (by simp) (w_init ?_)
  unfold x47
  repeat' (first|(apply r_mvV;rfl)|(apply r_faddL;rfl)|(apply r_ldL (v:=.agg [.d (.val (.int .u64 a)),.d (.val (.int .u64 b)),.d (.val (.int .u64 c)),.d (.val (.int .u64 d))]);rfl;rfl;rfl)|(apply r_ldL (v:=.agg [.d (.val (.int .u64 a2)),.d (.val (.int .u64 b2)),.d (.val (.int .u64 c2)),.d (.val (.int .u64 d2))]);rfl;rfl;rfl)|(apply r_eqX (r:=false);rfl;rfl;(rw [if_pos rfl,hw];rfl))|(apply r_ldL;rfl;rfl;rfl)|(apply r_neq;rfl;rfl;(first|(apply dT;omega)|(apply dF;omega)|rfl))|(apply r_pickF;rfl)|(apply r_lenD;rfl)|(apply r_gT;rfl)|(apply r_box;((conv=>lhs;simp only [Nat.reduceAdd])<;>rfl);rfl;rfl;rfl)|(apply r_nilK)|(apply k_V;rfl)|(apply k_PL;rfl)|(apply k_nil)|(apply w_seq)|(apply w_ops;((conv=>lhs;simp only [Nat.reduceAdd])<;>rfl))|(apply w_condF;rfl)|(apply e_thenN)|(apply w_block)|(apply w_skip))
  apply w_loopI (S:=fun i : Nat=>⟨((Fr.nil.put 2 (.ptrL 1 0)).put 3 (.ptrL 2 0)).put 5 (.i i),rowsOf [(1,[.i k,.d (.val (.int .u64 a)),.d (.val (.int .u64 b)),.d (.val (.int .u64 c)),.d (.val (.int .u64 d)),.i mn,.i mx,.d (.sl (encL subs) subs.length)]),(2,[.i k,.d (.val (.int .u64 a2)),.d (.val (.int .u64 b2)),.d (.val (.int .u64 c2)),.d (.val (.int .u64 d2)),.i mn,.i mx,.d (.sl (encL subs2) subs2.length)])],Frz.lo 100,100⟩) (m:=fun i=>subs.length - i) (I:=fun i=>i≤subs.length∧sameL subs subs2=sameL (subs.drop i) (subs2.drop i)) (i0:=0)
  · exact ⟨Nat.zero_le _,rfl⟩
  · refine wkRs (by omega) ?_ ?_
    · intro p hp
      simp only [List.mem_cons,List.not_mem_nil,or_false] at hp
      rcases hp with rfl | rfl<;>exact ⟨by omega,rfl,rfl⟩
    · repeat' (first|exact FWk.nil|(apply FWk.i;rfl;(first|rfl|omega|(simp;done)))|(apply FWk.ptr;rfl;rfl;rfl;omega;rfl))
  rintro i K ⟨hi,hq⟩ hK
  dsimp only
  rcases Nat.lt_or_ge i subs.length with hlt | hge
  · have hlt2 : i < subs2.length:=by omega
    have hs:=NodeAt.sub hlt
    have hs2:=NodeAt.sub hlt2
    have hg:=ih' i hlt hlt2
    have hd:=sameL_drop subs subs2 i hlt hlt2
    have hna : [nodeA subs[i],nodeA subs2[i]].all AV.nrm=true:=by rw [List.all_cons,nodeA_nrm,List.all_cons,nodeA_nrm];rfl
    rcases Bool.eq_false_or_eq_true (sameT subs[i] subs2[i]) with hr | hr
    · rw [hr] at hg hd
      repeat' (first|(apply r_mvV;rfl)|(apply r_faddL;rfl)|(apply r_p;apply ix_sub;rfl;rfl;omega)|(apply r_l;apply ld_node';exact hs;rfl)|(apply r_l;apply ld_node';exact hs2;rfl)|(apply r_callA (ags:=[nodeA subs[i],nodeA subs2[i]]);rfl;exact hna;exact hg)|(apply r_ldL;rfl;rfl;rfl)|(apply r_lss;rfl;rfl;(first|(apply dT;omega)|(apply dF;omega)|rfl))|(apply r_add;rfl;rfl;rfl;omega)|(apply r_not;rfl;rfl)|(apply r_lenD;rfl)|(apply r_nilK)|(apply k_V;rfl)|(apply k_PL;rfl)|(apply k_nil)|(apply w_seq)|(apply w_ops;((conv=>lhs;simp only [Nat.reduceAdd])<;>rfl))|(apply w_condT;rfl)|(apply w_condF;rfl)|(apply e_thenN)|(apply w_block)|(apply e_blkN)|(apply w_skip))
      apply e_thenK
      apply hK (i + 1)
      · exact ⟨by omega,by rw [hq,hd,Bool.true_and]⟩
      · omega
      · refine wkRs (by omega) ?_ ?_
        · intro p hp
          simp only [List.mem_cons,List.not_mem_nil,or_false] at hp
          rcases hp with rfl | rfl<;>exact ⟨by omega,rfl,rfl⟩
        · repeat' (first|exact FWk.nil|(apply FWk.i;rfl;(first|rfl|omega|(simp;done)))|(apply FWk.ptr;rfl;rfl;rfl;omega;rfl))
    · rw [hr] at hg hd
      repeat' (first|(apply r_mvV;rfl)|(apply r_faddL;rfl)|(apply r_p;apply ix_sub;rfl;rfl;omega)|(apply r_l;apply ld_node';exact hs;rfl)|(apply r_l;apply ld_node';exact hs2;rfl)|(apply r_callA (ags:=[nodeA subs[i],nodeA subs2[i]]);rfl;exact hna;exact hg)|(apply r_ldL;rfl;rfl;rfl)|(apply r_lss;rfl;rfl;(first|(apply dT;omega)|(apply dF;omega)|rfl))|(apply r_not;rfl;rfl)|(apply r_lenD;rfl)|(apply r_nilK)|(apply k_V;rfl)|(apply k_PL;rfl)|(apply k_nil)|(apply e_ret (vs:=[.d (.val _)]);rfl)|(apply w_seq)|(apply w_ops;((conv=>lhs;simp only [Nat.reduceAdd])<;>rfl))|(apply w_condT;rfl)|(apply e_thenN)|(apply w_block)|(apply e_thenR)|(apply e_blkR)|(apply w_ret)|(apply w_skip))
      exact retB (by rw [hq,hd,Bool.false_and])
  · have e : sameL subs subs2=true:=by rw [hq,List.drop_of_length_le hge,List.drop_of_length_le (by omega),sameL]
    repeat' (first|(apply r_mvV;rfl)|(apply r_faddL;rfl)|(apply r_ldL;rfl;rfl;rfl)|(apply r_lss;rfl;rfl;(first|(apply dT;omega)|(apply dF;omega)|rfl))|(apply r_lenD;rfl)|(apply r_nilK)|(apply k_V;rfl)|(apply k_PL;rfl)|(apply k_nil)|(apply e_ret (vs:=[.d (.val _)]);rfl)|(apply w_seq)|(apply w_ops;((conv=>lhs;simp only [Nat.reduceAdd])<;>rfl))|(apply w_condF;rfl)|(apply e_thenN)|(apply e_thenX)|(apply e_blkE)|(apply w_exit)|(apply w_ret))
    exact retB e.symm
theorem no138_good (t : T) : Good Try.prog 138 [nodeA t] none (.b (isNo t)) none none:=by
  obtain ⟨k,a,b,c,d,mn,mx,subs⟩:=t
  have e0 : nodeA (.node k a b c d mn mx subs)=.agg [.i k,.d (.val (.int .u64 a)),.d (.val (.int .u64 b)),.d (.val (.int .u64 c)),.d (.val (.int .u64 d)),.i mn,.i mx,.d (.sl (encL subs) subs.length)]:=rfl
  rw [e0]
  by_cases hk : k=2
  · refine b138 (by simp) (by simp) (w_init ?_)
    unfold x138
    repeat' (first|(apply r_mvV;rfl)|(apply r_faddL;rfl)|(apply r_ldL (v:=.agg [.d (.val (.int .u64 a)),.d (.val (.int .u64 b)),.d (.val (.int .u64 c)),.d (.val (.int .u64 d))]);rfl;rfl;rfl)|(apply r_p (v:=.agg [.d (.val (.int .u64 0)),.d (.val (.int .u64 0)),.d (.val (.int .u64 0)),.d (.val (.int .u64 0))]);rfl)|(apply r_eqX;rfl;rfl;rfl)|(apply r_ldL;rfl;rfl;rfl)|(apply r_eql;rfl;rfl;(first|(apply dT;omega)|(apply dF;omega)|rfl))|(apply r_pickT;rfl)|(apply r_gT;rfl)|(apply r_box;((conv=>lhs;simp only [Nat.reduceAdd])<;>rfl);rfl;rfl;rfl)|(apply r_nilK)|(apply k_V;rfl)|(apply k_PL;rfl)|(apply k_nil)|(apply e_ret (vs:=[.d (.val _)]);rfl)|(apply w_seq)|(apply w_ops;((conv=>lhs;simp only [Nat.reduceAdd])<;>rfl))|(apply e_thenN)|(apply w_ret))
    exact retB (by simp [isNo,isZero,hk])
  · refine b138 (by simp) (by simp) (w_init ?_)
    unfold x138
    repeat' (first|(apply r_mvV;rfl)|(apply r_faddL;rfl)|(apply r_ldL;rfl;rfl;rfl)|(apply r_eql;rfl;rfl;(first|(apply dT;omega)|(apply dF;omega)|rfl))|(apply r_pickF;rfl)|(apply r_gF';rfl;rfl)|(apply r_box;((conv=>lhs;simp only [Nat.reduceAdd])<;>rfl);rfl;rfl;rfl)|(apply r_nilK)|(apply k_V;rfl)|(apply k_PL;rfl)|(apply k_nil)|(apply e_ret (vs:=[.d (.val _)]);rfl)|(apply w_seq)|(apply w_ops;((conv=>lhs;simp only [Nat.reduceAdd])<;>rfl))|(apply e_thenN)|(apply w_ret))
    exact retB (by simp [isNo,hk])
theorem of139_good (k : Int) (l : List T) (e : T) (hl : l.length≤100000000) : Good Try.prog 139 [.i k,.d (.sl (encL l) l.length),nodeA e] none (nodeA (ofT k l e)) none none:=by
  obtain ⟨k1,a1,b1,c1,d1,mn1,mx1,subs1⟩:=e
  have e1 : nodeA (.node k1 a1 b1 c1 d1 mn1 mx1 subs1)=.agg [.i k1,.d (.val (.int .u64 a1)),.d (.val (.int .u64 b1)),.d (.val (.int .u64 c1)),.d (.val (.int .u64 d1)),.i mn1,.i mx1,.d (.sl (encL subs1) subs1.length)]:=rfl
  rw [e1]
  match l,hl with
  | [],_ =>
    refine b139 (by simp) (by simp) (w_init ?_)
    unfold x139
    simp only [List.length_nil]
    repeat' (first|(apply r_mvS;rfl)|(apply r_ldL (v:=.agg [.i k1,.d (.val (.int .u64 a1)),.d (.val (.int .u64 b1)),.d (.val (.int .u64 c1)),.d (.val (.int .u64 d1)),.i mn1,.i mx1,.d (.sl (encL subs1) subs1.length)]);rfl;rfl;rfl)|(apply r_eql;rfl;rfl;(first|(apply dT;omega)|(apply dF;omega)|rfl))|(apply r_lenD;rfl)|(apply r_alloc;((conv=>lhs;simp only [Nat.reduceAdd])<;>rfl);rfl)|(apply r_box;((conv=>lhs;simp only [Nat.reduceAdd])<;>rfl);rfl;rfl;rfl)|(apply r_stL;rfl;rfl;rfl;rfl;(first|rfl|(simp only [z_nil,z_add]<;>rfl));rfl;rfl)|(apply r_nilK)|(apply k_V;rfl)|(apply k_PL;rfl)|(apply k_S;rfl)|(apply k_nil)|(apply e_ret;rfl)|(apply w_seq)|(apply w_ops;((conv=>lhs;simp only [Nat.reduceAdd])<;>rfl))|(apply w_condT;rfl)|(apply e_thenN)|(apply e_thenR)|(apply w_ret))
    exact .data _ rfl
  | [u],_ =>
    obtain ⟨k2,a2,b2,c2,d2,mn2,mx2,subs2⟩:=u
    refine b139 (by simp) (by simp) (w_init ?_)
    unfold x139
    simp only [List.length_cons,List.length_nil,Nat.zero_add]
    repeat' (first|(apply r_mvS;rfl)|(apply r_p (v:=.d (.ptr (encL [.node k2 a2 b2 c2 d2 mn2 mx2 subs2]) 0));rfl)|(apply r_l (v:=.agg [.i k2,.d (.val (.int .u64 a2)),.d (.val (.int .u64 b2)),.d (.val (.int .u64 c2)),.d (.val (.int .u64 d2)),.i mn2,.i mx2,.d (.sl (encL subs2) subs2.length)]);rfl)|(apply r_eql;rfl;rfl;(first|(apply dT;omega)|(apply dF;omega)|rfl))|(apply r_lenD;rfl)|(apply r_alloc;((conv=>lhs;simp only [Nat.reduceAdd])<;>rfl);rfl)|(apply r_box;((conv=>lhs;simp only [Nat.reduceAdd])<;>rfl);rfl;rfl;rfl)|(apply r_stL;rfl;rfl;rfl;rfl;(first|rfl|(simp only [z_nil,z_add]<;>rfl));rfl;rfl)|(apply r_nilK)|(apply k_V;rfl)|(apply k_PL;rfl)|(apply k_S;rfl)|(apply k_nil)|(apply e_ret;rfl)|(apply w_seq)|(apply w_ops;((conv=>lhs;simp only [Nat.reduceAdd])<;>rfl))|(apply w_condT;rfl)|(apply w_condF;rfl)|(apply e_thenN)|(apply e_thenR)|(apply w_ret)|(apply w_skip))
    exact .data _ rfl
  | x :: y :: z,hl =>
    refine b139 (by simp) (by simp) (w_init ?_)
    unfold x139
    simp only [List.length_cons] at hl ⊢
    repeat' (first|(apply r_mvV;rfl)|(apply r_mvS;rfl)|(apply r_p (v:=.agg [.i k,.d (.val (.int .u64 0)),.d (.val (.int .u64 0)),.d (.val (.int .u64 0)),.d (.val (.int .u64 0)),.i 0,.i 0,.d (.sl (encL (x :: y :: z)) (z.length + 1 + 1))]);rfl)|(apply r_eql;rfl;rfl;(first|(apply dT;omega)|(apply dF;omega)|rfl))|(apply r_lenD;rfl)|(apply r_alloc;((conv=>lhs;simp only [Nat.reduceAdd])<;>rfl);rfl)|(apply r_box;((conv=>lhs;simp only [Nat.reduceAdd])<;>rfl);rfl;rfl;rfl)|(apply r_stL;rfl;rfl;rfl;rfl;(first|rfl|(simp only [z_nil,z_add]<;>rfl));rfl;rfl)|(apply r_nilK)|(apply k_V;rfl)|(apply k_PL;rfl)|(apply k_S;rfl)|(apply k_nil)|(apply e_ret;rfl)|(apply w_seq)|(apply w_ops;((conv=>lhs;simp only [Nat.reduceAdd])<;>rfl))|(apply w_condF;rfl)|(apply e_thenN)|(apply w_ret)|(apply w_skip))
    exact .data _ rfl
theorem has124_good {a b c d : Int} (ha : okW a) (hb : okW b) (hc : okW c) (hd : okW d) (x : Nat) (hx : x < 256) : Good Try.prog 124 [setA a b c d,.i (x : Nat)] none (.b (inG a b c d x)) none none:=by
  unfold setA
  refine b124 (by simp) (by simp) (w_init ?_)
  unfold x124
  have hw : okW ([a,b,c,d].getD (x / 64) 0):=by
    have : x / 64 < 4:=by omega
    match x / 64,this with
    | 0,_=>exact ha
    | 1,_=>exact hb
    | 2,_=>exact hc
    | 3,_=>exact hd
  repeat' (first|(apply r_mvV;rfl)|(apply r_quoI;rfl;rfl;rfl;omega)|(apply r_remI;rfl;rfl;rfl)|(apply r_ixPL;rfl;rfl;omega)|(apply r_ldWL;rfl;rfl;omega)|(apply r_shrI;rfl;rfl;exact hw;omega)|(apply r_rem2;rfl;rfl;exact (okW_div hw _).1)|(apply r_eqlU;rfl;rfl;rfl)|(apply r_box;((conv=>lhs;simp only [Nat.reduceAdd])<;>rfl);rfl;rfl;rfl)|(apply r_nilK)|(apply k_V;rfl)|(apply k_PL;rfl)|(apply k_nil)|(apply e_ret (vs:=[.d (.val _)]);rfl)|(apply w_seq)|(apply w_ops;((conv=>lhs;simp only [Nat.reduceAdd])<;>rfl))|(apply e_thenN)|(apply w_ret))
  exact retB rfl
theorem list74_good {a b c d : Int} (ha : okW a) (hb : okW b) (hc : okW c) (hd : okW d) : Good Try.prog 74 [setA a b c d] none (.d (.sl (encI (encJ (listTo a b c d 256))) (listTo a b c d 256).length)) none none:=by
  unfold setA
  refine b74 (by simp) (by simp) (w_init ?_)
  unfold x74
  repeat' (first|(apply r_mvV;rfl)|(apply r_box;((conv=>lhs;simp only [Nat.reduceAdd])<;>rfl);rfl;rfl;rfl)|(apply r_nilK)|(apply k_V;rfl)|(apply k_PL;rfl)|(apply k_nil)|(apply w_seq)|(apply w_ops;((conv=>lhs;simp only [Nat.reduceAdd])<;>rfl))|(apply e_thenN)|(apply w_block))
  apply w_loopI (S:=fun i : Nat=>⟨((Fr.nil.put 1 (.ptrL 1 0)).put 3 (.slL 50 0 (listTo a b c d i).length 1)).put 4 (.i i),rowsOf [(1,[.d (.val (.int .u64 a)),.d (.val (.int .u64 b)),.d (.val (.int .u64 c)),.d (.val (.int .u64 d))]),(50,(encI (encJ (listTo a b c d i))).map AV.d)],Frz.buts 100 [50],100⟩) (m:=fun i=>256 - i) (I:=fun i=>i≤256) (i0:=0)
  · exact Nat.zero_le _
  · refine wkM [] [50] rfl ?_ ?_ rfl ?_
    · intro p hp
      simp only [List.mem_cons,List.not_mem_nil,or_false] at hp
      rcases hp with rfl | rfl
      · exact ⟨by omega,.inr ⟨rfl,_,rfl,.data rfl⟩⟩
      · exact ⟨by omega,.inl ⟨rfl,rfl⟩⟩
    · intro q hq;simp only [List.mem_cons,List.not_mem_nil,or_false] at hq;rcases hq with rfl<;>rfl
    · repeat' (first|exact FWk.nil|(apply FWk.i;rfl;(first|rfl|omega|(simp;done)))|(apply FWk.ptr;rfl;rfl;rfl;omega;rfl)|(apply FWk.slN;rfl;omega;rfl))
  intro i K hi hK
  dsimp only
  rcases Nat.lt_or_ge i 256 with hlt | hge
  · have hh:=has124_good ha hb hc hd i hlt
    unfold setA at hh
    have hidx:=listTo_len a b c d i
    rcases Bool.eq_false_or_eq_true (inG a b c d i) with hq | hq
    · rw [hq] at hh
      have e : listTo a b c d (i + 1)=listTo a b c d i++[i]:=by rw [listTo,if_pos hq]
      repeat' (first|(apply r_mvV;rfl)|(apply r_mvSL;rfl)|(apply r_ldL (v:=.agg [.d (.val (.int .u64 a)),.d (.val (.int .u64 b)),.d (.val (.int .u64 c)),.d (.val (.int .u64 d))]);rfl;rfl;rfl)|(apply r_callA;rfl;rfl;exact hh)|(apply r_mkrow1;rfl;((conv=>lhs;simp only [Nat.reduceAdd])<;>rfl))|(apply r_app1 (li:=encJ (listTo a b c d i));rfl;rfl;rfl;rfl;rfl;((conv=>lhs;simp only [Nat.reduceAdd])<;>rfl);exact encJ_len _;omega)|(apply r_lss;rfl;rfl;(first|(apply dT;omega)|(apply dF;omega)|rfl))|(apply r_add;rfl;rfl;rfl;omega)|(apply r_nilK)|(apply k_V;rfl)|(apply k_PL;rfl)|(apply k_SL;rfl)|(apply k_nil)|(apply w_seq)|(apply w_ops;((conv=>lhs;simp only [Nat.reduceAdd])<;>rfl))|(apply w_condT;rfl)|(apply e_thenN)|(apply w_block)|(apply e_blkN)|(apply w_skip))
      apply e_thenK
      apply hK (i + 1)
      · omega
      · omega
      · rw [e]
        refine wkM [(50,108)] [] rfl ?_ ?_ rfl ?_
        · intro p hp
          simp only [List.mem_cons,List.not_mem_nil,or_false] at hp
          rcases hp with rfl | rfl
          · exact ⟨by omega,.inr ⟨rfl,_,rfl,.data rfl⟩⟩
          · refine ⟨by omega,.inr ⟨rfl,_,?_,.data (by simp [encI,AV.isD])⟩⟩
            rw [encJ_app];rfl
        · intro q hq;simp only [List.mem_cons,List.not_mem_nil,or_false] at hq;rcases hq with rfl<;>rfl
        · rw [List.length_append]
          repeat' (first|exact FWk.nil|(apply FWk.i;rfl;(first|rfl|omega|(simp;done)))|(apply FWk.sl;rfl;rfl;rfl;rfl;omega;rfl)|(apply FWk.ptr;rfl;rfl;rfl;omega;rfl))
    · rw [hq] at hh
      have e : listTo a b c d (i + 1)=listTo a b c d i:=by rw [listTo,if_neg (by simp [hq])]
      repeat' (first|(apply r_mvV;rfl)|(apply r_ldL (v:=.agg [.d (.val (.int .u64 a)),.d (.val (.int .u64 b)),.d (.val (.int .u64 c)),.d (.val (.int .u64 d))]);rfl;rfl;rfl)|(apply r_callA;rfl;rfl;exact hh)|(apply r_lss;rfl;rfl;(first|(apply dT;omega)|(apply dF;omega)|rfl))|(apply r_add;rfl;rfl;rfl;omega)|(apply r_nilK)|(apply k_V;rfl)|(apply k_PL;rfl)|(apply k_SL;rfl)|(apply k_nil)|(apply w_seq)|(apply w_ops;((conv=>lhs;simp only [Nat.reduceAdd])<;>rfl))|(apply w_condT;rfl)|(apply w_condF;rfl)|(apply e_thenN)|(apply w_block)|(apply e_blkN)|(apply w_skip))
      apply e_thenK
      apply hK (i + 1)
      · omega
      · omega
      · rw [e]
        refine wkM [] [] rfl ?_ ?_ rfl ?_
        · intro p hp
          simp only [List.mem_cons,List.not_mem_nil,or_false] at hp
          rcases hp with rfl | rfl
          · exact ⟨by omega,.inr ⟨rfl,_,rfl,.data rfl⟩⟩
          · exact ⟨by omega,.inr ⟨rfl,_,rfl,.data (by simp [encI,AV.isD])⟩⟩
        · intro q hq;simp only [List.mem_cons,List.not_mem_nil,or_false] at hq;rcases hq with rfl<;>rfl
        · repeat' (first|exact FWk.nil|(apply FWk.i;rfl;(first|rfl|omega|(simp;done)))|(apply FWk.sl;rfl;rfl;rfl;rfl;omega;rfl)|(apply FWk.ptr;rfl;rfl;rfl;omega;rfl))
  · have ei : i=256:=by omega
    subst ei
    repeat' (first|(apply r_mvV;rfl)|(apply r_mvSL;rfl)|(apply r_lss;rfl;rfl;(first|(apply dT;omega)|(apply dF;omega)|rfl))|(apply r_nilK)|(apply k_V;rfl)|(apply k_PL;rfl)|(apply k_SL;rfl)|(apply k_nil)|(apply e_ret;rfl)|(apply w_seq)|(apply w_ops;((conv=>lhs;simp only [Nat.reduceAdd])<;>rfl))|(apply w_condF;rfl)|(apply e_thenN)|(apply e_thenX)|(apply e_blkE)|(apply w_exit)|(apply w_ret))
    exact retL1 rfl (encJ_len _)
theorem set99_good (l : List Nat) (hx : ∀ x ∈ l,x < 256) (hl : l.length≤10000000000) : Good Try.prog 99 [.d (.sl (encI (encJ l)) l.length)] none (.agg (encW (setWs l))) none none:=by
  have hle : (encJ l).length=l.length:=encJ_len l
  refine b99 (by simp) (by simp) (w_init ?_)
  unfold x99
  repeat' (first|(apply r_mvV;rfl)|(apply r_alloc;((conv=>lhs;simp only [Nat.reduceAdd])<;>rfl);rfl)|(apply r_nilK)|(apply k_V;rfl)|(apply k_PL;rfl)|(apply k_S;rfl)|(apply k_nil)|(apply w_seq)|(apply w_ops;((conv=>lhs;simp only [Nat.reduceAdd])<;>rfl))|(apply e_thenN)|(apply w_block))
  apply w_loopI (S:=fun i : Nat=>⟨(((Fr.nil.put 0 (.d (.sl (encI (encJ l)) l.length))).put 2 (.ptrL 1 0)).put 3 (.ptrL 2 0)).put 4 (.i i),rowsOf [(1,encW [0,0,0,0]),(2,encW (setWs (l.take i)))],Frz.buts 100 [1,2],100⟩) (m:=fun i=>l.length - i) (I:=fun i=>i≤l.length) (i0:=0)
  · exact Nat.zero_le _
  · refine wkM [] [] rfl ?_ ?_ rfl ?_
    · intro p hp
      simp only [List.mem_cons,List.not_mem_nil,or_false] at hp
      rcases hp with rfl | rfl
      · exact ⟨by omega,.inr ⟨rfl,_,rfl,.data rfl⟩⟩
      · exact ⟨by omega,.inr ⟨rfl,_,rfl,.data rfl⟩⟩
    · intro q hq;simp only [List.mem_cons,List.not_mem_nil,or_false] at hq;rcases hq with rfl | rfl<;>rfl
    · repeat' (first|exact FWk.nil|(apply FWk.i;rfl;(first|rfl|omega|(simp;done)))|(apply FWk.ptr;rfl;rfl;rfl;omega;rfl)|(apply FWk.d;rfl;rfl))
  intro i K hi hK
  dsimp only
  rcases Nat.lt_or_ge i l.length with hlt | hge
  · have hxi : l[i] < 256:=hx _ (List.getElem_mem hlt)
    have hget : (encJ l)[i]?=some ((l[i] : Nat) : Int):=by
      simp [encJ,List.getElem?_eq_getElem hlt]
    have htk : l.take (i + 1)=l.take i++[l[i]]:=List.take_succ_eq_append_getElem hlt
    obtain ⟨hok,_⟩:=setWs_ok (l:=l.take i) (fun x h=>hx x (List.mem_of_mem_take h))
    have hst : setWs (l.take (i + 1))=addB (setWs (l.take i)) l[i]:=by rw [htk,setWs_snoc]
    generalize l[i]=x at hxi hget hst
    generalize setWs (l.take i)=ws at hok hst ⊢
    have h4:=hok.1
    have hw:=okWs_getD hok (x / 64)
    have key : ∀ w,bitG (ws.getD (x / 64) 0) x=w→(if w=true then ws else ws.set (x / 64) (ws.getD (x / 64) 0 + 2 ^ (x % 64)))=addB ws x:=by
      intro w h;subst h;rfl
    have hadd:=fun h=>(addW_ok (x:=x) hw h).1
    match ws,h4 with
    | [w0,w1,w2,w3],_ =>
    have hh:=has124_good (hok.2 w0 (by simp)) (hok.2 w1 (by simp)) (hok.2 w2 (by simp)) (hok.2 w3 (by simp)) x hxi
    unfold setA at hh
    have hin : inG w0 w1 w2 w3 x=bitG ([w0,w1,w2,w3].getD (x / 64) 0) x:=rfl
    rcases Bool.eq_false_or_eq_true (bitG ([w0,w1,w2,w3].getD (x / 64) 0) x) with hq | hq
    · rw [hin,hq] at hh
      have e:=key true hq
      rw [if_pos rfl] at e
      repeat' (first|(apply r_mvV;rfl)|(apply r_mvS;rfl)|(apply r_ldL (v:=.agg [.d (.val (.int .u64 w0)),.d (.val (.int .u64 w1)),.d (.val (.int .u64 w2)),.d (.val (.int .u64 w3))]);rfl;rfl;rfl)|(apply r_ixI (j:=i);rfl;rfl;rfl;exact hle;exact hlt)|(apply r_ldI;rfl;exact hget)|(apply r_callA;rfl;rfl;exact hh)|(apply r_lss;rfl;rfl;(first|(apply dT;omega)|(apply dF;omega)|rfl))|(apply r_add;rfl;rfl;rfl;omega)|(apply r_not;rfl;rfl)|(apply r_lenD;rfl)|(apply r_nilK)|(apply k_V;rfl)|(apply k_PL;rfl)|(apply k_S;rfl)|(apply k_nil)|(apply w_seq)|(apply w_ops;((conv=>lhs;simp only [Nat.reduceAdd])<;>rfl))|(apply w_condT;rfl)|(apply w_condF;rfl)|(apply e_thenN)|(apply w_block)|(apply e_blkN)|(apply w_skip))
      apply e_thenK
      apply hK (i + 1)
      · omega
      · omega
      · rw [hst,← e]
        refine wkM [] [] rfl ?_ ?_ rfl ?_
        · intro p hp
          simp only [List.mem_cons,List.not_mem_nil,or_false] at hp
          rcases hp with rfl | rfl
          · exact ⟨by omega,.inr ⟨rfl,_,rfl,.data rfl⟩⟩
          · exact ⟨by omega,.inr ⟨rfl,_,rfl,.data rfl⟩⟩
        · intro q hq;simp only [List.mem_cons,List.not_mem_nil,or_false] at hq;rcases hq with rfl | rfl<;>rfl
        · repeat' (first|exact FWk.nil|(apply FWk.i;rfl;(first|rfl|omega|(simp;done)))|(apply FWk.ptr;rfl;rfl;rfl;omega;rfl)|(apply FWk.d;rfl;rfl))
    · rw [hin,hq] at hh
      have e:=key false hq
      rw [if_neg (by simp)] at e
      have ha:=hadd hq
      repeat' (first|(apply r_mvV;rfl)|(apply r_mvS;rfl)|(apply r_ldL (v:=.agg [.d (.val (.int .u64 w0)),.d (.val (.int .u64 w1)),.d (.val (.int .u64 w2)),.d (.val (.int .u64 w3))]);rfl;rfl;rfl)|(apply r_ixI (j:=i);rfl;rfl;rfl;exact hle;exact hlt)|(apply r_ldI;rfl;exact hget)|(apply r_callA;rfl;rfl;exact hh)|(apply r_quoI;rfl;rfl;rfl;omega)|(apply r_remI;rfl;rfl;rfl)|(apply r_ixPL;rfl;rfl;omega)|(apply r_ldWs (ws:=[w0,w1,w2,w3]);rfl;rfl;(simp;omega))|(apply r_shlI;rfl;rfl;omega)|(apply r_addW;rfl;rfl;exact ha)|(apply r_stWs (ws:=[w0,w1,w2,w3]);rfl;rfl;rfl;rfl;(simp;omega))|(apply r_lss;rfl;rfl;(first|(apply dT;omega)|(apply dF;omega)|rfl))|(apply r_add;rfl;rfl;rfl;omega)|(apply r_not;rfl;rfl)|(apply r_lenD;rfl)|(apply r_nilK)|(apply k_V;rfl)|(apply k_PL;rfl)|(apply k_S;rfl)|(apply k_nil)|(apply w_seq)|(apply w_ops;((conv=>lhs;simp only [Nat.reduceAdd])<;>rfl))|(apply w_condT;rfl)|(apply e_thenN)|(apply w_block)|(apply e_blkN)|(apply w_skip))
      apply e_thenK
      apply hK (i + 1)
      · omega
      · omega
      · rw [hst,← e]
        refine wkM [] [] rfl ?_ ?_ rfl ?_
        · intro p hp
          simp only [List.mem_cons,List.not_mem_nil,or_false] at hp
          rcases hp with rfl | rfl
          · exact ⟨by omega,.inr ⟨rfl,_,rfl,.data rfl⟩⟩
          · exact ⟨by omega,.inr ⟨rfl,_,rfl,.data (encW_isD _)⟩⟩
        · intro q hq;simp only [List.mem_cons,List.not_mem_nil,or_false] at hq;rcases hq with rfl | rfl<;>rfl
        · repeat' (first|exact FWk.nil|(apply FWk.i;rfl;(first|rfl|omega|(simp;done)))|(apply FWk.ptr;rfl;rfl;rfl;omega;rfl)|(apply FWk.d;rfl;rfl))
  · rw [List.take_of_length_le hge]
    obtain ⟨hok,_⟩:=setWs_ok hx
    generalize setWs l=ws at hok
    match ws,hok.1 with
    | [w0,w1,w2,w3],_ =>
    repeat' (first|(apply r_mvV;rfl)|(apply r_mvS;rfl)|(apply r_ldL (v:=.agg [.d (.val (.int .u64 w0)),.d (.val (.int .u64 w1)),.d (.val (.int .u64 w2)),.d (.val (.int .u64 w3))]);rfl;rfl;rfl)|(apply r_lss;rfl;rfl;(first|(apply dT;omega)|(apply dF;omega)|rfl))|(apply r_lenD;rfl)|(apply r_stL;rfl;rfl;rfl;rfl;(first|rfl|(simp only [z_nil,z_add]<;>rfl));rfl;rfl)|(apply r_nilK)|(apply k_V;rfl)|(apply k_PL;rfl)|(apply k_S;rfl)|(apply k_nil)|(apply e_ret;rfl)|(apply w_seq)|(apply w_ops;((conv=>lhs;simp only [Nat.reduceAdd])<;>rfl))|(apply w_condF;rfl)|(apply e_thenN)|(apply e_thenX)|(apply e_blkE)|(apply w_exit)|(apply w_ret))
    exact .data _ rfl
end Go.Sv
namespace Go.Sv
open Go Go.Proofs
def x92 : XC:=(.seq (.ops 1 [ (0,⟨some 2,none,.alloc [(.int .i64 0),(.int .u64 0),(.int .u64 0),(.int .u64 0),(.int .u64 0),(.int .i64 0),(.int .i64 0),(.slice none 0 0)]⟩)] (some [0,2])) (.seq (.ops 1 [ (0,⟨some 3,none,.mv (.k (.d (.val (.slice none 0 0))))⟩)] (some [0,2,3])) (.seq (.seq (.ops 1 [ (0,⟨some 4,none,.mv (.k (.d (.val (.int .i64 0))))⟩)] (some [0,2,3,4])) (.block 0 (.loop (.seq (.seq (.ops 4 [ (0,⟨some 7,none,.mv (.t 4)⟩),(1,⟨some 8,none,.mv (.t 0)⟩),(2,⟨some 9,none,.lenS (.t 8)⟩),(3,⟨some 10,none,.arith .lss (.t 7) (.t 9)⟩)] (some [0,2,3,4,10])) (.cond (.t 10) .skip (.exit 0))) (.seq (.block 1 (.seq (.ops 6 [ (0,⟨some 13,none,.mv (.t 0)⟩),(1,⟨some 14,none,.mv (.t 4)⟩),(2,⟨some 15,none,.idxS 8 (.t 13) (.t 14)⟩),(3,⟨some 16,none,.fadd 0 (.t 15)⟩),(4,⟨some 17,none,.load none (.t 16)⟩),(5,⟨some 18,none,.arith .eql (.t 17) (.k (.d (.val (.int .i64 3))))⟩)] (some [0,2,3,4,18])) (.cond (.t 18) (.ops 8 [ (0,⟨some 19,none,.mv (.t 3)⟩),(1,⟨some 20,none,.mv (.t 0)⟩),(2,⟨some 21,none,.mv (.t 4)⟩),(3,⟨some 22,none,.idxS 8 (.t 20) (.t 21)⟩),(4,⟨some 23,none,.fadd 7 (.t 22)⟩),(5,⟨some 24,none,.load none (.t 23)⟩),(6,⟨some 25,none,.app [(.int .i64 0),(.int .u64 0),(.int .u64 0),(.int .u64 0),(.int .u64 0),(.int .i64 0),(.int .i64 0),(.slice none 0 0)] 80 (.t 19) (.t 24)⟩),(7,⟨some 3,none,.mv (.t 25)⟩)] (some [0,2,3,4])) (.ops 8 [ (0,⟨some 26,none,.mv (.t 3)⟩),(1,⟨some 27,none,.mv (.t 0)⟩),(2,⟨some 28,none,.mv (.t 4)⟩),(3,⟨some 29,none,.idxS 8 (.t 27) (.t 28)⟩),(4,⟨some 30,none,.load (some 8) (.t 29)⟩),(5,⟨some 31,none,.mkrow [(.int .i64 0),(.int .u64 0),(.int .u64 0),(.int .u64 0),(.int .u64 0),(.int .i64 0),(.int .i64 0),(.slice none 0 0)] 1 8 [(0,8,(.t 30))]⟩),(6,⟨some 32,none,.app [(.int .i64 0),(.int .u64 0),(.int .u64 0),(.int .u64 0),(.int .u64 0),(.int .i64 0),(.int .i64 0),(.slice none 0 0)] 80 (.t 26) (.t 31)⟩),(7,⟨some 3,none,.mv (.t 32)⟩)] (some [0,2,3,4]))))) (.ops 3 [ (0,⟨some 11,none,.mv (.t 4)⟩),(1,⟨some 12,none,.arith .add (.t 11) (.k (.d (.val (.int .i64 1))))⟩),(2,⟨some 4,none,.mv (.t 12)⟩)] (some [0,2,3,4]))))))) (.seq (.ops 1 [ (0,⟨some 5,none,.mv (.k (.d (.val (.slice none 0 0))))⟩)] (some [2,3,5])) (.seq (.seq (.ops 1 [ (0,⟨some 6,none,.mv (.k (.d (.val (.int .i64 0))))⟩)] (some [2,3,5,6])) (.block 2 (.loop (.seq (.seq (.ops 4 [ (0,⟨some 33,none,.mv (.t 6)⟩),(1,⟨some 34,none,.mv (.t 3)⟩),(2,⟨some 35,none,.lenS (.t 34)⟩),(3,⟨some 36,none,.arith .lss (.t 33) (.t 35)⟩)] (some [2,3,5,6,36])) (.cond (.t 36) .skip (.exit 2))) (.seq (.block 3 (.seq (.seq (.ops 5 [ (0,⟨some 39,none,.mv (.t 3)⟩),(1,⟨some 40,none,.mv (.t 6)⟩),(2,⟨some 41,none,.idxS 8 (.t 39) (.t 40)⟩),(3,⟨some 42,none,.load (some 8) (.t 41)⟩),(4,⟨some 43,none,.call 138 [(.t 42)] none false⟩)] (some [2,3,5,6,43])) (.cond (.t 43) (.seq (.ops 2 [ (0,⟨some 44,none,.build [(.int .i64 0),(.int .u64 0),(.int .u64 0),(.int .u64 0),(.int .u64 0),(.int .i64 0),(.int .i64 0),(.slice none 0 0)] [(0,1,(.k (.d (.val (.int .i64 2)))))]⟩),(1,⟨none,none,.store 8 (.t 2) (.t 44)⟩)] (some [2])) .ret) .skip)) (.seq (.ops 6 [ (0,⟨some 45,none,.mv (.t 3)⟩),(1,⟨some 46,none,.mv (.t 6)⟩),(2,⟨some 47,none,.idxS 8 (.t 45) (.t 46)⟩),(3,⟨some 48,none,.fadd 0 (.t 47)⟩),(4,⟨some 49,none,.load none (.t 48)⟩),(5,⟨some 50,none,.arith .neq (.t 49) (.k (.d (.val (.int .i64 1))))⟩)] (some [2,3,5,6,50])) (.cond (.t 50) (.ops 8 [ (0,⟨some 51,none,.mv (.t 5)⟩),(1,⟨some 52,none,.mv (.t 3)⟩),(2,⟨some 53,none,.mv (.t 6)⟩),(3,⟨some 54,none,.idxS 8 (.t 52) (.t 53)⟩),(4,⟨some 55,none,.load (some 8) (.t 54)⟩),(5,⟨some 56,none,.mkrow [(.int .i64 0),(.int .u64 0),(.int .u64 0),(.int .u64 0),(.int .u64 0),(.int .i64 0),(.int .i64 0),(.slice none 0 0)] 1 8 [(0,8,(.t 55))]⟩),(6,⟨some 57,none,.app [(.int .i64 0),(.int .u64 0),(.int .u64 0),(.int .u64 0),(.int .u64 0),(.int .i64 0),(.int .i64 0),(.slice none 0 0)] 80 (.t 51) (.t 56)⟩),(7,⟨some 5,none,.mv (.t 57)⟩)] (some [2,3,5,6])) .skip)))) (.ops 3 [ (0,⟨some 37,none,.mv (.t 6)⟩),(1,⟨some 38,none,.arith .add (.t 37) (.k (.d (.val (.int .i64 1))))⟩),(2,⟨some 6,none,.mv (.t 38)⟩)] (some [2,3,5,6]))))))) (.seq (.ops 4 [ (0,⟨some 58,none,.mv (.t 5)⟩),(1,⟨some 59,none,.build [(.int .i64 0),(.int .u64 0),(.int .u64 0),(.int .u64 0),(.int .u64 0),(.int .i64 0),(.int .i64 0),(.slice none 0 0)] [(0,1,(.k (.d (.val (.int .i64 1)))))]⟩),(2,⟨some 60,none,.call 139 [(.k (.d (.val (.int .i64 3)))),(.t 58),(.t 59)] none false⟩),(3,⟨none,none,.store 8 (.t 2) (.t 60)⟩)] (some [2])) .ret))))))
def md92 : FuncId→Option Nat × Bool
  | _=>(none,false)
def od92 : Nat→List (List Nat) × List Nat × Option (List Nat)
  | 0=>([],[],some [0,2])
  | 1=>([],[],some [0,2,3])
  | 2=>([],[],some [0,2,3,4])
  | 3=>([],[],some [0,2,3,4,10])
  | 4=>([],[],some [0,2,3,4])
  | 5=>([],[],some [0,2,3,4,18])
  | 6=>([],[],some [0,2,3,4])
  | 7=>([],[],some [0,2,3,4])
  | 8=>([],[],some [2,3,5])
  | 9=>([],[],some [2,3,5,6])
  | 10=>([],[],some [2,3,5,6,36])
  | 11=>([],[],some [2,3,5,6])
  | 12=>([],[],some [2,3,5,6,43])
  | 13=>([],[],some [2])
  | 14=>([],[],some [2,3,5,6,50])
  | 15=>([],[],some [2,3,5,6])
  | 16=>([],[],some [2])
  | _=>([],[],none)
theorem b92 {ags : List AV} {row : Option (List DV)} {r : AV} {row' nw : Option (List DV)} (hal : ags.length≤61) (hrow : row'.isSome=true→row.isSome=true) (h : xwp Try.prog x92 (retK [.cell 2 (some 8)] row.isSome r row' nw) (St.init ags row)) : Good Try.prog 92 ags row r row' nw :=
  good_of_body' (md:=md92) (od:=od92) Try.f92 (by kernel_rfl) (by kernel_rfl) (by kernel_rfl) (by kernel_rfl) (by kernel_rfl) hal hrow h

section
variable {P : Program} {Q : Cont} {fr : Fr} {C : Heap} {Z : Frz} {nx : Nat} {base n d : Nat} {l : List (Nat × XO)} {kp : Option (List Nat)} {x i y s : X}
theorem r_callS2 {f : FuncId} {xs : List X} {pre pre' post post' : List AV} {b m : Nat} {L : List T} {r : AV} {us : List Nat} (ha : xs.map (X.ev fr)=pre++.slL b 0 m 8 :: post) (hn : convAs C (fun _=>false) pre=some (pre',[])) (hp : convAs C (fun _=>false) post=some (post',[])) (hC : C b=some ((encL L).map AV.d)) (hm : L.length=m) (hg : Good P f (pre'++.d (.sl (encL L) m) :: post') none r none none) (hu : (if r.scalar=true then [] else if m=0 then [] else [b])=us)
    (k : R P l base kp Q nx (fr.put d r) C (Z.add us)) : R P ((n,⟨some d,none,.call f xs none false⟩) :: l) base kp Q nx fr C Z:=by
  subst hu
  refine r_call (bs:=pre'++.d (.sl (encL L) m) :: post') (us:=[]++((if m=0 then [] else [b])++[])) ha ?_ hg (by simp) k
  refine convAs_app hn ?_
  simp only [convAs,conv_rowA (ex:=fun _=>false) hC hm rfl,Option.bind_some,hp,Option.map_some]
end
theorem flatL_take (k : Int) (l : List T) (i : Nat) (h : i < l.length) : flatL k (l.take (i + 1))=flatL k (l.take i)++flatO k l[i]:=by
  rw [List.take_succ_eq_append_getElem h]
  have : ∀ l r : List T,flatL k (l++r)=flatL k l++flatL k r:=by
    intro l r
    induction l with
    | nil=>rfl
    | cons t l ih=>rw [List.cons_append,flatL,ih,flatL,List.append_assoc]
  rw [this,flatL,flatL,List.append_nil]
theorem flatL_len (k : Int) (l : List T) : (flatL k l).length≤cntL l:=Nat.le_trans (cntL_len _) (cntL_flat k l)
theorem filter_take (p : T→Bool) (l : List T) (i : Nat) (h : i < l.length) : (l.take (i + 1)).filter p=(l.take i).filter p++(if p l[i]=true then [l[i]] else []):=by
  rw [List.take_succ_eq_append_getElem h,List.filter_append]
  congr 1
  rw [List.filter_cons]
  split<;>rfl
theorem any_take (p : T→Bool) (l : List T) (i : Nat) (h : i < l.length) : (l.take (i + 1)).any p=((l.take i).any p || p l[i]):=by
  rw [List.take_succ_eq_append_getElem h,List.any_append];simp
set_option maxRecDepth 100000
set_option maxHeartbeats 4000000
attribute [local irreducible] W E R KP thenK blockK retK Good xwp aRun
theorem cat92_good (l : List T) (hc : cntL l≤50000000) : Good Try.prog 92 [.d (.sl (encL l) l.length)] none (nodeA (catS l)) none none:=by
  have hll:=cntL_len l
  have hfl:=flatL_len 3 l
  have hft : ∀ i,(flatL 3 (l.take i)).length≤50000000:=fun i=>by
    have h1:=flatL_len 3 (l.take i)
    have h2:=cntL_take_le l i
    omega
  refine b92 (by simp) (by simp) (w_init ?_)
  unfold x92
  repeat' (first|(apply r_mvV;rfl)|(apply r_alloc;((conv=>lhs;simp only [Nat.reduceAdd])<;>rfl);rfl)|(apply r_nilK)|(apply k_V;rfl)|(apply k_PL;rfl)|(apply k_S;rfl)|(apply k_nil)|(apply w_seq)|(apply w_ops;((conv=>lhs;simp only [Nat.reduceAdd])<;>rfl))|(apply e_thenN)|(apply w_block))
  apply w_loopI (S:=fun i : Nat=>⟨(((Fr.nil.put 0 (.d (.sl (encL l) l.length))).put 2 (.ptrL 1 0)).put 3 (.slL 50 0 (flatL 3 (l.take i)).length 8)).put 4 (.i i),rowsOf [(1,zeroA zsN),(50,(encL (flatL 3 (l.take i))).map AV.d)],Frz.buts 100 [1,50],100⟩) (m:=fun i=>l.length - i) (I:=fun i=>i≤l.length) (i0:=0)
  · exact Nat.zero_le _
  · refine wkM [] [50] rfl ?_ ?_ rfl ?_
    · intro p hp
      simp only [List.mem_cons,List.not_mem_nil,or_false] at hp
      rcases hp with rfl | rfl
      · exact ⟨by omega,.inr ⟨rfl,_,rfl,.data rfl⟩⟩
      · exact ⟨by omega,.inl ⟨rfl,rfl⟩⟩
    · intro q hq;simp only [List.mem_cons,List.not_mem_nil,or_false] at hq;rcases hq with rfl | rfl<;>rfl
    · repeat' (first|exact FWk.nil|(apply FWk.i;rfl;(first|rfl|omega|(simp;done)))|(apply FWk.ptr;rfl;rfl;rfl;omega;rfl)|(apply FWk.d;rfl;rfl)|(apply FWk.slN;rfl;omega;rfl))
  intro i K hi hK
  dsimp only
  rcases Nat.lt_or_ge i l.length with hlt | hge
  · have hs:=NodeAt.sub hlt
    have htk:=flatL_take 3 l i hlt
    have h1:=hft i
    have h2:=hft (i + 1)
    have hsub : l[i].subs.length≤50000000:=by
      have h3:=cntL_get l i hlt
      have h4:=cntL_len l[i].subs
      have h5 : cntL l[i].subs≤l[i].cnt:=by cases l[i];simp [T.subs,T.cnt]
      omega
    by_cases hk : l[i].kind=3
    · have e : flatO 3 l[i]=l[i].subs:=by rw [flatO,if_pos hk]
      rw [e] at htk
      generalize l[i]=v at hs hk htk hsub
      repeat' (first|(apply r_mvV;rfl)|(apply r_mvS;rfl)|(apply r_mvSL;rfl)|(apply r_faddD;rfl)|(apply r_p;apply ix_sub;rfl;rfl;omega)|(apply r_l;apply ld_kind';exact hs;rfl)|(apply r_l;apply ld_subs';exact hs;rfl)|(apply r_appD (b:=50) (id:=116) (K:=flatL 3 (l.take i)) (L:=v.subs);rfl;rfl;rfl;rfl;rfl;rfl;rfl;omega)|(apply r_eql;rfl;rfl;(first|(apply dT;omega)|(apply dF;omega)|rfl))|(apply r_lss;rfl;rfl;(first|(apply dT;omega)|(apply dF;omega)|rfl))|(apply r_add;rfl;rfl;rfl;omega)|(apply r_lenD;rfl)|(apply r_nilK)|(apply k_V;rfl)|(apply k_PL;rfl)|(apply k_S;rfl)|(apply k_SL;rfl)|(apply k_nil)|(apply w_seq)|(apply w_ops;((conv=>lhs;simp only [Nat.reduceAdd])<;>rfl))|(apply w_condT;rfl)|(apply e_thenN)|(apply w_block)|(apply e_blkN)|(apply w_skip))
      apply e_thenK
      apply hK (i + 1)
      · omega
      · omega
      · rw [htk]
        refine wkM [(50,116)] [] rfl ?_ ?_ rfl ?_
        · intro p hp
          simp only [List.mem_cons,List.not_mem_nil,or_false] at hp
          rcases hp with rfl | rfl
          · exact ⟨by omega,.inr ⟨rfl,_,rfl,.data rfl⟩⟩
          · exact ⟨by omega,.inr ⟨rfl,_,rfl,.data (isD_encL _)⟩⟩
        · intro q hq;simp only [List.mem_cons,List.not_mem_nil,or_false] at hq;rcases hq with rfl | rfl<;>rfl
        · rw [List.length_append]
          repeat' (first|exact FWk.nil|(apply FWk.i;rfl;(first|rfl|omega|(simp;done)))|(apply FWk.sl;rfl;rfl;rfl;rfl;omega;rfl)|(apply FWk.ptr;rfl;rfl;rfl;omega;rfl)|(apply FWk.d;rfl;rfl))
    · have e : flatO 3 l[i]=[l[i]]:=by rw [flatO,if_neg hk]
      rw [e] at htk
      generalize l[i]=v at hs hk htk hsub
      repeat' (first|(apply r_mvV;rfl)|(apply r_mvS;rfl)|(apply r_mvSL;rfl)|(apply r_faddD;rfl)|(apply r_p;apply ix_sub;rfl;rfl;omega)|(apply r_l;apply ld_kind';exact hs;rfl)|(apply r_l;apply ld_node';exact hs;rfl)|(apply r_mkN (t:=v) (id:=115);rfl;rfl)|(apply r_appE (b:=50) (c:=115) (id:=116) (K:=flatL 3 (l.take i)) (L:=[v]) (j:=1);rfl;rfl;rfl;rfl;rfl;rfl;rfl;rfl;omega)|(apply r_eql;rfl;rfl;(first|(apply dT;omega)|(apply dF;omega)|rfl))|(apply r_lss;rfl;rfl;(first|(apply dT;omega)|(apply dF;omega)|rfl))|(apply r_add;rfl;rfl;rfl;omega)|(apply r_lenD;rfl)|(apply r_nilK)|(apply k_V;rfl)|(apply k_PL;rfl)|(apply k_S;rfl)|(apply k_SL;rfl)|(apply k_nil)|(apply w_seq)|(apply w_ops;((conv=>lhs;simp only [Nat.reduceAdd])<;>rfl))|(apply w_condT;rfl)|(apply w_condF;rfl)|(apply e_thenN)|(apply w_block)|(apply e_blkN)|(apply w_skip))
      apply e_thenK
      apply hK (i + 1)
      · omega
      · omega
      · rw [htk]
        refine wkM [(50,116)] [] rfl ?_ ?_ rfl ?_
        · intro p hp
          simp only [List.mem_cons,List.not_mem_nil,or_false] at hp
          rcases hp with rfl | rfl
          · exact ⟨by omega,.inr ⟨rfl,_,rfl,.data rfl⟩⟩
          · exact ⟨by omega,.inr ⟨rfl,_,rfl,.data (isD_encL _)⟩⟩
        · intro q hq;simp only [List.mem_cons,List.not_mem_nil,or_false] at hq;rcases hq with rfl | rfl<;>rfl
        · rw [List.length_append]
          repeat' (first|exact FWk.nil|(apply FWk.i;rfl;(first|rfl|omega|(simp;done)))|(apply FWk.sl;rfl;rfl;rfl;rfl;omega;rfl)|(apply FWk.ptr;rfl;rfl;rfl;omega;rfl)|(apply FWk.d;rfl;rfl))
  have ei : i=l.length:=by omega
  subst ei
  rw [List.take_length]
  have hcat : catS l=if (flatL 3 l).any isNo=true then noneT else ofT 3 ((flatL 3 l).filter notE) emptyT:=rfl
  rw [hcat]
  clear hcat hK hft hge hi
  generalize flatL 3 l=out at hfl ⊢
  repeat' (first|(apply r_mvV;rfl)|(apply r_mvS;rfl)|(apply r_lss;rfl;rfl;(first|(apply dT;omega)|(apply dF;omega)|rfl))|(apply r_lenD;rfl)|(apply r_nilK)|(apply k_V;rfl)|(apply k_PL;rfl)|(apply k_S;rfl)|(apply k_SL;rfl)|(apply k_nil)|(apply w_seq)|(apply w_ops;((conv=>lhs;simp only [Nat.reduceAdd])<;>rfl))|(apply w_condF;rfl)|(apply e_thenN)|(apply w_block)|(apply e_thenX)|(apply e_blkE)|(apply w_exit))
  apply w_loopI (S:=fun j : Nat=>⟨(((Fr.nil.put 2 (.ptrL 1 0)).put 3 (.slL 50 0 out.length 8)).put 5 (.slL 51 0 ((out.take j).filter notE).length 8)).put 6 (.i j),rowsOf [(1,zeroA zsN),(50,(encL out).map AV.d),(51,(encL ((out.take j).filter notE)).map AV.d)],Frz.buts 100 [1,51],100⟩) (m:=fun j=>out.length - j) (I:=fun j=>j≤out.length∧(out.take j).any isNo=false) (i0:=0)
  · exact ⟨Nat.zero_le _,rfl⟩
  · refine wkM [(51,1000000)] [51] rfl ?_ ?_ rfl ?_
    · intro p hp
      simp only [List.mem_cons,List.not_mem_nil,or_false] at hp
      rcases hp with rfl | rfl | rfl
      · exact ⟨by omega,.inr ⟨rfl,_,rfl,.data rfl⟩⟩
      · exact ⟨by omega,.inr ⟨rfl,_,rfl,.data (isD_encL _)⟩⟩
      · exact ⟨by omega,.inl ⟨rfl,rfl⟩⟩
    · intro q hq;simp only [List.mem_cons,List.not_mem_nil,or_false] at hq;rcases hq with rfl | rfl<;>rfl
    · repeat' (first|exact FWk.nil|(apply FWk.i;rfl;(first|rfl|omega|(simp;done)))|(apply FWk.sl;rfl;rfl;rfl;rfl;omega;rfl)|(apply FWk.ptr;rfl;rfl;rfl;omega;rfl)|(apply FWk.slN;rfl;omega;rfl))
  rintro j K ⟨hj,hany⟩ hK
  dsimp only
  rcases Nat.lt_or_ge j out.length with hlt | hge
  · have hs:=NodeAt.sub hlt
    have htk:=filter_take notE out j hlt
    have hat:=any_take isNo out j hlt
    rw [hany,Bool.false_or] at hat
    have hn:=no138_good out[j]
    have hna : [nodeA out[j]].all AV.nrm=true:=by rw [List.all_cons,nodeA_nrm];rfl
    have hmem : out[j] ∈ out:=List.getElem_mem hlt
    have hfl2 : ((out.take j).filter notE).length≤j:=Nat.le_trans (List.length_filter_le _ _) (by rw [List.length_take];omega)
    rcases Bool.eq_false_or_eq_true (isNo out[j]) with hq | hq
    · have hcat : out.any isNo=true:=List.any_eq_true.2 ⟨_,hmem,hq⟩
      rw [if_pos hcat]
      rw [hq] at hn
      generalize out[j]=v at hs hn hna
      repeat' (first|(apply r_mvV;rfl)|(apply r_mvSL;rfl)|(apply r_ixN (j:=j);rfl;rfl;rfl;omega)|(apply r_ldN;rfl;rfl;exact hs)|(apply r_callA (ags:=[nodeA v]);rfl;exact hna;exact hn)|(apply r_p (v:=.agg [.i 2,.d (.val (.int .u64 0)),.d (.val (.int .u64 0)),.d (.val (.int .u64 0)),.d (.val (.int .u64 0)),.i 0,.i 0,.d (.val (.slice none 0 0))]);rfl)|(apply r_lss;rfl;rfl;(first|(apply dT;omega)|(apply dF;omega)|rfl))|(apply r_lenL;rfl)|(apply r_stL;rfl;rfl;rfl;rfl;(first|rfl|(simp only [z_nil,z_add]<;>rfl));rfl;rfl)|(apply r_nilK)|(apply k_V;rfl)|(apply k_PL;rfl)|(apply k_SL;rfl)|(apply k_nil)|(apply e_ret;rfl)|(apply w_seq)|(apply w_ops;((conv=>lhs;simp only [Nat.reduceAdd])<;>rfl))|(apply w_condT;rfl)|(apply e_thenN)|(apply w_block)|(apply e_thenR)|(apply e_blkR)|(apply w_ret)|(apply w_skip))
      exact .data _ rfl
    · rw [hq] at hn hat
      by_cases hk : out[j].kind=1
      · have e : notE out[j]=false:=by simp [notE,hk]
        rw [if_neg (by simp [e]),List.append_nil] at htk
        generalize out[j]=v at hs hn hna hk
        repeat' (first|(apply r_mvV;rfl)|(apply r_mvSL;rfl)|(apply r_faddL;rfl)|(apply r_ixN (j:=j);rfl;rfl;rfl;omega)|(apply r_ldN;rfl;rfl;exact hs)|(apply r_callA (ags:=[nodeA v]);rfl;exact hna;exact hn)|(apply r_ldNk;rfl;rfl;exact hs)|(apply r_neq;rfl;rfl;(first|(apply dT;omega)|(apply dF;omega)|rfl))|(apply r_lss;rfl;rfl;(first|(apply dT;omega)|(apply dF;omega)|rfl))|(apply r_add;rfl;rfl;rfl;omega)|(apply r_lenL;rfl)|(apply r_nilK)|(apply k_V;rfl)|(apply k_PL;rfl)|(apply k_SL;rfl)|(apply k_nil)|(apply w_seq)|(apply w_ops;((conv=>lhs;simp only [Nat.reduceAdd])<;>rfl))|(apply w_condT;rfl)|(apply w_condF;rfl)|(apply e_thenN)|(apply w_block)|(apply e_blkN)|(apply w_skip))
        apply e_thenK
        apply hK (j + 1)
        · exact ⟨by omega,hat⟩
        · omega
        · rw [htk]
          refine wkM [] [] rfl ?_ ?_ rfl ?_
          · intro p hp
            simp only [List.mem_cons,List.not_mem_nil,or_false] at hp
            rcases hp with rfl | rfl | rfl
            · exact ⟨by omega,.inr ⟨rfl,_,rfl,.data rfl⟩⟩
            · exact ⟨by omega,.inr ⟨rfl,_,rfl,.data (isD_encL _)⟩⟩
            · exact ⟨by omega,.inr ⟨rfl,_,rfl,.data (isD_encL _)⟩⟩
          · intro q hq;simp only [List.mem_cons,List.not_mem_nil,or_false] at hq;rcases hq with rfl | rfl<;>rfl
          · repeat' (first|exact FWk.nil|(apply FWk.i;rfl;(first|rfl|omega|(simp;done)))|(apply FWk.sl;rfl;rfl;rfl;rfl;omega;rfl)|(apply FWk.ptr;rfl;rfl;rfl;omega;rfl))
      · have e : notE out[j]=true:=by simp [notE,hk]
        rw [if_pos e] at htk
        generalize out[j]=v at hs hn hna hk htk
        repeat' (first|(apply r_mvV;rfl)|(apply r_mvSL;rfl)|(apply r_faddL;rfl)|(apply r_ixN (j:=j);rfl;rfl;rfl;omega)|(apply r_ldN;rfl;rfl;exact hs)|(apply r_callA (ags:=[nodeA v]);rfl;exact hna;exact hn)|(apply r_ldNk;rfl;rfl;exact hs)|(apply r_mkN (t:=v) (id:=120);rfl;rfl)|(apply r_appE (b:=51) (c:=120) (id:=121) (K:=(out.take j).filter notE) (L:=[v]) (j:=1);rfl;rfl;rfl;rfl;rfl;rfl;rfl;rfl;omega)|(apply r_neq;rfl;rfl;(first|(apply dT;omega)|(apply dF;omega)|rfl))|(apply r_lss;rfl;rfl;(first|(apply dT;omega)|(apply dF;omega)|rfl))|(apply r_add;rfl;rfl;rfl;omega)|(apply r_lenL;rfl)|(apply r_nilK)|(apply k_V;rfl)|(apply k_PL;rfl)|(apply k_SL;rfl)|(apply k_nil)|(apply w_seq)|(apply w_ops;((conv=>lhs;simp only [Nat.reduceAdd])<;>rfl))|(apply w_condT;rfl)|(apply w_condF;rfl)|(apply e_thenN)|(apply w_block)|(apply e_blkN)|(apply w_skip))
        apply e_thenK
        apply hK (j + 1)
        · exact ⟨by omega,hat⟩
        · omega
        · rw [htk]
          refine wkM [(51,121)] [] rfl ?_ ?_ rfl ?_
          · intro p hp
            simp only [List.mem_cons,List.not_mem_nil,or_false] at hp
            rcases hp with rfl | rfl | rfl
            · exact ⟨by omega,.inr ⟨rfl,_,rfl,.data rfl⟩⟩
            · exact ⟨by omega,.inr ⟨rfl,_,rfl,.data (isD_encL _)⟩⟩
            · exact ⟨by omega,.inr ⟨rfl,_,rfl,.data (isD_encL _)⟩⟩
          · intro q hq;simp only [List.mem_cons,List.not_mem_nil,or_false] at hq;rcases hq with rfl | rfl<;>rfl
          · rw [List.length_append]
            repeat' (first|exact FWk.nil|(apply FWk.i;rfl;(first|rfl|omega|(simp;done)))|(apply FWk.sl;rfl;rfl;rfl;rfl;omega;rfl)|(apply FWk.ptr;rfl;rfl;rfl;omega;rfl))
  have ej : j=out.length:=by omega
  subst ej
  rw [List.take_length] at hany ⊢
  rw [if_neg (by simp [hany])]
  have hle : (out.filter notE).length≤100000000:=by
    have:=List.length_filter_le notE out
    omega
  clear hK hge hj hany
  have hof:=of139_good 3 (out.filter notE) emptyT hle
  generalize out.filter notE=L at hle hof ⊢
  generalize ofT 3 L emptyT=u at hof
  obtain ⟨k2,a2,b2,c2,d2,mn2,mx2,subs2⟩:=u
  match L,hle,hof with
  | [],hle,hof =>
    simp only [List.length_nil] at hof ⊢
    repeat' (first|(apply r_mvV;rfl)|(apply r_mvSL;rfl)|(apply r_p (v:=.agg [.i 1,.d (.val (.int .u64 0)),.d (.val (.int .u64 0)),.d (.val (.int .u64 0)),.d (.val (.int .u64 0)),.i 0,.i 0,.d (.val (.slice none 0 0))]);rfl)|(apply r_callS2 (pre:=[.i 3]) (pre':=[.i 3]) (post:=[.agg [.i 1,.d (.val (.int .u64 0)),.d (.val (.int .u64 0)),.d (.val (.int .u64 0)),.d (.val (.int .u64 0)),.i 0,.i 0,.d (.val (.slice none 0 0))]]) (post':=[nodeA emptyT]) (b:=51) (L:=[]) (us:=[]);rfl;rfl;rfl;rfl;rfl;exact hof;rfl)|(apply r_lss;rfl;rfl;(first|(apply dT;omega)|(apply dF;omega)|rfl))|(apply r_lenL;rfl)|(apply r_stL;rfl;rfl;rfl;rfl;(first|rfl|(simp only [z_nil,z_add]<;>rfl));rfl;rfl)|(apply r_nilK)|(apply k_V;rfl)|(apply k_PL;rfl)|(apply k_SL;rfl)|(apply k_nil)|(apply e_ret;rfl)|(apply w_seq)|(apply w_ops;((conv=>lhs;simp only [Nat.reduceAdd])<;>rfl))|(apply w_condF;rfl)|(apply e_thenN)|(apply e_thenX)|(apply e_blkE)|(apply w_exit)|(apply w_ret))
    exact .data _ rfl
  | x :: r,hle,hof =>
    simp only [List.length_cons] at hof ⊢
    repeat' (first|(apply r_mvV;rfl)|(apply r_mvSL;rfl)|(apply r_p (v:=.agg [.i 1,.d (.val (.int .u64 0)),.d (.val (.int .u64 0)),.d (.val (.int .u64 0)),.d (.val (.int .u64 0)),.i 0,.i 0,.d (.val (.slice none 0 0))]);rfl)|(apply r_callS2 (pre:=[.i 3]) (pre':=[.i 3]) (post:=[.agg [.i 1,.d (.val (.int .u64 0)),.d (.val (.int .u64 0)),.d (.val (.int .u64 0)),.d (.val (.int .u64 0)),.i 0,.i 0,.d (.val (.slice none 0 0))]]) (post':=[nodeA emptyT]) (b:=51) (L:=x :: r) (us:=[51]);rfl;rfl;rfl;rfl;rfl;exact hof;rfl)|(apply r_lss;rfl;rfl;(first|(apply dT;omega)|(apply dF;omega)|rfl))|(apply r_lenL;rfl)|(apply r_stL;rfl;rfl;rfl;rfl;(first|rfl|(simp only [z_nil,z_add]<;>rfl));rfl;rfl)|(apply r_nilK)|(apply k_V;rfl)|(apply k_PL;rfl)|(apply k_SL;rfl)|(apply k_nil)|(apply e_ret;rfl)|(apply w_seq)|(apply w_ops;((conv=>lhs;simp only [Nat.reduceAdd])<;>rfl))|(apply w_condF;rfl)|(apply e_thenN)|(apply e_thenX)|(apply e_blkE)|(apply w_exit)|(apply w_ret))
    exact .data _ rfl
end Go.Sv
namespace Go.Sv
open Go Go.Proofs
def x94 : XC:=(.seq (.ops 2 [ (0,⟨some 3,none,.box (.t 0)⟩),(1,⟨some 6,none,.alloc [(.int .i64 0),(.int .u64 0),(.int .u64 0),(.int .u64 0),(.int .u64 0),(.int .i64 0),(.int .i64 0),(.slice none 0 0)]⟩)] (some [1,2,3,6])) (.seq (.seq (.ops 15 [ (0,⟨some 7,none,.mv (.t 2)⟩),(1,⟨some 8,none,.arith .eql (.t 7) (.k (.d (.val (.int .i64 0))))⟩),(2,⟨some 9,none,.mv (.t 8)⟩),(3,⟨some 10,(some (9,false)),.fadd 0 (.t 3)⟩),(4,⟨some 11,(some (9,false)),.load none (.t 10)⟩),(5,⟨some 12,(some (9,false)),.arith .eql (.t 11) (.k (.d (.val (.int .i64 1))))⟩),(6,⟨some 13,none,.pick (.t 9) (.k (.d (.val (.bool true)))) (.t 12)⟩),(7,⟨some 14,none,.mv (.t 13)⟩),(8,⟨some 15,(some (14,false)),.load (some 8) (.t 3)⟩),(9,⟨some 16,(some (14,false)),.call 138 [(.t 15)] none false⟩),(10,⟨some 17,(some (14,false)),.mv (.t 16)⟩),(11,⟨some 18,(some (17,true)),.mv (.t 1)⟩),(12,⟨some 19,(some (17,true)),.arith .eql (.t 18) (.k (.d (.val (.int .i64 0))))⟩),(13,⟨some 20,(some (14,false)),.pick (.t 17) (.t 19) (.k (.d (.val (.bool false))))⟩),(14,⟨some 21,none,.pick (.t 14) (.k (.d (.val (.bool true)))) (.t 20)⟩)] (some [1,2,3,6,21])) (.cond (.t 21) (.seq (.ops 2 [ (0,⟨some 22,none,.build [(.int .i64 0),(.int .u64 0),(.int .u64 0),(.int .u64 0),(.int .u64 0),(.int .i64 0),(.int .i64 0),(.slice none 0 0)] [(0,1,(.k (.d (.val (.int .i64 1)))))]⟩),(1,⟨none,none,.store 8 (.t 6) (.t 22)⟩)] (some [6])) .ret) .skip)) (.seq (.seq (.ops 25 [ (0,⟨some 23,none,.load (some 8) (.t 3)⟩),(1,⟨some 24,none,.call 138 [(.t 23)] none false⟩),(2,⟨some 25,none,.mv (.t 24)⟩),(3,⟨some 26,(some (25,false)),.mv (.t 1)⟩),(4,⟨some 27,(some (25,false)),.arith .eql (.t 26) (.k (.d (.val (.int .i64 1))))⟩),(5,⟨some 28,(some (25,false)),.mv (.t 27)⟩),(6,⟨some 29,(some (28,true)),.mv (.t 2)⟩),(7,⟨some 30,(some (28,true)),.arith .eql (.t 29) (.k (.d (.val (.int .i64 1))))⟩),(8,⟨some 31,(some (25,false)),.pick (.t 28) (.t 30) (.k (.d (.val (.bool false))))⟩),(9,⟨some 32,none,.pick (.t 25) (.k (.d (.val (.bool true)))) (.t 31)⟩),(10,⟨some 33,none,.mv (.t 32)⟩),(11,⟨some 34,(some (33,false)),.fadd 0 (.t 3)⟩),(12,⟨some 35,(some (33,false)),.load none (.t 34)⟩),(13,⟨some 36,(some (33,false)),.arith .eql (.t 35) (.k (.d (.val (.int .i64 5))))⟩),(14,⟨some 37,(some (33,false)),.mv (.t 36)⟩),(15,⟨some 38,(some (37,true)),.fadd 5 (.t 3)⟩),(16,⟨some 39,(some (37,true)),.load none (.t 38)⟩),(17,⟨some 40,(some (37,true)),.arith .eql (.t 39) (.k (.d (.val (.int .i64 0))))⟩),(18,⟨some 41,(some (33,false)),.pick (.t 37) (.t 40) (.k (.d (.val (.bool false))))⟩),(19,⟨some 42,(some (33,false)),.mv (.t 41)⟩),(20,⟨some 43,(some (42,true)),.fadd 6 (.t 3)⟩),(21,⟨some 44,(some (42,true)),.load none (.t 43)⟩),(22,⟨some 45,(some (42,true)),.arith .eql (.t 44) (.k (.d (.val (.int .i64 (-1)))))⟩),(23,⟨some 46,(some (33,false)),.pick (.t 42) (.t 45) (.k (.d (.val (.bool false))))⟩),(24,⟨some 47,none,.pick (.t 33) (.k (.d (.val (.bool true)))) (.t 46)⟩)] (some [1,2,3,6,47])) (.cond (.t 47) (.seq (.ops 2 [ (0,⟨some 48,none,.load (some 8) (.t 3)⟩),(1,⟨none,none,.store 8 (.t 6) (.t 48)⟩)] (some [6])) .ret) .skip)) (.seq (.seq (.ops 27 [ (0,⟨some 49,none,.mv (.t 1)⟩),(1,⟨some 50,none,.arith .eql (.t 49) (.k (.d (.val (.int .i64 0))))⟩),(2,⟨some 51,none,.mv (.t 50)⟩),(3,⟨some 52,(some (51,true)),.mv (.t 2)⟩),(4,⟨some 53,(some (51,true)),.arith .eql (.t 52) (.k (.d (.val (.int .i64 (-1)))))⟩),(5,⟨some 54,none,.pick (.t 51) (.t 53) (.k (.d (.val (.bool false))))⟩),(6,⟨some 55,none,.mv (.t 54)⟩),(7,⟨some 56,(some (55,true)),.fadd 0 (.t 3)⟩),(8,⟨some 57,(some (55,true)),.load none (.t 56)⟩),(9,⟨some 58,(some (55,true)),.arith .eql (.t 57) (.k (.d (.val (.int .i64 5))))⟩),(10,⟨some 59,none,.pick (.t 55) (.t 58) (.k (.d (.val (.bool false))))⟩),(11,⟨some 60,none,.mv (.t 59)⟩),(12,⟨some 61,(some (60,true)),.fadd 5 (.t 3)⟩),(13,⟨some 62,(some (60,true)),.load none (.t 61)⟩),(14,⟨some 63,(some (60,true)),.arith .leq (.t 62) (.k (.d (.val (.int .i64 1))))⟩),(15,⟨some 64,none,.pick (.t 60) (.t 63) (.k (.d (.val (.bool false))))⟩),(16,⟨some 65,none,.mv (.t 64)⟩),(17,⟨some 66,(some (65,true)),.fadd 5 (.t 3)⟩),(18,⟨some 67,(some (65,true)),.load none (.t 66)⟩),(19,⟨some 68,(some (65,true)),.arith .geq (.t 67) (.k (.d (.val (.int .i64 0))))⟩),(20,⟨some 69,none,.pick (.t 65) (.t 68) (.k (.d (.val (.bool false))))⟩),(21,⟨some 70,none,.mv (.t 69)⟩),(22,⟨some 71,(some (70,true)),.fadd 7 (.t 3)⟩),(23,⟨some 72,(some (70,true)),.load none (.t 71)⟩),(24,⟨some 73,(some (70,true)),.lenS (.t 72)⟩),(25,⟨some 74,(some (70,true)),.arith .eql (.t 73) (.k (.d (.val (.int .i64 1))))⟩),(26,⟨some 75,none,.pick (.t 70) (.t 74) (.k (.d (.val (.bool false))))⟩)] (some [1,2,3,6,75])) (.cond (.t 75) (.seq (.ops 6 [ (0,⟨some 76,none,.fadd 7 (.t 3)⟩),(1,⟨some 77,none,.load none (.t 76)⟩),(2,⟨some 78,none,.idxS 8 (.t 77) (.k (.d (.val (.int .i64 0))))⟩),(3,⟨some 79,none,.load (some 8) (.t 78)⟩),(4,⟨some 80,none,.call 94 [(.t 79),(.k (.d (.val (.int .i64 0)))),(.k (.d (.val (.int .i64 (-1)))))] none false⟩),(5,⟨none,none,.store 8 (.t 6) (.t 80)⟩)] (some [6])) .ret) .skip)) (.seq (.ops 6 [ (0,⟨some 81,none,.mv (.t 1)⟩),(1,⟨some 82,none,.mv (.t 2)⟩),(2,⟨some 83,none,.load (some 8) (.t 3)⟩),(3,⟨some 84,none,.mkrow [(.int .i64 0),(.int .u64 0),(.int .u64 0),(.int .u64 0),(.int .u64 0),(.int .i64 0),(.int .i64 0),(.slice none 0 0)] 1 8 [(0,8,(.t 83))]⟩),(4,⟨some 85,none,.build [(.int .i64 0),(.int .u64 0),(.int .u64 0),(.int .u64 0),(.int .u64 0),(.int .i64 0),(.int .i64 0),(.slice none 0 0)] [(0,1,(.k (.d (.val (.int .i64 5))))),(5,1,(.t 81)),(6,1,(.t 82)),(7,1,(.t 84))]⟩),(5,⟨none,none,.store 8 (.t 6) (.t 85)⟩)] (some [6])) .ret)))))
def md94 : FuncId→Option Nat × Bool
  | _=>(none,false)
def od94 : Nat→List (List Nat) × List Nat × Option (List Nat)
  | 0=>([],[],some [1,2,3,6])
  | 1=>([],[],some [1,2,3,6,21])
  | 2=>([],[],some [6])
  | 3=>([],[],some [1,2,3,6,47])
  | 4=>([],[],some [6])
  | 5=>([],[],some [1,2,3,6,75])
  | 6=>([],[],some [6])
  | 7=>([],[],some [6])
  | _=>([],[],none)
theorem b94 {ags : List AV} {row : Option (List DV)} {r : AV} {row' nw : Option (List DV)} (hal : ags.length≤86) (hrow : row'.isSome=true→row.isSome=true) (h : xwp Try.prog x94 (retK [.cell 6 (some 8)] row.isSome r row' nw) (St.init ags row)) : Good Try.prog 94 ags row r row' nw :=
  good_of_body' (md:=md94) (od:=od94) Try.f94 (by kernel_rfl) (by kernel_rfl) (by kernel_rfl) (by kernel_rfl) (by kernel_rfl) hal hrow h

set_option maxRecDepth 100000
set_option maxHeartbeats 4000000
attribute [local irreducible] W E R KP thenK blockK retK Good xwp aRun
def repN (t : T) (lo hi : Int) : T:=.node 5 0 0 0 0 lo hi [t]
theorem repF_two {l : List T} {t : T} (h : l.length ≠ 1) : repF l t=repN t 0 (-1):=by
  match l,h with
  | [],_=>rw [repF];rfl
  | x :: y :: z,_=>simp [repF];rfl
theorem rep94_good : ∀ (n : Nat) (t : T),t.cnt≤n→n≤1000000→∀ lo hi : Int,inW lo→inW hi→Good Try.prog 94 [nodeA t,.i lo,.i hi] none (nodeA (repS t lo hi)) none none:=by
  intro n
  induction n with
  | zero=>intro t ht;have:=cnt_pos t;omega
  | succ n ih =>
  intro t ht hc lo hi hlo hhi
  have hno:=no138_good t
  obtain ⟨k,a,b,c,d,mn,mx,subs⟩:=t
  have hsub : ∀ u,subs=[u]→Good Try.prog 94 [nodeA u,.i 0,.i (-1)] none (nodeA (repS u 0 (-1))) none none:=by
    rintro u rfl
    refine ih u ?_ (by omega) 0 (-1) (by unfold inW;omega) (by unfold inW;omega)
    simp only [T.cnt,cntL] at ht;omega
  have hlen : subs.length≤1000000:=by
    have:=cntL_len subs
    simp only [T.cnt] at ht
    omega
  have e0 : nodeA (.node k a b c d mn mx subs)=.agg [.i k,.d (.val (.int .u64 a)),.d (.val (.int .u64 b)),.d (.val (.int .u64 c)),.d (.val (.int .u64 d)),.i mn,.i mx,.d (.sl (encL subs) subs.length)]:=rfl
  clear ih ht
  rw [repS]
  rw [e0] at hno ⊢
  generalize hN : isNo (.node k a b c d mn mx subs)=no at hno ⊢
  by_cases h1 : hi=0 ∨ k=1 ∨ (no=true∧lo=0)
  · rw [if_pos h1]
    by_cases q1 : hi=0
    · refine b94 (by simp) (by simp) (w_init ?_)
      unfold x94
      repeat' (first|(apply r_mvV;rfl)|(apply r_p (v:=.agg [.i 1,.d (.val (.int .u64 0)),.d (.val (.int .u64 0)),.d (.val (.int .u64 0)),.d (.val (.int .u64 0)),.i 0,.i 0,.d (.val (.slice none 0 0))]);rfl)|(apply r_eql;rfl;rfl;(first|(apply dT;omega)|(apply dF;omega)|rfl))|(apply r_pickT;rfl)|(apply r_gF';rfl;rfl)|(apply r_gN';rfl)|(apply r_alloc;((conv=>lhs;simp only [Nat.reduceAdd])<;>rfl);rfl)|(apply r_box;((conv=>lhs;simp only [Nat.reduceAdd])<;>rfl);rfl;rfl;rfl)|(apply r_stL;rfl;rfl;rfl;rfl;(first|rfl|(simp only [z_nil,z_add]<;>rfl));rfl;rfl)|(apply r_nilK)|(apply k_V;rfl)|(apply k_PL;rfl)|(apply k_nil)|(apply e_ret;rfl)|(apply w_seq)|(apply w_ops;((conv=>lhs;simp only [Nat.reduceAdd])<;>rfl))|(apply w_condT;rfl)|(apply e_thenN)|(apply e_thenR)|(apply w_ret))
      exact .data _ rfl
    by_cases q2 : k=1
    · refine b94 (by simp) (by simp) (w_init ?_)
      unfold x94
      repeat' (first|(apply r_mvV;rfl)|(apply r_faddL;rfl)|(apply r_p (v:=.agg [.i 1,.d (.val (.int .u64 0)),.d (.val (.int .u64 0)),.d (.val (.int .u64 0)),.d (.val (.int .u64 0)),.i 0,.i 0,.d (.val (.slice none 0 0))]);rfl)|(apply r_ldL;rfl;rfl;rfl)|(apply r_eql;rfl;rfl;(first|(apply dT;omega)|(apply dF;omega)|rfl))|(apply r_pickT;rfl)|(apply r_pickF;rfl)|(apply r_gT;rfl)|(apply r_gF';rfl;rfl)|(apply r_gN';rfl)|(apply r_alloc;((conv=>lhs;simp only [Nat.reduceAdd])<;>rfl);rfl)|(apply r_box;((conv=>lhs;simp only [Nat.reduceAdd])<;>rfl);rfl;rfl;rfl)|(apply r_stL;rfl;rfl;rfl;rfl;(first|rfl|(simp only [z_nil,z_add]<;>rfl));rfl;rfl)|(apply r_nilK)|(apply k_V;rfl)|(apply k_PL;rfl)|(apply k_nil)|(apply e_ret;rfl)|(apply w_seq)|(apply w_ops;((conv=>lhs;simp only [Nat.reduceAdd])<;>rfl))|(apply w_condT;rfl)|(apply e_thenN)|(apply e_thenR)|(apply w_ret))
      exact .data _ rfl
    have q3 : no=true∧lo=0:=by rcases h1 with h | h | h;exact absurd h q1;exact absurd h q2;exact h
    obtain ⟨rfl,q4⟩:=q3
    refine b94 (by simp) (by simp) (w_init ?_)
    unfold x94
    repeat' (first|(apply r_mvV;rfl)|(apply r_faddL;rfl)|(apply r_ldL (v:=.agg [.i k,.d (.val (.int .u64 a)),.d (.val (.int .u64 b)),.d (.val (.int .u64 c)),.d (.val (.int .u64 d)),.i mn,.i mx,.d (.sl (encL subs) subs.length)]);rfl;rfl;rfl)|(apply r_callA (ags:=[.agg [.i k,.d (.val (.int .u64 a)),.d (.val (.int .u64 b)),.d (.val (.int .u64 c)),.d (.val (.int .u64 d)),.i mn,.i mx,.d (.sl (encL subs) subs.length)]]);rfl;rfl;exact hno)|(apply r_p (v:=.agg [.i 1,.d (.val (.int .u64 0)),.d (.val (.int .u64 0)),.d (.val (.int .u64 0)),.d (.val (.int .u64 0)),.i 0,.i 0,.d (.val (.slice none 0 0))]);rfl)|(apply r_ldL;rfl;rfl;rfl)|(apply r_eql;rfl;rfl;(first|(apply dT;omega)|(apply dF;omega)|rfl))|(apply r_pickT;rfl)|(apply r_pickF;rfl)|(apply r_gT;rfl)|(apply r_alloc;((conv=>lhs;simp only [Nat.reduceAdd])<;>rfl);rfl)|(apply r_box;((conv=>lhs;simp only [Nat.reduceAdd])<;>rfl);rfl;rfl;rfl)|(apply r_stL;rfl;rfl;rfl;rfl;(first|rfl|(simp only [z_nil,z_add]<;>rfl));rfl;rfl)|(apply r_nilK)|(apply k_V;rfl)|(apply k_PL;rfl)|(apply k_nil)|(apply e_ret;rfl)|(apply w_seq)|(apply w_ops;((conv=>lhs;simp only [Nat.reduceAdd])<;>rfl))|(apply w_condT;rfl)|(apply e_thenN)|(apply e_thenR)|(apply w_ret))
    exact .data _ rfl
  rw [if_neg h1]
  have q1 : ¬ hi=0:=fun h=>h1 (.inl h)
  have q2 : ¬ k=1:=fun h=>h1 (.inr (.inl h))
  by_cases h2 : no=true ∨ (lo=1∧hi=1) ∨ (k=5∧mn=0∧mx=-1)
  · rw [if_pos h2,e0]
    rcases Bool.eq_false_or_eq_true no with hq | hq
    · have q3 : ¬ lo=0:=fun h=>h1 (.inr (.inr ⟨hq,h⟩))
      subst hq
      refine b94 (by simp) (by simp) (w_init ?_)
      unfold x94
      repeat' (first|(apply r_mvV;rfl)|(apply r_faddL;rfl)|(apply r_ldL (v:=.agg [.i k,.d (.val (.int .u64 a)),.d (.val (.int .u64 b)),.d (.val (.int .u64 c)),.d (.val (.int .u64 d)),.i mn,.i mx,.d (.sl (encL subs) subs.length)]);rfl;rfl;rfl)|(apply r_callA (ags:=[.agg [.i k,.d (.val (.int .u64 a)),.d (.val (.int .u64 b)),.d (.val (.int .u64 c)),.d (.val (.int .u64 d)),.i mn,.i mx,.d (.sl (encL subs) subs.length)]]);rfl;rfl;exact hno)|(apply r_ldL;rfl;rfl;rfl)|(apply r_eql;rfl;rfl;(first|(apply dT;omega)|(apply dF;omega)|rfl))|(apply r_pickT;rfl)|(apply r_pickF;rfl)|(apply r_gT;rfl)|(apply r_gF';rfl;rfl)|(apply r_gN';rfl)|(apply r_alloc;((conv=>lhs;simp only [Nat.reduceAdd])<;>rfl);rfl)|(apply r_box;((conv=>lhs;simp only [Nat.reduceAdd])<;>rfl);rfl;rfl;rfl)|(apply r_stL;rfl;rfl;rfl;rfl;(first|rfl|(simp only [z_nil,z_add]<;>rfl));rfl;rfl)|(apply r_nilK)|(apply k_V;rfl)|(apply k_PL;rfl)|(apply k_nil)|(apply e_ret;rfl)|(apply w_seq)|(apply w_ops;((conv=>lhs;simp only [Nat.reduceAdd])<;>rfl))|(apply w_condT;rfl)|(apply w_condF;rfl)|(apply e_thenN)|(apply e_thenR)|(apply w_ret)|(apply w_skip))
      exact .data _ rfl
    subst hq
    by_cases h3 : lo=1∧hi=1
    · obtain ⟨h4,h5⟩:=h3
      refine b94 (by simp) (by simp) (w_init ?_)
      unfold x94
      repeat' (first|(apply r_mvV;rfl)|(apply r_faddL;rfl)|(apply r_ldL (v:=.agg [.i k,.d (.val (.int .u64 a)),.d (.val (.int .u64 b)),.d (.val (.int .u64 c)),.d (.val (.int .u64 d)),.i mn,.i mx,.d (.sl (encL subs) subs.length)]);rfl;rfl;rfl)|(apply r_callA (ags:=[.agg [.i k,.d (.val (.int .u64 a)),.d (.val (.int .u64 b)),.d (.val (.int .u64 c)),.d (.val (.int .u64 d)),.i mn,.i mx,.d (.sl (encL subs) subs.length)]]);rfl;rfl;exact hno)|(apply r_ldL;rfl;rfl;rfl)|(apply r_eql;rfl;rfl;(first|(apply dT;omega)|(apply dF;omega)|rfl))|(apply r_pickT;rfl)|(apply r_pickF;rfl)|(apply r_gT;rfl)|(apply r_gF';rfl;rfl)|(apply r_gN';rfl)|(apply r_alloc;((conv=>lhs;simp only [Nat.reduceAdd])<;>rfl);rfl)|(apply r_box;((conv=>lhs;simp only [Nat.reduceAdd])<;>rfl);rfl;rfl;rfl)|(apply r_stL;rfl;rfl;rfl;rfl;(first|rfl|(simp only [z_nil,z_add]<;>rfl));rfl;rfl)|(apply r_nilK)|(apply k_V;rfl)|(apply k_PL;rfl)|(apply k_nil)|(apply e_ret;rfl)|(apply w_seq)|(apply w_ops;((conv=>lhs;simp only [Nat.reduceAdd])<;>rfl))|(apply w_condT;rfl)|(apply w_condF;rfl)|(apply e_thenN)|(apply e_thenR)|(apply w_ret)|(apply w_skip))
      exact .data _ rfl
    obtain ⟨h4,h5,h6⟩ : k=5∧mn=0∧mx=-1:=by rcases h2 with h | h | h;cases h;exact absurd h h3;exact h
    by_cases h7 : lo=1
    · have h8 : ¬ hi=1:=fun h=>h3 ⟨h7,h⟩
      refine b94 (by simp) (by simp) (w_init ?_)
      unfold x94
      repeat' (first|(apply r_mvV;rfl)|(apply r_faddL;rfl)|(apply r_ldL (v:=.agg [.i k,.d (.val (.int .u64 a)),.d (.val (.int .u64 b)),.d (.val (.int .u64 c)),.d (.val (.int .u64 d)),.i mn,.i mx,.d (.sl (encL subs) subs.length)]);rfl;rfl;rfl)|(apply r_callA (ags:=[.agg [.i k,.d (.val (.int .u64 a)),.d (.val (.int .u64 b)),.d (.val (.int .u64 c)),.d (.val (.int .u64 d)),.i mn,.i mx,.d (.sl (encL subs) subs.length)]]);rfl;rfl;exact hno)|(apply r_ldL;rfl;rfl;rfl)|(apply r_eql;rfl;rfl;(first|(apply dT;omega)|(apply dF;omega)|rfl))|(apply r_pickT;rfl)|(apply r_pickF;rfl)|(apply r_gT;rfl)|(apply r_gF';rfl;rfl)|(apply r_alloc;((conv=>lhs;simp only [Nat.reduceAdd])<;>rfl);rfl)|(apply r_box;((conv=>lhs;simp only [Nat.reduceAdd])<;>rfl);rfl;rfl;rfl)|(apply r_stL;rfl;rfl;rfl;rfl;(first|rfl|(simp only [z_nil,z_add]<;>rfl));rfl;rfl)|(apply r_nilK)|(apply k_V;rfl)|(apply k_PL;rfl)|(apply k_nil)|(apply e_ret;rfl)|(apply w_seq)|(apply w_ops;((conv=>lhs;simp only [Nat.reduceAdd])<;>rfl))|(apply w_condT;rfl)|(apply w_condF;rfl)|(apply e_thenN)|(apply e_thenR)|(apply w_ret)|(apply w_skip))
      exact .data _ rfl
    · refine b94 (by simp) (by simp) (w_init ?_)
      unfold x94
      repeat' (first|(apply r_mvV;rfl)|(apply r_faddL;rfl)|(apply r_ldL (v:=.agg [.i k,.d (.val (.int .u64 a)),.d (.val (.int .u64 b)),.d (.val (.int .u64 c)),.d (.val (.int .u64 d)),.i mn,.i mx,.d (.sl (encL subs) subs.length)]);rfl;rfl;rfl)|(apply r_callA (ags:=[.agg [.i k,.d (.val (.int .u64 a)),.d (.val (.int .u64 b)),.d (.val (.int .u64 c)),.d (.val (.int .u64 d)),.i mn,.i mx,.d (.sl (encL subs) subs.length)]]);rfl;rfl;exact hno)|(apply r_ldL;rfl;rfl;rfl)|(apply r_eql;rfl;rfl;(first|(apply dT;omega)|(apply dF;omega)|rfl))|(apply r_pickT;rfl)|(apply r_pickF;rfl)|(apply r_gT;rfl)|(apply r_gF';rfl;rfl)|(apply r_alloc;((conv=>lhs;simp only [Nat.reduceAdd])<;>rfl);rfl)|(apply r_box;((conv=>lhs;simp only [Nat.reduceAdd])<;>rfl);rfl;rfl;rfl)|(apply r_stL;rfl;rfl;rfl;rfl;(first|rfl|(simp only [z_nil,z_add]<;>rfl));rfl;rfl)|(apply r_nilK)|(apply k_V;rfl)|(apply k_PL;rfl)|(apply k_nil)|(apply e_ret;rfl)|(apply w_seq)|(apply w_ops;((conv=>lhs;simp only [Nat.reduceAdd])<;>rfl))|(apply w_condT;rfl)|(apply w_condF;rfl)|(apply e_thenN)|(apply e_thenR)|(apply w_ret)|(apply w_skip))
      exact .data _ rfl
  rw [if_neg h2]
  have hq : no=false:=by
    cases no with
    | false=>rfl
    | true=>exact absurd (.inl rfl) h2
  subst hq
  have h4 : ¬ (lo=1∧hi=1):=fun h=>h2 (.inr (.inl h))
  have h5 : ¬ (k=5∧mn=0∧mx=-1):=fun h=>h2 (.inr (.inr h))
  clear h1 h2
  by_cases h3 : lo=0∧hi=-1∧k=5∧mn≤1∧0≤mn∧subs.length=1
  · obtain ⟨g1,g2,g3,g4,g5,hl⟩:=h3
    rw [if_pos ⟨g1,g2,g3,g4,g5⟩]
    obtain ⟨u,hu⟩ : ∃ u,subs=[u]:=by
      match subs,hl with
      | [u],_=>exact ⟨u,rfl⟩
    have hsu:=hsub u hu
    have er : repF subs (.node k a b c d mn mx subs)=repS u 0 (-1):=by rw [hu,repF_one]
    rw [er]
    have hs : NodeAt (encL subs) 0 u:=by rw [hu];exact NodeAt.sub (l:=[u]) (i:=0) (by simp)
    have hna : [nodeA u,.i 0,.i (-1)].all AV.nrm=true:=by rw [List.all_cons,nodeA_nrm];rfl
    generalize repS u 0 (-1)=v at hsu
    clear er hu hsub
    obtain ⟨k2,a2,b2,c2,d2,mn2,mx2,subs2⟩:=v
    by_cases h7 : mn=0
    · have h8 : ¬ mx=-1:=fun h=>h5 ⟨g3,h7,h⟩
      refine b94 (by simp) (by simp) (w_init ?_)
      unfold x94
      repeat' (first|(apply r_mvV;rfl)|(apply r_faddL;rfl)|(apply r_l;apply ld_node';assumption;rfl)|(apply r_ldL (v:=.agg [.i k,.d (.val (.int .u64 a)),.d (.val (.int .u64 b)),.d (.val (.int .u64 c)),.d (.val (.int .u64 d)),.i mn,.i mx,.d (.sl (encL subs) subs.length)]);rfl;rfl;rfl)|(apply r_callA (ags:=[.agg [.i k,.d (.val (.int .u64 a)),.d (.val (.int .u64 b)),.d (.val (.int .u64 c)),.d (.val (.int .u64 d)),.i mn,.i mx,.d (.sl (encL subs) subs.length)]]);rfl;rfl;exact hno)|(apply r_p (v:=.d (.ptr (encL subs) 0));exact ix_sub0 rfl rfl (by omega))|(apply r_callA (ags:=[nodeA u,.i 0,.i (-1)]);rfl;exact hna;exact hsu)|(apply r_ldL;rfl;rfl;rfl)|(apply r_eql;rfl;rfl;(first|(apply dT;omega)|(apply dF;omega)|rfl))|(apply r_leq;rfl;rfl;(first|(apply dT;omega)|(apply dF;omega)|rfl))|(apply r_geq;rfl;rfl;(first|(apply dT;omega)|(apply dF;omega)|rfl))|(apply r_pickT;rfl)|(apply r_pickF;rfl)|(apply r_lenD;rfl)|(apply r_gT;rfl)|(apply r_gF';rfl;rfl)|(apply r_alloc;((conv=>lhs;simp only [Nat.reduceAdd])<;>rfl);rfl)|(apply r_box;((conv=>lhs;simp only [Nat.reduceAdd])<;>rfl);rfl;rfl;rfl)|(apply r_stL;rfl;rfl;rfl;rfl;(first|rfl|(simp only [z_nil,z_add]<;>rfl));rfl;rfl)|(apply r_nilK)|(apply k_V;rfl)|(apply k_PL;rfl)|(apply k_nil)|(apply e_ret;rfl)|(apply w_seq)|(apply w_ops;((conv=>lhs;simp only [Nat.reduceAdd])<;>rfl))|(apply w_condT;rfl)|(apply w_condF;rfl)|(apply e_thenN)|(apply e_thenR)|(apply w_ret)|(apply w_skip))
      exact .data _ rfl
    · refine b94 (by simp) (by simp) (w_init ?_)
      unfold x94
      repeat' (first|(apply r_mvV;rfl)|(apply r_faddL;rfl)|(apply r_l;apply ld_node';assumption;rfl)|(apply r_ldL (v:=.agg [.i k,.d (.val (.int .u64 a)),.d (.val (.int .u64 b)),.d (.val (.int .u64 c)),.d (.val (.int .u64 d)),.i mn,.i mx,.d (.sl (encL subs) subs.length)]);rfl;rfl;rfl)|(apply r_callA (ags:=[.agg [.i k,.d (.val (.int .u64 a)),.d (.val (.int .u64 b)),.d (.val (.int .u64 c)),.d (.val (.int .u64 d)),.i mn,.i mx,.d (.sl (encL subs) subs.length)]]);rfl;rfl;exact hno)|(apply r_p (v:=.d (.ptr (encL subs) 0));exact ix_sub0 rfl rfl (by omega))|(apply r_callA (ags:=[nodeA u,.i 0,.i (-1)]);rfl;exact hna;exact hsu)|(apply r_ldL;rfl;rfl;rfl)|(apply r_eql;rfl;rfl;(first|(apply dT;omega)|(apply dF;omega)|rfl))|(apply r_leq;rfl;rfl;(first|(apply dT;omega)|(apply dF;omega)|rfl))|(apply r_geq;rfl;rfl;(first|(apply dT;omega)|(apply dF;omega)|rfl))|(apply r_pickT;rfl)|(apply r_pickF;rfl)|(apply r_lenD;rfl)|(apply r_gT;rfl)|(apply r_gF';rfl;rfl)|(apply r_alloc;((conv=>lhs;simp only [Nat.reduceAdd])<;>rfl);rfl)|(apply r_box;((conv=>lhs;simp only [Nat.reduceAdd])<;>rfl);rfl;rfl;rfl)|(apply r_stL;rfl;rfl;rfl;rfl;(first|rfl|(simp only [z_nil,z_add]<;>rfl));rfl;rfl)|(apply r_nilK)|(apply k_V;rfl)|(apply k_PL;rfl)|(apply k_nil)|(apply e_ret;rfl)|(apply w_seq)|(apply w_ops;((conv=>lhs;simp only [Nat.reduceAdd])<;>rfl))|(apply w_condT;rfl)|(apply w_condF;rfl)|(apply e_thenN)|(apply e_thenR)|(apply w_ret)|(apply w_skip))
      exact .data _ rfl
  · have er : (if lo=0∧hi=-1∧k=5∧mn≤1∧0≤mn then repF subs (.node k a b c d mn mx subs) else .node 5 0 0 0 0 lo hi [.node k a b c d mn mx subs])=repN (.node k a b c d mn mx subs) lo hi:=by
      split
      · rename_i g
        rw [repF_two (fun hl=>h3 ⟨g.1,g.2.1,g.2.2.1,g.2.2.2.1,g.2.2.2.2,hl⟩),g.1,g.2.1]
      · rfl
    rw [er]
    clear er hsub
    refine b94 (by simp) (by simp) (w_init ?_)
    unfold x94
    repeat' (first|(apply r_mvV;rfl)|(apply r_faddL;rfl)|(apply r_ldL (v:=.agg [.i k,.d (.val (.int .u64 a)),.d (.val (.int .u64 b)),.d (.val (.int .u64 c)),.d (.val (.int .u64 d)),.i mn,.i mx,.d (.sl (encL subs) subs.length)]);rfl;rfl;rfl)|(apply r_callA (ags:=[.agg [.i k,.d (.val (.int .u64 a)),.d (.val (.int .u64 b)),.d (.val (.int .u64 c)),.d (.val (.int .u64 d)),.i mn,.i mx,.d (.sl (encL subs) subs.length)]]);rfl;rfl;exact hno)|(apply r_n (v:=.slL 73 0 1 8) (r:=[.i k,.d (.val (.int .u64 a)),.d (.val (.int .u64 b)),.d (.val (.int .u64 c)),.d (.val (.int .u64 d)),.i mn,.i mx,.d (.sl (encL subs) subs.length)]);rfl)|(apply r_p (v:=.agg [.i 5,.d (.val (.int .u64 0)),.d (.val (.int .u64 0)),.d (.val (.int .u64 0)),.d (.val (.int .u64 0)),.i lo,.i hi,.slL 73 0 1 8]);rfl)|(apply r_ldL;rfl;rfl;rfl)|(apply r_eql;rfl;rfl;(first|(apply dT;omega)|(apply dF;omega)|rfl))|(apply r_leq;rfl;rfl;(first|(apply dT;omega)|(apply dF;omega)|rfl))|(apply r_geq;rfl;rfl;(first|(apply dT;omega)|(apply dF;omega)|rfl))|(apply r_pickT;rfl)|(apply r_pickF;rfl)|(apply r_lenD;rfl)|(apply r_gT;rfl)|(apply r_gF';rfl;rfl)|((apply r_gS (o:=default);rfl)<;>(intro h;try simp only [decide_eq_true_eq,decide_eq_false_iff_not,Bool.not_eq_true,Bool.not_eq_false] at h))|(apply r_alloc;((conv=>lhs;simp only [Nat.reduceAdd])<;>rfl);rfl)|(apply r_box;((conv=>lhs;simp only [Nat.reduceAdd])<;>rfl);rfl;rfl;rfl)|(apply r_stL;rfl;rfl;rfl;rfl;(first|rfl|(simp only [z_nil,z_add]<;>rfl));rfl;rfl)|(apply r_nilK)|(apply k_V;rfl)|(apply k_PL;rfl)|(apply k_nil)|(apply e_ret;rfl)|(apply w_seq)|(apply w_ops;((conv=>lhs;simp only [Nat.reduceAdd])<;>rfl))|(apply w_condF;rfl)|(apply e_thenN)|(apply w_ret)|(apply w_skip))
    all_goals first
      | (exfalso;omega)
      | exact .data _ rfl
end Go.Sv
namespace Go.Sv
open Go
def bytesT : T→List Nat
  | .node _ a b c d _ _ _=>listTo a b c d 256
def setN (ws : List Int) : T:=.node 2 (ws.getD 0 0) (ws.getD 1 0) (ws.getD 2 0) (ws.getD 3 0) 0 0 []
abbrev RS:=List T × Option Nat × List Nat
def rStep (s : RS) (t : T) : RS :=
  if isNo t=true then s
  else if t.kind=2 then match s.2.1 with
    | some i=>(s.1,some i,s.2.2++bytesT t)
    | none=>(s.1++[t],some s.1.length,s.2.2++bytesT t)
  else if s.1.any (fun u=>sameT u t)=true then s else (s.1++[t],s.2.1,s.2.2)
def rFold (l : List T) : RS:=l.foldl rStep ([],none,[])
def rFin (s : RS) : List T:=match s.2.1 with
  | none=>s.1
  | some i=>s.1.set i (setN (setWs s.2.2))
theorem rFold_snoc (l : List T) (t : T) : rFold (l++[t])=rStep (rFold l) t:=by simp [rFold,List.foldl_append]
def RR (s : RS) (p : List T × Option Nat) : Prop :=
  p.2=s.2.1∧s.1.length=p.1.length∧(s.2.1=none→s.2.2=[])∧(∀ x ∈ s.2.2,x < 256)∧(∀ j,s.2.1 ≠ some j→s.1[j]?=p.1[j]?) ∧
  ∀ i,s.2.1=some i→(∃ u,s.1[i]?=some u∧u.kind=2)∧∃ a b c d,p.1[i]?=some (.node 2 a b c d 0 0 [])∧okW a∧okW b∧okW c∧okW d∧∀ y,y < 256→(inG a b c d y=true↔y ∈ s.2.2)
theorem bytesT_lt (t : T) : ∀ x ∈ bytesT t,x < 256:=by
  obtain ⟨k,a,b,c,d,mn,mx,subs⟩:=t
  intro x h
  exact ((mem_listTo a b c d x 256).1 h).1
theorem same_kind {u t : T} (h : sameT u t=true) : u.kind=t.kind:=by rw [(sameT_iff u t).1 h]
theorem RR_any {s : RS} {p : List T × Option Nat} (h : RR s p) {t : T} (hk : t.kind ≠ 2) : (s.1.any fun u=>sameT u t)=(p.1.any fun u=>sameT u t):=by
  obtain ⟨h1,h2,h0,h3,h4,h5⟩:=h
  have key : ∀ (l r : List T),l.length=r.length→(∀ (j : Nat) (u : T),l[j]?=some u→sameT u t=true→r[j]?=some u)→l.any (fun u=>sameT u t)=true→r.any (fun u=>sameT u t)=true:=by
    intro l r _ hj h
    obtain ⟨u,hu,hs⟩:=List.any_eq_true.1 h
    obtain ⟨j,hlt,rfl⟩:=List.getElem_of_mem hu
    have:=hj j _ (List.getElem?_eq_getElem hlt) hs
    exact List.any_eq_true.2 ⟨_,List.mem_of_getElem? this,hs⟩
  rw [Bool.eq_iff_iff]
  constructor
  · refine key _ _ h2 fun j u hu hs=>?_
    by_cases hj : s.2.1=some j
    · obtain ⟨⟨v,hv,hvk⟩,_⟩:=h5 j hj
      rw [hu] at hv;cases hv
      rw [same_kind hs] at hvk;exact absurd hvk hk
    · rw [← h4 j hj];exact hu
  · refine key _ _ h2.symm fun j u hu hs=>?_
    by_cases hj : s.2.1=some j
    · obtain ⟨_,a,b,c,d,hv,_⟩:=h5 j hj
      rw [hu] at hv;cases hv
      have:=same_kind hs
      simp only [T.kind] at this
      exact absurd this.symm hk
    · rw [h4 j hj];exact hu
theorem RR_step {s : RS} {p : List T × Option Nat} (h : RR s p) {t : T} (ht : okS t) : RR (rStep s t) (altStep p t):=by
  have hany:=fun hk : t.kind ≠ 2=>RR_any h hk
  unfold rStep altStep
  split
  · exact h
  rename_i hno
  split
  · rename_i hk
    obtain ⟨h1,h2,h0,h3,h4,h5⟩:=h
    have hb : ∀ x ∈ s.2.2++bytesT t,x < 256:=by
      intro x hx
      rcases List.mem_append.1 hx with hx | hx
      · exact h3 x hx
      · exact bytesT_lt t x hx
    cases e : s.2.1 with
    | some i =>
      rw [h1,e]
      obtain ⟨⟨u,hu,huk⟩,a,b,c,d,hp,ha,hb',hc,hd,hin⟩:=h5 i e
      have hlt:=(List.getElem?_eq_some_iff.1 hp).1
      obtain ⟨k',a',b',c',d',mn',mx',subs'⟩:=t
      obtain ⟨q1,q2,q3,q4⟩:=ht
      have e0 : p.1.getD i noneT=.node 2 a b c d 0 0 []:=by rw [List.getD_eq_getElem?_getD,hp];rfl
      simp only [e0,orN]
      refine ⟨rfl,by simp [h2],fun h=>by simp at h,hb,fun j hj=>?_,fun j hj=>?_⟩
      · have hne : i ≠ j:=fun h=>hj (by rw [h])
        simp only
        rw [List.getElem?_set_ne hne]
        exact h4 j (by rw [e];exact hj)
      · cases hj
        refine ⟨⟨u,hu,huk⟩,_,_,_,_,List.getElem?_set_self hlt,okW_or ha q1,okW_or hb' q2,okW_or hc q3,okW_or hd q4,fun y hy=>?_⟩
        rw [inG_or ha hb' hc hd q1 q2 q3 q4,Bool.or_eq_true,hin y hy,List.mem_append,bytesT,mem_listTo]
        simp [hy]
    | none =>
      rw [h1,e]
      have h5' : ∀ j,s.1[j]?=p.1[j]?:=fun j=>h4 j (by rw [e];simp)
      obtain ⟨k',a',b',c',d',mn',mx',subs'⟩:=t
      obtain ⟨q1,q2,q3,q4⟩:=ht
      simp only [T.kind] at hk
      subst hk
      refine ⟨by simp [h2],by simp [h2],fun h=>by simp at h,hb,fun j hj=>?_,fun j hj=>?_⟩
      · have hne : j ≠ s.1.length:=fun h=>hj (by rw [h])
        simp only
        rcases Nat.lt_or_ge j s.1.length with h | h
        · rw [List.getElem?_append_left h,List.getElem?_append_left (by omega)];exact h5' j
        · rw [List.getElem?_eq_none (by simp;omega),List.getElem?_eq_none (by simp;omega)]
      · cases hj
        refine ⟨⟨_,by simp only;rw [List.getElem?_append_right (Nat.le_refl _),Nat.sub_self];rfl,rfl⟩,a',b',c',d',by simp only;rw [List.getElem?_append_right (by omega),h2,Nat.sub_self];rfl,q1,q2,q3,q4,fun y hy=>?_⟩
        rw [h0 e,List.nil_append,bytesT,mem_listTo]
        simp [hy]
  · rename_i hk
    rw [hany hk]
    split
    · exact h
    · obtain ⟨h1,h2,h0,h3,h4,h5⟩:=h
      refine ⟨h1,by simp [h2],h0,h3,fun j hj=>?_,fun i hi=>?_⟩
      · simp only
        rcases Nat.lt_trichotomy j s.1.length with h | h | h
        · rw [List.getElem?_append_left h,List.getElem?_append_left (by omega)];exact h4 j hj
        · rw [List.getElem?_append_right (by omega),List.getElem?_append_right (by omega)]
          rw [show j - s.1.length=0 by omega,show j - p.1.length=0 by omega]
        · rw [List.getElem?_eq_none (by simp;omega),List.getElem?_eq_none (by simp;omega)]
      · obtain ⟨⟨u,hu,huk⟩,a,b,c,d,hp,hr⟩:=h5 i hi
        refine ⟨⟨u,?_,huk⟩,a,b,c,d,?_,hr⟩
        · simp only
          rw [List.getElem?_append_left (List.getElem?_eq_some_iff.1 hu).1];exact hu
        · simp only
          rw [List.getElem?_append_left (List.getElem?_eq_some_iff.1 hp).1];exact hp
theorem RR_fold : ∀ (l : List T) (s : RS) (p : List T × Option Nat),RR s p→(∀ t ∈ l,okS t)→RR (l.foldl rStep s) (l.foldl altStep p)
  | [],s,p,h,_=>h
  | t :: l,s,p,h,ht=>RR_fold l _ _ (RR_step h (ht t (by simp))) fun u hu=>ht u (by simp [hu])
theorem rFold_RR {l : List T} (h : ∀ t ∈ l,okS t) : RR (rFold l) (l.foldl altStep ([],none)) :=
  RR_fold l _ _ ⟨rfl,rfl,fun _=>rfl,by simp,fun j _=>rfl,fun i hi=>by cases hi⟩ h
theorem rFin_eq {s : RS} {p : List T × Option Nat} (h : RR s p) : rFin s=p.1:=by
  obtain ⟨h1,h2,h0,h3,h4,h5⟩:=h
  unfold rFin
  cases e : s.2.1 with
  | none=>exact List.ext_getElem? fun j=>h4 j (by rw [e];simp)
  | some i =>
    obtain ⟨⟨u,hu,huk⟩,a,b,c,d,hp,ha,hb,hc,hd,hin⟩:=h5 i e
    have hlt:=(List.getElem?_eq_some_iff.1 hu).1
    refine List.ext_getElem? fun j=>?_
    by_cases hj : i=j
    · subst hj
      simp only
      rw [List.getElem?_set_self hlt,hp]
      obtain ⟨g1,g2⟩:=setWs_ok h3
      have hw : setWs s.2.2=[a,b,c,d]:=by
        refine words_ext g1 ⟨rfl,fun w hw=>?_⟩ fun y hy=>?_
        · simp only [List.mem_cons,List.not_mem_nil,or_false] at hw
          rcases hw with rfl | rfl | rfl | rfl<;>assumption
        · rw [Bool.eq_iff_iff,g2 y hy,← hin y hy];rfl
      rw [hw];rfl
    · simp only
      rw [List.getElem?_set_ne hj]
      exact h4 j (by rw [e];simpa using hj)
theorem rAlt_eq {l : List T} (h : ∀ t ∈ flatL 4 l,okS t) : ofT 4 (rFin (rFold (flatL 4 l))) noneT=altS l:=by
  rw [rFin_eq (rFold_RR h)];rfl
theorem rStep_len (s : RS) (t : T) : (rStep s t).1.length≤s.1.length + 1∧(rStep s t).2.2.length≤s.2.2.length + 256:=by
  have hb : (bytesT t).length≤256:=by cases t;exact listTo_len _ _ _ _ _
  unfold rStep
  split
  · exact ⟨by omega,by omega⟩
  split
  · split
    · simp only [List.length_append];exact ⟨by omega,by omega⟩
    · simp only [List.length_append,List.length_cons,List.length_nil];exact ⟨by omega,by omega⟩
  · split
    · exact ⟨by omega,by omega⟩
    · simp only [List.length_append,List.length_cons,List.length_nil];exact ⟨by omega,by omega⟩
theorem rFold_len (l : List T) : ∀ i,i≤l.length→(rFold (l.take i)).1.length≤i∧(rFold (l.take i)).2.2.length≤256 * i
  | 0,_=>by simp [rFold]
  | i + 1,h=>by
    have ih:=rFold_len l i (by omega)
    have h2:=rStep_len (rFold (l.take i)) (l[i]'(by omega))
    rw [List.take_succ_eq_append_getElem (by omega),rFold_snoc]
    exact ⟨by omega,by omega⟩
theorem rFold_at (l : List T) : ∀ i,(rFold l).2.1=some i→i < (rFold l).1.length:=by
  have key : ∀ (l : List T) (s : RS),(∀ i,s.2.1=some i→i < s.1.length)→∀ i,(l.foldl rStep s).2.1=some i→i < (l.foldl rStep s).1.length:=by
    intro l
    induction l with
    | nil=>intro s h;exact h
    | cons t l ih =>
      intro s h
      refine ih _ fun i hi=>?_
      unfold rStep at *
      split at hi
      · rename_i h1;rw [if_pos h1];exact h i hi
      rename_i h1
      rw [if_neg h1]
      split at hi
      · rename_i h2
        rw [if_pos h2]
        split at hi
        · rename_i j hj;cases hi;exact h _ hj
        · rename_i hj;cases hi;simp
      · rename_i h2
        rw [if_neg h2]
        split at hi
        · rename_i h3;rw [if_pos h3];exact h i hi
        · rename_i h3;rw [if_neg h3];have:=h i hi;simp;omega
  exact key l _ (fun i hi=>by cases hi)
theorem rFold_mem (l : List T) : ∀ u ∈ (rFold l).1,u ∈ l:=by
  have key : ∀ (l : List T) (s : RS) (P : T→Prop),(∀ u ∈ s.1,P u)→(∀ u ∈ l,P u)→∀ u ∈ (l.foldl rStep s).1,P u:=by
    intro l
    induction l with
    | nil=>intro s P h _;exact h
    | cons t l ih =>
      intro s P h ht
      refine ih _ P ?_ fun u hu=>ht u (by simp [hu])
      have h1:=ht t (by simp)
      have h2 : ∀ u ∈ s.1++[t],P u:=by
        intro u hu
        rcases List.mem_append.1 hu with hu | hu
        · exact h u hu
        · rw [List.mem_singleton] at hu;rw [hu];exact h1
      unfold rStep
      split
      · exact h
      split
      · split
        · exact h
        · exact h2
      · split
        · exact h
        · exact h2
  exact key l _ (fun u=>u ∈ l) (by simp) fun u hu=>hu
theorem rFold_lt (l : List T) : ∀ x ∈ (rFold l).2.2,x < 256:=by
  have key : ∀ (l : List T) (s : RS),(∀ x ∈ s.2.2,x < 256)→∀ x ∈ (l.foldl rStep s).2.2,x < 256:=by
    intro l
    induction l with
    | nil=>intro s h;exact h
    | cons t l ih =>
      intro s h
      refine ih _ ?_
      have h2 : ∀ x ∈ s.2.2++bytesT t,x < 256:=by
        intro x hx
        rcases List.mem_append.1 hx with hx | hx
        · exact h x hx
        · exact bytesT_lt t x hx
      unfold rStep
      split
      · exact h
      split
      · split
        · exact h2
        · exact h2
      · split
        · exact h
        · exact h
  exact key l _ (by simp)
end Go.Sv
