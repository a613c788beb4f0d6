/- A part of the proof of the law ExpandFirst: that it answers true for every input, and that the input reads behind the call as before (no condition). -/
import Derived.Test.YtcnlgmajkclgjaaExpandFirstG5
set_option linter.all false
set_option linter.unusedSectionVars false
set_option linter.unusedVariables false
set_option linter.unusedSimpArgs false
namespace Go.Sv
open Go
set_option linter.unusedVariables false
structure Fa where
  no : Bool
  lo : Int
  hi : Int
  a : Int
  b : Int
  c : Int
  d : Int
def faNo : Fa:=⟨true,-1,-1,0,0,0,0⟩
def faE : Fa:=⟨false,0,0,0,0,0,0⟩
def plusH (x y : Int) : Int:=if x=-1 ∨ y=-1 then -1 else x + y
def faThen (f g : Fa) : Fa :=
  if f.no=true ∨ g.no=true then faNo
  else if f.lo=0 then ⟨false,f.lo + g.lo,plusH f.hi g.hi,orW f.a g.a,orW f.b g.b,orW f.c g.c,orW f.d g.d⟩
  else ⟨false,f.lo + g.lo,plusH f.hi g.hi,f.a,f.b,f.c,f.d⟩
def faOr (f g : Fa) : Fa :=
  if f.no=true then g else if g.no=true then f
  else ⟨false,min f.lo g.lo,if f.hi=-1 ∨ g.hi=-1 then -1 else max f.hi g.hi,orW f.a g.a,orW f.b g.b,orW f.c g.c,orW f.d g.d⟩
def faTimes (f : Fa) (mn mx : Int) : Fa :=
  if mx=0 ∨ (f.no=true∧mn=0) then faE
  else if f.no=true then faNo
  else ⟨false,f.lo * mn,if f.hi=0 then 0 else if f.hi=-1 ∨ mx=-1 then -1 else f.hi * mx,f.a,f.b,f.c,f.d⟩
mutual
def knT : T→Fa
  | .node k a b c d mn mx subs =>
    if k=2 then (if isZero a b c d=true then faNo else ⟨false,1,1,a,b,c,d⟩)
    else if k=3 then knC subs faE
    else if k=4 then knO subs faNo
    else if k=5 then knR subs mn mx
    else faE
def knC : List T→Fa→Fa
  | [],f=>f
  | t :: l,f=>knC l (faThen f (knT t))
def knO : List T→Fa→Fa
  | [],f=>f
  | t :: l,f=>knO l (faOr f (knT t))
def knR : List T→Int→Int→Fa
  | [],_,_=>faE
  | t :: _,mn,mx=>faTimes (knT t) mn mx
end
theorem knC_app : ∀ (l m : List T) (f : Fa),knC (l++m) f=knC m (knC l f)
  | [],m,f=>rfl
  | t :: l,m,f=>by rw [List.cons_append,knC,knC,knC_app l m]
theorem knO_app : ∀ (l m : List T) (f : Fa),knO (l++m) f=knO m (knO l f)
  | [],m,f=>rfl
  | t :: l,m,f=>by rw [List.cons_append,knO,knO,knO_app l m]
def okF (f : Fa) (X : Int) : Prop:=(okW f.a∧okW f.b∧okW f.c∧okW f.d)∧(f.no=true→f=faNo)∧(f.no=false→0≤f.lo∧-1≤f.hi)∧2 * f.lo≤X∧2 * f.hi≤X
theorem okF_no {X : Int} (h : 0≤X) : okF faNo X:=⟨by simp [faNo,okW],fun _=>rfl,fun h=>by simp [faNo] at h,by simp [faNo];omega,by simp [faNo];omega⟩
theorem okF_E {X : Int} (h : 0≤X) : okF faE X:=⟨by simp [faE,okW],fun h=>by simp [faE] at h,fun _=>by simp [faE],by simp [faE];omega,by simp [faE];omega⟩
theorem okF_mono {f : Fa} {X Y : Int} (h : okF f X) (hxy : X≤Y) : okF f Y:=⟨h.1,h.2.1,h.2.2.1,by have:=h.2.2.2.1;omega,by have:=h.2.2.2.2;omega⟩
theorem okF_then {f g : Fa} {X Y : Int} (hf : okF f X) (hg : okF g Y) (hX : 0≤X) (hY : 0≤Y) : okF (faThen f g) (X + Y):=by
  obtain ⟨⟨fa,fb,fc,fd⟩,f1,f2,f3,f4⟩:=hf
  obtain ⟨⟨ga,gb,gc,gd⟩,g1,g2,g3,g4⟩:=hg
  unfold faThen
  split
  · exact okF_no (by omega)
  · rename_i h
    have hfn : f.no=false:=by cases e : f.no<;>simp_all
    have hgn : g.no=false:=by cases e : g.no<;>simp_all
    have h1:=f2 hfn
    have h2:=g2 hgn
    have hp : -1≤plusH f.hi g.hi∧2 * plusH f.hi g.hi≤X + Y:=by unfold plusH;split<;>omega
    split
    · exact ⟨⟨okW_or fa ga,okW_or fb gb,okW_or fc gc,okW_or fd gd⟩,fun h=>by simp at h,fun _=>⟨by show 0≤f.lo + g.lo;omega,hp.1⟩,by show 2 * (f.lo + g.lo)≤_;omega,hp.2⟩
    · exact ⟨⟨fa,fb,fc,fd⟩,fun h=>by simp at h,fun _=>⟨by show 0≤f.lo + g.lo;omega,hp.1⟩,by show 2 * (f.lo + g.lo)≤_;omega,hp.2⟩
theorem okF_or {f g : Fa} {X Y : Int} (hf : okF f X) (hg : okF g Y) (hX : 0≤X) (hY : 0≤Y) : okF (faOr f g) (X + Y):=by
  obtain ⟨⟨fa,fb,fc,fd⟩,f1,f2,f3,f4⟩:=hf
  obtain ⟨⟨ga,gb,gc,gd⟩,g1,g2,g3,g4⟩:=hg
  unfold faOr
  split
  · exact ⟨⟨ga,gb,gc,gd⟩,g1,g2,by omega,by omega⟩
  · rename_i h
    split
    · exact ⟨⟨fa,fb,fc,fd⟩,f1,f2,by omega,by omega⟩
    · rename_i h3
      have hfn : f.no=false:=by simpa using h
      have hgn : g.no=false:=by simpa using h3
      have h1:=f2 hfn
      have h2:=g2 hgn
      have hp : -1≤(if f.hi=-1 ∨ g.hi=-1 then -1 else max f.hi g.hi)∧2 * (if f.hi=-1 ∨ g.hi=-1 then -1 else max f.hi g.hi)≤X + Y:=by split<;>omega
      exact ⟨⟨okW_or fa ga,okW_or fb gb,okW_or fc gc,okW_or fd gd⟩,fun h=>by simp at h,fun _=>⟨by show 0≤min f.lo g.lo;omega,hp.1⟩,by show 2 * (min f.lo g.lo)≤_;omega,hp.2⟩
theorem okF_times {f : Fa} {X : Int} {mn mx : Int} (hf : okF f X) (hX : 0≤X) (h1 : 0≤mn∧mn≤20) (h2 : mx=-1 ∨ (mn≤mx∧mx≤20)) : okF (faTimes f mn mx) (20 * X):=by
  obtain ⟨⟨fa,fb,fc,fd⟩,f1,f2,f3,f4⟩:=hf
  unfold faTimes
  split
  · exact okF_E (by omega)
  · split
    · exact okF_no (by omega)
    · rename_i h h3
      have hfn : f.no=false:=by simpa using h3
      have h4:=f2 hfn
      have e1 : 0≤f.lo * mn:=Int.mul_nonneg h4.1 h1.1
      have e2 : f.lo * mn≤f.lo * 20:=Int.mul_le_mul_of_nonneg_left h1.2 h4.1
      have hp : -1≤(if f.hi=0 then 0 else if f.hi=-1 ∨ mx=-1 then -1 else f.hi * mx)∧2 * (if f.hi=0 then 0 else if f.hi=-1 ∨ mx=-1 then -1 else f.hi * mx)≤20 * X:=by
        split
        · omega
        · split
          · omega
          · have h5 : 0≤f.hi:=by omega
            have e3 : 0≤f.hi * mx:=Int.mul_nonneg h5 (by omega)
            have e4 : f.hi * mx≤f.hi * 20:=Int.mul_le_mul_of_nonneg_left (by omega) h5
            omega
      exact ⟨⟨fa,fb,fc,fd⟩,fun h=>by simp at h,fun _=>⟨e1,hp.1⟩,by show 2 * (f.lo * mn)≤_;omega,hp.2⟩
def pw (n : Nat) : Int:=20 ^ (n + 1)
theorem pw_pos (n : Nat) : 0 < pw n:=Int.pow_pos (by omega)
theorem pw_succ (n : Nat) : pw (n + 1)=20 * pw n:=by unfold pw;rw [Int.pow_succ];omega
theorem pw_mono {m n : Nat} (h : m≤n) : pw m≤pw n:=by
  induction n with
  | zero =>
    have : m=0:=by omega
    subst this;exact Int.le_refl _
  | succ n ih =>
    by_cases e : m=n + 1
    · subst e;exact Int.le_refl _
    · have:=ih (by omega)
      have:=pw_succ n
      have:=pw_pos n
      omega
def bT (t : T) : Int:=(t.cnt : Nat) * pw (openT t).toNat
theorem bT_nonneg (t : T) : 0≤bT t:=Int.mul_nonneg (by omega) (Int.le_of_lt (pw_pos _))
theorem bT_le {t : T} {c o : Nat} (h1 : t.cnt≤c) (h2 : openT t≤o) : bT t≤c * pw o:=by
  have h3 : pw (openT t).toNat≤pw o:=pw_mono (by omega)
  have h4:=pw_pos (openT t).toNat
  unfold bT
  exact Int.mul_le_mul (by omega) h3 (by omega) (by omega)
theorem sub_open {t u : T} (ho : okT t) (hu : u ∈ t.subs) : openT u≤openT t:=by
  have:=((openT_le ho (openT t)).1 (Int.le_refl _)).2 u hu
  have:=(ob_le t.kind u).1
  omega
theorem sub_cnt {t u : T} (hu : u ∈ t.subs) : u.cnt + 1≤t.cnt:=by
  obtain ⟨k,a,b,c,d,mn,mx,subs⟩:=t
  obtain ⟨i,hi,rfl⟩:=List.mem_iff_getElem.1 hu
  have:=cntL_get subs i hi
  simp only [T.cnt,T.subs] at *
  omega
theorem bT_sub {t u : T} (ho : okT t) (hu : u ∈ t.subs) : bT u≤bT t:=by
  have h1:=sub_open ho hu
  have h2:=sub_cnt hu
  have h3:=open_nonneg t ho
  have:=bT_le (t:=u) (c:=t.cnt) (o:=(openT t).toNat) (by omega) (by omega)
  exact this
theorem knC_ok (o : Nat) : ∀ (l : List T) (f : Fa) (X : Int),0≤X→okF f X→(∀ u ∈ l,okF (knT u) ((u.cnt : Nat) * pw o))→okF (knC l f) (X + (cntL l : Nat) * pw o)
  | [],f,X,hX,hf,_=>by simpa [knC,cntL] using hf
  | t :: l,f,X,hX,hf,h=>by
    have hp:=pw_pos o
    have h1 : 0≤((t.cnt : Nat) : Int) * pw o:=Int.mul_nonneg (by omega) (by omega)
    have:=knC_ok o l _ _ (by omega) (okF_then hf (h t (by simp)) hX h1) (fun u hu=>h u (by simp [hu]))
    rw [knC]
    have e : X + ((cntL (t :: l) : Nat) : Int) * pw o=X + ((t.cnt : Nat) : Int) * pw o + ((cntL l : Nat) : Int) * pw o:=by
      simp only [cntL,Int.natCast_add,Int.add_mul];omega
    rw [e];exact this
theorem knO_ok (o : Nat) : ∀ (l : List T) (f : Fa) (X : Int),0≤X→okF f X→(∀ u ∈ l,okF (knT u) ((u.cnt : Nat) * pw o))→okF (knO l f) (X + (cntL l : Nat) * pw o)
  | [],f,X,hX,hf,_=>by simpa [knO,cntL] using hf
  | t :: l,f,X,hX,hf,h=>by
    have hp:=pw_pos o
    have h1 : 0≤((t.cnt : Nat) : Int) * pw o:=Int.mul_nonneg (by omega) (by omega)
    have:=knO_ok o l _ _ (by omega) (okF_or hf (h t (by simp)) hX h1) (fun u hu=>h u (by simp [hu]))
    rw [knO]
    have e : X + ((cntL (t :: l) : Nat) : Int) * pw o=X + ((t.cnt : Nat) : Int) * pw o + ((cntL l : Nat) : Int) * pw o:=by
      simp only [cntL,Int.natCast_add,Int.add_mul];omega
    rw [e];exact this
theorem times_bound_of {a b c d mn mx : Int} {u : T} (ho : okT (.node 5 a b c d mn mx [u])) (hu : okF (knT u) (bT u)) : ∃ X : Int,0≤X∧okF (knT u) X∧20 * X≤bT (.node 5 a b c d mn mx [u]):=by
  have hou:=open_nonneg u ((okL_iff _).1 (okT_subs ho) u (by simp))
  have hop:=open_nonneg _ ho
  have hob:=((openT_le ho _).1 (Int.le_refl _)).2 u (by simp [T.subs])
  by_cases hk : u.kind=2
  · have h2 : okF (knT u) 2:=by
      obtain ⟨k',a',b',c',d',mn',mx',subs'⟩:=u
      simp only [T.kind] at hk
      subst hk
      rw [knT,if_pos rfl] at hu ⊢
      split
      · exact okF_no (by omega)
      · rename_i hz
        rw [if_neg hz] at hu
        exact ⟨hu.1,hu.2.1,hu.2.2.1,by show 2 * (1 : Int)≤2;omega,by show 2 * (1 : Int)≤2;omega⟩
    refine ⟨2,by omega,h2,?_⟩
    have h1:=pw_mono (m:=0) (n:=(openT (.node 5 a b c d mn mx [u])).toNat) (by omega)
    have h3 : pw 0=20:=rfl
    have h4 : (2 : Int)≤((T.cnt (.node 5 a b c d mn mx [u]) : Nat) : Int):=by
      have:=cnt_pos u
      simp only [T.cnt,cntL];omega
    unfold bT
    have h5:=Int.mul_le_mul_of_nonneg_right (c:=pw (openT (.node 5 a b c d mn mx [u])).toNat) h4 (by omega)
    omega
  · have hr : roundG 5 u.kind=true:=by simp [roundG,hk]
    have hob2 : openT u + 1≤openT (.node 5 a b c d mn mx [u]):=by
      unfold ob at hob
      rw [show T.kind (.node 5 a b c d mn mx [u])=5 from rfl,if_pos hr] at hob
      exact hob
    refine ⟨bT u,bT_nonneg u,hu,?_⟩
    have h1:=pw_mono (m:=(openT u).toNat + 1) (n:=(openT (.node 5 a b c d mn mx [u])).toNat) (by omega)
    have h2:=pw_succ (openT u).toNat
    have h3:=pw_pos (openT u).toNat
    have h4 : ((u.cnt : Nat) : Int)≤((T.cnt (.node 5 a b c d mn mx [u]) : Nat) : Int):=by
      simp only [T.cnt,cntL];omega
    unfold bT
    have h5:=Int.mul_le_mul (a:=((u.cnt : Nat) : Int)) (b:=20 * pw (openT u).toNat) (c:=((T.cnt (.node 5 a b c d mn mx [u]) : Nat) : Int)) (d:=pw (openT (.node 5 a b c d mn mx [u])).toNat) h4 (by omega) (by omega) (by omega)
    have h6 : ((u.cnt : Nat) : Int) * (20 * pw (openT u).toNat)=20 * (((u.cnt : Nat) : Int) * pw (openT u).toNat):=by rw [Int.mul_left_comm]
    omega
mutual
theorem kn_ok : ∀ t : T,okT t→okF (knT t) (bT t)
  | .node k a b c d mn mx subs,ho=>by
    have hsub:=knL_ok subs (okT_subs ho)
    have hS:=okT_S ho
    have hb:=bT_nonneg (.node k a b c d mn mx subs)
    have hop:=open_nonneg _ ho
    have hsub' : ∀ u ∈ subs,okF (knT u) ((u.cnt : Nat) * pw (openT (.node k a b c d mn mx subs)).toNat):=fun u hu=>by
      refine okF_mono (hsub u hu) ?_
      have h1:=sub_open (u:=u) ho hu
      exact bT_le (Nat.le_refl _) (by omega)
    have hsum : (0 : Int) + (cntL subs : Nat) * pw (openT (.node k a b c d mn mx subs)).toNat≤bT (.node k a b c d mn mx subs):=by
      rw [Int.zero_add]
      unfold bT
      have:=pw_pos (openT (.node k a b c d mn mx subs)).toNat
      exact Int.mul_le_mul_of_nonneg_right (by simp only [T.cnt];omega) (by omega)
    rw [knT]
    split
    · split
      · exact okF_no hb
      · have h20 : 20≤bT (.node k a b c d mn mx subs):=by
          have h1:=pw_mono (m:=0) (n:=(openT (.node k a b c d mn mx subs)).toNat) (by omega)
          have h2 : pw 0=20:=rfl
          have h3 : pw (openT (.node k a b c d mn mx subs)).toNat≤bT (.node k a b c d mn mx subs):=by
            unfold bT
            have:=pw_pos (openT (.node k a b c d mn mx subs)).toNat
            have h4:=Int.mul_le_mul_of_nonneg_right (a:=1) (b:=((T.cnt (.node k a b c d mn mx subs) : Nat) : Int)) (c:=pw (openT (.node k a b c d mn mx subs)).toNat) (by simp only [T.cnt];omega) (by omega)
            omega
          omega
        exact ⟨hS,fun h=>by simp at h,fun _=>by constructor<;>simp,by show 2 * (1 : Int)≤_;omega,by show 2 * (1 : Int)≤_;omega⟩
    · split
      · exact okF_mono (knC_ok _ subs faE 0 (Int.le_refl _) (okF_E (Int.le_refl _)) hsub') hsum
      · split
        · exact okF_mono (knO_ok _ subs faNo 0 (Int.le_refl _) (okF_no (Int.le_refl _)) hsub') hsum
        · split
          · rename_i h5
            subst h5
            obtain ⟨u,rfl⟩:=plainT_5 (okT_plain ho)
            have hR:=okT_R ho rfl
            have hu:=hsub u (by simp)
            have hou:=open_nonneg u ((okL_iff _).1 (okT_subs ho) u (by simp))
            have hob:=((openT_le ho _).1 (Int.le_refl _)).2 u (by simp [T.subs])
            rw [knR]
            obtain ⟨X,x1,x2,x3⟩:=times_bound_of ho hu
            exact okF_mono (okF_times x2 x1 hR.1 hR.2) x3
          · exact okF_E hb
theorem knL_ok : ∀ l : List T,okL l→∀ u ∈ l,okF (knT u) (bT u)
  | [],_=>by simp
  | t :: l,h=>by
    simp only [okL] at h
    intro u hu
    rcases List.mem_cons.1 hu with e | hu
    · rw [e];exact kn_ok t h.1
    · exact knL_ok l h.2 u hu
end
theorem bT_few {t : T} (hc : t.cnt≤200) (hf : fitsT t 12=true) : bT t≤16384000000000000000:=by
  rw [fits_open] at hf
  have:=bT_le (t:=t) (c:=200) (o:=12) hc (by omega)
  have e : ((200 : Nat) : Int) * pw 12=16384000000000000000:=by decide
  omega
end Go.Sv
namespace Go.Sv
open Go Go.Proofs
set_option maxRecDepth 100000
set_option maxHeartbeats 4000000
attribute [local irreducible] W E R KP thenK blockK retK Good xwp aRun
end Go.Sv
namespace Go.Sv
open Go Go.Proofs
theorem knC_step (l : List T) (i : Nat) (h : i < l.length) (f : Fa) : knC (l.take (i + 1)) f=faThen (knC (l.take i) f) (knT l[i]):=by
  rw [List.take_succ_eq_append_getElem h,knC_app];rfl
theorem knO_step (l : List T) (i : Nat) (h : i < l.length) (f : Fa) : knO (l.take (i + 1)) f=faOr (knO (l.take i) f) (knT l[i]):=by
  rw [List.take_succ_eq_append_getElem h,knO_app];rfl
set_option maxRecDepth 100000
set_option maxHeartbeats 4000000
attribute [local irreducible] W E R KP thenK blockK retK Good xwp aRun
end Go.Sv
namespace Go.Sv
open Go Go.Proofs
set_option maxRecDepth 100000
set_option maxHeartbeats 4000000
attribute [local irreducible] W E R KP thenK blockK retK Good xwp aRun
end Go.Sv
namespace Go.Sv
open Go Go.Proofs
set_option maxRecDepth 100000
end Go.Sv
namespace Go.Sv
open Go Go.Proofs

set_option maxRecDepth 100000
set_option maxHeartbeats 4000000
attribute [local irreducible] W E R KP thenK blockK retK Good xwp aRun
end Go.Sv
namespace Go.Sv
open Go Go.Proofs
def x61 : XC:=(.seq (.ops 2 [ (0,⟨some 1,none,.box (.t 0)⟩),(1,⟨some 2,none,.mv (.k (.d (.val (.slice none 0 0))))⟩)] (some [1])) (.seq (.seq (.ops 3 [ (0,⟨some 5,none,.fadd 0 (.t 1)⟩),(1,⟨some 6,none,.load none (.t 5)⟩),(2,⟨some 7,none,.arith .eql (.t 6) (.k (.d (.val (.int .i64 2))))⟩)] (some [1,7])) (.cond (.t 7) (.seq (.ops 4 [ (0,⟨some 8,none,.fadd 1 (.t 1)⟩),(1,⟨some 9,none,.load (some 4) (.t 8)⟩),(2,⟨some 10,none,.mkrow [(.int .u64 0),(.int .u64 0),(.int .u64 0),(.int .u64 0)] 1 4 [(0,4,(.t 9))]⟩),(3,⟨some 2,none,.mv (.t 10)⟩)] (some [2])) .ret) .skip)) (.seq (.ops 1 [ (0,⟨some 3,none,.mv (.k (.d (.val (.slice none 0 0))))⟩)] (some [1,3])) (.seq (.seq (.ops 1 [ (0,⟨some 4,none,.mv (.k (.d (.val (.int .i64 0))))⟩)] (some [1,3,4])) (.block 0 (.loop (.seq (.seq (.ops 5 [ (0,⟨some 11,none,.mv (.t 4)⟩),(1,⟨some 12,none,.fadd 7 (.t 1)⟩),(2,⟨some 13,none,.load none (.t 12)⟩),(3,⟨some 14,none,.lenS (.t 13)⟩),(4,⟨some 15,none,.arith .lss (.t 11) (.t 14)⟩)] (some [1,3,4,15])) (.cond (.t 15) .skip (.exit 0))) (.seq (.block 1 (.ops 9 [ (0,⟨some 18,none,.mv (.t 3)⟩),(1,⟨some 19,none,.fadd 7 (.t 1)⟩),(2,⟨some 20,none,.load none (.t 19)⟩),(3,⟨some 21,none,.mv (.t 4)⟩),(4,⟨some 22,none,.idxS 8 (.t 20) (.t 21)⟩),(5,⟨some 23,none,.load (some 8) (.t 22)⟩),(6,⟨some 24,none,.call 61 [(.t 23)] none false⟩),(7,⟨some 25,none,.app [(.int .u64 0),(.int .u64 0),(.int .u64 0),(.int .u64 0)] 32 (.t 18) (.t 24)⟩),(8,⟨some 3,none,.mv (.t 25)⟩)] (some [1,3,4]))) (.ops 3 [ (0,⟨some 16,none,.mv (.t 4)⟩),(1,⟨some 17,none,.arith .add (.t 16) (.k (.d (.val (.int .i64 1))))⟩),(2,⟨some 4,none,.mv (.t 17)⟩)] (some [1,3,4]))))))) (.seq (.ops 2 [ (0,⟨some 26,none,.mv (.t 3)⟩),(1,⟨some 2,none,.mv (.t 26)⟩)] (some [2])) .ret)))))
def md61 : FuncId→Option Nat × Bool
  | _=>(none,false)
def od61 : Nat→List (List Nat) × List Nat × Option (List Nat)
  | 0=>([],[],some [1])
  | 1=>([],[],some [1,7])
  | 2=>([],[],some [2])
  | 3=>([],[],some [1,3])
  | 4=>([],[],some [1,3,4])
  | 5=>([],[],some [1,3,4,15])
  | 6=>([],[],some [1,3,4])
  | 7=>([],[],some [1,3,4])
  | 8=>([],[],some [2])
  | _=>([],[],none)
theorem b61 {ags : List AV} {row : Option (List DV)} {r : AV} {row' nw : Option (List DV)} (hal : ags.length≤27) (hrow : row'.isSome=true→row.isSome=true) (h : xwp Try.prog x61 (retK [.tmp 2] row.isSome r row' nw) (St.init ags row)) : Good Try.prog 61 ags row r row' nw :=
  good_of_body' (md:=md61) (od:=od61) Try.f61 (by kernel_rfl) (by kernel_rfl) (by kernel_rfl) (by kernel_rfl) (by kernel_rfl) hal hrow h

section
variable {P : Program} {Q : Cont} {fr : Fr} {C : Heap} {Z : Frz} {nx : Nat} {base n d : Nat} {l : List (Nat × XO)} {kp : Option (List Nat)} {x i y s : X}
end
set_option maxRecDepth 100000
set_option maxHeartbeats 4000000
attribute [local irreducible] W E R KP thenK blockK retK Good xwp aRun
theorem setsR61_good : ∀ (n : Nat) (t : T),t.cnt≤n→n≤1000000→Good Try.prog 61 [nodeA t] none (.d (.sl (encK (setsT t)) (setsT t).length)) none none:=by
  intro n
  induction n with
  | zero=>intro t ht;have:=cnt_pos t;omega
  | succ n ih =>
  intro t ht hc
  obtain ⟨k,a,b,c,d,mn,mx,subs⟩:=t
  have hlen : subs.length≤1000000:=by
    have:=cntL_len subs
    simp only [T.cnt] at ht
    omega
  have e0 : nodeA (.node k a b c d mn mx subs)=.agg [.i k,.d (.val (.int .u64 a)),.d (.val (.int .u64 b)),.d (.val (.int .u64 c)),.d (.val (.int .u64 d)),.i mn,.i mx,.d (.sl (encL subs) subs.length)]:=rfl
  rw [e0]
  by_cases hk : k=2
  · subst hk
    have e : setsT (.node 2 a b c d mn mx subs)=[(a,b,c,d)]:=by rw [setsT,if_pos rfl]
    rw [e]
    refine b61 (by simp) (by simp) (w_init ?_)
    unfold x61
    repeat' (first|(apply r_mvV;rfl)|(apply r_mvSL;rfl)|(apply r_faddL;rfl)|(apply r_ldL (v:=.agg [.d (.val (.int .u64 a)),.d (.val (.int .u64 b)),.d (.val (.int .u64 c)),.d (.val (.int .u64 d))]);rfl;rfl;rfl)|(apply r_mkK (q:=(a,b,c,d));rfl;((conv=>lhs;simp only [Nat.reduceAdd])<;>rfl))|(apply r_ldL;rfl;rfl;rfl)|(apply r_eql;rfl;rfl;(first|(apply dT;omega)|(apply dF;omega)|rfl))|(apply r_box;((conv=>lhs;simp only [Nat.reduceAdd])<;>rfl);rfl;rfl;rfl)|(apply r_nilK)|(apply k_V;rfl)|(apply k_PL;rfl)|(apply k_SL;rfl)|(apply k_nil)|(apply e_ret;rfl)|(apply w_seq)|(apply w_ops;((conv=>lhs;simp only [Nat.reduceAdd])<;>rfl))|(apply w_condT;rfl)|(apply e_thenN)|(apply e_thenR)|(apply w_ret))
    exact retLK rfl rfl
  have e : setsT (.node k a b c d mn mx subs)=setsL subs:=by rw [setsT,if_neg hk]
  rw [e]
  have ih' : ∀ i (h : i < subs.length),Good Try.prog 61 [nodeA subs[i]] none (.d (.sl (encK (setsT subs[i])) (setsT subs[i]).length)) none none:=by
    intro i h
    have h1:=cntL_get subs i h
    simp only [T.cnt] at ht
    exact ih _ (by omega) (by omega)
  have hstep : ∀ i (h : i < subs.length),setsL (subs.take (i + 1))=setsL (subs.take i)++setsT subs[i]:=fun i h=>setsL_take subs i h
  have hle : ∀ i,(setsL (subs.take i)).length≤1000000:=fun i=>by
    have h2:=setsL_len (subs.take i)
    have h4:=cntL_take_le subs i
    simp only [T.cnt] at ht
    omega
  refine b61 (by simp) (by simp) (w_init ?_)
  unfold x61
  repeat' (first|(apply r_mvV;rfl)|(apply r_faddL;rfl)|(apply r_ldL;rfl;rfl;rfl)|(apply r_eql;rfl;rfl;(first|(apply dT;omega)|(apply dF;omega)|rfl))|(apply r_box;((conv=>lhs;simp only [Nat.reduceAdd])<;>rfl);rfl;rfl;rfl)|(apply r_nilK)|(apply k_V;rfl)|(apply k_PL;rfl)|(apply k_nil)|(apply w_seq)|(apply w_ops;((conv=>lhs;simp only [Nat.reduceAdd])<;>rfl))|(apply w_condF;rfl)|(apply e_thenN)|(apply w_block)|(apply w_skip))
  apply w_loopI (S:=fun i : Nat=>⟨((Fr.nil.put 1 (.ptrL 1 0)).put 3 (.slL 50 0 (setsL (subs.take i)).length 4)).put 4 (.i i),rowsOf [(1,[.i k,.d (.val (.int .u64 a)),.d (.val (.int .u64 b)),.d (.val (.int .u64 c)),.d (.val (.int .u64 d)),.i mn,.i mx,.d (.sl (encL subs) subs.length)]),(50,(encK (setsL (subs.take i))).map AV.d)],Frz.buts 100 [50],100⟩) (m:=fun i=>subs.length - i) (I:=fun i=>i≤subs.length) (i0:=0)
  · exact Nat.zero_le _
  · refine wkM [] [50] rfl ?_ ?_ rfl ?_
    · intro p hp
      simp only [List.mem_cons,List.not_mem_nil,or_false] at hp
      rcases hp with rfl | rfl
      · exact ⟨by omega,.inr ⟨rfl,_,rfl,.data rfl⟩⟩
      · exact ⟨by omega,.inl ⟨rfl,rfl⟩⟩
    · intro q hq;simp only [List.mem_cons,List.not_mem_nil,or_false] at hq;rcases hq with rfl<;>rfl
    · repeat' (first|exact FWk.nil|(apply FWk.i;rfl;(first|rfl|omega|(simp;done)))|(apply FWk.ptr;rfl;rfl;rfl;omega;rfl)|(apply FWk.slN;rfl;omega;rfl))
  intro i K hi hK
  dsimp only
  rcases Nat.lt_or_ge i subs.length with hlt | hge
  · have hg:=ih' i hlt
    have hst:=hstep i hlt
    have h1:=hle i
    have h2:=hle (i + 1)
    rw [hst,List.length_append] at h2
    have hs:=NodeAt.sub hlt
    have hna : [nodeA subs[i]].all AV.nrm=true:=by rw [List.all_cons,nodeA_nrm];rfl
    have hK':=hK (i + 1)
    rw [hst] at hK'
    clear hst hstep ih' hle
    generalize setsT subs[i]=K2 at hg h2 hK'
    generalize setsL (subs.take i)=K1 at h1 h2 hK'
    repeat' (first|(apply r_mvV;rfl)|(apply r_mvSL;rfl)|(apply r_faddL;rfl)|(apply r_p;apply ix_sub;rfl;rfl;omega)|(apply r_l;apply ld_node';exact hs;rfl)|(apply r_callA (ags:=[nodeA subs[i]]);rfl;exact hna;exact hg)|(apply r_appKD (K:=K1) (L:=K2);rfl;rfl;rfl;rfl;rfl;rfl;((conv=>lhs;simp only [Nat.reduceAdd])<;>rfl);omega)|(apply r_ldL;rfl;rfl;rfl)|(apply r_lss;rfl;rfl;(first|(apply dT;omega)|(apply dF;omega)|rfl))|(apply r_add;rfl;rfl;rfl;omega)|(apply r_lenD;rfl)|(apply r_nilK)|(apply k_V;rfl)|(apply k_PL;rfl)|(apply k_SL;rfl)|(apply k_nil)|(apply w_seq)|(apply w_ops;((conv=>lhs;simp only [Nat.reduceAdd])<;>rfl))|(apply w_condT;rfl)|(apply e_thenN)|(apply w_block)|(apply e_blkN)|(apply w_skip))
    apply e_thenK
    apply hK'
    · omega
    · omega
    · refine wkM [(50,112)] [] rfl ?_ ?_ rfl ?_
      · intro p hp
        simp only [List.mem_cons,List.not_mem_nil,or_false] at hp
        rcases hp with rfl | rfl
        · exact ⟨by omega,.inr ⟨rfl,_,rfl,.data rfl⟩⟩
        · exact ⟨by omega,.inr ⟨rfl,_,rfl,.data (encK_isD _)⟩⟩
      · intro q hq;simp only [List.mem_cons,List.not_mem_nil,or_false] at hq;rcases hq with rfl<;>rfl
      · rw [List.length_append]
        repeat' (first|exact FWk.nil|(apply FWk.i;rfl;(first|rfl|omega|(simp;done)))|(apply FWk.sl;rfl;rfl;rfl;rfl;omega;rfl)|(apply FWk.ptr;rfl;rfl;rfl;omega;rfl))
  · rw [List.take_of_length_le hge]
    repeat' (first|(apply r_mvV;rfl)|(apply r_mvSL;rfl)|(apply r_faddL;rfl)|(apply r_ldL;rfl;rfl;rfl)|(apply r_lss;rfl;rfl;(first|(apply dT;omega)|(apply dF;omega)|rfl))|(apply r_lenD;rfl)|(apply r_nilK)|(apply k_V;rfl)|(apply k_PL;rfl)|(apply k_SL;rfl)|(apply k_nil)|(apply e_ret;rfl)|(apply w_seq)|(apply w_ops;((conv=>lhs;simp only [Nat.reduceAdd])<;>rfl))|(apply w_condF;rfl)|(apply e_thenN)|(apply e_thenX)|(apply e_blkE)|(apply w_exit)|(apply w_ret))
    exact retLK rfl rfl
end Go.Sv
namespace Go.Sv
open Go Go.Proofs Go.WideMaps Go.ChangeMaps
set_option linter.unusedVariables false
def xp0 : XC:=(.ops 2 [ (0,⟨some 1,none,.box (.t 0)⟩),(1,⟨some 2,none,.mv (.k (.d (.val (.bool false))))⟩)] (some [1]))
def xp1 : XC:=(.seq (.ops 12 [ (0,⟨some 10,none,.call 56 [] none false⟩),(1,⟨some 11,none,.un .not (.t 10)⟩),(2,⟨some 12,none,.mv (.t 11)⟩),(3,⟨some 13,(some (12,false)),.load (some 8) (.t 1)⟩),(4,⟨some 14,(some (12,false)),.call 45 [(.t 13)] none false⟩),(5,⟨some 15,(some (12,false)),.un .not (.t 14)⟩),(6,⟨some 16,none,.pick (.t 12) (.k (.d (.val (.bool true)))) (.t 15)⟩),(7,⟨some 17,none,.mv (.t 16)⟩),(8,⟨some 18,(some (17,false)),.load (some 8) (.t 1)⟩),(9,⟨some 19,(some (17,false)),.call 32 [(.t 18)] none false⟩),(10,⟨some 20,(some (17,false)),.un .not (.t 19)⟩),(11,⟨some 21,none,.pick (.t 17) (.k (.d (.val (.bool true)))) (.t 20)⟩)] (some [1,21])) (.cond (.t 21) (.seq (.ops 2 [ (0,⟨some 22,none,.call 56 [] none false⟩),(1,⟨some 2,none,.mv (.t 22)⟩)] (some [2])) .ret) .skip))
def xp2 : XC:=(.ops 8 [ (0,⟨some 24,none,.load (some 8) (.t 1)⟩),(1,⟨some 25,none,.call 57 [(.t 24),(.k (.d (.val (.int .i64 400))))] none false⟩),(2,⟨some 23,none,.mv (.t 25)⟩),(3,⟨some 26,none,.ext (.t 23) 0⟩),(4,⟨some 27,none,.ext (.t 23) 1⟩),(5,⟨some 3,none,.alloc [(.int .i64 0),(.int .u64 0),(.int .u64 0),(.int .u64 0),(.int .u64 0),(.int .i64 0),(.int .i64 0),(.slice none 0 0)]⟩),(6,⟨none,none,.store 8 (.t 3) (.t 26)⟩),(7,⟨some 4,none,.mv (.t 27)⟩)] (some [1,3,4]))
def xp3 : XC:=(.seq (.ops 2 [ (0,⟨some 28,none,.mv (.t 4)⟩),(1,⟨some 29,none,.arith .neq (.t 28) (.k (.d (.val (.int .i64 0))))⟩)] (some [1,3,4,29])) (.cond (.t 29) (.seq (.ops 3 [ (0,⟨some 30,none,.mv (.t 4)⟩),(1,⟨some 31,none,.arith .eql (.t 30) (.k (.d (.val (.int .i64 11))))⟩),(2,⟨some 2,none,.mv (.t 31)⟩)] (some [2])) .ret) .skip))
def xp5 : XC:=(.ops 4 [ (0,⟨some 33,none,.load (some 8) (.t 1)⟩),(1,⟨some 34,none,.call 61 [(.t 33)] none false⟩),(2,⟨some 35,none,.lenS (.t 34)⟩),(3,⟨some 36,none,.mv (.k (.d (.val (.int .i64 0))))⟩)] (some [1,3,5,34,35,36]))
def xp7 : XC:=(.ops 4 [ (0,⟨some 43,none,.load (some 8) (.t 3)⟩),(1,⟨some 44,none,.call 61 [(.t 43)] none false⟩),(2,⟨some 45,none,.lenS (.t 44)⟩),(3,⟨some 46,none,.mv (.k (.d (.val (.int .i64 0))))⟩)] (some [1,3,5,44,45,46]))
def xp9 : XC:=(.seq (.ops 20 [ (0,⟨some 55,none,.load (some 8) (.t 1)⟩),(1,⟨some 56,none,.call 50 [(.t 55)] none false⟩),(2,⟨some 57,none,.load (some 8) (.t 3)⟩),(3,⟨some 58,none,.call 50 [(.t 57)] none false⟩),(4,⟨some 59,none,.eqAgg 4 false (.t 56) (.t 58)⟩),(5,⟨some 60,none,.mv (.t 59)⟩),(6,⟨some 61,(some (60,true)),.load (some 8) (.t 1)⟩),(7,⟨some 62,(some (60,true)),.call 62 [(.t 61)] none false⟩),(8,⟨some 63,(some (60,true)),.load (some 8) (.t 3)⟩),(9,⟨some 64,(some (60,true)),.call 62 [(.t 63)] none false⟩),(10,⟨some 65,(some (60,true)),.arith .eql (.t 62) (.t 64)⟩),(11,⟨some 66,none,.pick (.t 60) (.t 65) (.k (.d (.val (.bool false))))⟩),(12,⟨some 67,none,.mv (.t 66)⟩),(13,⟨some 68,(some (67,true)),.load (some 8) (.t 1)⟩),(14,⟨some 69,(some (67,true)),.call 63 [(.t 68)] none false⟩),(15,⟨some 70,(some (67,true)),.load (some 8) (.t 3)⟩),(16,⟨some 71,(some (67,true)),.call 63 [(.t 70)] none false⟩),(17,⟨some 72,(some (67,true)),.arith .eql (.t 69) (.t 71)⟩),(18,⟨some 73,none,.pick (.t 67) (.t 72) (.k (.d (.val (.bool false))))⟩),(19,⟨some 2,none,.mv (.t 73)⟩)] (some [2])) .ret)
def xp61 : XC:=(.ops 1 [ (0,⟨some 37,none,.arith .lss (.t 36) (.t 35)⟩)] (some [1,3,5,34,35,36,37]))
def xp62 : XC:=(.cond (.t 37) .skip (.exit 0))
def xp63 : XC:=(.ops 4 [ (0,⟨some 38,none,.idxS 4 (.t 34) (.t 36)⟩),(1,⟨some 39,none,.load (some 4) (.t 38)⟩),(2,⟨some 7,none,.alloc [(.int .u64 0),(.int .u64 0),(.int .u64 0),(.int .u64 0)]⟩),(3,⟨none,none,.store 4 (.t 7) (.t 39)⟩)] (some [1,3,5,7,34,35,36]))
def xp64 : XC:=(.ops 2 [ (0,⟨some 42,none,.arith .add (.t 36) (.k (.d (.val (.int .i64 1))))⟩),(1,⟨some 36,none,.mv (.t 42)⟩)] (some [1,3,5,34,35,36]))
def xp81 : XC:=(.ops 1 [ (0,⟨some 47,none,.arith .lss (.t 46) (.t 45)⟩)] (some [1,3,5,44,45,46,47]))
def xp82 : XC:=(.cond (.t 47) .skip (.exit 2))
def xp83 : XC:=(.ops 4 [ (0,⟨some 48,none,.idxS 4 (.t 44) (.t 46)⟩),(1,⟨some 49,none,.load (some 4) (.t 48)⟩),(2,⟨some 9,none,.alloc [(.int .u64 0),(.int .u64 0),(.int .u64 0),(.int .u64 0)]⟩),(3,⟨none,none,.store 4 (.t 9) (.t 49)⟩)] (some [1,3,5,9,44,45,46]))
def xp84 : XC:=(.cond (.t 53) (.seq (.ops 1 [ (0,⟨some 2,none,.mv (.k (.d (.val (.bool false))))⟩)] (some [2])) .ret) .skip)
def xp85 : XC:=(.ops 2 [ (0,⟨some 54,none,.arith .add (.t 46) (.k (.d (.val (.int .i64 1))))⟩),(1,⟨some 46,none,.mv (.t 54)⟩)] (some [1,3,5,44,45,46]))
def md18 : FuncId→Option Nat × Bool:=fun _=>(none,false)
def od18 : Nat→List (List Nat) × List Nat × Option (List Nat)
  | 0=>([],[],some [1])
  | 1=>([],[],some [1,21])
  | 2=>([],[],some [2])
  | 3=>([],[],some [1,3,4])
  | 4=>([],[],some [1,3,4,29])
  | 5=>([],[],some [2])
  | 7=>([],[],some [1,3,5,34,35,36])
  | 8=>([],[],some [1,3,5,34,35,36,37])
  | 9=>([],[],some [1,3,5,7,34,35,36])
  | 11=>([],[],some [1,3,5,34,35,36])
  | 12=>([],[],some [1,3,5,44,45,46])
  | 13=>([],[],some [1,3,5,44,45,46,47])
  | 14=>([],[],some [1,3,5,9,44,45,46])
  | 16=>([],[],some [2])
  | 17=>([],[],some [1,3,5,44,45,46])
  | 18=>([[],[0],[],[0,1,2],[0,1,2,3],[0,1,2,3,4],[0,1,2,3,4,5],[0,1,2,3,4,5,6],[0,1,2,3,4,5],[0,1,2,3,4,5,6,7,8],[0,1,2,3,4,5,6,7,8,9],[0,1,2,3,4,5,6,7,8,9,10],[0,1,2,3,4,5,6,7,8,9,10,11],[0,1,2,3,4,5,6,7,8,9,10,11,12],[0,1,2,3,4,5,6,7,8,9,10,11,12,13],[0,1,2,3,4,5,6,7,8,9,10,11,12],[0,1,2,3,4,5,6,7,8,9,10,11,12,13,14,15],[0,1,2,3,4,5,6,7,8,9,10,11,12,13,14,15,16],[0,1,2,3,4,5,6,7,8,9,10,11,12,13,14,15,16,17],[0,1,2,3,4,5,6,7,8,9,10,11,12,13,14,15,16,17,18]],[0,1,2,3,4,5,6,7,8,9,10,11,12,13,14,15,16,17,18,19],some [2])
  | _=>([],[],none)

set_option maxRecDepth 100000
def Rest18 (rest : Code) : Prop:=∃ o1 o2 r7 r8 c8 r9 q1 q2 q3 r11 r12 r13 c13 r14 l1 l2 l3 l4 X15 r17 E,
  rest=.seq (.region 6 #[o1,o2] false) (.seq (.seq r7 (.block 0 (.loop (.seq r8 (.seq c8 (.seq (.block 1 (.seq r9 (.region 10 #[q1,q2,q3] false))) r11))))))
    (.seq (.seq r12 (.block 2 (.loop (.seq r13 (.seq c13 (.seq (.block 3 (.seq r14 (.seq (.region 15 #[l1,l2,l3,l4] false) X15))) r17)))))) E)) ∧
  (compC Try.prog md18 od18 74 r7=some xp5∧compC Try.prog md18 od18 74 r8=some xp61∧compC Try.prog md18 od18 74 c8=some xp62∧compC Try.prog md18 od18 74 r9=some xp63∧compC Try.prog md18 od18 74 r11=some xp64 ∧
   compC Try.prog md18 od18 74 r12=some xp7∧compC Try.prog md18 od18 74 r13=some xp81∧compC Try.prog md18 od18 74 c13=some xp82∧compC Try.prog md18 od18 74 r14=some xp83∧compC Try.prog md18 od18 74 X15=some xp84∧compC Try.prog md18 od18 74 r17=some xp85∧compC Try.prog md18 od18 74 E=some xp9) ∧
  (o1.op=.makeMap 61 none∧o1.dst=some 32∧o1.guard=none∧o2.op=.assign (.tmp 32)∧o2.dst=some 5∧o2.guard=none) ∧
  (q1.op=.move (.tmp 5)∧q1.dst=some 40∧q1.guard=none∧q2.op=.load 24 (.tmp 7)∧q2.dst=some 41∧q2.guard=none∧q3.op=.mapUpdate 61 (.tmp 40) (.tmp 41) (.const (.bool true))∧q3.dst=none∧q3.guard=none) ∧
  (l1.op=.move (.tmp 5)∧l1.dst=some 50∧l1.guard=none∧l2.op=.load 24 (.tmp 9)∧l2.dst=some 51∧l2.guard=none∧l3.op=.lookup 61 (.tmp 50) (.tmp 51) false∧l3.dst=some 52∧l3.guard=none∧l4.op=.unOp .not 4 (.tmp 52)∧l4.dst=some 53∧l4.guard=none)
theorem p18 : ∃ r0 X1 r3 X4 rest,Try.f18.body=some (.seq r0 (.seq X1 (.seq r3 (.seq X4 rest))))∧compC Try.prog md18 od18 74 r0=some xp0∧compC Try.prog md18 od18 74 X1=some xp1∧compC Try.prog md18 od18 74 r3=some xp2∧compC Try.prog md18 od18 74 X4=some xp3∧Rest18 rest :=
  ⟨_,_,_,_,_,rfl,by kernel_rfl,by kernel_rfl,by kernel_rfl,by kernel_rfl,_,_,_,_,_,_,_,_,_,_,_,_,_,_,_,_,_,_,_,_,_,rfl,
    ⟨by kernel_rfl,by kernel_rfl,by kernel_rfl,by kernel_rfl,by kernel_rfl,by kernel_rfl,by kernel_rfl,by kernel_rfl,by kernel_rfl,by kernel_rfl,by kernel_rfl,by kernel_rfl⟩,
    ⟨rfl,rfl,rfl,rfl,rfl,rfl⟩,⟨rfl,rfl,rfl,rfl,rfl,rfl,rfl,rfl,rfl⟩,⟨rfl,rfl,rfl,rfl,rfl,rfl,rfl,rfl,rfl,rfl,rfl,rfl⟩⟩
section
variable {D : List Deferred} {P : Program} {md : FuncId→Option Nat × Bool} {od : Nat→List (List Nat) × List Nat × Option (List Nat)} {nt : Nat} {w0 : World} {S Wr : Nat→Prop} {pb : Option (Value × AV)}
theorem wp_step (hS : ∀ k,S k→k < w0.heap.size∧¬ Wr k) {c d : Code} {x : XC} (hc : compC P md od nt c=some x) {K : St→Prop} {Q : Cont} {st : St} {a : Act} {w : World} {R : Exit→Act→World→Prop}
    (h : xwp P x (thenK K Q) st) (hs : Sim D pb w0 S Wr nt (fun b=>b < st.nx) st.fr st.C st.Z a w)
    (hn : ∀ st a w,K st→Sim D pb w0 S Wr nt (fun b=>b < st.nx) st.fr st.C st.Z a w→d.wp P R a w)
    (he : ∀ e st a w,e ≠ .normal→Q e st→Sim D pb w0 S Wr nt (fun b=>b < st.nx) st.fr st.C st.Z a w→R e a w) : (Code.seq c d).wp P R a w:=by
  refine wp_seq (xwp_sound hS hc h hs ?_)
  intro e st a w hq hs'
  cases e with
  | normal=>exact hn _ _ _ hq hs'
  | _=>exact he _ _ _ _ (by simp) hq hs'
theorem wp_stepM (hS : ∀ k,S k→k < w0.heap.size∧¬ Wr k) {c d : Code} {x : XC} (hc : compC P md od nt c=some x) {K : St→Prop} {Q : Cont} {st : St} {a : Act} {w : World} {R : Exit→Act→World→Prop} {r : Nat} {es : Array MapEntry} {clock : Nat}
    (h : xwp P x (thenK K Q) st) (hs : Sim D pb w0 S Wr nt (fun b=>b < st.nx) st.fr st.C st.Z a w) (hr : w.heap[r]?=some (.map es clock))
    (hn : ∀ st a w,K st→Sim D pb w0 S Wr nt (fun b=>b < st.nx) st.fr st.C st.Z a w→w.heap[r]?=some (.map es clock)→d.wp P R a w)
    (he : ∀ e st a w,e ≠ .normal→Q e st→Sim D pb w0 S Wr nt (fun b=>b < st.nx) st.fr st.C st.Z a w→w.heap[r]?=some (.map es clock)→R e a w) : (Code.seq c d).wp P R a w:=by
  refine wp_seq (xwp_map hS hc h hs hr ?_)
  intro e st a w hq hs' hr'
  cases e with
  | normal=>exact hn _ _ _ hq hs' hr'
  | _=>exact he _ _ _ _ (by simp) hq hs' hr'
theorem Sim.loadQ {Ub : Nat→Prop} {fr : Fr} {C : Heap} {Z : Frz} {a : Act} {w : World} (hs : Sim D pb w0 S Wr nt Ub fr C Z a w) {d b : Nat} {q : Q4} (hd : fr d=.ptrL b 0) (hC : C b=some ((encQ q).map AV.d)) {t : TypeId} (hn : aggSz P t=some (some 4)) :
    (Instr.loadAt t (a.tmps.getD d undef)).run P w=.ok (valQ q) w:=by
  obtain ⟨⟨μ,U,hH,hf,hU,hpb⟩,hsz,hdf⟩:=hs
  have h1:=hf d
  rw [hd] at h1
  obtain ⟨blk,e1,_,hm⟩:=h1.ptrL_inv
  rcases hH.row b _ hC with ⟨_,hn0⟩ | ⟨blk',c,e,hm',hc,hl,hra⟩
  · rw [hm] at hn0;cases hn0
  · rw [hm] at hm';cases hm'
    obtain ⟨cv,g1,g2⟩:=load_run (P:=P) (w:=w) hn (blk:=blk) (b0:=0) (off:=0) (g:=fun j=>c.getD j undef) (fun j hj=>by
      rw [Nat.zero_add,cell_of_row w blk j c e (0,0) hc,Array.getElem?_eq_getElem (by omega),Array.getD_eq_getD_getElem?,Array.getElem?_eq_getElem (by omega)];rfl) hra (v:=quadA q) (by simp [subA,encQ,quadA])
    rw [e1]
    have : cv=valQ q:=by
      obtain ⟨vs,rfl,hv⟩:=g2.agg_inv
      have h4 : vs.size=4:=hv.1
      have key : ∀ (j : Nat) (u : Value),[AV.d (.val (.int .u64 q.1)),.d (.val (.int .u64 q.2.1)),.d (.val (.int .u64 q.2.2.1)),.d (.val (.int .u64 q.2.2.2))][j]?=some (.d (.val u))→vs[j]?=some u:=by
        intro j u hj
        obtain ⟨v,h1,h2⟩:=hv.get? hj
        rw [h1,h2.val_eq]
      have k0:=key 0 _ rfl
      have k1:=key 1 _ rfl
      have k2:=key 2 _ rfl
      have k3:=key 3 _ rfl
      unfold valQ
      congr 1
      apply Array.ext_getElem?
      intro i
      match i with
      | 0=>rw [k0];rfl
      | 1=>rw [k1];rfl
      | 2=>rw [k2];rfl
      | 3=>rw [k3];rfl
      | i + 4 =>
        rw [Array.getElem?_eq_none (by omega),Array.getElem?_eq_none (by simp)]
    rw [← this]
    exact g1
end
end Go.Sv
namespace Go.Sv
open Go Go.Proofs Go.WideMaps Go.ChangeMaps
set_option linter.unusedVariables false
set_option maxRecDepth 100000
set_option maxHeartbeats 4000000
section
variable {nt : Nat} {w0 : World} {S Wr : Nat→Prop} {pb : Option (Value × AV)} {Ub : Nat→Prop} {fr : Fr} {C : Heap} {Z : Frz} {a : Act} {w : World} {R : Exit→Act→World→Prop}
theorem put_none (a : Act) (v : Value) : a.put none v=a:=rfl
theorem eval_tmp (a : Act) (d : Nat) : a.eval (.tmp d)=a.tmps.getD d undef:=rfl
theorem put_get {a : Act} {d : Nat} {v : Value} (h : d < a.tmps.size) : (a.put (some d) v).tmps.getD d undef=v:=by
  show (a.tmps.setIfInBounds d v).getD d undef=v
  rw [Array.getD_eq_getD_getElem?,Array.getElem?_setIfInBounds_self,if_pos h];rfl
theorem agg24 : aggSz Try.prog 24=some (some 4):=by kernel_rfl
theorem wanted_none {o : Oper} (h : o.guard=none) (y : Nat→Option Bool) : Region.wanted o y=true:=by simp [Region.wanted,h]
theorem reg6 {o1 o2 : Oper} (g : o1.op=.makeMap 61 none∧o1.dst=some 32∧o1.guard=none∧o2.op=.assign (.tmp 32)∧o2.dst=some 5∧o2.guard=none)
    (hs : Sim [] pb w0 S Wr 74 Ub fr C Z a w)
    (hn : ∀ a' w',Sim [] pb w0 S Wr 74 Ub ((fr.put 32 .dead).put 5 (.d (.val (.map (some w.heap.size))))) C Z a' w'→w'.heap[w.heap.size]?=some (.map #[] 0)→R .normal a' w') : (Code.region 6 #[o1,o2] false).wp Try.prog R a w:=by
  obtain ⟨g1,g2,g3,g4,g5,g6⟩:=g
  have s1 : Sim [] pb w0 S Wr 74 Ub (fr.put 32 .dead) C Z (a.put (some 32) (.map (some w.heap.size))) (w.alloc (.map #[] 0)):=hs.newMap.lose
  have hsz : (a.put (some 32) (Value.map (some w.heap.size))).tmps.size=74:=s1.size
  have hsz0 : a.tmps.size=74:=hs.size
  have e1 : (execOp a.eval o1).run Try.prog w=.ok (.value (.map (some w.heap.size))) (w.alloc (.map #[] 0)):=by
    have : (Instr.makeMap 61 none).run Try.prog w=.ok (.map (some w.heap.size)) (w.alloc (.map #[] 0)):=rfl
    simp [execOp,g1,this,Result.andThen]
  have e2 : (execOp (a.put (some 32) (.map (some w.heap.size))).eval o2).run Try.prog (w.alloc (.map #[] 0))=.ok (.value (.map (some w.heap.size))) (w.alloc (.map #[] 0)):=by
    have : (a.put (some 32) (Value.map (some w.heap.size))).eval (.tmp 32)=.map (some w.heap.size):=by rw [eval_tmp,put_get (by omega)]
    simp [execOp,g4,this]
  refine wp_region ?_
  have hl : List.range (#[o1,o2] : Array Oper).size=[0,1]:=rfl
  rw [hl]
  show (if Region.wanted o1 (yielded #[o1,o2] a.tmps)=true then _ else _)
  rw [if_pos (wanted_none g3 _)]
  refine Or.inl ?_
  show Oper.upon Try.prog o1 a _ _ ((execOp a.eval o1).run Try.prog w)
  rw [e1,Oper.upon_value,g2]
  show (if Region.wanted o2 (yielded #[o1,o2] (a.put (some 32) (Value.map (some w.heap.size))).tmps)=true then _ else _)
  rw [if_pos (wanted_none g6 _)]
  refine Or.inl ?_
  show Oper.upon Try.prog o2 (a.put (some 32) (Value.map (some w.heap.size))) _ _ ((execOp (a.put (some 32) (Value.map (some w.heap.size))).eval o2).run Try.prog _)
  rw [e2,Oper.upon_value,g5]
  refine hn _ _ (s1.fill (by omega) rfl) ?_
  show (w.heap.push _)[w.heap.size]?=_
  simp
theorem reg10 {q1 q2 q3 : Oper} {r b : Nat} {q : Q4} {K : List Q4} {es : Array MapEntry} {clock : Nat}
    (g : q1.op=.move (.tmp 5)∧q1.dst=some 40∧q1.guard=none∧q2.op=.load 24 (.tmp 7)∧q2.dst=some 41∧q2.guard=none∧q3.op=.mapUpdate 61 (.tmp 40) (.tmp 41) (.const (.bool true))∧q3.dst=none∧q3.guard=none)
    (hs : Sim [] pb w0 S Wr 74 Ub fr C Z a w) (h5 : fr 5=.d (.val (.map (some r)))) (h7 : fr 7=.ptrL b 0) (hC : C b=some ((encQ q).map AV.d)) (hr : w.heap[r]?=some (.map es clock)) (hr0 : w0.heap.size≤r) (hm : MapOK es K) (hk : ∀ p ∈ q :: K,okQ p)
    (hn : ∀ a' w' es' clock',Sim [] pb w0 S Wr 74 Ub ((fr.put 40 (.d (.val (.map (some r))))).put 41 .dead) C Z a' w'→w'.heap[r]?=some (.map es' clock')→MapOK es' (K++[q])→R .normal a' w') : (Code.region 10 #[q1,q2,q3] false).wp Try.prog R a w:=by
  obtain ⟨g1,g2,g3,g4,g5,g6,g7,g8,g9⟩:=g
  obtain ⟨es',clock',hput,hm'⟩:=map_put law24k u61 (fun p hp=>keyQ p (hk p hp)) hr hm
  have s1 : Sim [] pb w0 S Wr 74 Ub (fr.put 40 (.d (.val (.map (some r))))) C Z (a.put (some 40) (.map (some r))) w:=hs.fill (by omega) rfl
  have s2 : Sim [] pb w0 S Wr 74 Ub ((fr.put 40 (.d (.val (.map (some r))))).put 41 .dead) C Z ((a.put (some 40) (.map (some r))).put (some 41) (valQ q)) w:=s1.lose
  have hsz1:=s1.size
  have e1 : (execOp a.eval q1).run Try.prog w=.ok (.value (.map (some r))) w:=by
    have : a.eval (.tmp 5)=.map (some r):=by rw [eval_tmp,hs.get h5]
    simp [execOp,g1,this]
  have e2 : (execOp (a.put (some 40) (.map (some r))).eval q2).run Try.prog w=.ok (.value (valQ q)) w:=by
    have:=s1.loadQ (P:=Try.prog) (d:=7) (b:=b) (q:=q) (by simp [Fr.put,h7]) hC (t:=24) agg24
    rw [← eval_tmp] at this
    simp [execOp,g4,this,Result.andThen]
  have e3 : (execOp ((a.put (some 40) (.map (some r))).put (some 41) (valQ q)).eval q3).run Try.prog w=.ok .skip (setBlock w r (.map es' clock')):=by
    have k0 : ((a.put (some 40) (Value.map (some r))).put (some 41) (valQ q)).eval (.tmp 40)=.map (some r):=by rw [eval_tmp,s2.get (d:=40) (u:=.map (some r)) (by simp [Fr.put])]
    have k1 : ((a.put (some 40) (Value.map (some r))).put (some 41) (valQ q)).eval (.tmp 41)=valQ q:=by rw [eval_tmp,put_get (by omega)]
    have k2 : ((a.put (some 40) (Value.map (some r))).put (some 41) (valQ q)).eval (.const (.bool true))=.bool true:=rfl
    simp only [execOp,g7,k0,k1,k2]
    simp [hput,Result.andThen]
  refine wp_region ?_
  have hl : List.range (#[q1,q2,q3] : Array Oper).size=[0,1,2]:=rfl
  rw [hl]
  show (if Region.wanted q1 (yielded #[q1,q2,q3] a.tmps)=true then _ else _)
  rw [if_pos (wanted_none g3 _)]
  refine Or.inl ?_
  show Oper.upon Try.prog q1 a _ _ ((execOp a.eval q1).run Try.prog w)
  rw [e1,Oper.upon_value,g2]
  show (if Region.wanted q2 (yielded #[q1,q2,q3] (a.put (some 40) (Value.map (some r))).tmps)=true then _ else _)
  rw [if_pos (wanted_none g6 _)]
  refine Or.inl ?_
  show Oper.upon Try.prog q2 (a.put (some 40) (Value.map (some r))) _ _ ((execOp (a.put (some 40) (Value.map (some r))).eval q2).run Try.prog w)
  rw [e2,Oper.upon_value,g5]
  show (if Region.wanted q3 (yielded #[q1,q2,q3] ((a.put (some 40) (Value.map (some r))).put (some 41) (valQ q)).tmps)=true then _ else _)
  rw [if_pos (wanted_none g9 _)]
  refine Or.inl ?_
  show Oper.upon Try.prog q3 ((a.put (some 40) (Value.map (some r))).put (some 41) (valQ q)) _ _ ((execOp ((a.put (some 40) (Value.map (some r))).put (some 41) (valQ q)).eval q3).run Try.prog w)
  rw [e3,Oper.upon_skip,g8,put_none]
  exact hn _ _ _ _ (s2.setMap hr hr0) (setMap_get hr) hm'
theorem reg15 {l1 l2 l3 l4 : Oper} {r b : Nat} {q : Q4} {K : List Q4} {es : Array MapEntry} {clock : Nat}
    (g : l1.op=.move (.tmp 5)∧l1.dst=some 50∧l1.guard=none∧l2.op=.load 24 (.tmp 9)∧l2.dst=some 51∧l2.guard=none∧l3.op=.lookup 61 (.tmp 50) (.tmp 51) false∧l3.dst=some 52∧l3.guard=none∧l4.op=.unOp .not 4 (.tmp 52)∧l4.dst=some 53∧l4.guard=none)
    (hs : Sim [] pb w0 S Wr 74 Ub fr C Z a w) (h5 : fr 5=.d (.val (.map (some r)))) (h9 : fr 9=.ptrL b 0) (hC : C b=some ((encQ q).map AV.d)) (hr : w.heap[r]?=some (.map es clock)) (hm : MapOK es K) (hk : ∀ p ∈ K,okQ p) (hq : q ∈ K)
    (hn : ∀ a',Sim [] pb w0 S Wr 74 Ub ((((fr.put 50 (.d (.val (.map (some r))))).put 51 .dead).put 52 (.b true)).put 53 (.b false)) C Z a' w→R .normal a' w) : (Code.region 15 #[l1,l2,l3,l4] false).wp Try.prog R a w:=by
  obtain ⟨g1,g2,g3,g4,g5,g6,g7,g8,g9,g10,g11,g12⟩:=g
  have hhas:=map_has law24k u61 (w:=w) ⟨.bool false,by kernel_rfl⟩ (fun p hp=>keyQ p (hk p hp)) hr hm hq
  have s1 : Sim [] pb w0 S Wr 74 Ub (fr.put 50 (.d (.val (.map (some r))))) C Z (a.put (some 50) (.map (some r))) w:=hs.fill (by omega) rfl
  have s2 : Sim [] pb w0 S Wr 74 Ub ((fr.put 50 (.d (.val (.map (some r))))).put 51 .dead) C Z ((a.put (some 50) (.map (some r))).put (some 51) (valQ q)) w:=s1.lose
  have s3 : Sim [] pb w0 S Wr 74 Ub (((fr.put 50 (.d (.val (.map (some r))))).put 51 .dead).put 52 (.b true)) C Z (((a.put (some 50) (.map (some r))).put (some 51) (valQ q)).put (some 52) (.bool true)) w:=s2.fill (by omega) rfl
  have hsz1:=s1.size
  have e1 : (execOp a.eval l1).run Try.prog w=.ok (.value (.map (some r))) w:=by
    have : a.eval (.tmp 5)=.map (some r):=by rw [eval_tmp,hs.get h5]
    simp [execOp,g1,this]
  have e2 : (execOp (a.put (some 50) (.map (some r))).eval l2).run Try.prog w=.ok (.value (valQ q)) w:=by
    have:=s1.loadQ (P:=Try.prog) (d:=9) (b:=b) (q:=q) (by simp [Fr.put,h9]) hC (t:=24) agg24
    rw [← eval_tmp] at this
    simp [execOp,g4,this,Result.andThen]
  have e3 : (execOp ((a.put (some 50) (.map (some r))).put (some 51) (valQ q)).eval l3).run Try.prog w=.ok (.value (.bool true)) w:=by
    have k0 : ((a.put (some 50) (Value.map (some r))).put (some 51) (valQ q)).eval (.tmp 50)=.map (some r):=by rw [eval_tmp,s2.get (d:=50) (u:=.map (some r)) (by simp [Fr.put])]
    have k1 : ((a.put (some 50) (Value.map (some r))).put (some 51) (valQ q)).eval (.tmp 51)=valQ q:=by rw [eval_tmp,put_get (by omega)]
    simp only [execOp,g7,k0,k1]
    simp [hhas,Result.andThen]
  have e4 : (execOp (((a.put (some 50) (.map (some r))).put (some 51) (valQ q)).put (some 52) (.bool true)).eval l4).run Try.prog w=.ok (.value (.bool false)) w:=by
    have k0 : (((a.put (some 50) (Value.map (some r))).put (some 51) (valQ q)).put (some 52) (.bool true)).eval (.tmp 52)=.bool true:=by rw [eval_tmp,s3.get (d:=52) (u:=.bool true) (by simp [Fr.put])]
    simp only [execOp,g10,k0]
    rfl
  refine wp_region ?_
  have hl : List.range (#[l1,l2,l3,l4] : Array Oper).size=[0,1,2,3]:=rfl
  rw [hl]
  show (if Region.wanted l1 (yielded #[l1,l2,l3,l4] a.tmps)=true then _ else _)
  rw [if_pos (wanted_none g3 _)]
  refine Or.inl ?_
  show Oper.upon Try.prog l1 a _ _ ((execOp a.eval l1).run Try.prog w)
  rw [e1,Oper.upon_value,g2]
  show (if Region.wanted l2 (yielded #[l1,l2,l3,l4] (a.put (some 50) (Value.map (some r))).tmps)=true then _ else _)
  rw [if_pos (wanted_none g6 _)]
  refine Or.inl ?_
  show Oper.upon Try.prog l2 (a.put (some 50) (Value.map (some r))) _ _ ((execOp (a.put (some 50) (Value.map (some r))).eval l2).run Try.prog w)
  rw [e2,Oper.upon_value,g5]
  show (if Region.wanted l3 (yielded #[l1,l2,l3,l4] ((a.put (some 50) (Value.map (some r))).put (some 51) (valQ q)).tmps)=true then _ else _)
  rw [if_pos (wanted_none g9 _)]
  refine Or.inl ?_
  show Oper.upon Try.prog l3 ((a.put (some 50) (Value.map (some r))).put (some 51) (valQ q)) _ _ ((execOp ((a.put (some 50) (Value.map (some r))).put (some 51) (valQ q)).eval l3).run Try.prog w)
  rw [e3,Oper.upon_value,g8]
  show (if Region.wanted l4 (yielded #[l1,l2,l3,l4] (((a.put (some 50) (Value.map (some r))).put (some 51) (valQ q)).put (some 52) (.bool true)).tmps)=true then _ else _)
  rw [if_pos (wanted_none g12 _)]
  refine Or.inl ?_
  show Oper.upon Try.prog l4 (((a.put (some 50) (Value.map (some r))).put (some 51) (valQ q)).put (some 52) (.bool true)) _ _ ((execOp (((a.put (some 50) (Value.map (some r))).put (some 51) (valQ q)).put (some 52) (.bool true)).eval l4).run Try.prog w)
  rw [e4,Oper.upon_value,g11]
  exact hn _ (s3.fill (by omega) rfl)
end
end Go.Sv
namespace Go.Sv
open Go Go.Proofs Go.WideMaps Go.ChangeMaps
set_option linter.unusedVariables false
theorem w_at {P : Program} {c : XC} {Q : Cont} {fr : Fr} {C : Heap} {Z : Frz} {nx : Nat} (h : W P c Q fr C Z nx) : xwp P c Q ⟨fr,C,Z,nx⟩:=h
theorem e_x {id : Nat} {T : St→Prop} {fr : Fr} {C : Heap} {Z : Frz} {nx : Nat} (h : T ⟨fr,C,Z,nx⟩) : E (fun e st=>e=.exit id∧T st) (.exit id) fr C Z nx:=⟨rfl,h⟩
theorem thenK_inv {K : St→Prop} {e : Exit} {st : St} (h : thenK K (fun _ _=>False) e st) : e=.normal∧K st:=by
  cases e with
  | normal=>exact ⟨rfl,h⟩
  | _=>exact h.elim
set_option maxRecDepth 100000
set_option maxHeartbeats 4000000
attribute [local irreducible] W E R KP thenK blockK retK Good xwp aRun
section
variable {w0 : World} {S Wr : Nat→Prop} {pb : Option (Value × AV)} {a' : Act} {w : World} {R : Exit→Act→World→Prop}
theorem loop1 {r8 c8 r9 r11 : Code} {q1 q2 q3 : Oper} (k8 : compC Try.prog md18 od18 74 r8=some xp61) (kc : compC Try.prog md18 od18 74 c8=some xp62) (k9 : compC Try.prog md18 od18 74 r9=some xp63) (k11 : compC Try.prog md18 od18 74 r11=some xp64)
    (g : q1.op=.move (.tmp 5)∧q1.dst=some 40∧q1.guard=none∧q2.op=.load 24 (.tmp 7)∧q2.dst=some 41∧q2.guard=none∧q3.op=.mapUpdate 61 (.tmp 40) (.tmp 41) (.const (.bool true))∧q3.dst=none∧q3.guard=none)
    (hS : ∀ k,S k→k < w0.heap.size∧¬ Wr k) {K : List Q4} (hok : ∀ q ∈ K,okQ q) (hK : K.length≤1000000) {r : Nat} (hr0 : w0.heap.size≤r)
    {k a b c d mn mx k2 a2 b2 c2 d2 mn2 mx2 : Int} {subs subs2 : List T}
    (hs0 : Sim [] pb w0 S Wr 74 (fun b=>b < 100) ((((((Fr.nil.put 1 (.ptrL 1 0)).put 3 (.ptrL 2 0)).put 5 (.d (.val (.map (some r))))).put 34 (.d (.sl (encK K) K.length))).put 35 (.i K.length)).put 36 (.i (0 : Nat))) (rowsOf [(1,[.i k,.d (.val (.int .u64 a)),.d (.val (.int .u64 b)),.d (.val (.int .u64 c)),.d (.val (.int .u64 d)),.i mn,.i mx,.d (.sl (encL subs) subs.length)]),(2,[.i k2,.d (.val (.int .u64 a2)),.d (.val (.int .u64 b2)),.d (.val (.int .u64 c2)),.d (.val (.int .u64 d2)),.i mn2,.i mx2,.d (.sl (encL subs2) subs2.length)])]) (Frz.buts 100 []) a' w)
    (hr : w.heap[r]?=some (.map #[] 0))
    (hend : ∀ a' w es clock (i : Nat),Sim [] pb w0 S Wr 74 (fun b=>b < 100) ((((((Fr.nil.put 1 (.ptrL 1 0)).put 3 (.ptrL 2 0)).put 5 (.d (.val (.map (some r))))).put 34 (.d (.sl (encK K) K.length))).put 35 (.i K.length)).put 36 (.i i)) (rowsOf [(1,[.i k,.d (.val (.int .u64 a)),.d (.val (.int .u64 b)),.d (.val (.int .u64 c)),.d (.val (.int .u64 d)),.i mn,.i mx,.d (.sl (encL subs) subs.length)]),(2,[.i k2,.d (.val (.int .u64 a2)),.d (.val (.int .u64 b2)),.d (.val (.int .u64 c2)),.d (.val (.int .u64 d2)),.i mn2,.i mx2,.d (.sl (encL subs2) subs2.length)])]) (Frz.buts 100 []) a' w→w.heap[r]?=some (.map es clock)→MapOK es K→R .normal a' w) :
    (Code.block 0 (.loop (.seq r8 (.seq c8 (.seq (.block 1 (.seq r9 (.region 10 #[q1,q2,q3] false))) r11))))).wp Try.prog R a' w:=by
  refine wp_block (wp_loop_ghost (fun n a' w=>∃ (i : Nat) (es : Array MapEntry) (clock : Nat),i≤K.length∧n=K.length - i∧Sim [] pb w0 S Wr 74 (fun b=>b < 100) ((((((Fr.nil.put 1 (.ptrL 1 0)).put 3 (.ptrL 2 0)).put 5 (.d (.val (.map (some r))))).put 34 (.d (.sl (encK K) K.length))).put 35 (.i K.length)).put 36 (.i i)) (rowsOf [(1,[.i k,.d (.val (.int .u64 a)),.d (.val (.int .u64 b)),.d (.val (.int .u64 c)),.d (.val (.int .u64 d)),.i mn,.i mx,.d (.sl (encL subs) subs.length)]),(2,[.i k2,.d (.val (.int .u64 a2)),.d (.val (.int .u64 b2)),.d (.val (.int .u64 c2)),.d (.val (.int .u64 d2)),.i mn2,.i mx2,.d (.sl (encL subs2) subs2.length)])]) (Frz.buts 100 []) a' w∧w.heap[r]?=some (.map es clock)∧MapOK es (K.take i)) K.length ⟨0,#[],0,Nat.zero_le _,rfl,hs0,hr,mapOK_nil⟩ ?_)
  clear hs0 hr
  rintro n a' w ⟨i,es,clock,hi,hn,hs,hr,hm⟩
  rcases Nat.lt_or_ge i K.length with hlt | hge
  · refine wp_stepM hS k8 (st:=⟨(((((Fr.nil.put 1 (.ptrL 1 0)).put 3 (.ptrL 2 0)).put 5 (.d (.val (.map (some r))))).put 34 (.d (.sl (encK K) K.length))).put 35 (.i K.length)).put 36 (.i i),rowsOf [(1,[.i k,.d (.val (.int .u64 a)),.d (.val (.int .u64 b)),.d (.val (.int .u64 c)),.d (.val (.int .u64 d)),.i mn,.i mx,.d (.sl (encL subs) subs.length)]),(2,[.i k2,.d (.val (.int .u64 a2)),.d (.val (.int .u64 b2)),.d (.val (.int .u64 c2)),.d (.val (.int .u64 d2)),.i mn2,.i mx2,.d (.sl (encL subs2) subs2.length)])],Frz.buts 100 [],100⟩) (K:=fun st=>Wk st ⟨((((((Fr.nil.put 1 (.ptrL 1 0)).put 3 (.ptrL 2 0)).put 5 (.d (.val (.map (some r))))).put 34 (.d (.sl (encK K) K.length))).put 35 (.i K.length)).put 36 (.i i)).put 37 (.b true),rowsOf [(1,[.i k,.d (.val (.int .u64 a)),.d (.val (.int .u64 b)),.d (.val (.int .u64 c)),.d (.val (.int .u64 d)),.i mn,.i mx,.d (.sl (encL subs) subs.length)]),(2,[.i k2,.d (.val (.int .u64 a2)),.d (.val (.int .u64 b2)),.d (.val (.int .u64 c2)),.d (.val (.int .u64 d2)),.i mn2,.i mx2,.d (.sl (encL subs2) subs2.length)])],Frz.buts 100 [],100⟩) (Q:=fun _ _=>False) (w_at ?_) hs hr ?_ (fun e st a w _ h=>h.elim)
    · unfold xp61
      repeat' (first|(apply r_lss;rfl;rfl;(first|(apply dT;omega)|(apply dF;omega)|rfl))|(apply r_nilK)|(apply k_V;rfl)|(apply k_PL;rfl)|(apply k_S;rfl)|(apply k_nil)|(apply w_ops;((conv=>lhs;simp only [Nat.reduceAdd])<;>rfl)))
      apply e_thenK
      show Wk _ _
      refine wkM [] [] rfl ?_ ?_ rfl ?_
      · (intro p hp;simp only [List.mem_cons,List.not_mem_nil,or_false] at hp;rcases hp with rfl | rfl<;>exact ⟨by omega,.inr ⟨rfl,_,rfl,.data rfl⟩⟩)
      · (intro q hq;simp at hq)
      · repeat' (first|exact FWk.nil|(apply FWk.i;rfl;(first|rfl|omega|(simp;done)))|(apply FWk.ptr;rfl;rfl;rfl;omega;rfl)|(apply FWk.d;rfl;rfl))
    intro st a' w hk hs hr
    have hs:=hk.sound hs
    refine wp_stepM hS kc (st:=⟨((((((Fr.nil.put 1 (.ptrL 1 0)).put 3 (.ptrL 2 0)).put 5 (.d (.val (.map (some r))))).put 34 (.d (.sl (encK K) K.length))).put 35 (.i K.length)).put 36 (.i i)).put 37 (.b true),rowsOf [(1,[.i k,.d (.val (.int .u64 a)),.d (.val (.int .u64 b)),.d (.val (.int .u64 c)),.d (.val (.int .u64 d)),.i mn,.i mx,.d (.sl (encL subs) subs.length)]),(2,[.i k2,.d (.val (.int .u64 a2)),.d (.val (.int .u64 b2)),.d (.val (.int .u64 c2)),.d (.val (.int .u64 d2)),.i mn2,.i mx2,.d (.sl (encL subs2) subs2.length)])],Frz.buts 100 [],100⟩) (K:=fun st=>Wk st ⟨(((((Fr.nil.put 1 (.ptrL 1 0)).put 3 (.ptrL 2 0)).put 5 (.d (.val (.map (some r))))).put 34 (.d (.sl (encK K) K.length))).put 35 (.i K.length)).put 36 (.i i),rowsOf [(1,[.i k,.d (.val (.int .u64 a)),.d (.val (.int .u64 b)),.d (.val (.int .u64 c)),.d (.val (.int .u64 d)),.i mn,.i mx,.d (.sl (encL subs) subs.length)]),(2,[.i k2,.d (.val (.int .u64 a2)),.d (.val (.int .u64 b2)),.d (.val (.int .u64 c2)),.d (.val (.int .u64 d2)),.i mn2,.i mx2,.d (.sl (encL subs2) subs2.length)])],Frz.buts 100 [],100⟩) (Q:=fun _ _=>False) (w_at ?_) hs hr ?_ (fun e st a w _ h=>h.elim)
    · unfold xp62
      repeat' (first|(apply w_condT;rfl)|(apply w_skip))
      apply e_thenK
      show Wk _ _
      refine wkM [] [] rfl ?_ ?_ rfl ?_
      · (intro p hp;simp only [List.mem_cons,List.not_mem_nil,or_false] at hp;rcases hp with rfl | rfl<;>exact ⟨by omega,.inr ⟨rfl,_,rfl,.data rfl⟩⟩)
      · (intro q hq;simp at hq)
      · repeat' (first|exact FWk.nil|(apply FWk.i;rfl;(first|rfl|omega|(simp;done)))|(apply FWk.ptr;rfl;rfl;rfl;omega;rfl)|(apply FWk.d;rfl;rfl))
    intro st a' w hk hs hr
    have hs:=hk.sound hs
    have hq : K[i]?=some K[i]:=List.getElem?_eq_getElem hlt
    have hoq:=hok _ (List.getElem_mem hlt)
    have htk : K.take (i + 1)=K.take i++[K[i]]:=List.take_succ_eq_append_getElem hlt
    generalize K[i]=q at hq hoq htk
    refine wp_seq (wp_block ?_)
    refine wp_stepM hS k9 (st:=⟨(((((Fr.nil.put 1 (.ptrL 1 0)).put 3 (.ptrL 2 0)).put 5 (.d (.val (.map (some r))))).put 34 (.d (.sl (encK K) K.length))).put 35 (.i K.length)).put 36 (.i i),rowsOf [(1,[.i k,.d (.val (.int .u64 a)),.d (.val (.int .u64 b)),.d (.val (.int .u64 c)),.d (.val (.int .u64 d)),.i mn,.i mx,.d (.sl (encL subs) subs.length)]),(2,[.i k2,.d (.val (.int .u64 a2)),.d (.val (.int .u64 b2)),.d (.val (.int .u64 c2)),.d (.val (.int .u64 d2)),.i mn2,.i mx2,.d (.sl (encL subs2) subs2.length)])],Frz.buts 100 [],100⟩) (K:=fun st=>Wk st ⟨((((((Fr.nil.put 1 (.ptrL 1 0)).put 3 (.ptrL 2 0)).put 5 (.d (.val (.map (some r))))).put 34 (.d (.sl (encK K) K.length))).put 35 (.i K.length)).put 36 (.i i)).put 7 (.ptrL 3 0),rowsOf [(1,[.i k,.d (.val (.int .u64 a)),.d (.val (.int .u64 b)),.d (.val (.int .u64 c)),.d (.val (.int .u64 d)),.i mn,.i mx,.d (.sl (encL subs) subs.length)]),(2,[.i k2,.d (.val (.int .u64 a2)),.d (.val (.int .u64 b2)),.d (.val (.int .u64 c2)),.d (.val (.int .u64 d2)),.i mn2,.i mx2,.d (.sl (encL subs2) subs2.length)]),(3,(encQ q).map AV.d)],Frz.buts 100 [],100⟩) (Q:=fun _ _=>False) (w_at ?_) hs hr ?_ (fun e st a w _ h=>h.elim)
    · obtain ⟨q1,q2,q3,q4⟩:=q
      unfold xp63
      repeat' (first|(apply r_ixK (K:=K) (j:=i);rfl;rfl;rfl;rfl;exact hlt)|(apply r_ldK (K:=K) (j:=i) (q:=(q1,q2,q3,q4));rfl;exact hq)|(apply r_alloc;((conv=>lhs;simp only [Nat.reduceAdd])<;>rfl);rfl)|(apply r_stL;rfl;rfl;rfl;rfl;(first|rfl|(simp only [z_nil,z_add]<;>rfl));rfl;rfl)|(apply r_nilK)|(apply k_V;rfl)|(apply k_PL;rfl)|(apply k_S;rfl)|(apply k_nil)|(apply w_ops;((conv=>lhs;simp only [Nat.reduceAdd])<;>rfl)))
      apply e_thenK
      show Wk _ _
      refine wkM [(3,102)] [] rfl ?_ ?_ rfl ?_
      · intro p hp
        simp only [List.mem_cons,List.not_mem_nil,or_false] at hp
        rcases hp with rfl | rfl | rfl<;>exact ⟨by omega,.inr ⟨rfl,_,rfl,.data rfl⟩⟩
      · (intro q hq;simp at hq)
      · repeat' (first|exact FWk.nil|(apply FWk.i;rfl;(first|rfl|omega|(simp;done)))|(apply FWk.ptr;rfl;rfl;rfl;omega;rfl)|(apply FWk.d;rfl;rfl))
    intro st a' w hk hs hr
    have hs:=hk.sound hs
    refine reg10 g hs rfl rfl (b:=3) (q:=q) rfl hr hr0 hm (fun p hp=>?_) ?_
    · simp only [List.mem_cons] at hp
      rcases hp with rfl | hp
      · exact hoq
      · exact hok _ (List.mem_of_mem_take hp)
    intro a' w es' clock' hs hr hm'
    rw [← htk] at hm'
    show r11.wp Try.prog _ a' w
    refine xwp_map hS k11 (st:=⟨((((((((Fr.nil.put 1 (.ptrL 1 0)).put 3 (.ptrL 2 0)).put 5 (.d (.val (.map (some r))))).put 34 (.d (.sl (encK K) K.length))).put 35 (.i K.length)).put 36 (.i i)).put 7 (.ptrL 3 0)).put 40 (.d (.val (.map (some r))))).put 41 .dead,rowsOf [(1,[.i k,.d (.val (.int .u64 a)),.d (.val (.int .u64 b)),.d (.val (.int .u64 c)),.d (.val (.int .u64 d)),.i mn,.i mx,.d (.sl (encL subs) subs.length)]),(2,[.i k2,.d (.val (.int .u64 a2)),.d (.val (.int .u64 b2)),.d (.val (.int .u64 c2)),.d (.val (.int .u64 d2)),.i mn2,.i mx2,.d (.sl (encL subs2) subs2.length)]),(3,(encQ q).map AV.d)],Frz.buts 100 [],100⟩) (Q:=thenK (fun st=>Wk st ⟨(((((Fr.nil.put 1 (.ptrL 1 0)).put 3 (.ptrL 2 0)).put 5 (.d (.val (.map (some r))))).put 34 (.d (.sl (encK K) K.length))).put 35 (.i K.length)).put 36 (.i ((i + 1 : Nat) : Int)),rowsOf [(1,[.i k,.d (.val (.int .u64 a)),.d (.val (.int .u64 b)),.d (.val (.int .u64 c)),.d (.val (.int .u64 d)),.i mn,.i mx,.d (.sl (encL subs) subs.length)]),(2,[.i k2,.d (.val (.int .u64 a2)),.d (.val (.int .u64 b2)),.d (.val (.int .u64 c2)),.d (.val (.int .u64 d2)),.i mn2,.i mx2,.d (.sl (encL subs2) subs2.length)])],Frz.buts 100 [],100⟩) (fun _ _=>False)) (w_at ?_) hs hr ?_
    · unfold xp64
      repeat' (first|(apply r_mvV;rfl)|(apply r_add;rfl;rfl;rfl;omega)|(apply r_nilK)|(apply k_V;rfl)|(apply k_PL;rfl)|(apply k_S;rfl)|(apply k_nil)|(apply w_ops;((conv=>lhs;simp only [Nat.reduceAdd])<;>rfl)))
      apply e_thenK
      show Wk _ _
      refine wkM [] [] rfl ?_ ?_ rfl ?_
      · (intro p hp;simp only [List.mem_cons,List.not_mem_nil,or_false] at hp;rcases hp with rfl | rfl<;>exact ⟨by omega,.inr ⟨rfl,_,rfl,.data rfl⟩⟩)
      · (intro q hq;simp at hq)
      · repeat' (first|exact FWk.nil|(apply FWk.i;rfl;(first|rfl|omega|(simp;done)))|(apply FWk.ptr;rfl;rfl;rfl;omega;rfl)|(apply FWk.d;rfl;rfl))
    intro e st a' w hq hs hr
    obtain ⟨he,hw⟩:=thenK_inv hq
    subst he
    exact ⟨K.length - (i + 1),by omega,i + 1,es',clock',by omega,rfl,Wk.sound hw hs,hr,hm'⟩
  · refine wp_stepM hS k8 (st:=⟨(((((Fr.nil.put 1 (.ptrL 1 0)).put 3 (.ptrL 2 0)).put 5 (.d (.val (.map (some r))))).put 34 (.d (.sl (encK K) K.length))).put 35 (.i K.length)).put 36 (.i i),rowsOf [(1,[.i k,.d (.val (.int .u64 a)),.d (.val (.int .u64 b)),.d (.val (.int .u64 c)),.d (.val (.int .u64 d)),.i mn,.i mx,.d (.sl (encL subs) subs.length)]),(2,[.i k2,.d (.val (.int .u64 a2)),.d (.val (.int .u64 b2)),.d (.val (.int .u64 c2)),.d (.val (.int .u64 d2)),.i mn2,.i mx2,.d (.sl (encL subs2) subs2.length)])],Frz.buts 100 [],100⟩) (K:=fun st=>Wk st ⟨((((((Fr.nil.put 1 (.ptrL 1 0)).put 3 (.ptrL 2 0)).put 5 (.d (.val (.map (some r))))).put 34 (.d (.sl (encK K) K.length))).put 35 (.i K.length)).put 36 (.i i)).put 37 (.b false),rowsOf [(1,[.i k,.d (.val (.int .u64 a)),.d (.val (.int .u64 b)),.d (.val (.int .u64 c)),.d (.val (.int .u64 d)),.i mn,.i mx,.d (.sl (encL subs) subs.length)]),(2,[.i k2,.d (.val (.int .u64 a2)),.d (.val (.int .u64 b2)),.d (.val (.int .u64 c2)),.d (.val (.int .u64 d2)),.i mn2,.i mx2,.d (.sl (encL subs2) subs2.length)])],Frz.buts 100 [],100⟩) (Q:=fun _ _=>False) (w_at ?_) hs hr ?_ (fun e st a w _ h=>h.elim)
    · unfold xp61
      repeat' (first|(apply r_lss;rfl;rfl;(first|(apply dT;omega)|(apply dF;omega)|rfl))|(apply r_nilK)|(apply k_V;rfl)|(apply k_PL;rfl)|(apply k_S;rfl)|(apply k_nil)|(apply w_ops;((conv=>lhs;simp only [Nat.reduceAdd])<;>rfl)))
      apply e_thenK
      show Wk _ _
      refine wkM [] [] rfl ?_ ?_ rfl ?_
      · (intro p hp;simp only [List.mem_cons,List.not_mem_nil,or_false] at hp;rcases hp with rfl | rfl<;>exact ⟨by omega,.inr ⟨rfl,_,rfl,.data rfl⟩⟩)
      · (intro q hq;simp at hq)
      · repeat' (first|exact FWk.nil|(apply FWk.i;rfl;(first|rfl|omega|(simp;done)))|(apply FWk.ptr;rfl;rfl;rfl;omega;rfl)|(apply FWk.d;rfl;rfl))
    intro st a' w hk hs hr
    have hs:=hk.sound hs
    refine wp_stepM hS kc (st:=⟨((((((Fr.nil.put 1 (.ptrL 1 0)).put 3 (.ptrL 2 0)).put 5 (.d (.val (.map (some r))))).put 34 (.d (.sl (encK K) K.length))).put 35 (.i K.length)).put 36 (.i i)).put 37 (.b false),rowsOf [(1,[.i k,.d (.val (.int .u64 a)),.d (.val (.int .u64 b)),.d (.val (.int .u64 c)),.d (.val (.int .u64 d)),.i mn,.i mx,.d (.sl (encL subs) subs.length)]),(2,[.i k2,.d (.val (.int .u64 a2)),.d (.val (.int .u64 b2)),.d (.val (.int .u64 c2)),.d (.val (.int .u64 d2)),.i mn2,.i mx2,.d (.sl (encL subs2) subs2.length)])],Frz.buts 100 [],100⟩) (K:=fun st=>False) (Q:=fun e st=>e=.exit 0∧Wk st ⟨(((((Fr.nil.put 1 (.ptrL 1 0)).put 3 (.ptrL 2 0)).put 5 (.d (.val (.map (some r))))).put 34 (.d (.sl (encK K) K.length))).put 35 (.i K.length)).put 36 (.i i),rowsOf [(1,[.i k,.d (.val (.int .u64 a)),.d (.val (.int .u64 b)),.d (.val (.int .u64 c)),.d (.val (.int .u64 d)),.i mn,.i mx,.d (.sl (encL subs) subs.length)]),(2,[.i k2,.d (.val (.int .u64 a2)),.d (.val (.int .u64 b2)),.d (.val (.int .u64 c2)),.d (.val (.int .u64 d2)),.i mn2,.i mx2,.d (.sl (encL subs2) subs2.length)])],Frz.buts 100 [],100⟩) (w_at ?_) hs hr (fun st a w h=>h.elim) ?_
    · unfold xp62
      repeat' (first|(apply w_condF;rfl)|(apply e_thenX)|(apply w_exit))
      apply e_x
      refine wkM [] [] rfl ?_ ?_ rfl ?_
      · (intro p hp;simp only [List.mem_cons,List.not_mem_nil,or_false] at hp;rcases hp with rfl | rfl<;>exact ⟨by omega,.inr ⟨rfl,_,rfl,.data rfl⟩⟩)
      · (intro q hq;simp at hq)
      · repeat' (first|exact FWk.nil|(apply FWk.i;rfl;(first|rfl|omega|(simp;done)))|(apply FWk.ptr;rfl;rfl;rfl;omega;rfl)|(apply FWk.d;rfl;rfl))
    rintro e st a' w _ ⟨rfl,hk⟩ hs hr
    show (if (0 : Nat)=0 then R .normal a' w else R (.exit 0) a' w)
    rw [if_pos rfl]
    rw [List.take_of_length_le hge] at hm
    exact hend a' w es clock i (hk.sound hs) hr hm
theorem loop2 {r13 c13 r14 X15 r17 : Code} {l1 l2 l3 l4 : Oper} (k13 : compC Try.prog md18 od18 74 r13=some xp81) (kc : compC Try.prog md18 od18 74 c13=some xp82) (k14 : compC Try.prog md18 od18 74 r14=some xp83) (k15 : compC Try.prog md18 od18 74 X15=some xp84) (k17 : compC Try.prog md18 od18 74 r17=some xp85)
    (g : l1.op=.move (.tmp 5)∧l1.dst=some 50∧l1.guard=none∧l2.op=.load 24 (.tmp 9)∧l2.dst=some 51∧l2.guard=none∧l3.op=.lookup 61 (.tmp 50) (.tmp 51) false∧l3.dst=some 52∧l3.guard=none∧l4.op=.unOp .not 4 (.tmp 52)∧l4.dst=some 53∧l4.guard=none)
    (hS : ∀ k,S k→k < w0.heap.size∧¬ Wr k) {K K2 : List Q4} (hok : ∀ q ∈ K,okQ q) (hsub : ∀ q ∈ K2,q ∈ K) (hK : K2.length≤1000000) {r : Nat} {es : Array MapEntry} {clock : Nat} (hm : MapOK es K)
    {k a b c d mn mx k2 a2 b2 c2 d2 mn2 mx2 : Int} {subs subs2 : List T}
    (hs0 : Sim [] pb w0 S Wr 74 (fun b=>b < 100) ((((((Fr.nil.put 1 (.ptrL 1 0)).put 3 (.ptrL 2 0)).put 5 (.d (.val (.map (some r))))).put 44 (.d (.sl (encK K2) K2.length))).put 45 (.i K2.length)).put 46 (.i (0 : Nat))) (rowsOf [(1,[.i k,.d (.val (.int .u64 a)),.d (.val (.int .u64 b)),.d (.val (.int .u64 c)),.d (.val (.int .u64 d)),.i mn,.i mx,.d (.sl (encL subs) subs.length)]),(2,[.i k2,.d (.val (.int .u64 a2)),.d (.val (.int .u64 b2)),.d (.val (.int .u64 c2)),.d (.val (.int .u64 d2)),.i mn2,.i mx2,.d (.sl (encL subs2) subs2.length)])]) (Frz.buts 100 []) a' w)
    (hr : w.heap[r]?=some (.map es clock))
    (hend : ∀ a' w (i : Nat),Sim [] pb w0 S Wr 74 (fun b=>b < 100) ((((((Fr.nil.put 1 (.ptrL 1 0)).put 3 (.ptrL 2 0)).put 5 (.d (.val (.map (some r))))).put 44 (.d (.sl (encK K2) K2.length))).put 45 (.i K2.length)).put 46 (.i i)) (rowsOf [(1,[.i k,.d (.val (.int .u64 a)),.d (.val (.int .u64 b)),.d (.val (.int .u64 c)),.d (.val (.int .u64 d)),.i mn,.i mx,.d (.sl (encL subs) subs.length)]),(2,[.i k2,.d (.val (.int .u64 a2)),.d (.val (.int .u64 b2)),.d (.val (.int .u64 c2)),.d (.val (.int .u64 d2)),.i mn2,.i mx2,.d (.sl (encL subs2) subs2.length)])]) (Frz.buts 100 []) a' w→R .normal a' w) :
    (Code.block 2 (.loop (.seq r13 (.seq c13 (.seq (.block 3 (.seq r14 (.seq (.region 15 #[l1,l2,l3,l4] false) X15))) r17))))).wp Try.prog R a' w:=by
  refine wp_block (wp_loop_ghost (fun n a' w=>∃ (i : Nat),i≤K2.length∧n=K2.length - i∧Sim [] pb w0 S Wr 74 (fun b=>b < 100) ((((((Fr.nil.put 1 (.ptrL 1 0)).put 3 (.ptrL 2 0)).put 5 (.d (.val (.map (some r))))).put 44 (.d (.sl (encK K2) K2.length))).put 45 (.i K2.length)).put 46 (.i i)) (rowsOf [(1,[.i k,.d (.val (.int .u64 a)),.d (.val (.int .u64 b)),.d (.val (.int .u64 c)),.d (.val (.int .u64 d)),.i mn,.i mx,.d (.sl (encL subs) subs.length)]),(2,[.i k2,.d (.val (.int .u64 a2)),.d (.val (.int .u64 b2)),.d (.val (.int .u64 c2)),.d (.val (.int .u64 d2)),.i mn2,.i mx2,.d (.sl (encL subs2) subs2.length)])]) (Frz.buts 100 []) a' w∧w.heap[r]?=some (.map es clock)) K2.length ⟨0,Nat.zero_le _,rfl,hs0,hr⟩ ?_)
  clear hs0 hr
  rintro n a' w ⟨i,hi,hn,hs,hr⟩
  rcases Nat.lt_or_ge i K2.length with hlt | hge
  · refine wp_stepM hS k13 (st:=⟨(((((Fr.nil.put 1 (.ptrL 1 0)).put 3 (.ptrL 2 0)).put 5 (.d (.val (.map (some r))))).put 44 (.d (.sl (encK K2) K2.length))).put 45 (.i K2.length)).put 46 (.i i),rowsOf [(1,[.i k,.d (.val (.int .u64 a)),.d (.val (.int .u64 b)),.d (.val (.int .u64 c)),.d (.val (.int .u64 d)),.i mn,.i mx,.d (.sl (encL subs) subs.length)]),(2,[.i k2,.d (.val (.int .u64 a2)),.d (.val (.int .u64 b2)),.d (.val (.int .u64 c2)),.d (.val (.int .u64 d2)),.i mn2,.i mx2,.d (.sl (encL subs2) subs2.length)])],Frz.buts 100 [],100⟩) (K:=fun st=>Wk st ⟨((((((Fr.nil.put 1 (.ptrL 1 0)).put 3 (.ptrL 2 0)).put 5 (.d (.val (.map (some r))))).put 44 (.d (.sl (encK K2) K2.length))).put 45 (.i K2.length)).put 46 (.i i)).put 47 (.b true),rowsOf [(1,[.i k,.d (.val (.int .u64 a)),.d (.val (.int .u64 b)),.d (.val (.int .u64 c)),.d (.val (.int .u64 d)),.i mn,.i mx,.d (.sl (encL subs) subs.length)]),(2,[.i k2,.d (.val (.int .u64 a2)),.d (.val (.int .u64 b2)),.d (.val (.int .u64 c2)),.d (.val (.int .u64 d2)),.i mn2,.i mx2,.d (.sl (encL subs2) subs2.length)])],Frz.buts 100 [],100⟩) (Q:=fun _ _=>False) (w_at ?_) hs hr ?_ (fun e st a w _ h=>h.elim)
    · unfold xp81
      repeat' (first|(apply r_lss;rfl;rfl;(first|(apply dT;omega)|(apply dF;omega)|rfl))|(apply r_nilK)|(apply k_V;rfl)|(apply k_PL;rfl)|(apply k_S;rfl)|(apply k_nil)|(apply w_ops;((conv=>lhs;simp only [Nat.reduceAdd])<;>rfl)))
      apply e_thenK
      show Wk _ _
      refine wkM [] [] rfl ?_ ?_ rfl ?_
      · (intro p hp;simp only [List.mem_cons,List.not_mem_nil,or_false] at hp;rcases hp with rfl | rfl<;>exact ⟨by omega,.inr ⟨rfl,_,rfl,.data rfl⟩⟩)
      · (intro q hq;simp at hq)
      · repeat' (first|exact FWk.nil|(apply FWk.i;rfl;(first|rfl|omega|(simp;done)))|(apply FWk.ptr;rfl;rfl;rfl;omega;rfl)|(apply FWk.d;rfl;rfl))
    intro st a' w hk hs hr
    have hs:=hk.sound hs
    refine wp_stepM hS kc (st:=⟨((((((Fr.nil.put 1 (.ptrL 1 0)).put 3 (.ptrL 2 0)).put 5 (.d (.val (.map (some r))))).put 44 (.d (.sl (encK K2) K2.length))).put 45 (.i K2.length)).put 46 (.i i)).put 47 (.b true),rowsOf [(1,[.i k,.d (.val (.int .u64 a)),.d (.val (.int .u64 b)),.d (.val (.int .u64 c)),.d (.val (.int .u64 d)),.i mn,.i mx,.d (.sl (encL subs) subs.length)]),(2,[.i k2,.d (.val (.int .u64 a2)),.d (.val (.int .u64 b2)),.d (.val (.int .u64 c2)),.d (.val (.int .u64 d2)),.i mn2,.i mx2,.d (.sl (encL subs2) subs2.length)])],Frz.buts 100 [],100⟩) (K:=fun st=>Wk st ⟨(((((Fr.nil.put 1 (.ptrL 1 0)).put 3 (.ptrL 2 0)).put 5 (.d (.val (.map (some r))))).put 44 (.d (.sl (encK K2) K2.length))).put 45 (.i K2.length)).put 46 (.i i),rowsOf [(1,[.i k,.d (.val (.int .u64 a)),.d (.val (.int .u64 b)),.d (.val (.int .u64 c)),.d (.val (.int .u64 d)),.i mn,.i mx,.d (.sl (encL subs) subs.length)]),(2,[.i k2,.d (.val (.int .u64 a2)),.d (.val (.int .u64 b2)),.d (.val (.int .u64 c2)),.d (.val (.int .u64 d2)),.i mn2,.i mx2,.d (.sl (encL subs2) subs2.length)])],Frz.buts 100 [],100⟩) (Q:=fun _ _=>False) (w_at ?_) hs hr ?_ (fun e st a w _ h=>h.elim)
    · unfold xp82
      repeat' (first|(apply w_condT;rfl)|(apply w_skip))
      apply e_thenK
      show Wk _ _
      refine wkM [] [] rfl ?_ ?_ rfl ?_
      · (intro p hp;simp only [List.mem_cons,List.not_mem_nil,or_false] at hp;rcases hp with rfl | rfl<;>exact ⟨by omega,.inr ⟨rfl,_,rfl,.data rfl⟩⟩)
      · (intro q hq;simp at hq)
      · repeat' (first|exact FWk.nil|(apply FWk.i;rfl;(first|rfl|omega|(simp;done)))|(apply FWk.ptr;rfl;rfl;rfl;omega;rfl)|(apply FWk.d;rfl;rfl))
    intro st a' w hk hs hr
    have hs:=hk.sound hs
    have hq : K2[i]?=some K2[i]:=List.getElem?_eq_getElem hlt
    have hin:=hsub _ (List.getElem_mem hlt)
    generalize K2[i]=q at hq hin
    refine wp_seq (wp_block ?_)
    refine wp_stepM hS k14 (st:=⟨(((((Fr.nil.put 1 (.ptrL 1 0)).put 3 (.ptrL 2 0)).put 5 (.d (.val (.map (some r))))).put 44 (.d (.sl (encK K2) K2.length))).put 45 (.i K2.length)).put 46 (.i i),rowsOf [(1,[.i k,.d (.val (.int .u64 a)),.d (.val (.int .u64 b)),.d (.val (.int .u64 c)),.d (.val (.int .u64 d)),.i mn,.i mx,.d (.sl (encL subs) subs.length)]),(2,[.i k2,.d (.val (.int .u64 a2)),.d (.val (.int .u64 b2)),.d (.val (.int .u64 c2)),.d (.val (.int .u64 d2)),.i mn2,.i mx2,.d (.sl (encL subs2) subs2.length)])],Frz.buts 100 [],100⟩) (K:=fun st=>Wk st ⟨((((((Fr.nil.put 1 (.ptrL 1 0)).put 3 (.ptrL 2 0)).put 5 (.d (.val (.map (some r))))).put 44 (.d (.sl (encK K2) K2.length))).put 45 (.i K2.length)).put 46 (.i i)).put 9 (.ptrL 3 0),rowsOf [(1,[.i k,.d (.val (.int .u64 a)),.d (.val (.int .u64 b)),.d (.val (.int .u64 c)),.d (.val (.int .u64 d)),.i mn,.i mx,.d (.sl (encL subs) subs.length)]),(2,[.i k2,.d (.val (.int .u64 a2)),.d (.val (.int .u64 b2)),.d (.val (.int .u64 c2)),.d (.val (.int .u64 d2)),.i mn2,.i mx2,.d (.sl (encL subs2) subs2.length)]),(3,(encQ q).map AV.d)],Frz.buts 100 [],100⟩) (Q:=fun _ _=>False) (w_at ?_) hs hr ?_ (fun e st a w _ h=>h.elim)
    · obtain ⟨q1,q2,q3,q4⟩:=q
      unfold xp83
      repeat' (first|(apply r_ixK (K:=K2) (j:=i);rfl;rfl;rfl;rfl;exact hlt)|(apply r_ldK (K:=K2) (j:=i) (q:=(q1,q2,q3,q4));rfl;exact hq)|(apply r_alloc;((conv=>lhs;simp only [Nat.reduceAdd])<;>rfl);rfl)|(apply r_stL;rfl;rfl;rfl;rfl;(first|rfl|(simp only [z_nil,z_add]<;>rfl));rfl;rfl)|(apply r_nilK)|(apply k_V;rfl)|(apply k_PL;rfl)|(apply k_S;rfl)|(apply k_nil)|(apply w_ops;((conv=>lhs;simp only [Nat.reduceAdd])<;>rfl)))
      apply e_thenK
      show Wk _ _
      refine wkM [(3,102)] [] rfl ?_ ?_ rfl ?_
      · intro p hp
        simp only [List.mem_cons,List.not_mem_nil,or_false] at hp
        rcases hp with rfl | rfl | rfl<;>exact ⟨by omega,.inr ⟨rfl,_,rfl,.data rfl⟩⟩
      · (intro q hq;simp at hq)
      · repeat' (first|exact FWk.nil|(apply FWk.i;rfl;(first|rfl|omega|(simp;done)))|(apply FWk.ptr;rfl;rfl;rfl;omega;rfl)|(apply FWk.d;rfl;rfl))
    intro st a' w hk hs hr
    have hs:=hk.sound hs
    refine wp_seq (reg15 g hs rfl rfl (b:=3) (q:=q) rfl hr hm hok hin ?_)
    intro a' hs
    show X15.wp Try.prog _ a' w
    refine xwp_map hS k15 (st:=⟨((((((((((Fr.nil.put 1 (.ptrL 1 0)).put 3 (.ptrL 2 0)).put 5 (.d (.val (.map (some r))))).put 44 (.d (.sl (encK K2) K2.length))).put 45 (.i K2.length)).put 46 (.i i)).put 9 (.ptrL 3 0)).put 50 (.d (.val (.map (some r))))).put 51 .dead).put 52 (.b true)).put 53 (.b false),rowsOf [(1,[.i k,.d (.val (.int .u64 a)),.d (.val (.int .u64 b)),.d (.val (.int .u64 c)),.d (.val (.int .u64 d)),.i mn,.i mx,.d (.sl (encL subs) subs.length)]),(2,[.i k2,.d (.val (.int .u64 a2)),.d (.val (.int .u64 b2)),.d (.val (.int .u64 c2)),.d (.val (.int .u64 d2)),.i mn2,.i mx2,.d (.sl (encL subs2) subs2.length)]),(3,(encQ q).map AV.d)],Frz.buts 100 [],100⟩) (Q:=thenK (fun st=>Wk st ⟨(((((Fr.nil.put 1 (.ptrL 1 0)).put 3 (.ptrL 2 0)).put 5 (.d (.val (.map (some r))))).put 44 (.d (.sl (encK K2) K2.length))).put 45 (.i K2.length)).put 46 (.i i),rowsOf [(1,[.i k,.d (.val (.int .u64 a)),.d (.val (.int .u64 b)),.d (.val (.int .u64 c)),.d (.val (.int .u64 d)),.i mn,.i mx,.d (.sl (encL subs) subs.length)]),(2,[.i k2,.d (.val (.int .u64 a2)),.d (.val (.int .u64 b2)),.d (.val (.int .u64 c2)),.d (.val (.int .u64 d2)),.i mn2,.i mx2,.d (.sl (encL subs2) subs2.length)])],Frz.buts 100 [],100⟩) (fun _ _=>False)) (w_at ?_) hs hr ?_
    · unfold xp84
      repeat' (first|(apply w_condF;rfl)|(apply w_skip))
      apply e_thenK
      show Wk _ _
      refine wkM [] [] rfl ?_ ?_ rfl ?_
      · (intro p hp;simp only [List.mem_cons,List.not_mem_nil,or_false] at hp;rcases hp with rfl | rfl<;>exact ⟨by omega,.inr ⟨rfl,_,rfl,.data rfl⟩⟩)
      · (intro q hq;simp at hq)
      · repeat' (first|exact FWk.nil|(apply FWk.i;rfl;(first|rfl|omega|(simp;done)))|(apply FWk.ptr;rfl;rfl;rfl;omega;rfl)|(apply FWk.d;rfl;rfl))
    intro e st a' w hq hs hr
    obtain ⟨he,hw⟩:=thenK_inv hq
    subst he
    have hs:=Wk.sound hw hs
    show r17.wp Try.prog _ a' w
    refine xwp_map hS k17 (st:=⟨(((((Fr.nil.put 1 (.ptrL 1 0)).put 3 (.ptrL 2 0)).put 5 (.d (.val (.map (some r))))).put 44 (.d (.sl (encK K2) K2.length))).put 45 (.i K2.length)).put 46 (.i i),rowsOf [(1,[.i k,.d (.val (.int .u64 a)),.d (.val (.int .u64 b)),.d (.val (.int .u64 c)),.d (.val (.int .u64 d)),.i mn,.i mx,.d (.sl (encL subs) subs.length)]),(2,[.i k2,.d (.val (.int .u64 a2)),.d (.val (.int .u64 b2)),.d (.val (.int .u64 c2)),.d (.val (.int .u64 d2)),.i mn2,.i mx2,.d (.sl (encL subs2) subs2.length)])],Frz.buts 100 [],100⟩) (Q:=thenK (fun st=>Wk st ⟨(((((Fr.nil.put 1 (.ptrL 1 0)).put 3 (.ptrL 2 0)).put 5 (.d (.val (.map (some r))))).put 44 (.d (.sl (encK K2) K2.length))).put 45 (.i K2.length)).put 46 (.i ((i + 1 : Nat) : Int)),rowsOf [(1,[.i k,.d (.val (.int .u64 a)),.d (.val (.int .u64 b)),.d (.val (.int .u64 c)),.d (.val (.int .u64 d)),.i mn,.i mx,.d (.sl (encL subs) subs.length)]),(2,[.i k2,.d (.val (.int .u64 a2)),.d (.val (.int .u64 b2)),.d (.val (.int .u64 c2)),.d (.val (.int .u64 d2)),.i mn2,.i mx2,.d (.sl (encL subs2) subs2.length)])],Frz.buts 100 [],100⟩) (fun _ _=>False)) (w_at ?_) hs hr ?_
    · unfold xp85
      repeat' (first|(apply r_mvV;rfl)|(apply r_add;rfl;rfl;rfl;omega)|(apply r_nilK)|(apply k_V;rfl)|(apply k_PL;rfl)|(apply k_S;rfl)|(apply k_nil)|(apply w_ops;((conv=>lhs;simp only [Nat.reduceAdd])<;>rfl)))
      apply e_thenK
      show Wk _ _
      refine wkM [] [] rfl ?_ ?_ rfl ?_
      · (intro p hp;simp only [List.mem_cons,List.not_mem_nil,or_false] at hp;rcases hp with rfl | rfl<;>exact ⟨by omega,.inr ⟨rfl,_,rfl,.data rfl⟩⟩)
      · (intro q hq;simp at hq)
      · repeat' (first|exact FWk.nil|(apply FWk.i;rfl;(first|rfl|omega|(simp;done)))|(apply FWk.ptr;rfl;rfl;rfl;omega;rfl)|(apply FWk.d;rfl;rfl))
    intro e st a' w hq hs hr
    obtain ⟨he,hw⟩:=thenK_inv hq
    subst he
    exact ⟨K2.length - (i + 1),by omega,i + 1,by omega,rfl,Wk.sound hw hs,hr⟩
  · refine wp_stepM hS k13 (st:=⟨(((((Fr.nil.put 1 (.ptrL 1 0)).put 3 (.ptrL 2 0)).put 5 (.d (.val (.map (some r))))).put 44 (.d (.sl (encK K2) K2.length))).put 45 (.i K2.length)).put 46 (.i i),rowsOf [(1,[.i k,.d (.val (.int .u64 a)),.d (.val (.int .u64 b)),.d (.val (.int .u64 c)),.d (.val (.int .u64 d)),.i mn,.i mx,.d (.sl (encL subs) subs.length)]),(2,[.i k2,.d (.val (.int .u64 a2)),.d (.val (.int .u64 b2)),.d (.val (.int .u64 c2)),.d (.val (.int .u64 d2)),.i mn2,.i mx2,.d (.sl (encL subs2) subs2.length)])],Frz.buts 100 [],100⟩) (K:=fun st=>Wk st ⟨((((((Fr.nil.put 1 (.ptrL 1 0)).put 3 (.ptrL 2 0)).put 5 (.d (.val (.map (some r))))).put 44 (.d (.sl (encK K2) K2.length))).put 45 (.i K2.length)).put 46 (.i i)).put 47 (.b false),rowsOf [(1,[.i k,.d (.val (.int .u64 a)),.d (.val (.int .u64 b)),.d (.val (.int .u64 c)),.d (.val (.int .u64 d)),.i mn,.i mx,.d (.sl (encL subs) subs.length)]),(2,[.i k2,.d (.val (.int .u64 a2)),.d (.val (.int .u64 b2)),.d (.val (.int .u64 c2)),.d (.val (.int .u64 d2)),.i mn2,.i mx2,.d (.sl (encL subs2) subs2.length)])],Frz.buts 100 [],100⟩) (Q:=fun _ _=>False) (w_at ?_) hs hr ?_ (fun e st a w _ h=>h.elim)
    · unfold xp81
      repeat' (first|(apply r_lss;rfl;rfl;(first|(apply dT;omega)|(apply dF;omega)|rfl))|(apply r_nilK)|(apply k_V;rfl)|(apply k_PL;rfl)|(apply k_S;rfl)|(apply k_nil)|(apply w_ops;((conv=>lhs;simp only [Nat.reduceAdd])<;>rfl)))
      apply e_thenK
      show Wk _ _
      refine wkM [] [] rfl ?_ ?_ rfl ?_
      · (intro p hp;simp only [List.mem_cons,List.not_mem_nil,or_false] at hp;rcases hp with rfl | rfl<;>exact ⟨by omega,.inr ⟨rfl,_,rfl,.data rfl⟩⟩)
      · (intro q hq;simp at hq)
      · repeat' (first|exact FWk.nil|(apply FWk.i;rfl;(first|rfl|omega|(simp;done)))|(apply FWk.ptr;rfl;rfl;rfl;omega;rfl)|(apply FWk.d;rfl;rfl))
    intro st a' w hk hs hr
    have hs:=hk.sound hs
    refine wp_stepM hS kc (st:=⟨((((((Fr.nil.put 1 (.ptrL 1 0)).put 3 (.ptrL 2 0)).put 5 (.d (.val (.map (some r))))).put 44 (.d (.sl (encK K2) K2.length))).put 45 (.i K2.length)).put 46 (.i i)).put 47 (.b false),rowsOf [(1,[.i k,.d (.val (.int .u64 a)),.d (.val (.int .u64 b)),.d (.val (.int .u64 c)),.d (.val (.int .u64 d)),.i mn,.i mx,.d (.sl (encL subs) subs.length)]),(2,[.i k2,.d (.val (.int .u64 a2)),.d (.val (.int .u64 b2)),.d (.val (.int .u64 c2)),.d (.val (.int .u64 d2)),.i mn2,.i mx2,.d (.sl (encL subs2) subs2.length)])],Frz.buts 100 [],100⟩) (K:=fun st=>False) (Q:=fun e st=>e=.exit 2∧Wk st ⟨(((((Fr.nil.put 1 (.ptrL 1 0)).put 3 (.ptrL 2 0)).put 5 (.d (.val (.map (some r))))).put 44 (.d (.sl (encK K2) K2.length))).put 45 (.i K2.length)).put 46 (.i i),rowsOf [(1,[.i k,.d (.val (.int .u64 a)),.d (.val (.int .u64 b)),.d (.val (.int .u64 c)),.d (.val (.int .u64 d)),.i mn,.i mx,.d (.sl (encL subs) subs.length)]),(2,[.i k2,.d (.val (.int .u64 a2)),.d (.val (.int .u64 b2)),.d (.val (.int .u64 c2)),.d (.val (.int .u64 d2)),.i mn2,.i mx2,.d (.sl (encL subs2) subs2.length)])],Frz.buts 100 [],100⟩) (w_at ?_) hs hr (fun st a w h=>h.elim) ?_
    · unfold xp82
      repeat' (first|(apply w_condF;rfl)|(apply e_thenX)|(apply w_exit))
      apply e_x
      refine wkM [] [] rfl ?_ ?_ rfl ?_
      · (intro p hp;simp only [List.mem_cons,List.not_mem_nil,or_false] at hp;rcases hp with rfl | rfl<;>exact ⟨by omega,.inr ⟨rfl,_,rfl,.data rfl⟩⟩)
      · (intro q hq;simp at hq)
      · repeat' (first|exact FWk.nil|(apply FWk.i;rfl;(first|rfl|omega|(simp;done)))|(apply FWk.ptr;rfl;rfl;rfl;omega;rfl)|(apply FWk.d;rfl;rfl))
    rintro e st a' w _ ⟨rfl,hk⟩ hs hr
    show (if (2 : Nat)=2 then R .normal a' w else R (.exit 2) a' w)
    rw [if_pos rfl]
    exact hend a' w i (hk.sound hs)
end
end Go.Sv
namespace Go.Sv
open Go Go.Proofs Go.WideMaps Go.ChangeMaps
set_option linter.unusedVariables false
theorem good18 {ags : List AV} (hal : ags.length≤74) (K1 : St→Prop)
    (h : xwp Try.prog (.seq xp0 (.seq xp1 (.seq xp2 xp3))) (thenK K1 (retK [.tmp 2] (none : Option (List DV)).isSome (.b true) none none)) (St.init ags none))
    (hK : ∀ st,K1 st→∀ rest,Rest18 rest→∀ (w0 : World) (S Wr : Nat→Prop) (pb : Option (Value × AV)) (a : Act) (w : World) (R : Exit→Act→World→Prop),(∀ k,S k→k < w0.heap.size∧¬ Wr k)→Sim [] pb w0 S Wr 74 (fun b=>b < st.nx) st.fr st.C st.Z a w →
      (∀ e st a w,retK [.tmp 2] (none : Option (List DV)).isSome (.b true) none none e st→Sim [] pb w0 S Wr 74 (fun b=>b < st.nx) st.fr st.C st.Z a w→R e a w)→rest.wp Try.prog R a w) : Good Try.prog 18 ags none (.b true) none none:=by
  obtain ⟨r0,X1,r3,X4,rest,hb,h0,h1,h2,h3,hrest⟩:=p18
  refine good_of_wp (nt:=74) (rs:=[.tmp 2]) Try.func18 hb (by kernel_rfl) (by kernel_rfl) (by kernel_rfl) hal (by simp) fun w0 S Wr pb a w R hS hsim hR=>?_
  have fin : ∀ e st a w,retK [.tmp 2] (none : Option (List DV)).isSome (.b true) none none e st→Sim [] pb w0 S Wr 74 (fun b=>b < st.nx) st.fr st.C st.Z a w→bodyPostD Try.prog Try.f18 R e a w:=by
    intro e st a w hq hs'
    have hd:=hs'.defers
    cases e with
    | normal =>
      show Leaves Try.prog Try.f18 a.tmps R a.defers .returning w
      rw [hd];exact hR [] st a w hq hs'
    | ret =>
      show Leaves Try.prog Try.f18 a.tmps R a.defers .returning w
      rw [hd];exact hR [] st a w hq hs'
    | _=>exact hq.elim
  have ret : ∀ e st a w,e ≠ .normal→thenK K1 (retK [.tmp 2] (none : Option (List DV)).isSome (.b true) none none) e st→Sim [] pb w0 S Wr 74 (fun b=>b < st.nx) st.fr st.C st.Z a w→bodyPostD Try.prog Try.f18 R e a w:=by
    intro e st a w hne hq hs
    cases e with
    | normal=>exact absurd rfl hne
    | exit id=>exact fin (.exit id) st a w hq hs
    | goto l=>exact fin (.goto l) st a w hq hs
    | ret=>exact fin .ret st a w hq hs
    | panic c=>exact fin (.panic c) st a w hq hs
    | outgrown=>exact fin .outgrown st a w hq hs
  refine wp_step hS h0 h hsim ?_ ret
  intro st a w hk hs
  refine wp_step hS h1 hk hs ?_ ret
  intro st a w hk hs
  refine wp_step hS h2 hk hs ?_ ret
  intro st a w hk hs
  refine wp_seq (xwp_sound hS h3 hk hs ?_)
  intro e st a w hq hs
  cases e with
  | normal=>exact hK st hq rest hrest w0 S Wr pb a w _ hS hs fin
  | exit id=>exact fin (.exit id) st a w hq hs
  | goto l=>exact fin (.goto l) st a w hq hs
  | ret=>exact fin .ret st a w hq hs
  | panic c=>exact fin (.panic c) st a w hq hs
  | outgrown=>exact fin .outgrown st a w hq hs
set_option maxRecDepth 100000
set_option maxHeartbeats 4000000
attribute [local irreducible] W E R KP thenK blockK retK Good xwp aRun
theorem core18 {rest : Code} (hrest : Rest18 rest) {K K2 : List Q4} (hok : ∀ q ∈ K,okQ q) (hsub : ∀ q ∈ K2,q ∈ K) (hK : K.length≤1000000) (hK2 : K2.length≤1000000)
    {k a b c d mn mx k2 a2 b2 c2 d2 mn2 mx2 v0 v1 v2 v3 lo hi : Int} {subs subs2 : List T}
    (h61 : Good Try.prog 61 [.agg [.i k,.d (.val (.int .u64 a)),.d (.val (.int .u64 b)),.d (.val (.int .u64 c)),.d (.val (.int .u64 d)),.i mn,.i mx,.d (.sl (encL subs) subs.length)]] none (.d (.sl (encK K) K.length)) none none) (h61' : Good Try.prog 61 [.agg [.i k2,.d (.val (.int .u64 a2)),.d (.val (.int .u64 b2)),.d (.val (.int .u64 c2)),.d (.val (.int .u64 d2)),.i mn2,.i mx2,.d (.sl (encL subs2) subs2.length)]] none (.d (.sl (encK K2) K2.length)) none none)
    (h50 : Good Try.prog 50 [.agg [.i k,.d (.val (.int .u64 a)),.d (.val (.int .u64 b)),.d (.val (.int .u64 c)),.d (.val (.int .u64 d)),.i mn,.i mx,.d (.sl (encL subs) subs.length)]] none (.agg [.d (.val (.int .u64 v0)),.d (.val (.int .u64 v1)),.d (.val (.int .u64 v2)),.d (.val (.int .u64 v3))]) none none) (h50' : Good Try.prog 50 [.agg [.i k2,.d (.val (.int .u64 a2)),.d (.val (.int .u64 b2)),.d (.val (.int .u64 c2)),.d (.val (.int .u64 d2)),.i mn2,.i mx2,.d (.sl (encL subs2) subs2.length)]] none (.agg [.d (.val (.int .u64 v0)),.d (.val (.int .u64 v1)),.d (.val (.int .u64 v2)),.d (.val (.int .u64 v3))]) none none)
    (h62 : Good Try.prog 62 [.agg [.i k,.d (.val (.int .u64 a)),.d (.val (.int .u64 b)),.d (.val (.int .u64 c)),.d (.val (.int .u64 d)),.i mn,.i mx,.d (.sl (encL subs) subs.length)]] none (.i lo) none none) (h62' : Good Try.prog 62 [.agg [.i k2,.d (.val (.int .u64 a2)),.d (.val (.int .u64 b2)),.d (.val (.int .u64 c2)),.d (.val (.int .u64 d2)),.i mn2,.i mx2,.d (.sl (encL subs2) subs2.length)]] none (.i lo) none none)
    (h63 : Good Try.prog 63 [.agg [.i k,.d (.val (.int .u64 a)),.d (.val (.int .u64 b)),.d (.val (.int .u64 c)),.d (.val (.int .u64 d)),.i mn,.i mx,.d (.sl (encL subs) subs.length)]] none (.i hi) none none) (h63' : Good Try.prog 63 [.agg [.i k2,.d (.val (.int .u64 a2)),.d (.val (.int .u64 b2)),.d (.val (.int .u64 c2)),.d (.val (.int .u64 d2)),.i mn2,.i mx2,.d (.sl (encL subs2) subs2.length)]] none (.i hi) none none)
    {w0 : World} {S Wr : Nat→Prop} {pb : Option (Value × AV)} {a' : Act} {w : World} {R : Exit→Act→World→Prop} (hS : ∀ k,S k→k < w0.heap.size∧¬ Wr k)
    (hs : Sim [] pb w0 S Wr 74 (fun b=>b < 100) ((Fr.nil.put 1 (.ptrL 1 0)).put 3 (.ptrL 2 0)) (rowsOf [(1,[.i k,.d (.val (.int .u64 a)),.d (.val (.int .u64 b)),.d (.val (.int .u64 c)),.d (.val (.int .u64 d)),.i mn,.i mx,.d (.sl (encL subs) subs.length)]),(2,[.i k2,.d (.val (.int .u64 a2)),.d (.val (.int .u64 b2)),.d (.val (.int .u64 c2)),.d (.val (.int .u64 d2)),.i mn2,.i mx2,.d (.sl (encL subs2) subs2.length)])]) (Frz.buts 100 []) a' w)
    (fin : ∀ e st a w,retK [.tmp 2] (none : Option (List DV)).isSome (.b true) none none e st→Sim [] pb w0 S Wr 74 (fun b=>b < st.nx) st.fr st.C st.Z a w→R e a w) : rest.wp Try.prog R a' w:=by
  obtain ⟨o1,o2,r7,r8,c8,r9,q1,q2,q3,r11,r12,r13,c13,r14,l1,l2,l3,l4,X15,r17,E',rfl,⟨k7,k8,kc,k9,k11,k12,k13,kc2,k14,k15,k17,kE⟩,g6,g10,g15⟩:=hrest
  have hr0 : w0.heap.size≤w.heap.size:=by obtain ⟨⟨_,_,hH,_⟩,_⟩:=hs;exact hH.size
  refine wp_seq (reg6 g6 hs ?_)
  generalize w.heap.size=r at hr0
  intro a' w hs hr
  refine wp_seq (wp_stepM hS k7 (st:=⟨(((Fr.nil.put 1 (.ptrL 1 0)).put 3 (.ptrL 2 0)).put 32 .dead).put 5 (.d (.val (.map (some r)))),rowsOf [(1,[.i k,.d (.val (.int .u64 a)),.d (.val (.int .u64 b)),.d (.val (.int .u64 c)),.d (.val (.int .u64 d)),.i mn,.i mx,.d (.sl (encL subs) subs.length)]),(2,[.i k2,.d (.val (.int .u64 a2)),.d (.val (.int .u64 b2)),.d (.val (.int .u64 c2)),.d (.val (.int .u64 d2)),.i mn2,.i mx2,.d (.sl (encL subs2) subs2.length)])],Frz.buts 100 [],100⟩) (K:=fun st=>Wk st ⟨(((((Fr.nil.put 1 (.ptrL 1 0)).put 3 (.ptrL 2 0)).put 5 (.d (.val (.map (some r))))).put 34 (.d (.sl (encK K) K.length))).put 35 (.i K.length)).put 36 (.i (0 : Nat)),rowsOf [(1,[.i k,.d (.val (.int .u64 a)),.d (.val (.int .u64 b)),.d (.val (.int .u64 c)),.d (.val (.int .u64 d)),.i mn,.i mx,.d (.sl (encL subs) subs.length)]),(2,[.i k2,.d (.val (.int .u64 a2)),.d (.val (.int .u64 b2)),.d (.val (.int .u64 c2)),.d (.val (.int .u64 d2)),.i mn2,.i mx2,.d (.sl (encL subs2) subs2.length)])],Frz.buts 100 [],100⟩) (Q:=fun _ _=>False) (w_at ?_) hs hr ?_ (fun e st a w _ h=>h.elim))
  · unfold xp5
    repeat' (first|(apply r_mvV;rfl)|(apply r_ldL (v:=.agg [.i k,.d (.val (.int .u64 a)),.d (.val (.int .u64 b)),.d (.val (.int .u64 c)),.d (.val (.int .u64 d)),.i mn,.i mx,.d (.sl (encL subs) subs.length)]);rfl;rfl;rfl)|(apply r_callA (f:=61);rfl;rfl;exact h61)|(apply r_lenD;rfl)|(apply r_nilK)|(apply k_V;rfl)|(apply k_PL;rfl)|(apply k_S;rfl)|(apply k_nil)|(apply w_ops;((conv=>lhs;simp only [Nat.reduceAdd])<;>rfl)))
    apply e_thenK
    show Wk _ _
    refine wkM [] [] rfl ?_ ?_ rfl ?_
    · (intro p hp;simp only [List.mem_cons,List.not_mem_nil,or_false] at hp;rcases hp with rfl | rfl<;>exact ⟨by omega,.inr ⟨rfl,_,rfl,.data rfl⟩⟩)
    · (intro q hq;simp at hq)
    · repeat' (first|exact FWk.nil|(apply FWk.i;rfl;(first|rfl|omega|(simp;done)))|(apply FWk.ptr;rfl;rfl;rfl;omega;rfl)|(apply FWk.d;rfl;rfl))
  intro st a' w hk hs hr
  refine loop1 k8 kc k9 k11 g10 hS hok hK hr0 (hk.sound hs) hr ?_
  clear hs hr hk
  intro a' w es clock i hs hr hm
  refine wp_seq (wp_stepM hS k12 (st:=⟨(((((Fr.nil.put 1 (.ptrL 1 0)).put 3 (.ptrL 2 0)).put 5 (.d (.val (.map (some r))))).put 34 (.d (.sl (encK K) K.length))).put 35 (.i K.length)).put 36 (.i i),rowsOf [(1,[.i k,.d (.val (.int .u64 a)),.d (.val (.int .u64 b)),.d (.val (.int .u64 c)),.d (.val (.int .u64 d)),.i mn,.i mx,.d (.sl (encL subs) subs.length)]),(2,[.i k2,.d (.val (.int .u64 a2)),.d (.val (.int .u64 b2)),.d (.val (.int .u64 c2)),.d (.val (.int .u64 d2)),.i mn2,.i mx2,.d (.sl (encL subs2) subs2.length)])],Frz.buts 100 [],100⟩) (K:=fun st=>Wk st ⟨(((((Fr.nil.put 1 (.ptrL 1 0)).put 3 (.ptrL 2 0)).put 5 (.d (.val (.map (some r))))).put 44 (.d (.sl (encK K2) K2.length))).put 45 (.i K2.length)).put 46 (.i (0 : Nat)),rowsOf [(1,[.i k,.d (.val (.int .u64 a)),.d (.val (.int .u64 b)),.d (.val (.int .u64 c)),.d (.val (.int .u64 d)),.i mn,.i mx,.d (.sl (encL subs) subs.length)]),(2,[.i k2,.d (.val (.int .u64 a2)),.d (.val (.int .u64 b2)),.d (.val (.int .u64 c2)),.d (.val (.int .u64 d2)),.i mn2,.i mx2,.d (.sl (encL subs2) subs2.length)])],Frz.buts 100 [],100⟩) (Q:=fun _ _=>False) (w_at ?_) hs hr ?_ (fun e st a w _ h=>h.elim))
  · unfold xp7
    repeat' (first|(apply r_mvV;rfl)|(apply r_ldL (v:=.agg [.i k2,.d (.val (.int .u64 a2)),.d (.val (.int .u64 b2)),.d (.val (.int .u64 c2)),.d (.val (.int .u64 d2)),.i mn2,.i mx2,.d (.sl (encL subs2) subs2.length)]);rfl;rfl;rfl)|(apply r_callA (f:=61);rfl;rfl;exact h61')|(apply r_lenD;rfl)|(apply r_nilK)|(apply k_V;rfl)|(apply k_PL;rfl)|(apply k_S;rfl)|(apply k_nil)|(apply w_ops;((conv=>lhs;simp only [Nat.reduceAdd])<;>rfl)))
    apply e_thenK
    show Wk _ _
    refine wkM [] [] rfl ?_ ?_ rfl ?_
    · (intro p hp;simp only [List.mem_cons,List.not_mem_nil,or_false] at hp;rcases hp with rfl | rfl<;>exact ⟨by omega,.inr ⟨rfl,_,rfl,.data rfl⟩⟩)
    · (intro q hq;simp at hq)
    · repeat' (first|exact FWk.nil|(apply FWk.i;rfl;(first|rfl|omega|(simp;done)))|(apply FWk.ptr;rfl;rfl;rfl;omega;rfl)|(apply FWk.d;rfl;rfl))
  intro st a' w hk hs hr
  refine loop2 k13 kc2 k14 k15 k17 g15 hS hok hsub hK2 hm (hk.sound hs) hr ?_
  clear hs hr hk
  intro a' w i hs
  show E'.wp Try.prog R a' w
  refine xwp_sound hS kE (st:=⟨(((((Fr.nil.put 1 (.ptrL 1 0)).put 3 (.ptrL 2 0)).put 5 (.d (.val (.map (some r))))).put 44 (.d (.sl (encK K2) K2.length))).put 45 (.i K2.length)).put 46 (.i i),rowsOf [(1,[.i k,.d (.val (.int .u64 a)),.d (.val (.int .u64 b)),.d (.val (.int .u64 c)),.d (.val (.int .u64 d)),.i mn,.i mx,.d (.sl (encL subs) subs.length)]),(2,[.i k2,.d (.val (.int .u64 a2)),.d (.val (.int .u64 b2)),.d (.val (.int .u64 c2)),.d (.val (.int .u64 d2)),.i mn2,.i mx2,.d (.sl (encL subs2) subs2.length)])],Frz.buts 100 [],100⟩) (Q:=retK [.tmp 2] (none : Option (List DV)).isSome (.b true) none none) (w_at ?_) hs fin
  unfold xp9
  repeat' (first|(apply r_mvV;rfl)|(apply r_ldL (v:=.agg [.i k,.d (.val (.int .u64 a)),.d (.val (.int .u64 b)),.d (.val (.int .u64 c)),.d (.val (.int .u64 d)),.i mn,.i mx,.d (.sl (encL subs) subs.length)]);rfl;rfl;rfl)|(apply r_ldL (v:=.agg [.i k2,.d (.val (.int .u64 a2)),.d (.val (.int .u64 b2)),.d (.val (.int .u64 c2)),.d (.val (.int .u64 d2)),.i mn2,.i mx2,.d (.sl (encL subs2) subs2.length)]);rfl;rfl;rfl)|(apply r_callA (f:=50) (ags:=[.agg [.i k,.d (.val (.int .u64 a)),.d (.val (.int .u64 b)),.d (.val (.int .u64 c)),.d (.val (.int .u64 d)),.i mn,.i mx,.d (.sl (encL subs) subs.length)]]);rfl;rfl;exact h50)|(apply r_callA (f:=50) (ags:=[.agg [.i k2,.d (.val (.int .u64 a2)),.d (.val (.int .u64 b2)),.d (.val (.int .u64 c2)),.d (.val (.int .u64 d2)),.i mn2,.i mx2,.d (.sl (encL subs2) subs2.length)]]);rfl;rfl;exact h50')|(apply r_eqX (r:=true);rfl;rfl;(rw [if_neg (by simp)];simp))|(apply r_callA (f:=62) (ags:=[.agg [.i k,.d (.val (.int .u64 a)),.d (.val (.int .u64 b)),.d (.val (.int .u64 c)),.d (.val (.int .u64 d)),.i mn,.i mx,.d (.sl (encL subs) subs.length)]]);rfl;rfl;exact h62)|(apply r_callA (f:=62) (ags:=[.agg [.i k2,.d (.val (.int .u64 a2)),.d (.val (.int .u64 b2)),.d (.val (.int .u64 c2)),.d (.val (.int .u64 d2)),.i mn2,.i mx2,.d (.sl (encL subs2) subs2.length)]]);rfl;rfl;exact h62')|(apply r_callA (f:=63) (ags:=[.agg [.i k,.d (.val (.int .u64 a)),.d (.val (.int .u64 b)),.d (.val (.int .u64 c)),.d (.val (.int .u64 d)),.i mn,.i mx,.d (.sl (encL subs) subs.length)]]);rfl;rfl;exact h63)|(apply r_callA (f:=63) (ags:=[.agg [.i k2,.d (.val (.int .u64 a2)),.d (.val (.int .u64 b2)),.d (.val (.int .u64 c2)),.d (.val (.int .u64 d2)),.i mn2,.i mx2,.d (.sl (encL subs2) subs2.length)]]);rfl;rfl;exact h63')|(apply r_eql;rfl;rfl;(first|(apply dT;omega)|(apply dF;omega)|rfl))|(apply r_pickT;rfl)|(apply r_gT;rfl)|(apply r_nilK)|(apply k_V;rfl)|(apply k_nil)|(apply e_ret (vs:=[.d (.val _)]);rfl)|(apply w_seq)|(apply w_ops;((conv=>lhs;simp only [Nat.reduceAdd])<;>rfl))|(apply e_thenN)|(apply w_ret))
  exact retB rfl
end Go.Sv
namespace Go.Sv
open Go Go.Proofs
def x51 : XC:=(.seq (.ops 2 [ (0,⟨some 1,none,.box (.t 0)⟩),(1,⟨some 2,none,.mv (.k (.d (.val (.bool false))))⟩)] (some [1])) (.seq (.seq (.ops 2 [ (0,⟨some 5,none,.fadd 0 (.t 1)⟩),(1,⟨some 6,none,.load none (.t 5)⟩)] (some [1,6])) (.block 0 (.seq (.ops 2 [ (0,⟨some 8,none,.arith .eql (.t 6) (.k (.d (.val (.int .i64 2))))⟩),(1,⟨some 7,none,.mv (.t 8)⟩)] (some [1,6,7])) (.cond (.t 7) (.seq (.ops 5 [ (0,⟨some 9,none,.fadd 1 (.t 1)⟩),(1,⟨some 10,none,.load (some 4) (.t 9)⟩),(2,⟨some 11,none,.build [(.int .u64 0),(.int .u64 0),(.int .u64 0),(.int .u64 0)] []⟩),(3,⟨some 12,none,.eqAgg 4 false (.t 10) (.t 11)⟩),(4,⟨some 2,none,.mv (.t 12)⟩)] (some [2])) .ret) (.seq (.ops 2 [ (0,⟨some 14,none,.arith .eql (.t 6) (.k (.d (.val (.int .i64 3))))⟩),(1,⟨some 13,none,.mv (.t 14)⟩)] (some [1,6,13])) (.cond (.t 13) (.seq (.ops 1 [ (0,⟨some 3,none,.mv (.k (.d (.val (.int .i64 0))))⟩)] (some [1,3])) (.block 1 (.loop (.seq (.seq (.ops 5 [ (0,⟨some 15,none,.mv (.t 3)⟩),(1,⟨some 16,none,.fadd 7 (.t 1)⟩),(2,⟨some 17,none,.load none (.t 16)⟩),(3,⟨some 18,none,.lenS (.t 17)⟩),(4,⟨some 19,none,.arith .lss (.t 15) (.t 18)⟩)] (some [1,3,19])) (.cond (.t 19) .skip (.exit 1))) (.seq (.block 2 (.seq (.ops 6 [ (0,⟨some 22,none,.fadd 7 (.t 1)⟩),(1,⟨some 23,none,.load none (.t 22)⟩),(2,⟨some 24,none,.mv (.t 3)⟩),(3,⟨some 25,none,.idxS 8 (.t 23) (.t 24)⟩),(4,⟨some 26,none,.load (some 8) (.t 25)⟩),(5,⟨some 27,none,.call 51 [(.t 26)] none false⟩)] (some [1,3,27])) (.cond (.t 27) (.seq (.ops 1 [ (0,⟨some 2,none,.mv (.k (.d (.val (.bool true))))⟩)] (some [2])) .ret) .skip))) (.ops 3 [ (0,⟨some 20,none,.mv (.t 3)⟩),(1,⟨some 21,none,.arith .add (.t 20) (.k (.d (.val (.int .i64 1))))⟩),(2,⟨some 3,none,.mv (.t 21)⟩)] (some [1,3]))))))) (.seq (.ops 2 [ (0,⟨some 29,none,.arith .eql (.t 6) (.k (.d (.val (.int .i64 4))))⟩),(1,⟨some 28,none,.mv (.t 29)⟩)] (some [1,6,28])) (.cond (.t 28) (.seq (.seq (.ops 1 [ (0,⟨some 4,none,.mv (.k (.d (.val (.int .i64 0))))⟩)] (some [1,4])) (.block 3 (.loop (.seq (.seq (.ops 5 [ (0,⟨some 30,none,.mv (.t 4)⟩),(1,⟨some 31,none,.fadd 7 (.t 1)⟩),(2,⟨some 32,none,.load none (.t 31)⟩),(3,⟨some 33,none,.lenS (.t 32)⟩),(4,⟨some 34,none,.arith .lss (.t 30) (.t 33)⟩)] (some [1,4,34])) (.cond (.t 34) .skip (.exit 3))) (.seq (.block 4 (.seq (.ops 7 [ (0,⟨some 37,none,.fadd 7 (.t 1)⟩),(1,⟨some 38,none,.load none (.t 37)⟩),(2,⟨some 39,none,.mv (.t 4)⟩),(3,⟨some 40,none,.idxS 8 (.t 38) (.t 39)⟩),(4,⟨some 41,none,.load (some 8) (.t 40)⟩),(5,⟨some 42,none,.call 51 [(.t 41)] none false⟩),(6,⟨some 43,none,.un .not (.t 42)⟩)] (some [1,4,43])) (.cond (.t 43) (.seq (.ops 1 [ (0,⟨some 2,none,.mv (.k (.d (.val (.bool false))))⟩)] (some [2])) .ret) .skip))) (.ops 3 [ (0,⟨some 35,none,.mv (.t 4)⟩),(1,⟨some 36,none,.arith .add (.t 35) (.k (.d (.val (.int .i64 1))))⟩),(2,⟨some 4,none,.mv (.t 36)⟩)] (some [1,4]))))))) (.seq (.ops 1 [ (0,⟨some 2,none,.mv (.k (.d (.val (.bool true))))⟩)] (some [2])) .ret)) (.seq (.ops 2 [ (0,⟨some 45,none,.arith .eql (.t 6) (.k (.d (.val (.int .i64 5))))⟩),(1,⟨some 44,none,.mv (.t 45)⟩)] (some [1,44])) (.cond (.t 44) (.seq (.ops 11 [ (0,⟨some 46,none,.fadd 5 (.t 1)⟩),(1,⟨some 47,none,.load none (.t 46)⟩),(2,⟨some 48,none,.arith .gtr (.t 47) (.k (.d (.val (.int .i64 0))))⟩),(3,⟨some 49,none,.mv (.t 48)⟩),(4,⟨some 50,(some (49,true)),.fadd 7 (.t 1)⟩),(5,⟨some 51,(some (49,true)),.load none (.t 50)⟩),(6,⟨some 52,(some (49,true)),.idxS 8 (.t 51) (.k (.d (.val (.int .i64 0))))⟩),(7,⟨some 53,(some (49,true)),.load (some 8) (.t 52)⟩),(8,⟨some 54,(some (49,true)),.call 51 [(.t 53)] none false⟩),(9,⟨some 55,none,.pick (.t 49) (.t 54) (.k (.d (.val (.bool false))))⟩),(10,⟨some 2,none,.mv (.t 55)⟩)] (some [2])) .ret) .skip)))))))))) (.seq (.ops 1 [ (0,⟨some 2,none,.mv (.k (.d (.val (.bool false))))⟩)] (some [2])) .ret)))
def md51 : FuncId→Option Nat × Bool
  | _=>(none,false)
def od51 : Nat→List (List Nat) × List Nat × Option (List Nat)
  | 0=>([],[],some [1])
  | 1=>([],[],some [1,6])
  | 2=>([],[],some [1,6,7])
  | 3=>([],[],some [2])
  | 4=>([],[],some [1,6,13])
  | 5=>([],[],some [1,3])
  | 6=>([],[],some [1,3,19])
  | 7=>([],[],some [1,3])
  | 8=>([],[],some [1,3,27])
  | 9=>([],[],some [2])
  | 10=>([],[],some [1,6,28])
  | 11=>([],[],some [1,4])
  | 12=>([],[],some [1,4,34])
  | 13=>([],[],some [1,4])
  | 14=>([],[],some [1,4,43])
  | 15=>([],[],some [2])
  | 16=>([],[],some [2])
  | 17=>([],[],some [1,44])
  | 18=>([],[],some [2])
  | 19=>([],[],some [2])
  | _=>([],[],none)
theorem b51 {ags : List AV} {row : Option (List DV)} {r : AV} {row' nw : Option (List DV)} (hal : ags.length≤56) (hrow : row'.isSome=true→row.isSome=true) (h : xwp Try.prog x51 (retK [.tmp 2] row.isSome r row' nw) (St.init ags row)) : Good Try.prog 51 ags row r row' nw :=
  good_of_body' (md:=md51) (od:=od51) Try.f51 (by kernel_rfl) (by kernel_rfl) (by kernel_rfl) (by kernel_rfl) (by kernel_rfl) hal hrow h

def x98 : XC:=(.seq (.ops 1 [ (0,⟨some 4,none,.mv (.k (.d (.val (.slice none 0 0))))⟩)] (some [0,1])) (.seq (.ops 4 [ (0,⟨some 8,none,.mv (.t 0)⟩),(1,⟨some 9,none,.lenS (.t 8)⟩),(2,⟨some 10,none,.mks [(.bool false)] 1 (.t 9) (.t 9)⟩),(3,⟨some 5,none,.mv (.t 10)⟩)] (some [0,1,5])) (.seq (.seq (.ops 1 [ (0,⟨some 6,none,.mv (.k (.d (.val (.int .i64 0))))⟩)] (some [0,1,5,6])) (.block 0 (.loop (.seq (.seq (.ops 4 [ (0,⟨some 11,none,.mv (.t 6)⟩),(1,⟨some 12,none,.mv (.t 0)⟩),(2,⟨some 13,none,.lenS (.t 12)⟩),(3,⟨some 14,none,.arith .lss (.t 11) (.t 13)⟩)] (some [0,1,5,6,14])) (.cond (.t 14) .skip (.exit 0))) (.seq (.block 1 (.seq (.ops 1 [ (0,⟨some 7,none,.mv (.k (.d (.val (.int .i64 0))))⟩)] (some [0,1,5,6,7])) (.block 2 (.loop (.seq (.seq (.ops 6 [ (0,⟨some 17,none,.mv (.t 6)⟩),(1,⟨some 18,none,.mv (.t 7)⟩),(2,⟨some 19,none,.arith .add (.t 17) (.t 18)⟩),(3,⟨some 20,none,.mv (.t 0)⟩),(4,⟨some 21,none,.lenS (.t 20)⟩),(5,⟨some 22,none,.arith .lss (.t 19) (.t 21)⟩)] (some [0,1,5,6,7,22])) (.cond (.t 22) .skip (.exit 2))) (.seq (.block 3 (.ops 24 [ (0,⟨some 25,none,.mv (.t 5)⟩),(1,⟨some 26,none,.mv (.t 6)⟩),(2,⟨some 27,none,.mv (.t 7)⟩),(3,⟨some 28,none,.arith .add (.t 26) (.t 27)⟩),(4,⟨some 29,none,.mv (.t 5)⟩),(5,⟨some 30,none,.mv (.t 6)⟩),(6,⟨some 31,none,.mv (.t 7)⟩),(7,⟨some 32,none,.arith .add (.t 30) (.t 31)⟩),(8,⟨some 33,none,.idxS 1 (.t 29) (.t 32)⟩),(9,⟨some 34,none,.load none (.t 33)⟩),(10,⟨some 35,none,.mv (.t 34)⟩),(11,⟨some 36,(some (35,false)),.mv (.t 0)⟩),(12,⟨some 37,(some (35,false)),.mv (.t 6)⟩),(13,⟨some 38,(some (35,false)),.idxS 1 (.t 36) (.t 37)⟩),(14,⟨some 39,(some (35,false)),.load none (.t 38)⟩),(15,⟨some 40,(some (35,false)),.mv (.t 39)⟩),(16,⟨some 41,(some (40,true)),.mv (.t 1)⟩),(17,⟨some 42,(some (40,true)),.mv (.t 7)⟩),(18,⟨some 43,(some (40,true)),.idxS 1 (.t 41) (.t 42)⟩),(19,⟨some 44,(some (40,true)),.load none (.t 43)⟩),(20,⟨some 45,(some (35,false)),.pick (.t 40) (.t 44) (.k (.d (.val (.bool false))))⟩),(21,⟨some 46,none,.pick (.t 35) (.k (.d (.val (.bool true)))) (.t 45)⟩),(22,⟨some 47,none,.idxS 1 (.t 25) (.t 28)⟩),(23,⟨none,none,.store 1 (.t 47) (.t 46)⟩)] (some [0,1,5,6,7]))) (.ops 3 [ (0,⟨some 23,none,.mv (.t 7)⟩),(1,⟨some 24,none,.arith .add (.t 23) (.k (.d (.val (.int .i64 1))))⟩),(2,⟨some 7,none,.mv (.t 24)⟩)] (some [0,1,5,6,7])))))))) (.ops 3 [ (0,⟨some 15,none,.mv (.t 6)⟩),(1,⟨some 16,none,.arith .add (.t 15) (.k (.d (.val (.int .i64 1))))⟩),(2,⟨some 6,none,.mv (.t 16)⟩)] (some [0,1,5,6]))))))) (.seq (.ops 2 [ (0,⟨some 48,none,.mv (.t 5)⟩),(1,⟨some 4,none,.mv (.t 48)⟩)] (some [4])) .ret))))
def md98 : FuncId→Option Nat × Bool
  | _=>(none,false)
def od98 : Nat→List (List Nat) × List Nat × Option (List Nat)
  | 0=>([],[],some [0,1])
  | 1=>([],[],some [0,1,5])
  | 2=>([],[],some [0,1,5,6])
  | 3=>([],[],some [0,1,5,6,14])
  | 4=>([],[],some [0,1,5,6])
  | 5=>([],[],some [0,1,5,6,7])
  | 6=>([],[],some [0,1,5,6,7,22])
  | 7=>([],[],some [0,1,5,6,7])
  | 8=>([],[],some [0,1,5,6,7])
  | 9=>([],[],some [4])
  | _=>([],[],none)
theorem b98 {ags : List AV} {row : Option (List DV)} {r : AV} {row' nw : Option (List DV)} (hal : ags.length≤49) (hrow : row'.isSome=true→row.isSome=true) (h : xwp Try.prog x98 (retK [.tmp 4] row.isSome r row' nw) (St.init ags row)) : Good Try.prog 98 ags row r row' nw :=
  good_of_body' (md:=md98) (od:=od98) Try.f98 (by kernel_rfl) (by kernel_rfl) (by kernel_rfl) (by kernel_rfl) (by kernel_rfl) hal hrow h

set_option maxRecDepth 100000
set_option maxHeartbeats 4000000
attribute [local irreducible] W E R KP thenK blockK retK Good xwp aRun
theorem none51_good : ∀ (n : Nat) (t : T),t.cnt≤n→n≤1000000→okT t→Good Try.prog 51 [nodeA t] none (.b (nnT t)) none none:=by
  intro n
  induction n with
  | zero=>intro t ht;have:=cnt_pos t;omega
  | succ n ih =>
  intro t ht hc hok
  obtain ⟨k,a,b,c,d,mn,mx,subs⟩:=t
  have hR:=okT_R hok
  have hoks:=okT_subs hok
  have hpl:=okT_plain hok
  have ih' : ∀ i (h : i < subs.length),Good Try.prog 51 [nodeA subs[i]] none (.b (nnT subs[i])) none none:=by
    intro i h
    refine ih _ ?_ (by omega) (okL_get subs i h hoks)
    have:=cntL_get subs i h
    simp only [T.cnt] at ht
    omega
  have hlen : subs.length≤1000000:=by
    have:=cntL_len subs
    simp only [T.cnt] at ht
    omega
  have e0 : nodeA (.node k a b c d mn mx subs)=.agg [.i k,.d (.val (.int .u64 a)),.d (.val (.int .u64 b)),.d (.val (.int .u64 c)),.d (.val (.int .u64 d)),.i mn,.i mx,.d (.sl (encL subs) subs.length)]:=rfl
  have hk5 : k=5→∃ u,subs=[u]:=fun h5=>by subst h5;exact plainT_5 hpl
  clear ih ht hok hoks hpl hR
  rw [e0,nnT]
  by_cases h2 : k=2
  · rw [if_pos h2]
    refine b51 (by simp) (by simp) (w_init ?_)
    unfold x51
    repeat' (first|(apply r_mvV;rfl)|(apply r_faddL;rfl)|(apply r_ldL (v:=.agg [.d (.val (.int .u64 a)),.d (.val (.int .u64 b)),.d (.val (.int .u64 c)),.d (.val (.int .u64 d))]);rfl;rfl;rfl)|(apply r_p (v:=.agg [.d (.val (.int .u64 0)),.d (.val (.int .u64 0)),.d (.val (.int .u64 0)),.d (.val (.int .u64 0))]);rfl)|(apply r_eqX (r:=isZero a b c d);rfl;rfl;rfl)|(apply r_ldL;rfl;rfl;rfl)|(apply r_eql;rfl;rfl;(first|(apply dT;omega)|(apply dF;omega)|rfl))|(apply r_box;((conv=>lhs;simp only [Nat.reduceAdd])<;>rfl);rfl;rfl;rfl)|(apply r_nilK)|(apply k_V;rfl)|(apply k_PL;rfl)|(apply k_nil)|(apply e_ret (vs:=[.d (.val _)]);rfl)|(apply w_seq)|(apply w_ops;((conv=>lhs;simp only [Nat.reduceAdd])<;>rfl))|(apply w_condT;rfl)|(apply e_thenN)|(apply w_block)|(apply e_thenR)|(apply e_blkR)|(apply w_ret))
    exact retB rfl
  rw [if_neg h2]
  by_cases h3 : k=3
  · rw [if_pos h3]
    refine b51 (by simp) (by simp) (w_init ?_)
    unfold x51
    repeat' (first|(apply r_mvV;rfl)|(apply r_faddL;rfl)|(apply r_ldL;rfl;rfl;rfl)|(apply r_eql;rfl;rfl;(first|(apply dT;omega)|(apply dF;omega)|rfl))|(apply r_box;((conv=>lhs;simp only [Nat.reduceAdd])<;>rfl);rfl;rfl;rfl)|(apply r_nilK)|(apply k_V;rfl)|(apply k_PL;rfl)|(apply k_nil)|(apply w_seq)|(apply w_ops;((conv=>lhs;simp only [Nat.reduceAdd])<;>rfl))|(apply w_condT;rfl)|(apply w_condF;rfl)|(apply e_thenN)|(apply w_block))
    apply w_loopI (S:=fun i : Nat=>⟨(Fr.nil.put 1 (.ptrL 1 0)).put 3 (.i i),Heap.nil.put 1 [.i k,.d (.val (.int .u64 a)),.d (.val (.int .u64 b)),.d (.val (.int .u64 c)),.d (.val (.int .u64 d)),.i mn,.i mx,.d (.sl (encL subs) subs.length)],Frz.lo 100,100⟩) (m:=fun i=>subs.length - i) (I:=fun i=>i≤subs.length∧nnAny subs=nnAny (subs.drop i)) (i0:=0)
    · exact ⟨Nat.zero_le _,rfl⟩
    · refine wkR (by omega) rfl rfl ?_
      repeat' (first|exact FWk.nil|(apply FWk.i;rfl;(first|rfl|omega|(simp;done)))|(apply FWk.ptr;rfl;rfl;rfl;omega;rfl))
    rintro i K ⟨hi,hp⟩ hK
    dsimp only
    rcases Nat.lt_or_ge i subs.length with hlt | hge
    · have hs:=NodeAt.sub hlt
      have hg:=ih' i hlt
      have hd:=nnAny_drop subs i hlt
      have hna : [nodeA subs[i]].all AV.nrm=true:=by rw [List.all_cons,nodeA_nrm];rfl
      rcases Bool.eq_false_or_eq_true (nnT subs[i]) with hq | hq
      · rw [hq] at hg hd
        repeat' (first|(apply r_mvV;rfl)|(apply r_faddL;rfl)|(apply r_l;apply ld_node';assumption;rfl)|(apply r_p;apply ix_sub;rfl;rfl;omega)|(apply r_callA (ags:=[nodeA subs[i]]);rfl;exact hna;exact hg)|(apply r_ldL;rfl;rfl;rfl)|(apply r_lss;rfl;rfl;(first|(apply dT;omega)|(apply dF;omega)|rfl))|(apply r_lenD;rfl)|(apply r_nilK)|(apply k_V;rfl)|(apply k_PL;rfl)|(apply k_nil)|(apply e_ret (vs:=[.d (.val _)]);rfl)|(apply w_seq)|(apply w_ops;((conv=>lhs;simp only [Nat.reduceAdd])<;>rfl))|(apply w_condT;rfl)|(apply e_thenN)|(apply w_block)|(apply e_thenR)|(apply e_blkR)|(apply w_ret)|(apply w_skip))
        exact retB (by rw [hp,hd];rfl)
      · rw [hq] at hg hd
        repeat' (first|(apply r_mvV;rfl)|(apply r_faddL;rfl)|(apply r_l;apply ld_node';assumption;rfl)|(apply r_p;apply ix_sub;rfl;rfl;omega)|(apply r_callA (ags:=[nodeA subs[i]]);rfl;exact hna;exact hg)|(apply r_ldL;rfl;rfl;rfl)|(apply r_lss;rfl;rfl;(first|(apply dT;omega)|(apply dF;omega)|rfl))|(apply r_add;rfl;rfl;rfl;omega)|(apply r_lenD;rfl)|(apply r_nilK)|(apply k_V;rfl)|(apply k_PL;rfl)|(apply k_nil)|(apply w_seq)|(apply w_ops;((conv=>lhs;simp only [Nat.reduceAdd])<;>rfl))|(apply w_condT;rfl)|(apply w_condF;rfl)|(apply e_thenN)|(apply w_block)|(apply e_blkN)|(apply w_skip))
        apply e_thenK
        apply hK (i + 1)
        · exact ⟨by omega,by rw [hp,hd,Bool.false_or]⟩
        · omega
        · refine wkR (by omega) rfl rfl ?_
          repeat' (first|exact FWk.nil|(apply FWk.i;rfl;(first|rfl|omega|(simp;done)))|(apply FWk.ptr;rfl;rfl;rfl;omega;rfl))
    · have e : nnAny subs=false:=by rw [hp,List.drop_of_length_le hge,nnAny]
      repeat' (first|(apply r_mvV;rfl)|(apply r_faddL;rfl)|(apply r_ldL;rfl;rfl;rfl)|(apply r_lss;rfl;rfl;(first|(apply dT;omega)|(apply dF;omega)|rfl))|(apply r_lenD;rfl)|(apply r_nilK)|(apply k_V;rfl)|(apply k_PL;rfl)|(apply k_nil)|(apply e_ret (vs:=[.d (.val _)]);rfl)|(apply w_seq)|(apply w_ops;((conv=>lhs;simp only [Nat.reduceAdd])<;>rfl))|(apply w_condF;rfl)|(apply e_thenN)|(apply e_thenX)|(apply e_blkN)|(apply e_blkE)|(apply w_exit)|(apply w_ret))
      exact retB e.symm
  rw [if_neg h3]
  by_cases h4 : k=4
  · rw [if_pos h4]
    refine b51 (by simp) (by simp) (w_init ?_)
    unfold x51
    repeat' (first|(apply r_mvV;rfl)|(apply r_faddL;rfl)|(apply r_ldL;rfl;rfl;rfl)|(apply r_eql;rfl;rfl;(first|(apply dT;omega)|(apply dF;omega)|rfl))|(apply r_box;((conv=>lhs;simp only [Nat.reduceAdd])<;>rfl);rfl;rfl;rfl)|(apply r_nilK)|(apply k_V;rfl)|(apply k_PL;rfl)|(apply k_nil)|(apply w_seq)|(apply w_ops;((conv=>lhs;simp only [Nat.reduceAdd])<;>rfl))|(apply w_condT;rfl)|(apply w_condF;rfl)|(apply e_thenN)|(apply w_block))
    apply w_loopI (S:=fun i : Nat=>⟨(Fr.nil.put 1 (.ptrL 1 0)).put 4 (.i i),Heap.nil.put 1 [.i k,.d (.val (.int .u64 a)),.d (.val (.int .u64 b)),.d (.val (.int .u64 c)),.d (.val (.int .u64 d)),.i mn,.i mx,.d (.sl (encL subs) subs.length)],Frz.lo 100,100⟩) (m:=fun i=>subs.length - i) (I:=fun i=>i≤subs.length∧nnAll subs=nnAll (subs.drop i)) (i0:=0)
    · exact ⟨Nat.zero_le _,rfl⟩
    · refine wkR (by omega) rfl rfl ?_
      repeat' (first|exact FWk.nil|(apply FWk.i;rfl;(first|rfl|omega|(simp;done)))|(apply FWk.ptr;rfl;rfl;rfl;omega;rfl))
    rintro i K ⟨hi,hp⟩ hK
    dsimp only
    rcases Nat.lt_or_ge i subs.length with hlt | hge
    · have hs:=NodeAt.sub hlt
      have hg:=ih' i hlt
      have hd:=nnAll_drop subs i hlt
      have hna : [nodeA subs[i]].all AV.nrm=true:=by rw [List.all_cons,nodeA_nrm];rfl
      rcases Bool.eq_false_or_eq_true (nnT subs[i]) with hq | hq
      · rw [hq] at hg hd
        repeat' (first|(apply r_mvV;rfl)|(apply r_faddL;rfl)|(apply r_l;apply ld_node';assumption;rfl)|(apply r_p;apply ix_sub;rfl;rfl;omega)|(apply r_callA (ags:=[nodeA subs[i]]);rfl;exact hna;exact hg)|(apply r_ldL;rfl;rfl;rfl)|(apply r_lss;rfl;rfl;(first|(apply dT;omega)|(apply dF;omega)|rfl))|(apply r_add;rfl;rfl;rfl;omega)|(apply r_not;rfl;rfl)|(apply r_lenD;rfl)|(apply r_nilK)|(apply k_V;rfl)|(apply k_PL;rfl)|(apply k_nil)|(apply w_seq)|(apply w_ops;((conv=>lhs;simp only [Nat.reduceAdd])<;>rfl))|(apply w_condT;rfl)|(apply w_condF;rfl)|(apply e_thenN)|(apply w_block)|(apply e_blkN)|(apply w_skip))
        apply e_thenK
        apply hK (i + 1)
        · exact ⟨by omega,by rw [hp,hd,Bool.true_and]⟩
        · omega
        · refine wkR (by omega) rfl rfl ?_
          repeat' (first|exact FWk.nil|(apply FWk.i;rfl;(first|rfl|omega|(simp;done)))|(apply FWk.ptr;rfl;rfl;rfl;omega;rfl))
      · rw [hq] at hg hd
        repeat' (first|(apply r_mvV;rfl)|(apply r_faddL;rfl)|(apply r_l;apply ld_node';assumption;rfl)|(apply r_p;apply ix_sub;rfl;rfl;omega)|(apply r_callA (ags:=[nodeA subs[i]]);rfl;exact hna;exact hg)|(apply r_ldL;rfl;rfl;rfl)|(apply r_lss;rfl;rfl;(first|(apply dT;omega)|(apply dF;omega)|rfl))|(apply r_not;rfl;rfl)|(apply r_lenD;rfl)|(apply r_nilK)|(apply k_V;rfl)|(apply k_PL;rfl)|(apply k_nil)|(apply e_ret (vs:=[.d (.val _)]);rfl)|(apply w_seq)|(apply w_ops;((conv=>lhs;simp only [Nat.reduceAdd])<;>rfl))|(apply w_condT;rfl)|(apply e_thenN)|(apply w_block)|(apply e_thenR)|(apply e_blkR)|(apply w_ret)|(apply w_skip))
        exact retB (by rw [hp,hd];rfl)
    · have e : nnAll subs=true:=by rw [hp,List.drop_of_length_le hge,nnAll]
      repeat' (first|(apply r_mvV;rfl)|(apply r_faddL;rfl)|(apply r_ldL;rfl;rfl;rfl)|(apply r_lss;rfl;rfl;(first|(apply dT;omega)|(apply dF;omega)|rfl))|(apply r_lenD;rfl)|(apply r_nilK)|(apply k_V;rfl)|(apply k_PL;rfl)|(apply k_nil)|(apply e_ret (vs:=[.d (.val _)]);rfl)|(apply w_seq)|(apply w_ops;((conv=>lhs;simp only [Nat.reduceAdd])<;>rfl))|(apply w_condF;rfl)|(apply e_thenN)|(apply e_thenR)|(apply e_thenX)|(apply e_blkR)|(apply e_blkE)|(apply w_exit)|(apply w_ret))
      exact retB e.symm
  rw [if_neg h4]
  by_cases h5 : k=5
  · rw [if_pos h5]
    obtain ⟨u,hu⟩:=hk5 h5
    have hl1 : 0 < subs.length:=by rw [hu];simp
    have hg:=ih' 0 hl1
    have hs:=NodeAt.sub hl1
    have hu0 : subs[0]=u:=by simp [hu]
    rw [hu0] at hg hs
    have en : nnFst subs=nnT u:=by rw [hu,nnFst]
    rw [en]
    have hna : [nodeA u].all AV.nrm=true:=by rw [List.all_cons,nodeA_nrm];rfl
    clear hu0 en hu hk5 ih'
    generalize nnT u=q at hg
    by_cases hm : 0 < mn
    · rw [decide_eq_true hm,Bool.true_and]
      refine b51 (by simp) (by simp) (w_init ?_)
      unfold x51
      repeat' (first|(apply r_mvV;rfl)|(apply r_faddL;rfl)|(apply r_l;apply ld_node';assumption;rfl)|(apply r_p (v:=.d (.ptr (encL subs) 0));exact ix_sub0 rfl rfl hl1)|(apply r_callA (ags:=[nodeA u]);rfl;exact hna;exact hg)|(apply r_ldL;rfl;rfl;rfl)|(apply r_eql;rfl;rfl;(first|(apply dT;omega)|(apply dF;omega)|rfl))|(apply r_gtr;rfl;rfl;(first|(apply dT;omega)|(apply dF;omega)|rfl))|(apply r_pickT;rfl)|(apply r_gT;rfl)|(apply r_box;((conv=>lhs;simp only [Nat.reduceAdd])<;>rfl);rfl;rfl;rfl)|(apply r_nilK)|(apply k_V;rfl)|(apply k_PL;rfl)|(apply k_nil)|(apply e_ret (vs:=[.d (.val _)]);rfl)|(apply w_seq)|(apply w_ops;((conv=>lhs;simp only [Nat.reduceAdd])<;>rfl))|(apply w_condT;rfl)|(apply w_condF;rfl)|(apply e_thenN)|(apply w_block)|(apply e_thenR)|(apply e_blkR)|(apply w_ret))
      exact retB rfl
    · rw [decide_eq_false hm,Bool.false_and]
      refine b51 (by simp) (by simp) (w_init ?_)
      unfold x51
      repeat' (first|(apply r_mvV;rfl)|(apply r_faddL;rfl)|(apply r_ldL;rfl;rfl;rfl)|(apply r_eql;rfl;rfl;(first|(apply dT;omega)|(apply dF;omega)|rfl))|(apply r_gtr;rfl;rfl;(first|(apply dT;omega)|(apply dF;omega)|rfl))|(apply r_pickF;rfl)|(apply r_gF';rfl;rfl)|(apply r_box;((conv=>lhs;simp only [Nat.reduceAdd])<;>rfl);rfl;rfl;rfl)|(apply r_nilK)|(apply k_V;rfl)|(apply k_PL;rfl)|(apply k_nil)|(apply e_ret (vs:=[.d (.val _)]);rfl)|(apply w_seq)|(apply w_ops;((conv=>lhs;simp only [Nat.reduceAdd])<;>rfl))|(apply w_condT;rfl)|(apply w_condF;rfl)|(apply e_thenN)|(apply w_block)|(apply e_thenR)|(apply e_blkR)|(apply w_ret))
      exact retB rfl
  · rw [if_neg h5]
    refine b51 (by simp) (by simp) (w_init ?_)
    unfold x51
    repeat' (first|(apply r_mvV;rfl)|(apply r_faddL;rfl)|(apply r_ldL;rfl;rfl;rfl)|(apply r_eql;rfl;rfl;(first|(apply dT;omega)|(apply dF;omega)|rfl))|(apply r_box;((conv=>lhs;simp only [Nat.reduceAdd])<;>rfl);rfl;rfl;rfl)|(apply r_nilK)|(apply k_V;rfl)|(apply k_PL;rfl)|(apply k_nil)|(apply e_ret (vs:=[.d (.val _)]);rfl)|(apply w_seq)|(apply w_ops;((conv=>lhs;simp only [Nat.reduceAdd])<;>rfl))|(apply w_condF;rfl)|(apply e_thenN)|(apply w_block)|(apply e_blkN)|(apply w_ret)|(apply w_skip))
    exact retB rfl
def Joined (a b p : List Bool) (D : Nat→Nat→Prop) : Prop:=p.length=a.length∧∀ n,n < a.length→(At p n↔∃ i k,D i k∧i + k=n∧At a i∧At b k)
theorem join98_good (a b : List Bool) {m : Nat} (ha : a.length=m) (hb : b.length=m) (hm : m≤1000000) : Good Try.prog 98 [.d (.sl (encB a) m),.d (.sl (encB b) m)] none (.d (.sl (encB (joinB a b)) m)) none none:=by
  refine b98 (by simp) (by simp) (w_init ?_)
  unfold x98
  repeat' (first|(apply r_mvV;rfl)|(apply r_mvS;rfl)|(apply r_mvSL;rfl)|(apply r_mksB (m:=m);rfl;rfl;rfl;rfl;omega)|(apply r_lenD;rfl)|(apply r_nilK)|(apply k_V;rfl)|(apply k_S;rfl)|(apply k_SL;rfl)|(apply k_nil)|(apply w_seq)|(apply w_ops;((conv=>lhs;simp only [Nat.reduceAdd])<;>rfl))|(apply e_thenN)|(apply w_block))
  apply w_loopI (ι:=Nat × List Bool) (S:=fun q=>⟨(((Fr.nil.put 0 (.d (.sl (encB a) m))).put 1 (.d (.sl (encB b) m))).put 5 (.slL 50 0 m 1)).put 6 (.i q.1),rowsOf [(50,(encB q.2).map AV.d)],Frz.buts 100 [50],100⟩) (m:=fun q=>m - q.1) (I:=fun q=>q.1≤m∧Joined a b q.2 (fun i k=>i < q.1)) (i0:=(0,List.replicate m false))
  · refine ⟨Nat.zero_le _,by simp [ha],fun n hn=>⟨fun h=>absurd h (at_rep _ _),?_⟩⟩
    rintro ⟨i,k,h,_⟩
    dsimp only at h
    omega
  · dsimp only
    refine wkM [(50,4)] [] rfl ?_ ?_ rfl ?_
    · intro p hp
      simp only [List.mem_cons,List.not_mem_nil,or_false] at hp
      rcases hp with rfl
      exact ⟨by omega,.inr ⟨rfl,_,rfl,.data encB_isD⟩⟩
    · intro q hq;simp only [List.mem_cons,List.not_mem_nil,or_false] at hq;rcases hq with rfl<;>rfl
    · repeat' (first|exact FWk.nil|(apply FWk.i;rfl;(first|rfl|omega|(simp;done)))|(apply FWk.sl;rfl;rfl;rfl;rfl;omega;rfl)|(apply FWk.d;rfl;rfl))
  rintro ⟨i,p⟩ K ⟨hi,hj⟩ hK
  dsimp only at hi hj hK ⊢
  rcases Nat.lt_or_ge i m with hlt | hge
  · repeat' (first|(apply r_mvV;rfl)|(apply r_mvS;rfl)|(apply r_lss;rfl;rfl;(first|(apply dT;omega)|(apply dF;omega)|rfl))|(apply r_lenD;rfl)|(apply r_nilK)|(apply k_V;rfl)|(apply k_S;rfl)|(apply k_SL;rfl)|(apply k_nil)|(apply w_seq)|(apply w_ops;((conv=>lhs;simp only [Nat.reduceAdd])<;>rfl))|(apply w_condT;rfl)|(apply e_thenN)|(apply w_block)|(apply w_skip))
    apply w_loopI (ι:=Nat × List Bool) (S:=fun q=>⟨((((Fr.nil.put 0 (.d (.sl (encB a) m))).put 1 (.d (.sl (encB b) m))).put 5 (.slL 50 0 m 1)).put 6 (.i i)).put 7 (.i q.1),rowsOf [(50,(encB q.2).map AV.d)],Frz.buts 200 [50],200⟩) (m:=fun q=>m - q.1) (I:=fun q=>i + q.1≤m∧Joined a b q.2 (fun i' k'=>i' < i ∨ (i'=i∧k' < q.1))) (i0:=(0,p))
    · refine ⟨by dsimp only;omega,hj.1,fun n hn=>?_⟩
      rw [hj.2 n hn]
      dsimp only
      constructor
      · rintro ⟨i',k',h1,h2⟩;exact ⟨i',k',.inl h1,h2⟩
      · rintro ⟨i',k',h1 | h1,h2⟩
        · exact ⟨i',k',h1,h2⟩
        · omega
    · refine wkM [] [] rfl ?_ ?_ rfl ?_
      · intro p hp
        simp only [List.mem_cons,List.not_mem_nil,or_false] at hp
        rcases hp with rfl
        exact ⟨by omega,.inr ⟨rfl,_,rfl,.data encB_isD⟩⟩
      · intro q hq;simp only [List.mem_cons,List.not_mem_nil,or_false] at hq;rcases hq with rfl<;>rfl
      · dsimp only
        repeat' (first|exact FWk.nil|(apply FWk.i;rfl;(first|rfl|omega|(simp;done)))|(apply FWk.sl;rfl;rfl;rfl;rfl;omega;rfl)|(apply FWk.d;rfl;rfl))
    rintro ⟨k,p2⟩ K2 ⟨hik,hj2⟩ hK2
    dsimp only at hik hj2 hK2 ⊢
    rcases Nat.lt_or_ge (i + k) m with hlk | hgk
    · have hpl : p2.length=m:=hj2.1.trans ha
      have hgp : p2[i + k]?=some (p2.getD (i + k) false):=by rw [List.getD_eq_getElem?_getD,List.getElem?_eq_getElem (by omega)];rfl
      have hga : a[i]?=some (a.getD i false):=by rw [List.getD_eq_getElem?_getD,List.getElem?_eq_getElem (by omega)];rfl
      have hgb : b[k]?=some (b.getD k false):=by rw [List.getD_eq_getElem?_getD,List.getElem?_eq_getElem (by omega)];rfl
      have fin : ∀ v fr C Z nx,v=(p2.getD (i + k) false || a.getD i false && b.getD k false)→Wk ⟨fr,C,Z,nx⟩ ⟨((((Fr.nil.put 0 (.d (.sl (encB a) m))).put 1 (.d (.sl (encB b) m))).put 5 (.slL 50 0 m 1)).put 6 (.i i)).put 7 (.i ((k + 1 : Nat) : Int)),rowsOf [(50,(encB (p2.set (i + k) v)).map AV.d)],Frz.buts 200 [50],200⟩→K2 ⟨fr,C,Z,nx⟩:=by
        intro v fr C Z nx hv hw
        refine hK2 (k + 1,p2.set (i + k) v) fr C Z nx ⟨by dsimp only;omega,by dsimp only;rw [List.length_set];exact hj2.1,fun n hn=>?_⟩ (by dsimp only;omega) hw
        dsimp only
        rw [at_set n (by omega),hj2.2 n hn]
        have hv2 : v=true↔(At p2 (i + k) ∨ (At a i∧At b k)):=by
          rw [hv];simp [At]
        rw [hv2]
        constructor
        · rintro (⟨rfl,h | ⟨h1,h2⟩⟩ | ⟨hne,i',k',h1,h2,h3⟩)
          · rw [hj2.2 _ hn] at h
            obtain ⟨i',k',h1,h2⟩:=h
            exact ⟨i',k',by omega,h2⟩
          · exact ⟨i,k,.inr ⟨rfl,by omega⟩,rfl,h1,h2⟩
          · exact ⟨i',k',by omega,h2,h3⟩
        · rintro ⟨i',k',h1,h2,h3,h4⟩
          by_cases hn2 : n=i + k
          · left
            refine ⟨hn2,?_⟩
            by_cases he : i'=i
            · subst he
              have : k'=k:=by omega
              subst this
              exact .inr ⟨h3,h4⟩
            · left
              rw [hj2.2 _ (by omega)]
              exact ⟨i',k',by omega,by omega,h3,h4⟩
          · exact .inr ⟨hn2,i',k',by omega,h2,h3,h4⟩
      generalize hv1 : p2.getD (i + k) false=v1 at hgp fin
      generalize a.getD i false=v2 at hga fin
      generalize b.getD k false=v3 at hgb fin
      cases v1<;>cases v2
      all_goals
        repeat' (first|(apply r_mvV;rfl)|(apply r_mvS;rfl)|(apply r_mvSL;rfl)|(apply r_ixL (j:=i + k);rfl;((conv=>lhs;simp only [Nat.reduceAdd])<;>rfl);omega)|(apply r_ldBL (j:=i + k);rfl;rfl;exact hgp)|(apply r_ixB' (j:=i);rfl;rfl;exact hlt;exact ha)|(apply r_ldB (j:=i);rfl;exact hga)|(apply r_ixB' (j:=k);rfl;rfl;omega;exact hb)|(apply r_ldB (j:=k);rfl;exact hgb)|(apply r_stB (j:=i + k);rfl;rfl;rfl;rfl;omega)|(apply r_lss;rfl;rfl;(first|(apply dT;omega)|(apply dF;omega)|rfl))|(apply r_add;rfl;rfl;rfl;omega)|(apply r_pickT;rfl)|(apply r_pickF;rfl)|(apply r_lenD;rfl)|(apply r_gT;rfl)|(apply r_gF';rfl;rfl)|(apply r_gN';rfl)|(apply r_nilK)|(apply k_V;rfl)|(apply k_S;rfl)|(apply k_SL;rfl)|(apply k_nil)|(apply w_seq)|(apply w_ops;((conv=>lhs;simp only [Nat.reduceAdd])<;>rfl))|(apply w_condT;rfl)|(apply e_thenN)|(apply w_block)|(apply e_blkN)|(apply w_skip))
        apply e_thenK
        refine fin _ _ _ _ _ (by first | rfl | simp) ?_
        refine wkM [] [] rfl ?_ ?_ rfl ?_
        · intro p hp
          simp only [List.mem_cons,List.not_mem_nil,or_false] at hp
          rcases hp with rfl
          exact ⟨by omega,.inr ⟨rfl,_,rfl,.data encB_isD⟩⟩
        · intro q hq;simp only [List.mem_cons,List.not_mem_nil,or_false] at hq;rcases hq with rfl<;>rfl
        · repeat' (first|exact FWk.nil|(apply FWk.i;rfl;(first|rfl|omega|(simp;done)))|(apply FWk.sl;rfl;rfl;rfl;rfl;omega;rfl)|(apply FWk.d;rfl;rfl))
    · repeat' (first|(apply r_mvV;rfl)|(apply r_mvS;rfl)|(apply r_lss;rfl;rfl;(first|(apply dT;omega)|(apply dF;omega)|rfl))|(apply r_add;rfl;rfl;rfl;omega)|(apply r_lenD;rfl)|(apply r_nilK)|(apply k_V;rfl)|(apply k_S;rfl)|(apply k_SL;rfl)|(apply k_nil)|(apply w_seq)|(apply w_ops;((conv=>lhs;simp only [Nat.reduceAdd])<;>rfl))|(apply w_condF;rfl)|(apply e_thenN)|(apply e_thenX)|(apply e_blkN)|(apply e_blkE)|(apply w_exit))
      apply e_thenK
      apply hK (i + 1,p2)
      · refine ⟨by dsimp only;omega,hj2.1,fun n hn=>?_⟩
        rw [hj2.2 n hn]
        dsimp only
        constructor
        · rintro ⟨i',k',h1,h2,h3,h4⟩;exact ⟨i',k',by omega,h2,h3,h4⟩
        · rintro ⟨i',k',h1,h2,h3,h4⟩
          have:=h4.lt
          exact ⟨i',k',by omega,h2,h3,h4⟩
      · dsimp only;omega
      · refine wkM [] [] rfl ?_ ?_ rfl ?_
        · intro p hp
          simp only [List.mem_cons,List.not_mem_nil,or_false] at hp
          rcases hp with rfl
          exact ⟨by omega,.inr ⟨rfl,_,rfl,.data encB_isD⟩⟩
        · intro q hq;simp only [List.mem_cons,List.not_mem_nil,or_false] at hq;rcases hq with rfl<;>rfl
        · repeat' (first|exact FWk.nil|(apply FWk.i;rfl;(first|rfl|omega|(simp;done)))|(apply FWk.sl;rfl;rfl;rfl;rfl;omega;rfl)|(apply FWk.d;rfl;rfl))
  · have e : p=joinB a b:=by
      refine joinB_eq hj.1 fun n hn=>?_
      rw [hj.2 n hn]
      constructor
      · rintro ⟨i',k',h1,rfl,h3,h4⟩;exact ⟨i',by omega,h3,by rw [Nat.add_sub_cancel_left];exact h4⟩
      · rintro ⟨i',h1,h3,h4⟩
        have:=h3.lt
        exact ⟨i',n - i',by omega,by omega,h3,h4⟩
    repeat' (first|(apply r_mvV;rfl)|(apply r_mvS;rfl)|(apply r_mvSL;rfl)|(apply r_lss;rfl;rfl;(first|(apply dT;omega)|(apply dF;omega)|rfl))|(apply r_lenD;rfl)|(apply r_nilK)|(apply k_V;rfl)|(apply k_S;rfl)|(apply k_SL;rfl)|(apply k_nil)|(apply e_ret;rfl)|(apply w_seq)|(apply w_ops;((conv=>lhs;simp only [Nat.reduceAdd])<;>rfl))|(apply w_condF;rfl)|(apply e_thenN)|(apply e_thenX)|(apply e_blkE)|(apply w_exit)|(apply w_ret))
    rcases Nat.eq_zero_or_pos m with h0 | h0
    · subst h0
      have hpe : p=[]:=List.length_eq_zero_iff.1 (hj.1.trans ha)
      rw [← e,hpe]
      exact .data _ rfl
    · rw [← e]
      exact retSB rfl (hj.1.trans ha)
end Go.Sv
namespace Go.Sv
open Go Go.Proofs
def x49 : XC:=(.seq (.ops 2 [ (0,⟨some 2,none,.box (.t 0)⟩),(1,⟨some 4,none,.mv (.k (.d (.val (.slice none 0 0))))⟩)] (some [1,2])) (.seq (.ops 4 [ (0,⟨some 15,none,.mv (.t 1)⟩),(1,⟨some 16,none,.arith .add (.t 15) (.k (.d (.val (.int .i64 1))))⟩),(2,⟨some 17,none,.mks [(.bool false)] 1 (.t 16) (.t 16)⟩),(3,⟨some 5,none,.mv (.t 17)⟩)] (some [1,2,5])) (.seq (.seq (.ops 2 [ (0,⟨some 18,none,.fadd 0 (.t 2)⟩),(1,⟨some 19,none,.load none (.t 18)⟩)] (some [1,2,5,19])) (.block 0 (.seq (.ops 2 [ (0,⟨some 21,none,.arith .eql (.t 19) (.k (.d (.val (.int .i64 1))))⟩),(1,⟨some 20,none,.mv (.t 21)⟩)] (some [1,2,5,19,20])) (.cond (.t 20) (.ops 3 [ (0,⟨some 22,none,.mv (.t 5)⟩),(1,⟨some 23,none,.idxS 1 (.t 22) (.k (.d (.val (.int .i64 0))))⟩),(2,⟨none,none,.store 1 (.t 23) (.k (.d (.val (.bool true))))⟩)] (some [5])) (.seq (.ops 2 [ (0,⟨some 25,none,.arith .eql (.t 19) (.k (.d (.val (.int .i64 2))))⟩),(1,⟨some 24,none,.mv (.t 25)⟩)] (some [1,2,5,19,24])) (.cond (.t 24) (.seq (.ops 2 [ (0,⟨some 26,none,.mv (.t 1)⟩),(1,⟨some 27,none,.arith .geq (.t 26) (.k (.d (.val (.int .i64 1))))⟩)] (some [2,5,27])) (.cond (.t 27) (.ops 7 [ (0,⟨some 28,none,.mv (.t 5)⟩),(1,⟨some 29,none,.fadd 1 (.t 2)⟩),(2,⟨some 30,none,.load (some 4) (.t 29)⟩),(3,⟨some 31,none,.build [(.int .u64 0),(.int .u64 0),(.int .u64 0),(.int .u64 0)] []⟩),(4,⟨some 32,none,.eqAgg 4 true (.t 30) (.t 31)⟩),(5,⟨some 33,none,.idxS 1 (.t 28) (.k (.d (.val (.int .i64 1))))⟩),(6,⟨none,none,.store 1 (.t 33) (.t 32)⟩)] (some [5])) .skip)) (.seq (.ops 2 [ (0,⟨some 35,none,.arith .eql (.t 19) (.k (.d (.val (.int .i64 3))))⟩),(1,⟨some 34,none,.mv (.t 35)⟩)] (some [1,2,5,19,34])) (.cond (.t 34) (.seq (.ops 3 [ (0,⟨some 36,none,.mv (.t 5)⟩),(1,⟨some 37,none,.idxS 1 (.t 36) (.k (.d (.val (.int .i64 0))))⟩),(2,⟨none,none,.store 1 (.t 37) (.k (.d (.val (.bool true))))⟩)] (some [1,2,5])) (.seq (.ops 1 [ (0,⟨some 6,none,.mv (.k (.d (.val (.int .i64 0))))⟩)] (some [1,2,5,6])) (.block 1 (.loop (.seq (.seq (.ops 5 [ (0,⟨some 38,none,.mv (.t 6)⟩),(1,⟨some 39,none,.fadd 7 (.t 2)⟩),(2,⟨some 40,none,.load none (.t 39)⟩),(3,⟨some 41,none,.lenS (.t 40)⟩),(4,⟨some 42,none,.arith .lss (.t 38) (.t 41)⟩)] (some [1,2,5,6,42])) (.cond (.t 42) .skip (.exit 1))) (.seq (.block 2 (.ops 10 [ (0,⟨some 45,none,.mv (.t 5)⟩),(1,⟨some 46,none,.fadd 7 (.t 2)⟩),(2,⟨some 47,none,.load none (.t 46)⟩),(3,⟨some 48,none,.mv (.t 6)⟩),(4,⟨some 49,none,.idxS 8 (.t 47) (.t 48)⟩),(5,⟨some 50,none,.load (some 8) (.t 49)⟩),(6,⟨some 51,none,.mv (.t 1)⟩),(7,⟨some 52,none,.call 49 [(.t 50),(.t 51)] none false⟩),(8,⟨some 53,none,.call 98 [(.t 45),(.t 52)] none false⟩),(9,⟨some 5,none,.mv (.t 53)⟩)] (some [1,2,5,6]))) (.ops 3 [ (0,⟨some 43,none,.mv (.t 6)⟩),(1,⟨some 44,none,.arith .add (.t 43) (.k (.d (.val (.int .i64 1))))⟩),(2,⟨some 6,none,.mv (.t 44)⟩)] (some [1,2,5,6])))))))) (.seq (.ops 2 [ (0,⟨some 55,none,.arith .eql (.t 19) (.k (.d (.val (.int .i64 4))))⟩),(1,⟨some 54,none,.mv (.t 55)⟩)] (some [1,2,5,19,54])) (.cond (.t 54) (.seq (.ops 1 [ (0,⟨some 7,none,.mv (.k (.d (.val (.int .i64 0))))⟩)] (some [1,2,5,7])) (.block 3 (.loop (.seq (.seq (.ops 5 [ (0,⟨some 56,none,.mv (.t 7)⟩),(1,⟨some 57,none,.fadd 7 (.t 2)⟩),(2,⟨some 58,none,.load none (.t 57)⟩),(3,⟨some 59,none,.lenS (.t 58)⟩),(4,⟨some 60,none,.arith .lss (.t 56) (.t 59)⟩)] (some [1,2,5,7,60])) (.cond (.t 60) .skip (.exit 3))) (.seq (.block 4 (.seq (.ops 8 [ (0,⟨some 63,none,.fadd 7 (.t 2)⟩),(1,⟨some 64,none,.load none (.t 63)⟩),(2,⟨some 65,none,.mv (.t 7)⟩),(3,⟨some 66,none,.idxS 8 (.t 64) (.t 65)⟩),(4,⟨some 67,none,.load (some 8) (.t 66)⟩),(5,⟨some 68,none,.mv (.t 1)⟩),(6,⟨some 69,none,.call 49 [(.t 67),(.t 68)] none false⟩),(7,⟨some 8,none,.mv (.t 69)⟩)] (some [1,2,5,7,8])) (.seq (.ops 1 [ (0,⟨some 9,none,.mv (.k (.d (.val (.int .i64 0))))⟩)] (some [1,2,5,7,8,9])) (.block 5 (.loop (.seq (.seq (.ops 3 [ (0,⟨some 70,none,.mv (.t 9)⟩),(1,⟨some 71,none,.mv (.t 1)⟩),(2,⟨some 72,none,.arith .leq (.t 70) (.t 71)⟩)] (some [1,2,5,7,8,9,72])) (.cond (.t 72) .skip (.exit 5))) (.seq (.block 6 (.ops 14 [ (0,⟨some 75,none,.mv (.t 5)⟩),(1,⟨some 76,none,.mv (.t 9)⟩),(2,⟨some 77,none,.mv (.t 5)⟩),(3,⟨some 78,none,.mv (.t 9)⟩),(4,⟨some 79,none,.idxS 1 (.t 77) (.t 78)⟩),(5,⟨some 80,none,.load none (.t 79)⟩),(6,⟨some 81,none,.mv (.t 80)⟩),(7,⟨some 82,(some (81,false)),.mv (.t 8)⟩),(8,⟨some 83,(some (81,false)),.mv (.t 9)⟩),(9,⟨some 84,(some (81,false)),.idxS 1 (.t 82) (.t 83)⟩),(10,⟨some 85,(some (81,false)),.load none (.t 84)⟩),(11,⟨some 86,none,.pick (.t 81) (.k (.d (.val (.bool true)))) (.t 85)⟩),(12,⟨some 87,none,.idxS 1 (.t 75) (.t 76)⟩),(13,⟨none,none,.store 1 (.t 87) (.t 86)⟩)] (some [1,2,5,7,8,9]))) (.ops 3 [ (0,⟨some 73,none,.mv (.t 9)⟩),(1,⟨some 74,none,.arith .add (.t 73) (.k (.d (.val (.int .i64 1))))⟩),(2,⟨some 9,none,.mv (.t 74)⟩)] (some [1,2,5,7,8,9]))))))))) (.ops 3 [ (0,⟨some 61,none,.mv (.t 7)⟩),(1,⟨some 62,none,.arith .add (.t 61) (.k (.d (.val (.int .i64 1))))⟩),(2,⟨some 7,none,.mv (.t 62)⟩)] (some [1,2,5,7]))))))) (.seq (.ops 2 [ (0,⟨some 89,none,.arith .eql (.t 19) (.k (.d (.val (.int .i64 5))))⟩),(1,⟨some 88,none,.mv (.t 89)⟩)] (some [1,2,5,88])) (.cond (.t 88) (.seq (.ops 7 [ (0,⟨some 90,none,.fadd 7 (.t 2)⟩),(1,⟨some 91,none,.load none (.t 90)⟩),(2,⟨some 92,none,.idxS 8 (.t 91) (.k (.d (.val (.int .i64 0))))⟩),(3,⟨some 93,none,.load (some 8) (.t 92)⟩),(4,⟨some 94,none,.mv (.t 1)⟩),(5,⟨some 95,none,.call 49 [(.t 93),(.t 94)] none false⟩),(6,⟨some 10,none,.mv (.t 95)⟩)] (some [1,2,5,10])) (.seq (.ops 4 [ (0,⟨some 96,none,.mv (.t 1)⟩),(1,⟨some 97,none,.arith .add (.t 96) (.k (.d (.val (.int .i64 1))))⟩),(2,⟨some 98,none,.mks [(.bool false)] 1 (.t 97) (.t 97)⟩),(3,⟨some 11,none,.mv (.t 98)⟩)] (some [1,2,5,10,11])) (.seq (.ops 3 [ (0,⟨some 99,none,.mv (.t 11)⟩),(1,⟨some 100,none,.idxS 1 (.t 99) (.k (.d (.val (.int .i64 0))))⟩),(2,⟨none,none,.store 1 (.t 100) (.k (.d (.val (.bool true))))⟩)] (some [1,2,5,10,11])) (.seq (.ops 3 [ (0,⟨some 101,none,.fadd 6 (.t 2)⟩),(1,⟨some 102,none,.load none (.t 101)⟩),(2,⟨some 12,none,.mv (.t 102)⟩)] (some [1,2,5,10,11,12])) (.seq (.seq (.ops 2 [ (0,⟨some 103,none,.mv (.t 12)⟩),(1,⟨some 104,none,.arith .lss (.t 103) (.k (.d (.val (.int .i64 0))))⟩)] (some [1,2,5,10,11,12,104])) (.cond (.t 104) (.ops 5 [ (0,⟨some 105,none,.fadd 5 (.t 2)⟩),(1,⟨some 106,none,.load none (.t 105)⟩),(2,⟨some 107,none,.mv (.t 1)⟩),(3,⟨some 108,none,.arith .add (.t 106) (.t 107)⟩),(4,⟨some 12,none,.mv (.t 108)⟩)] (some [1,2,5,10,11,12])) .skip)) (.seq (.ops 1 [ (0,⟨some 13,none,.mv (.k (.d (.val (.int .i64 0))))⟩)] (some [1,2,5,10,11,12,13])) (.block 7 (.loop (.seq (.seq (.ops 3 [ (0,⟨some 109,none,.mv (.t 13)⟩),(1,⟨some 110,none,.mv (.t 12)⟩),(2,⟨some 111,none,.arith .leq (.t 109) (.t 110)⟩)] (some [1,2,5,10,11,12,13,111])) (.cond (.t 111) .skip (.exit 7))) (.seq (.block 8 (.seq (.seq (.ops 4 [ (0,⟨some 114,none,.mv (.t 13)⟩),(1,⟨some 115,none,.fadd 5 (.t 2)⟩),(2,⟨some 116,none,.load none (.t 115)⟩),(3,⟨some 117,none,.arith .geq (.t 114) (.t 116)⟩)] (some [1,2,5,10,11,12,13,117])) (.cond (.t 117) (.seq (.ops 1 [ (0,⟨some 14,none,.mv (.k (.d (.val (.int .i64 0))))⟩)] (some [1,2,5,10,11,12,13,14])) (.block 9 (.loop (.seq (.seq (.ops 3 [ (0,⟨some 118,none,.mv (.t 14)⟩),(1,⟨some 119,none,.mv (.t 1)⟩),(2,⟨some 120,none,.arith .leq (.t 118) (.t 119)⟩)] (some [1,2,5,10,11,12,13,14,120])) (.cond (.t 120) .skip (.exit 9))) (.seq (.block 10 (.ops 14 [ (0,⟨some 123,none,.mv (.t 5)⟩),(1,⟨some 124,none,.mv (.t 14)⟩),(2,⟨some 125,none,.mv (.t 5)⟩),(3,⟨some 126,none,.mv (.t 14)⟩),(4,⟨some 127,none,.idxS 1 (.t 125) (.t 126)⟩),(5,⟨some 128,none,.load none (.t 127)⟩),(6,⟨some 129,none,.mv (.t 128)⟩),(7,⟨some 130,(some (129,false)),.mv (.t 11)⟩),(8,⟨some 131,(some (129,false)),.mv (.t 14)⟩),(9,⟨some 132,(some (129,false)),.idxS 1 (.t 130) (.t 131)⟩),(10,⟨some 133,(some (129,false)),.load none (.t 132)⟩),(11,⟨some 134,none,.pick (.t 129) (.k (.d (.val (.bool true)))) (.t 133)⟩),(12,⟨some 135,none,.idxS 1 (.t 123) (.t 124)⟩),(13,⟨none,none,.store 1 (.t 135) (.t 134)⟩)] (some [1,2,5,10,11,12,13,14]))) (.ops 3 [ (0,⟨some 121,none,.mv (.t 14)⟩),(1,⟨some 122,none,.arith .add (.t 121) (.k (.d (.val (.int .i64 1))))⟩),(2,⟨some 14,none,.mv (.t 122)⟩)] (some [1,2,5,10,11,12,13,14]))))))) .skip)) (.ops 4 [ (0,⟨some 136,none,.mv (.t 11)⟩),(1,⟨some 137,none,.mv (.t 10)⟩),(2,⟨some 138,none,.call 98 [(.t 136),(.t 137)] none false⟩),(3,⟨some 11,none,.mv (.t 138)⟩)] (some [1,2,5,10,11,12,13])))) (.ops 3 [ (0,⟨some 112,none,.mv (.t 13)⟩),(1,⟨some 113,none,.arith .add (.t 112) (.k (.d (.val (.int .i64 1))))⟩),(2,⟨some 13,none,.mv (.t 113)⟩)] (some [1,2,5,10,11,12,13])))))))))))) .skip)))))))))))) (.seq (.ops 2 [ (0,⟨some 139,none,.mv (.t 5)⟩),(1,⟨some 4,none,.mv (.t 139)⟩)] (some [4])) .ret))))
def md49 : FuncId→Option Nat × Bool
  | _=>(none,false)
def od49 : Nat→List (List Nat) × List Nat × Option (List Nat)
  | 0=>([],[],some [1,2])
  | 1=>([],[],some [1,2,5])
  | 2=>([],[],some [1,2,5,19])
  | 3=>([],[],some [1,2,5,19,20])
  | 4=>([],[],some [5])
  | 5=>([],[],some [1,2,5,19,24])
  | 6=>([],[],some [2,5,27])
  | 7=>([],[],some [5])
  | 8=>([],[],some [1,2,5,19,34])
  | 9=>([],[],some [1,2,5])
  | 10=>([],[],some [1,2,5,6])
  | 11=>([],[],some [1,2,5,6,42])
  | 12=>([],[],some [1,2,5,6])
  | 13=>([],[],some [1,2,5,6])
  | 14=>([],[],some [1,2,5,19,54])
  | 15=>([],[],some [1,2,5,7])
  | 16=>([],[],some [1,2,5,7,60])
  | 17=>([],[],some [1,2,5,7])
  | 18=>([],[],some [1,2,5,7,8])
  | 19=>([],[],some [1,2,5,7,8,9])
  | 20=>([],[],some [1,2,5,7,8,9,72])
  | 21=>([],[],some [1,2,5,7,8,9])
  | 22=>([],[],some [1,2,5,7,8,9])
  | 23=>([],[],some [1,2,5,88])
  | 24=>([],[],some [1,2,5,10])
  | 25=>([],[],some [1,2,5,10,11])
  | 26=>([],[],some [1,2,5,10,11])
  | 27=>([],[],some [1,2,5,10,11,12])
  | 28=>([],[],some [1,2,5,10,11,12,104])
  | 29=>([],[],some [1,2,5,10,11,12])
  | 30=>([],[],some [1,2,5,10,11,12,13])
  | 31=>([],[],some [1,2,5,10,11,12,13,111])
  | 32=>([],[],some [1,2,5,10,11,12,13])
  | 33=>([],[],some [1,2,5,10,11,12,13,117])
  | 34=>([],[],some [1,2,5,10,11,12,13,14])
  | 35=>([],[],some [1,2,5,10,11,12,13,14,120])
  | 36=>([],[],some [1,2,5,10,11,12,13,14])
  | 37=>([],[],some [1,2,5,10,11,12,13,14])
  | 38=>([],[],some [1,2,5,10,11,12,13])
  | 39=>([],[],some [4])
  | _=>([],[],none)
theorem b49 {ags : List AV} {row : Option (List DV)} {r : AV} {row' nw : Option (List DV)} (hal : ags.length≤140) (hrow : row'.isSome=true→row.isSome=true) (h : xwp Try.prog x49 (retK [.tmp 4] row.isSome r row' nw) (St.init ags row)) : Good Try.prog 49 ags row r row' nw :=
  good_of_body' (md:=md49) (od:=od49) Try.f49 (by kernel_rfl) (by kernel_rfl) (by kernel_rfl) (by kernel_rfl) (by kernel_rfl) hal hrow h

def x72 : XC:=(.seq (.ops 2 [ (0,⟨some 1,none,.box (.t 0)⟩),(1,⟨some 2,none,.mv (.k (.d (.val (.bool false))))⟩)] (some [1])) (.seq (.ops 5 [ (0,⟨some 3,none,.load (some 8) (.t 1)⟩),(1,⟨some 4,none,.call 49 [(.t 3),(.k (.d (.val (.int .i64 0))))] none false⟩),(2,⟨some 5,none,.idxS 1 (.t 4) (.k (.d (.val (.int .i64 0))))⟩),(3,⟨some 6,none,.load none (.t 5)⟩),(4,⟨some 2,none,.mv (.t 6)⟩)] (some [2])) .ret))
def md72 : FuncId→Option Nat × Bool
  | _=>(none,false)
def od72 : Nat→List (List Nat) × List Nat × Option (List Nat)
  | 0=>([],[],some [1])
  | 1=>([],[],some [2])
  | _=>([],[],none)
theorem b72 {ags : List AV} {row : Option (List DV)} {r : AV} {row' nw : Option (List DV)} (hal : ags.length≤7) (hrow : row'.isSome=true→row.isSome=true) (h : xwp Try.prog x72 (retK [.tmp 2] row.isSome r row' nw) (St.init ags row)) : Good Try.prog 72 ags row r row' nw :=
  good_of_body' (md:=md72) (od:=od72) Try.f72 (by kernel_rfl) (by kernel_rfl) (by kernel_rfl) (by kernel_rfl) (by kernel_rfl) hal hrow h

theorem catL_snoc (l : List T) (t : T) (w : List Nat) : catL (l++[t]) w↔∃ u v,w=u++v∧catL l u∧L t v:=by
  rw [catL_app];simp only [catL_one]
theorem altL_snoc (l : List T) (t : T) (w : List Nat) : altL (l++[t]) w↔altL l w ∨ L t w:=by
  rw [altL_app];simp only [altL,or_false]
theorem powL_snoc (P : List Nat→Prop) (k : Nat) (w : List Nat) : powL P (k + 1) w↔∃ u v,w=u++v∧powL P k u∧P v:=by
  rw [powL_add];simp only [powL_one]
def Ored (p q p2 : List Bool) (k : Nat) : Prop:=p2.length=p.length∧∀ n,At p2 n↔At p n ∨ (n < k∧At q n)
theorem Ored.zero (p q : List Bool) : Ored p q p 0:=⟨rfl,fun n=>⟨.inl,fun h=>h.elim id fun h=>absurd h.1 (by omega)⟩⟩
theorem Ored.step {p q p2 : List Bool} {k : Nat} (h : Ored p q p2 k) (hk : k < p.length) : Ored p q (p2.set k (p2.getD k false || q.getD k false)) (k + 1):=by
  refine ⟨by rw [List.length_set];exact h.1,fun n=>?_⟩
  rw [at_set n (by rw [h.1];exact hk),h.2 n]
  have hv : (p2.getD k false || q.getD k false)=true↔At p2 k ∨ At q k:=by simp [At]
  rw [hv,h.2 k]
  constructor
  · rintro (⟨rfl,(h1 | h1) | h1⟩ | ⟨h1,h2 | h2⟩)
    · exact .inl h1
    · exact .inr ⟨by omega,h1.2⟩
    · exact .inr ⟨by omega,h1⟩
    · exact .inl h2
    · exact .inr ⟨by omega,h2.2⟩
  · rintro (h1 | ⟨h1,h2⟩)
    · by_cases e : n=k
      · subst e;exact .inl ⟨rfl,.inl (.inl h1)⟩
      · exact .inr ⟨e,.inl h1⟩
    · by_cases e : n=k
      · subst e;exact .inl ⟨rfl,.inr h2⟩
      · exact .inr ⟨e,.inr ⟨by omega,h2⟩⟩
set_option maxRecDepth 100000
set_option maxHeartbeats 4000000
attribute [local irreducible] W E R KP thenK blockK retK Good xwp aRun
theorem len49_good : ∀ (n : Nat) (t : T),t.cnt≤n→n≤1000000→okT t→∀ m : Nat,m≤1000→Good Try.prog 49 [nodeA t,.i m] none (.d (.sl (encB (lenS (L t) m)) (m + 1))) none none:=by
  intro n
  induction n with
  | zero=>intro t ht;have:=cnt_pos t;omega
  | succ n ih =>
  intro t ht hc hok m hm
  have hS:=okT_S hok
  obtain ⟨k,a,b,c,d,mn,mx,subs⟩:=t
  have hR:=okT_R hok
  have hoks:=okT_subs hok
  have hpl:=okT_plain hok
  have ih' : ∀ i (h : i < subs.length),Good Try.prog 49 [nodeA subs[i],.i m] none (.d (.sl (encB (lenS (L subs[i]) m)) (m + 1))) none none:=by
    intro i h
    refine ih _ ?_ (by omega) (okL_get subs i h hoks) m hm
    have:=cntL_get subs i h
    simp only [T.cnt] at ht
    omega
  have hlen : subs.length≤1000000:=by
    have:=cntL_len subs
    simp only [T.cnt] at ht
    omega
  have e0 : nodeA (.node k a b c d mn mx subs)=.agg [.i k,.d (.val (.int .u64 a)),.d (.val (.int .u64 b)),.d (.val (.int .u64 c)),.d (.val (.int .u64 d)),.i mn,.i mx,.d (.sl (encL subs) subs.length)]:=rfl
  have hkind:=(plainT_kind hpl).1
  have hk5 : k=5→∃ u,subs=[u]:=fun h5=>by subst h5;exact plainT_5 hpl
  have hr0 : (List.replicate (m + 1) false).length=m + 1:=List.length_replicate
  clear ih ht hok hoks hpl
  rw [e0]
  by_cases h1 : k=1
  · have e : (List.replicate (m + 1) false).set 0 true=lenS (L (.node k a b c d mn mx subs)) m:=by
      refine lenS_eq (by simp) fun j hj=>?_
      rw [at_set j (by simp)]
      subst h1
      simp only [L_k1]
      constructor
      · rintro (⟨rfl,_⟩ | ⟨_,h⟩)
        · exact ⟨[],rfl,rfl⟩
        · exact absurd h (at_rep _ _)
      · rintro ⟨w,rfl,h⟩;exact .inl ⟨h.symm,by simp⟩
    rw [← e]
    refine b49 (by simp) (by simp) (w_init ?_)
    unfold x49
    repeat' (first|(apply r_mvV;rfl)|(apply r_mvSL;rfl)|(apply r_faddL;rfl)|(apply r_mksB (m:=m + 1);rfl;rfl;((conv=>lhs;simp only [Nat.reduceAdd])<;>rfl);omega;omega)|(apply r_ixL (j:=0);rfl;rfl;omega)|(apply r_stB (j:=0);rfl;rfl;rfl;rfl;omega)|(apply r_ldL;rfl;rfl;rfl)|(apply r_eql;rfl;rfl;(first|(apply dT;omega)|(apply dF;omega)|rfl))|(apply r_add;rfl;rfl;rfl;omega)|(apply r_box;((conv=>lhs;simp only [Nat.reduceAdd])<;>rfl);rfl;rfl;rfl)|(apply r_nilK)|(apply k_V;rfl)|(apply k_PL;rfl)|(apply k_SL;rfl)|(apply k_nil)|(apply e_ret;rfl)|(apply w_seq)|(apply w_ops;((conv=>lhs;simp only [Nat.reduceAdd])<;>rfl))|(apply w_condT;rfl)|(apply e_thenN)|(apply w_block)|(apply e_blkN)|(apply w_ret))
    exact retSB rfl (by simp)
  by_cases h2 : k=2
  · by_cases hm1 : 1≤m
    · have e : (List.replicate (m + 1) false).set 1 (!isZero a b c d)=lenS (L (.node k a b c d mn mx subs)) m:=by
        refine lenS_eq (by simp) fun j hj=>?_
        rw [at_set j (by simp;omega)]
        subst h2
        simp only [L_k2]
        have hz:=zero_iff hS.1 hS.2.1 hS.2.2.1 hS.2.2.2
        constructor
        · rintro (⟨rfl,h⟩ | ⟨_,h⟩)
          · have hz2 : ¬ ∀ x,x < 256→inG a b c d x=false:=fun h3=>by rw [hz.2 h3] at h;cases h
            have : ∃ x,inG a b c d x=true:=Classical.byContradiction fun hc=>hz2 fun x _=>by
              cases e : inG a b c d x with
              | false=>rfl
              | true=>exact absurd ⟨x,e⟩ hc
            obtain ⟨x,hx⟩:=this
            exact ⟨[x],⟨x,rfl,hx⟩,rfl⟩
          · exact absurd h (at_rep _ _)
        · rintro ⟨w,⟨x,rfl,hx⟩,h⟩
          refine .inl ⟨h.symm,?_⟩
          cases e : isZero a b c d with
          | false=>rfl
          | true=>rw [hz.1 e x (inG_lt hx)] at hx;cases hx
      rw [← e]
      refine b49 (by simp) (by simp) (w_init ?_)
      unfold x49
      repeat' (first|(apply r_mvV;rfl)|(apply r_mvSL;rfl)|(apply r_faddL;rfl)|(apply r_mksB (m:=m + 1);rfl;rfl;((conv=>lhs;simp only [Nat.reduceAdd])<;>rfl);omega;omega)|(apply r_ldL (v:=.agg [.d (.val (.int .u64 a)),.d (.val (.int .u64 b)),.d (.val (.int .u64 c)),.d (.val (.int .u64 d))]);rfl;rfl;rfl)|(apply r_p (v:=.agg [.d (.val (.int .u64 0)),.d (.val (.int .u64 0)),.d (.val (.int .u64 0)),.d (.val (.int .u64 0))]);rfl)|(apply r_eqX (r:=!isZero a b c d);rfl;rfl;rfl)|(apply r_ixL (j:=1);rfl;rfl;omega)|(apply r_stB (j:=1);rfl;rfl;rfl;rfl;omega)|(apply r_ldL;rfl;rfl;rfl)|(apply r_eql;rfl;rfl;(first|(apply dT;omega)|(apply dF;omega)|rfl))|(apply r_geq;rfl;rfl;(first|(apply dT;omega)|(apply dF;omega)|rfl))|(apply r_add;rfl;rfl;rfl;omega)|(apply r_box;((conv=>lhs;simp only [Nat.reduceAdd])<;>rfl);rfl;rfl;rfl)|(apply r_nilK)|(apply k_V;rfl)|(apply k_PL;rfl)|(apply k_SL;rfl)|(apply k_nil)|(apply e_ret;rfl)|(apply w_seq)|(apply w_ops;((conv=>lhs;simp only [Nat.reduceAdd])<;>rfl))|(apply w_condT;rfl)|(apply w_condF;rfl)|(apply e_thenN)|(apply w_block)|(apply e_blkN)|(apply w_ret))
      exact retSB rfl (by simp)
    · have e : List.replicate (m + 1) false=lenS (L (.node k a b c d mn mx subs)) m:=by
        refine lenS_eq (by simp) fun j hj=>?_
        subst h2
        simp only [L_k2]
        constructor
        · intro h;exact absurd h (at_rep _ _)
        · rintro ⟨w,⟨x,rfl,hx⟩,h⟩;simp at h;omega
      rw [← e]
      refine b49 (by simp) (by simp) (w_init ?_)
      unfold x49
      repeat' (first|(apply r_mvV;rfl)|(apply r_mvSL;rfl)|(apply r_faddL;rfl)|(apply r_mksB (m:=m + 1);rfl;rfl;((conv=>lhs;simp only [Nat.reduceAdd])<;>rfl);omega;omega)|(apply r_ldL;rfl;rfl;rfl)|(apply r_eql;rfl;rfl;(first|(apply dT;omega)|(apply dF;omega)|rfl))|(apply r_geq;rfl;rfl;(first|(apply dT;omega)|(apply dF;omega)|rfl))|(apply r_add;rfl;rfl;rfl;omega)|(apply r_box;((conv=>lhs;simp only [Nat.reduceAdd])<;>rfl);rfl;rfl;rfl)|(apply r_nilK)|(apply k_V;rfl)|(apply k_PL;rfl)|(apply k_SL;rfl)|(apply k_nil)|(apply e_ret;rfl)|(apply w_seq)|(apply w_ops;((conv=>lhs;simp only [Nat.reduceAdd])<;>rfl))|(apply w_condT;rfl)|(apply w_condF;rfl)|(apply e_thenN)|(apply w_block)|(apply e_blkN)|(apply w_ret)|(apply w_skip))
      exact retSB rfl (by simp)
  by_cases h3 : k=3
  · have e : (List.replicate (m + 1) false).set 0 true=lenS (catL (subs.take 0)) m:=by
      refine lenS_eq (by simp) fun j hj=>?_
      rw [at_set j (by simp)]
      simp only [List.take_zero,catL]
      constructor
      · rintro (⟨rfl,_⟩ | ⟨_,h⟩)
        · exact ⟨[],rfl,rfl⟩
        · exact absurd h (at_rep _ _)
      · rintro ⟨w,rfl,h⟩;exact .inl ⟨h.symm,by simp⟩
    refine b49 (by simp) (by simp) (w_init ?_)
    unfold x49
    repeat' (first|(apply r_mvV;rfl)|(apply r_mvSL;rfl)|(apply r_faddL;rfl)|(apply r_mksB (m:=m + 1);rfl;rfl;((conv=>lhs;simp only [Nat.reduceAdd])<;>rfl);omega;omega)|(apply r_ixL (j:=0);rfl;rfl;omega)|(apply r_stB (j:=0);rfl;rfl;rfl;rfl;omega)|(apply r_ldL;rfl;rfl;rfl)|(apply r_eql;rfl;rfl;(first|(apply dT;omega)|(apply dF;omega)|rfl))|(apply r_add;rfl;rfl;rfl;omega)|(apply r_box;((conv=>lhs;simp only [Nat.reduceAdd])<;>rfl);rfl;rfl;rfl)|(apply r_nilK)|(apply k_V;rfl)|(apply k_PL;rfl)|(apply k_SL;rfl)|(apply k_nil)|(apply w_seq)|(apply w_ops;((conv=>lhs;simp only [Nat.reduceAdd])<;>rfl))|(apply w_condT;rfl)|(apply w_condF;rfl)|(apply e_thenN)|(apply w_block))
    apply w_loopF (S:=fun i : Nat=>⟨(((Fr.nil.put 1 (.i m)).put 2 (.ptrL 1 0)).put 5 (.d (.sl (encB (lenS (catL (subs.take i)) m)) (m + 1)))).put 6 (.i i),rowsOf [(1,[.i k,.d (.val (.int .u64 a)),.d (.val (.int .u64 b)),.d (.val (.int .u64 c)),.d (.val (.int .u64 d)),.i mn,.i mx,.d (.sl (encL subs) subs.length)])],Frz.buts 100 [],100⟩) (m:=fun i=>subs.length - i) (I:=fun i=>i≤subs.length) (i0:=0)
    · exact Nat.zero_le _
    · refine fzB (k:=5) (b:=5) (m:=m + 1) (p:=(List.replicate (m + 1) false).set 0 true) rfl rfl (by simp) (by omega) ?_
      rw [e]
      refine wkM [] [] rfl ?_ ?_ rfl ?_
      · intro p hp
        simp only [List.mem_cons,List.not_mem_nil,or_false] at hp
        rcases hp with rfl
        exact ⟨by omega,.inr ⟨rfl,_,rfl,.data rfl⟩⟩
      · intro q hq;simp at hq
      · repeat' (first|exact FWk.nil|(apply FWk.i;rfl;(first|rfl|omega|(simp;done)))|(apply FWk.ptr;rfl;rfl;rfl;omega;rfl)|(apply FWk.d;rfl;rfl))
    intro i K hi hK
    dsimp only
    rcases Nat.lt_or_ge i subs.length with hlt | hge
    · have hs:=NodeAt.sub hlt
      have hg:=ih' i hlt
      have hj:=join98_good (lenS (catL (subs.take i)) m) (lenS (L subs[i]) m) (lenS_len _ _) (lenS_len _ _) (by omega)
      have ej : joinB (lenS (catL (subs.take i)) m) (lenS (L subs[i]) m)=lenS (catL (subs.take (i + 1))) m:=by
        rw [joinB_lenS]
        refine lenS_congr (fun w=>?_) m
        rw [List.take_succ_eq_append_getElem hlt,catL_snoc]
      rw [ej] at hj
      have hna : [nodeA subs[i],.i m].all AV.nrm=true:=by rw [List.all_cons,nodeA_nrm];rfl
      repeat' (first|(apply r_mvV;rfl)|(apply r_mvS;rfl)|(apply r_faddL;rfl)|(apply r_l;apply ld_node';assumption;rfl)|(apply r_p;apply ix_sub;rfl;rfl;omega)|(apply r_callA (ags:=[nodeA subs[i],.i m]);rfl;exact hna;exact hg)|(apply r_callA;rfl;rfl;exact hj)|(apply r_ldL;rfl;rfl;rfl)|(apply r_lss;rfl;rfl;(first|(apply dT;omega)|(apply dF;omega)|rfl))|(apply r_add;rfl;rfl;rfl;omega)|(apply r_lenD;rfl)|(apply r_nilK)|(apply k_V;rfl)|(apply k_PL;rfl)|(apply k_S;rfl)|(apply k_nil)|(apply w_seq)|(apply w_ops;((conv=>lhs;simp only [Nat.reduceAdd])<;>rfl))|(apply w_condT;rfl)|(apply e_thenN)|(apply w_block)|(apply e_blkN)|(apply w_skip))
      apply e_thenK
      apply hK (i + 1)
      · omega
      · omega
      · refine Wk.f (wkM [] [] rfl ?_ ?_ rfl ?_)
        · intro p hp
          simp only [List.mem_cons,List.not_mem_nil,or_false] at hp
          rcases hp with rfl
          exact ⟨by omega,.inr ⟨rfl,_,rfl,.data rfl⟩⟩
        · intro q hq;simp at hq
        · repeat' (first|exact FWk.nil|(apply FWk.i;rfl;(first|rfl|omega|(simp;done)))|(apply FWk.ptr;rfl;rfl;rfl;omega;rfl)|(apply FWk.d;rfl;rfl))
    · have ei : i=subs.length:=by omega
      subst ei
      repeat' (first|(apply r_mvV;rfl)|(apply r_mvS;rfl)|(apply r_faddL;rfl)|(apply r_ldL;rfl;rfl;rfl)|(apply r_lss;rfl;rfl;(first|(apply dT;omega)|(apply dF;omega)|rfl))|(apply r_lenD;rfl)|(apply r_nilK)|(apply k_V;rfl)|(apply k_PL;rfl)|(apply k_S;rfl)|(apply k_nil)|(apply e_ret;rfl)|(apply w_seq)|(apply w_ops;((conv=>lhs;simp only [Nat.reduceAdd])<;>rfl))|(apply w_condF;rfl)|(apply e_thenN)|(apply e_thenX)|(apply e_blkN)|(apply e_blkE)|(apply w_exit)|(apply w_ret))
      refine retSD ?_
      rw [List.take_length]
      refine lenS_congr (fun w=>?_) m
      subst h3
      rw [L_k3]
  by_cases h4 : k=4
  · have e : List.replicate (m + 1) false=lenS (altL (subs.take 0)) m:=by
      refine lenS_eq (by simp) fun j hj=>?_
      simp only [List.take_zero,altL]
      constructor
      · intro h;exact absurd h (at_rep _ _)
      · rintro ⟨w,h,_⟩;exact h.elim
    refine b49 (by simp) (by simp) (w_init ?_)
    unfold x49
    repeat' (first|(apply r_mvV;rfl)|(apply r_mvSL;rfl)|(apply r_faddL;rfl)|(apply r_mksB (m:=m + 1);rfl;rfl;((conv=>lhs;simp only [Nat.reduceAdd])<;>rfl);omega;omega)|(apply r_ldL;rfl;rfl;rfl)|(apply r_eql;rfl;rfl;(first|(apply dT;omega)|(apply dF;omega)|rfl))|(apply r_add;rfl;rfl;rfl;omega)|(apply r_box;((conv=>lhs;simp only [Nat.reduceAdd])<;>rfl);rfl;rfl;rfl)|(apply r_nilK)|(apply k_V;rfl)|(apply k_PL;rfl)|(apply k_SL;rfl)|(apply k_nil)|(apply w_seq)|(apply w_ops;((conv=>lhs;simp only [Nat.reduceAdd])<;>rfl))|(apply w_condT;rfl)|(apply w_condF;rfl)|(apply e_thenN)|(apply w_block))
    apply w_loopI (S:=fun i : Nat=>⟨(((Fr.nil.put 1 (.i m)).put 2 (.ptrL 1 0)).put 5 (.slL 50 0 (m + 1) 1)).put 7 (.i i),rowsOf [(1,[.i k,.d (.val (.int .u64 a)),.d (.val (.int .u64 b)),.d (.val (.int .u64 c)),.d (.val (.int .u64 d)),.i mn,.i mx,.d (.sl (encL subs) subs.length)]),(50,(encB (lenS (altL (subs.take i)) m)).map AV.d)],Frz.buts 100 [50],100⟩) (m:=fun i=>subs.length - i) (I:=fun i=>i≤subs.length) (i0:=0)
    · exact Nat.zero_le _
    · rw [← e]
      refine wkM [(50,5)] [] rfl ?_ ?_ rfl ?_
      · intro p hp;simp only [List.mem_cons,List.not_mem_nil,or_false] at hp;rcases hp with rfl | rfl<;>first | exact ⟨by omega,.inr ⟨rfl,_,rfl,.data rfl⟩⟩ | exact ⟨by omega,.inr ⟨rfl,_,rfl,.data encB_isD⟩⟩
      · intro q hq;simp only [List.mem_cons,List.not_mem_nil,or_false] at hq;rcases hq with rfl<;>rfl
      · repeat' (first|exact FWk.nil|(apply FWk.i;rfl;(first|rfl|omega|(simp;done)))|(apply FWk.sl;rfl;rfl;rfl;rfl;omega;rfl)|(apply FWk.ptr;rfl;rfl;rfl;omega;rfl))
    intro i K hi hK
    dsimp only
    rcases Nat.lt_or_ge i subs.length with hlt | hge
    · have hs:=NodeAt.sub hlt
      have hg:=ih' i hlt
      have hna : [nodeA subs[i],.i m].all AV.nrm=true:=by rw [List.all_cons,nodeA_nrm];rfl
      have hfin : ∀ p2,Ored (lenS (altL (subs.take i)) m) (lenS (L subs[i]) m) p2 (m + 1)→p2=lenS (altL (subs.take (i + 1))) m:=by
        intro p2 h
        refine lenS_eq (h.1.trans (lenS_len _ _)) fun j hj=>?_
        rw [h.2 j,at_lenS,at_lenS,List.take_succ_eq_append_getElem hlt]
        simp only [altL_snoc]
        constructor
        · rintro (⟨_,w,hw,hl⟩ | ⟨_,_,w,hw,hl⟩)
          · exact ⟨w,.inl hw,hl⟩
          · exact ⟨w,.inr hw,hl⟩
        · rintro ⟨w,hw | hw,hl⟩
          · exact .inl ⟨hj,w,hw,hl⟩
          · exact .inr ⟨by omega,hj,w,hw,hl⟩
      have hql:=lenS_len (L subs[i]) m
      have hpl:=lenS_len (altL (subs.take i)) m
      generalize lenS (L subs[i]) m=q at hg hfin hql
      generalize lenS (altL (subs.take i)) m=p at hfin hpl ⊢
      repeat' (first|(apply r_mvV;rfl)|(apply r_mvS;rfl)|(apply r_faddL;rfl)|(apply r_l;apply ld_node';assumption;rfl)|(apply r_p;apply ix_sub;rfl;rfl;omega)|(apply r_callA (ags:=[nodeA subs[i],.i m]);rfl;exact hna;exact hg)|(apply r_ldL;rfl;rfl;rfl)|(apply r_lss;rfl;rfl;(first|(apply dT;omega)|(apply dF;omega)|rfl))|(apply r_lenD;rfl)|(apply r_nilK)|(apply k_V;rfl)|(apply k_PL;rfl)|(apply k_S;rfl)|(apply k_SL;rfl)|(apply k_nil)|(apply w_seq)|(apply w_ops;((conv=>lhs;simp only [Nat.reduceAdd])<;>rfl))|(apply w_condT;rfl)|(apply e_thenN)|(apply w_block)|(apply w_skip))
      apply w_loopI (ι:=Nat × List Bool) (S:=fun z=>⟨(((((Fr.nil.put 1 (.i m)).put 2 (.ptrL 1 0)).put 5 (.slL 50 0 (m + 1) 1)).put 7 (.i i)).put 8 (.d (.sl (encB q) (m + 1)))).put 9 (.i z.1),rowsOf [(1,[.i k,.d (.val (.int .u64 a)),.d (.val (.int .u64 b)),.d (.val (.int .u64 c)),.d (.val (.int .u64 d)),.i mn,.i mx,.d (.sl (encL subs) subs.length)]),(50,(encB z.2).map AV.d)],Frz.buts 200 [50],200⟩) (m:=fun z=>m + 1 - z.1) (I:=fun z=>z.1≤m + 1∧Ored p q z.2 z.1) (i0:=(0,p))
      · exact ⟨Nat.zero_le _,.zero _ _⟩
      · dsimp only
        refine wkM [] [] rfl ?_ ?_ rfl ?_
        · intro p hp;simp only [List.mem_cons,List.not_mem_nil,or_false] at hp;rcases hp with rfl | rfl<;>first | exact ⟨by omega,.inr ⟨rfl,_,rfl,.data rfl⟩⟩ | exact ⟨by omega,.inr ⟨rfl,_,rfl,.data encB_isD⟩⟩
        · intro q hq;simp only [List.mem_cons,List.not_mem_nil,or_false] at hq;rcases hq with rfl<;>rfl
        · repeat' (first|exact FWk.nil|(apply FWk.i;rfl;(first|rfl|omega|(simp;done)))|(apply FWk.sl;rfl;rfl;rfl;rfl;omega;rfl)|(apply FWk.ptr;rfl;rfl;rfl;omega;rfl)|(apply FWk.d;rfl;rfl))
      rintro ⟨j,p2⟩ K2 ⟨hj,ho⟩ hK2
      dsimp only at hj ho hK2 ⊢
      have hp2 : p2.length=m + 1:=ho.1.trans hpl
      rcases Nat.lt_or_ge j (m + 1) with hlj | hgj
      · have hgp : p2[j]?=some (p2.getD j false):=by rw [List.getD_eq_getElem?_getD,List.getElem?_eq_getElem (by omega)];rfl
        have hgq : q[j]?=some (q.getD j false):=by rw [List.getD_eq_getElem?_getD,List.getElem?_eq_getElem (by omega)];rfl
        have hst:=ho.step (by omega)
        have fin : ∀ v fr C Z nx,v=(p2.getD j false || q.getD j false)→Wk ⟨fr,C,Z,nx⟩ ⟨(((((Fr.nil.put 1 (.i m)).put 2 (.ptrL 1 0)).put 5 (.slL 50 0 (m + 1) 1)).put 7 (.i i)).put 8 (.d (.sl (encB q) (m + 1)))).put 9 (.i ((j + 1 : Nat) : Int)),rowsOf [(1,[.i k,.d (.val (.int .u64 a)),.d (.val (.int .u64 b)),.d (.val (.int .u64 c)),.d (.val (.int .u64 d)),.i mn,.i mx,.d (.sl (encL subs) subs.length)]),(50,(encB (p2.set j v)).map AV.d)],Frz.buts 200 [50],200⟩→K2 ⟨fr,C,Z,nx⟩:=by
          intro v fr C Z nx hv hw
          subst hv
          exact hK2 (j + 1,_) fr C Z nx ⟨by dsimp only;omega,hst⟩ (by dsimp only;omega) hw
        generalize p2.getD j false=v1 at hgp fin
        generalize q.getD j false=v2 at hgq fin
        cases v1
        all_goals
          repeat' (first|(apply r_mvV;rfl)|(apply r_mvS;rfl)|(apply r_mvSL;rfl)|(apply r_ixL (j:=j);rfl;rfl;omega)|(apply r_ldBL (j:=j);rfl;rfl;exact hgp)|(apply r_ixB' (j:=j);rfl;rfl;exact hlj;exact hql)|(apply r_ldB (j:=j);rfl;exact hgq)|(apply r_stB (j:=j);rfl;rfl;rfl;rfl;omega)|(apply r_leq;rfl;rfl;(first|(apply dT;omega)|(apply dF;omega)|rfl))|(apply r_add;rfl;rfl;rfl;omega)|(apply r_pickT;rfl)|(apply r_pickF;rfl)|(apply r_gT;rfl)|(apply r_gF';rfl;rfl)|(apply r_nilK)|(apply k_V;rfl)|(apply k_PL;rfl)|(apply k_S;rfl)|(apply k_SL;rfl)|(apply k_nil)|(apply w_seq)|(apply w_ops;((conv=>lhs;simp only [Nat.reduceAdd])<;>rfl))|(apply w_condT;rfl)|(apply e_thenN)|(apply w_block)|(apply e_blkN)|(apply w_skip))
          apply e_thenK
          refine fin _ _ _ _ _ (by first | rfl | simp) ?_
          refine wkM [] [] rfl ?_ ?_ rfl ?_
          · intro p hp;simp only [List.mem_cons,List.not_mem_nil,or_false] at hp;rcases hp with rfl | rfl<;>first | exact ⟨by omega,.inr ⟨rfl,_,rfl,.data rfl⟩⟩ | exact ⟨by omega,.inr ⟨rfl,_,rfl,.data encB_isD⟩⟩
          · intro q hq;simp only [List.mem_cons,List.not_mem_nil,or_false] at hq;rcases hq with rfl<;>rfl
          · repeat' (first|exact FWk.nil|(apply FWk.i;rfl;(first|rfl|omega|(simp;done)))|(apply FWk.sl;rfl;rfl;rfl;rfl;omega;rfl)|(apply FWk.ptr;rfl;rfl;rfl;omega;rfl)|(apply FWk.d;rfl;rfl))
      · have ej : j=m + 1:=by omega
        subst ej
        have e2:=hfin p2 ho
        repeat' (first|(apply r_mvV;rfl)|(apply r_leq;rfl;rfl;(first|(apply dT;omega)|(apply dF;omega)|rfl))|(apply r_add;rfl;rfl;rfl;omega)|(apply r_nilK)|(apply k_V;rfl)|(apply k_PL;rfl)|(apply k_S;rfl)|(apply k_SL;rfl)|(apply k_nil)|(apply w_seq)|(apply w_ops;((conv=>lhs;simp only [Nat.reduceAdd])<;>rfl))|(apply w_condF;rfl)|(apply e_thenN)|(apply e_thenX)|(apply e_blkN)|(apply e_blkE)|(apply w_exit))
        apply e_thenK
        apply hK (i + 1)
        · omega
        · omega
        · rw [← e2]
          refine wkM [] [] rfl ?_ ?_ rfl ?_
          · intro p hp;simp only [List.mem_cons,List.not_mem_nil,or_false] at hp;rcases hp with rfl | rfl<;>first | exact ⟨by omega,.inr ⟨rfl,_,rfl,.data rfl⟩⟩ | exact ⟨by omega,.inr ⟨rfl,_,rfl,.data encB_isD⟩⟩
          · intro q hq;simp only [List.mem_cons,List.not_mem_nil,or_false] at hq;rcases hq with rfl<;>rfl
          · repeat' (first|exact FWk.nil|(apply FWk.i;rfl;(first|rfl|omega|(simp;done)))|(apply FWk.sl;rfl;rfl;rfl;rfl;omega;rfl)|(apply FWk.ptr;rfl;rfl;rfl;omega;rfl))
    · have ei : i=subs.length:=by omega
      subst ei
      repeat' (first|(apply r_mvV;rfl)|(apply r_mvSL;rfl)|(apply r_faddL;rfl)|(apply r_ldL;rfl;rfl;rfl)|(apply r_lss;rfl;rfl;(first|(apply dT;omega)|(apply dF;omega)|rfl))|(apply r_lenD;rfl)|(apply r_nilK)|(apply k_V;rfl)|(apply k_PL;rfl)|(apply k_SL;rfl)|(apply k_nil)|(apply e_ret;rfl)|(apply w_seq)|(apply w_ops;((conv=>lhs;simp only [Nat.reduceAdd])<;>rfl))|(apply w_condF;rfl)|(apply e_thenN)|(apply e_thenX)|(apply e_blkN)|(apply e_blkE)|(apply w_exit)|(apply w_ret))
      have e2 : lenS (altL (subs.take subs.length)) m=lenS (L (.node k a b c d mn mx subs)) m:=by
        rw [List.take_length]
        refine lenS_congr (fun w=>?_) m
        subst h4
        rw [L_k4]
      rw [← e2]
      exact retSB rfl (lenS_len _ _)
  have h5 : k=5:=by omega
  obtain ⟨u,hu⟩:=hk5 h5
  have hl1 : 0 < subs.length:=by rw [hu];simp
  have hg:=ih' 0 hl1
  have hs:=NodeAt.sub hl1
  have hu0 : subs[0]=u:=by simp [hu]
  rw [hu0] at hg hs
  have hr5:=hR h5
  have eL : ∀ w,L (.node k a b c d mn mx subs) w↔∃ r : Nat,mn≤r∧(mx < 0 ∨ (r : Int)≤mx)∧powL (L u) r w:=by
    intro w
    subst h5
    rw [L_k5,hu]
    have : ∀ w,fstL [u] w↔L u w:=fun w=>by rw [fstL]
    simp only [powL_congr this]
  have hna : [nodeA u,.i m].all AV.nrm=true:=by rw [List.all_cons,nodeA_nrm];rfl
  clear hu0 hu hk5 ih' hkind
  obtain ⟨mnN,rfl⟩:=Int.eq_ofNat_of_zero_le hr5.1.1
  obtain ⟨last,hlast,hfin⟩ : ∃ last : Nat,last≤1100∧((last : Int)=if mx < 0 then (mnN : Int) + m else mx)∧mnN≤last∧∀ j,j≤m→((∃ r : Nat,mnN≤r∧r < last + 1∧∃ w,powL (L u) r w∧w.length=j)↔∃ w,L (.node k a b c d mnN mx subs) w∧w.length=j):=by
    by_cases hmx : mx < 0
    · refine ⟨mnN + m,by omega,by rw [if_pos hmx];omega,by omega,fun j hj=>?_⟩
      constructor
      · rintro ⟨r,g1,g2,w,g3,g4⟩;exact ⟨w,(eL w).2 ⟨r,by omega,.inl hmx,g3⟩,g4⟩
      · rintro ⟨w,hw,g4⟩
        obtain ⟨r,g1,_,g3⟩:=(eL w).1 hw
        by_cases hr : r≤mnN + m
        · exact ⟨r,by omega,by omega,w,g3,g4⟩
        · exact ⟨mnN + m,by omega,by omega,w,powL_cut w _ (by omega) r (by omega) g3,g4⟩
    · obtain ⟨x,rfl⟩:=Int.eq_ofNat_of_zero_le (show 0≤mx by omega)
      refine ⟨x,by omega,by rw [if_neg hmx],by omega,fun j hj=>?_⟩
      constructor
      · rintro ⟨r,g1,g2,w,g3,g4⟩;exact ⟨w,(eL w).2 ⟨r,by omega,by omega,g3⟩,g4⟩
      · rintro ⟨w,hw,g4⟩
        obtain ⟨r,g1,g2,g3⟩:=(eL w).1 hw
        exact ⟨r,by omega,by omega,w,g3,g4⟩
  obtain ⟨hle,hml,hfin⟩:=hfin
  have e : (List.replicate (m + 1) false).set 0 true=lenS (powL (L u) 0) m:=by
    refine lenS_eq (by simp) fun j hj=>?_
    rw [at_set j (by simp)]
    simp only [powL]
    constructor
    · rintro (⟨rfl,_⟩ | ⟨_,h⟩)
      · exact ⟨[],rfl,rfl⟩
      · exact absurd h (at_rep _ _)
    · rintro ⟨w,rfl,h⟩;exact .inl ⟨h.symm,by simp⟩
  refine b49 (by simp) (by simp) (w_init ?_)
  unfold x49
  repeat' (first|(apply r_mvV;rfl)|(apply r_mvS;rfl)|(apply r_mvSL;rfl)|(apply r_faddL;rfl)|(apply r_l;apply ld_node';assumption;rfl)|(apply r_mksB (m:=m + 1);rfl;rfl;((conv=>lhs;simp only [Nat.reduceAdd])<;>rfl);omega;omega)|(apply r_ixL (j:=0);rfl;rfl;omega)|(apply r_stB (j:=0);rfl;rfl;rfl;rfl;omega)|(apply r_p (v:=.d (.ptr (encL subs) 0));exact ix_sub0 rfl rfl hl1)|(apply r_callA (ags:=[nodeA u,.i m]);rfl;exact hna;exact hg)|(apply r_ldL;rfl;rfl;rfl)|(apply r_eql;rfl;rfl;(first|(apply dT;omega)|(apply dF;omega)|rfl))|(apply r_lss;rfl;rfl;(first|(apply dT;omega)|(apply dF;omega)|rfl))|(apply r_add;rfl;rfl;rfl;omega)|(apply r_box;((conv=>lhs;simp only [Nat.reduceAdd])<;>rfl);rfl;rfl;rfl)|(apply r_nilK)|(apply k_V;rfl)|(apply k_PL;rfl)|(apply k_S;rfl)|(apply k_SL;rfl)|(apply k_nil)|(apply w_seq)|(apply w_ops;((conv=>lhs;simp only [Nat.reduceAdd])<;>rfl))|(apply w_condT;rfl)|(apply w_condF;rfl)|((apply w_condS;rfl)<;>(intro h;try simp only [decide_eq_true_eq,decide_eq_false_iff_not,Bool.not_eq_true,Bool.not_eq_false] at h))|(apply e_thenN)|(apply w_block)|(apply w_skip))
  all_goals
    apply w_loopF (ι:=Nat × List Bool) (S:=fun z=>⟨((((((Fr.nil.put 1 (.i m)).put 2 (.ptrL 1 0)).put 5 (.slL 50 0 (m + 1) 1)).put 10 (.d (.sl (encB (lenS (L u) m)) (m + 1)))).put 11 (.d (.sl (encB (lenS (powL (L u) z.1) m)) (m + 1)))).put 12 (.i last)).put 13 (.i z.1),rowsOf [(1,[.i k,.d (.val (.int .u64 a)),.d (.val (.int .u64 b)),.d (.val (.int .u64 c)),.d (.val (.int .u64 d)),.i mnN,.i mx,.d (.sl (encL subs) subs.length)]),(50,(encB z.2).map AV.d)],Frz.buts 100 [50],100⟩) (m:=fun z=>last + 1 - z.1) (I:=fun z=>z.1≤last + 1∧z.2.length=m + 1∧∀ j,j≤m→(At z.2 j↔∃ r : Nat,mnN≤r∧r < z.1∧∃ w,powL (L u) r w∧w.length=j)) (i0:=(0,List.replicate (m + 1) false))
    · refine ⟨Nat.zero_le _,by simp,fun j hj=>⟨fun h=>absurd h (at_rep _ _),?_⟩⟩
      rintro ⟨r,_,h,_⟩
      dsimp only at h
      omega
    · refine fzB (k:=11) (b:=28) (m:=m + 1) (p:=(List.replicate (m + 1) false).set 0 true) rfl rfl (by simp) (by omega) ?_
      rw [e]
      dsimp only
      refine wkM [(50,5)] [] rfl ?_ ?_ rfl ?_
      · intro p hp;simp only [List.mem_cons,List.not_mem_nil,or_false] at hp;rcases hp with rfl | rfl<;>first | exact ⟨by omega,.inr ⟨rfl,_,rfl,.data rfl⟩⟩ | exact ⟨by omega,.inr ⟨rfl,_,rfl,.data encB_isD⟩⟩
      · intro q hq;simp only [List.mem_cons,List.not_mem_nil,or_false] at hq;rcases hq with rfl<;>rfl
      · repeat' (first|exact FWk.nil|(apply FWk.i;rfl;(first|rfl|omega|(simp;done)))|(apply FWk.sl;rfl;rfl;rfl;rfl;omega;rfl)|(apply FWk.ptr;rfl;rfl;rfl;omega;rfl)|(apply FWk.d;rfl;rfl))
    rintro ⟨kk,p⟩ K ⟨hk1,hpl,hp⟩ hK
    dsimp only at hk1 hpl hp hK ⊢
    rcases Nat.lt_or_ge last kk with hgt | hlek
    · have ek : kk=last + 1:=by omega
      subst ek
      have e2 : p=lenS (L (.node k a b c d mnN mx subs)) m:=lenS_eq hpl fun j hj=>by rw [hp j hj,hfin j hj]
      repeat' (first|(apply r_mvV;rfl)|(apply r_mvSL;rfl)|(apply r_leq;rfl;rfl;(first|(apply dT;omega)|(apply dF;omega)|rfl))|(apply r_nilK)|(apply k_V;rfl)|(apply k_PL;rfl)|(apply k_S;rfl)|(apply k_SL;rfl)|(apply k_nil)|(apply e_ret;rfl)|(apply w_seq)|(apply w_ops;((conv=>lhs;simp only [Nat.reduceAdd])<;>rfl))|(apply w_condF;rfl)|(apply e_thenN)|(apply e_thenX)|(apply e_blkN)|(apply e_blkE)|(apply w_exit)|(apply w_ret))
      rw [← e2]
      exact retSB rfl hpl
    have hj98:=join98_good (lenS (powL (L u) kk) m) (lenS (L u) m) (lenS_len _ _) (lenS_len _ _) (by omega)
    have ej : joinB (lenS (powL (L u) kk) m) (lenS (L u) m)=lenS (powL (L u) (kk + 1)) m:=by
      rw [joinB_lenS]
      exact lenS_congr (fun w=>(powL_snoc (L u) kk w).symm) m
    rw [ej] at hj98
    by_cases hmk : mnN≤kk
    · have hfin2 : ∀ p2,Ored p (lenS (powL (L u) kk) m) p2 (m + 1)→∀ j,j≤m→(At p2 j↔∃ r : Nat,mnN≤r∧r < kk + 1∧∃ w,powL (L u) r w∧w.length=j):=by
        intro p2 h j hj
        rw [h.2 j,at_lenS,hp j hj]
        constructor
        · rintro (⟨r,g1,g2,g3⟩ | ⟨_,_,g3⟩)
          · exact ⟨r,g1,by omega,g3⟩
          · exact ⟨kk,hmk,by omega,g3⟩
        · rintro ⟨r,g1,g2,g3⟩
          by_cases er : r=kk
          · subst er;exact .inr ⟨by omega,hj,g3⟩
          · exact .inl ⟨r,g1,by omega,g3⟩
      have hql:=lenS_len (powL (L u) kk) m
      generalize lenS (powL (L u) kk) m=q at hj98 hfin2 hql ⊢
      repeat' (first|(apply r_mvV;rfl)|(apply r_faddL;rfl)|(apply r_ldL;rfl;rfl;rfl)|(apply r_leq;rfl;rfl;(first|(apply dT;omega)|(apply dF;omega)|rfl))|(apply r_geq;rfl;rfl;(first|(apply dT;omega)|(apply dF;omega)|rfl))|(apply r_nilK)|(apply k_V;rfl)|(apply k_PL;rfl)|(apply k_S;rfl)|(apply k_SL;rfl)|(apply k_nil)|(apply w_seq)|(apply w_ops;((conv=>lhs;simp only [Nat.reduceAdd])<;>rfl))|(apply w_condT;rfl)|(apply e_thenN)|(apply w_block)|(apply w_skip))
      apply w_loopI (ι:=Nat × List Bool) (S:=fun z=>⟨(((((((Fr.nil.put 1 (.i m)).put 2 (.ptrL 1 0)).put 5 (.slL 50 0 (m + 1) 1)).put 10 (.d (.sl (encB (lenS (L u) m)) (m + 1)))).put 11 (.d (.sl (encB q) (m + 1)))).put 12 (.i last)).put 13 (.i kk)).put 14 (.i z.1),rowsOf [(1,[.i k,.d (.val (.int .u64 a)),.d (.val (.int .u64 b)),.d (.val (.int .u64 c)),.d (.val (.int .u64 d)),.i mnN,.i mx,.d (.sl (encL subs) subs.length)]),(50,(encB z.2).map AV.d)],Frz.buts 200 [50],200⟩) (m:=fun z=>m + 1 - z.1) (I:=fun z=>z.1≤m + 1∧Ored p q z.2 z.1) (i0:=(0,p))
      · exact ⟨Nat.zero_le _,.zero _ _⟩
      · dsimp only
        refine wkM [] [] rfl ?_ ?_ rfl ?_
        · intro p hp;simp only [List.mem_cons,List.not_mem_nil,or_false] at hp;rcases hp with rfl | rfl<;>first | exact ⟨by omega,.inr ⟨rfl,_,rfl,.data rfl⟩⟩ | exact ⟨by omega,.inr ⟨rfl,_,rfl,.data encB_isD⟩⟩
        · intro q hq;simp only [List.mem_cons,List.not_mem_nil,or_false] at hq;rcases hq with rfl<;>rfl
        · repeat' (first|exact FWk.nil|(apply FWk.i;rfl;(first|rfl|omega|(simp;done)))|(apply FWk.sl;rfl;rfl;rfl;rfl;omega;rfl)|(apply FWk.ptr;rfl;rfl;rfl;omega;rfl)|(apply FWk.d;rfl;rfl))
      rintro ⟨j,p2⟩ K2 ⟨hj,ho⟩ hK2
      dsimp only at hj ho hK2 ⊢
      have hp2 : p2.length=m + 1:=ho.1.trans hpl
      rcases Nat.lt_or_ge j (m + 1) with hlj | hgj
      · have hgp : p2[j]?=some (p2.getD j false):=by rw [List.getD_eq_getElem?_getD,List.getElem?_eq_getElem (by omega)];rfl
        have hgq : q[j]?=some (q.getD j false):=by rw [List.getD_eq_getElem?_getD,List.getElem?_eq_getElem (by omega)];rfl
        have hst:=ho.step (by omega)
        have fin : ∀ v fr C Z nx,v=(p2.getD j false || q.getD j false)→Wk ⟨fr,C,Z,nx⟩ ⟨(((((((Fr.nil.put 1 (.i m)).put 2 (.ptrL 1 0)).put 5 (.slL 50 0 (m + 1) 1)).put 10 (.d (.sl (encB (lenS (L u) m)) (m + 1)))).put 11 (.d (.sl (encB q) (m + 1)))).put 12 (.i last)).put 13 (.i kk)).put 14 (.i ((j + 1 : Nat) : Int)),rowsOf [(1,[.i k,.d (.val (.int .u64 a)),.d (.val (.int .u64 b)),.d (.val (.int .u64 c)),.d (.val (.int .u64 d)),.i mnN,.i mx,.d (.sl (encL subs) subs.length)]),(50,(encB (p2.set j v)).map AV.d)],Frz.buts 200 [50],200⟩→K2 ⟨fr,C,Z,nx⟩:=by
          intro v fr C Z nx hv hw
          subst hv
          exact hK2 (j + 1,_) fr C Z nx ⟨by dsimp only;omega,hst⟩ (by dsimp only;omega) hw
        generalize p2.getD j false=v1 at hgp fin
        generalize q.getD j false=v2 at hgq fin
        cases v1
        all_goals
          repeat' (first|(apply r_mvV;rfl)|(apply r_mvS;rfl)|(apply r_mvSL;rfl)|(apply r_ixL (j:=j);rfl;rfl;omega)|(apply r_ldBL (j:=j);rfl;rfl;exact hgp)|(apply r_ixB' (j:=j);rfl;rfl;exact hlj;exact hql)|(apply r_ldB (j:=j);rfl;exact hgq)|(apply r_stB (j:=j);rfl;rfl;rfl;rfl;omega)|(apply r_leq;rfl;rfl;(first|(apply dT;omega)|(apply dF;omega)|rfl))|(apply r_add;rfl;rfl;rfl;omega)|(apply r_pickT;rfl)|(apply r_pickF;rfl)|(apply r_gT;rfl)|(apply r_gF';rfl;rfl)|(apply r_nilK)|(apply k_V;rfl)|(apply k_PL;rfl)|(apply k_S;rfl)|(apply k_SL;rfl)|(apply k_nil)|(apply w_seq)|(apply w_ops;((conv=>lhs;simp only [Nat.reduceAdd])<;>rfl))|(apply w_condT;rfl)|(apply e_thenN)|(apply w_block)|(apply e_blkN)|(apply w_skip))
          apply e_thenK
          refine fin _ _ _ _ _ (by first | rfl | simp) ?_
          refine wkM [] [] rfl ?_ ?_ rfl ?_
          · intro p hp;simp only [List.mem_cons,List.not_mem_nil,or_false] at hp;rcases hp with rfl | rfl<;>first | exact ⟨by omega,.inr ⟨rfl,_,rfl,.data rfl⟩⟩ | exact ⟨by omega,.inr ⟨rfl,_,rfl,.data encB_isD⟩⟩
          · intro q hq;simp only [List.mem_cons,List.not_mem_nil,or_false] at hq;rcases hq with rfl<;>rfl
          · repeat' (first|exact FWk.nil|(apply FWk.i;rfl;(first|rfl|omega|(simp;done)))|(apply FWk.sl;rfl;rfl;rfl;rfl;omega;rfl)|(apply FWk.ptr;rfl;rfl;rfl;omega;rfl)|(apply FWk.d;rfl;rfl))
      · have ej2 : j=m + 1:=by omega
        subst ej2
        have e2:=hfin2 p2 ho
        repeat' (first|(apply r_mvV;rfl)|(apply r_mvS;rfl)|(apply r_callA;rfl;rfl;exact hj98)|(apply r_leq;rfl;rfl;(first|(apply dT;omega)|(apply dF;omega)|rfl))|(apply r_add;rfl;rfl;rfl;omega)|(apply r_nilK)|(apply k_V;rfl)|(apply k_PL;rfl)|(apply k_S;rfl)|(apply k_SL;rfl)|(apply k_nil)|(apply w_seq)|(apply w_ops;((conv=>lhs;simp only [Nat.reduceAdd])<;>rfl))|(apply w_condF;rfl)|(apply e_thenN)|(apply e_thenX)|(apply e_blkN)|(apply e_blkE)|(apply w_exit))
        apply e_thenK
        apply hK (kk + 1,p2)
        · exact ⟨by dsimp only;omega,hp2,e2⟩
        · dsimp only;omega
        · dsimp only
          refine Wk.f (wkM [] [] rfl ?_ ?_ rfl ?_)
          · intro p hp;simp only [List.mem_cons,List.not_mem_nil,or_false] at hp;rcases hp with rfl | rfl<;>first | exact ⟨by omega,.inr ⟨rfl,_,rfl,.data rfl⟩⟩ | exact ⟨by omega,.inr ⟨rfl,_,rfl,.data encB_isD⟩⟩
          · intro q hq;simp only [List.mem_cons,List.not_mem_nil,or_false] at hq;rcases hq with rfl<;>rfl
          · repeat' (first|exact FWk.nil|(apply FWk.i;rfl;(first|rfl|omega|(simp;done)))|(apply FWk.sl;rfl;rfl;rfl;rfl;omega;rfl)|(apply FWk.ptr;rfl;rfl;rfl;omega;rfl)|(apply FWk.d;rfl;rfl))
    · repeat' (first|(apply r_mvV;rfl)|(apply r_mvS;rfl)|(apply r_faddL;rfl)|(apply r_callA;rfl;rfl;exact hj98)|(apply r_ldL;rfl;rfl;rfl)|(apply r_leq;rfl;rfl;(first|(apply dT;omega)|(apply dF;omega)|rfl))|(apply r_geq;rfl;rfl;(first|(apply dT;omega)|(apply dF;omega)|rfl))|(apply r_add;rfl;rfl;rfl;omega)|(apply r_nilK)|(apply k_V;rfl)|(apply k_PL;rfl)|(apply k_S;rfl)|(apply k_SL;rfl)|(apply k_nil)|(apply w_seq)|(apply w_ops;((conv=>lhs;simp only [Nat.reduceAdd])<;>rfl))|(apply w_condT;rfl)|(apply w_condF;rfl)|(apply e_thenN)|(apply w_block)|(apply e_blkN)|(apply w_skip))
      apply e_thenK
      apply hK (kk + 1,p)
      · refine ⟨by dsimp only;omega,hpl,fun j hj=>?_⟩
        rw [hp j hj]
        dsimp only
        constructor
        · rintro ⟨r,g1,g2,g3⟩;omega
        · rintro ⟨r,g1,g2,g3⟩;omega
      · dsimp only;omega
      · dsimp only
        refine Wk.f (wkM [] [] rfl ?_ ?_ rfl ?_)
        · intro p hp;simp only [List.mem_cons,List.not_mem_nil,or_false] at hp;rcases hp with rfl | rfl<;>first | exact ⟨by omega,.inr ⟨rfl,_,rfl,.data rfl⟩⟩ | exact ⟨by omega,.inr ⟨rfl,_,rfl,.data encB_isD⟩⟩
        · intro q hq;simp only [List.mem_cons,List.not_mem_nil,or_false] at hq;rcases hq with rfl<;>rfl
        · repeat' (first|exact FWk.nil|(apply FWk.i;rfl;(first|rfl|omega|(simp;done)))|(apply FWk.sl;rfl;rfl;rfl;rfl;omega;rfl)|(apply FWk.ptr;rfl;rfl;rfl;omega;rfl)|(apply FWk.d;rfl;rfl))
noncomputable def nullS (t : T) : Bool:=@decide (L t []) (Classical.propDecidable _)
theorem null72_good (t : T) (hc : t.cnt≤1000000) (hok : okT t) : Good Try.prog 72 [nodeA t] none (.b (nullS t)) none none:=by
  have h:=len49_good 1000000 t hc (Nat.le_refl _) hok 0 (by omega)
  have h0 : (lenS (L t) 0)[0]?=some (nullS t):=by
    have h1:=at_lenS (L t) 0 0
    have hl:=lenS_len (L t) 0
    have h2 : (lenS (L t) 0)[0]?=some ((lenS (L t) 0).getD 0 false):=by rw [List.getD_eq_getElem?_getD,List.getElem?_eq_getElem (by omega)];rfl
    rw [h2]
    congr 1
    unfold At at h1
    rw [Bool.eq_iff_iff,h1]
    simp only [nullS,decide_eq_true_eq]
    constructor
    · rintro ⟨_,w,hw,hl⟩
      have : w=[]:=List.length_eq_zero_iff.1 hl
      subst this;exact hw
    · intro hw;exact ⟨Nat.le_refl _,[],hw,rfl⟩
  have hl:=lenS_len (L t) 0
  generalize nullS t=v at h0
  generalize lenS (L t) 0=q at h h0 hl
  obtain ⟨k,a,b,c,d,mn,mx,subs⟩:=t
  have e0 : nodeA (.node k a b c d mn mx subs)=.agg [.i k,.d (.val (.int .u64 a)),.d (.val (.int .u64 b)),.d (.val (.int .u64 c)),.d (.val (.int .u64 d)),.i mn,.i mx,.d (.sl (encL subs) subs.length)]:=rfl
  rw [e0] at h ⊢
  refine b72 (by simp) (by simp) (w_init ?_)
  unfold x72
  repeat' (first|(apply r_mvV;rfl)|(apply r_callA;rfl;rfl;exact h)|(apply r_ixB' (j:=0);rfl;rfl;omega;exact hl)|(apply r_ldB (j:=0);rfl;exact h0)|(apply r_ldL;rfl;rfl;rfl)|(apply r_box;((conv=>lhs;simp only [Nat.reduceAdd])<;>rfl);rfl;rfl;rfl)|(apply r_nilK)|(apply k_V;rfl)|(apply k_PL;rfl)|(apply k_nil)|(apply e_ret (vs:=[.d (.val _)]);rfl)|(apply w_seq)|(apply w_ops;((conv=>lhs;simp only [Nat.reduceAdd])<;>rfl))|(apply e_thenN)|(apply w_ret))
  exact retB rfl
end Go.Sv
