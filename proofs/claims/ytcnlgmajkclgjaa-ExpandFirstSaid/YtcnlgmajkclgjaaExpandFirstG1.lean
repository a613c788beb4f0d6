/- A part of the proof of the law ExpandFirst: that it answers true for every input, and that the input reads behind the call as before (no condition). -/
import Derived.Orders
import Derived.Below
import Derived.Laws.AppendOwn
import Derived.Laws.MakeOwn
import Derived.Laws.Entries
import Derived.Laws.Tables
import Derived.Laws.CopyRow
import Derived.Great.BuildSlice
import Derived.Laws.StructEq
set_option linter.all false
set_option linter.unusedSectionVars false
set_option linter.unusedVariables false
set_option linter.unusedSimpArgs false
namespace Go.Sv
open Go

inductive DV where
  | val (v : Value)
  | ptr (cs : List DV) (off : Nat)
  | sl (cs : List DV) (len : Nat)
  | fn (f : FuncId) (caps : List DV)
  deriving Inhabited

inductive AV where
  | d (x : DV)
  | agg (cs : List AV)
  | tup (vs : List AV)
  | ptrL (b off : Nat)
  | slL (b off len sz : Nat)
  | fnL (f : FuncId) (caps : List AV)
  | dead
  deriving Inhabited

abbrev Heap:=Nat→Option (List AV)
abbrev Frz:=Nat→Bool

def Heap.put (C : Heap) (b : Nat) (r : List AV) : Heap:=fun k=>if b=k then some r else C k
def Heap.del (C : Heap) (b : Nat) : Heap:=fun k=>if b=k then none else C k
def Heap.nil : Heap:=fun _=>none
def Frz.nil : Frz:=fun _=>false
def Frz.add (Z : Frz) (l : List Nat) : Frz:=fun k=>Z k || l.contains k


inductive RD (w : World) (A : Nat→Prop) : Value→DV→Prop
  | val (v : Value) (h : v.oneCell'=true) : RD w A v (.val v)
  | ptr (blk b0 off : Nat) (cs : List DV) (f : Nat→Value) (hA : ¬ A blk) (hn : 0 < cs.length)
      (hc : ∀ j,j < cs.length→w.cell? ⟨blk,b0 + j,none⟩=some (f j))
      (hr : ∀ j (h : j < cs.length),RD w A (f j) (cs[j])) : RD w A (.pointer (some ⟨blk,b0 + off,none⟩)) (.ptr cs off)
  | sl (blk b0 len cap : Nat) (cs : List DV) (f : Nat→Value) (hA : ¬ A blk) (hn : 0 < cs.length) (hl : len≤cap)
      (hc : ∀ j,j < cs.length→w.cell? ⟨blk,b0 + j,none⟩=some (f j))
      (hr : ∀ j (h : j < cs.length),RD w A (f j) (cs[j])) : RD w A (.slice (some ⟨blk,b0,none⟩) len cap) (.sl cs len)
  | sl0 (a : Option Addr) (cap : Nat) : RD w A (.slice a 0 cap) (.sl [] 0)
  | fn (f : FuncId) (vs : Array Value) (caps : List DV) (hs : vs.size=caps.length)
      (hr : ∀ j (h : j < caps.length),RD w A (vs.getD j undef) (caps[j])) : RD w A (.func (.func f) #[] vs) (.fn f caps)

theorem RD.mono {w w' : World} {A A' : Nat→Prop} (hA : ∀ b,b < w.heap.size→A' b→A b)
    (hw : ∀ b,b < w.heap.size→¬ A b→w'.heap[b]?=w.heap[b]?) {v : Value} {x : DV} (h : RD w A v x) : RD w' A' v x:=by
  induction h with
  | val v h=>exact .val v h
  | ptr blk b0 off cs f hA0 hn hc hr ih =>
    have hb : blk < w.heap.size:=World.block_lt_of_cell? w _ (hc 0 hn)
    refine .ptr blk b0 off cs f (fun h=>hA0 (hA _ hb h)) hn (fun j hj=>?_) ih
    rw [← hc j hj]
    exact World.cell?_of_block (hw blk hb hA0)
  | sl blk b0 len cap cs f hA0 hn hl hc hr ih =>
    have hb : blk < w.heap.size:=World.block_lt_of_cell? w _ (hc 0 hn)
    refine .sl blk b0 len cap cs f (fun h=>hA0 (hA _ hb h)) hn hl (fun j hj=>?_) ih
    rw [← hc j hj]
    exact World.cell?_of_block (hw blk hb hA0)
  | sl0 a cap=>exact .sl0 a cap
  | fn f vs caps hs hr ih=>exact .fn f vs caps hs ih

theorem RD.one {w : World} {A : Nat→Prop} {v : Value} {x : DV} (h : RD w A v x) : v.oneCell'=true:=by
  cases h<;>first | assumption | rfl


inductive RA (w : World) (A : Nat→Prop) (μ : Nat→Option Nat) (U : Nat→Prop) : Value→AV→Prop
  | d (v : Value) (x : DV) (h : RD w A v x) : RA w A μ U v (.d x)
  | agg (vs : Array Value) (cs : List AV) (hs : vs.size=cs.length)
      (hr : ∀ j (h : j < cs.length),RA w A μ U (vs.getD j undef) (cs[j])) : RA w A μ U (.agg vs) (.agg cs)
  | tup (vs : Array Value) (cs : List AV) (hs : vs.size=cs.length)
      (hr : ∀ j (h : j < cs.length),RA w A μ U (vs.getD j undef) (cs[j])) : RA w A μ U (.tuple vs) (.tup cs)
  | ptrL (b off blk : Nat) (hU : U b) (hm : μ b=some blk) : RA w A μ U (.pointer (some ⟨blk,off,none⟩)) (.ptrL b off)
  | slL (b off len sz blk cap n : Nat) (e : TypeId) (hU : U b) (hm : μ b=some blk) (hl : len≤cap)
      (hs : w.shape? blk=some (e,n)) (hn : off + cap * sz≤n) : RA w A μ U (.slice (some ⟨blk,off,none⟩) len cap) (.slL b off len sz)
  | slN (b sz : Nat) (hU : U b) (hm : μ b=none) : RA w A μ U (.slice none 0 0) (.slL b 0 0 sz)
  | fnL (f : FuncId) (vs : Array Value) (cs : List AV) (hs : vs.size=cs.length)
      (hr : ∀ j (h : j < cs.length),RA w A μ U (vs.getD j undef) (cs[j])) : RA w A μ U (.func (.func f) #[] vs) (.fnL f cs)
  | dead (v : Value) : RA w A μ U v .dead

theorem shape_lt {w : World} {b : Nat} {s : TypeId × Nat} (h : w.shape? b=some s) : b < w.heap.size:=by
  unfold World.shape? at h
  rcases Nat.lt_or_ge b w.heap.size with h' | h'
  · exact h'
  · simp [Array.getElem?_eq_none h'] at h

theorem RA.mono' {w w' : World} {A A' : Nat→Prop} {μ μ' : Nat→Option Nat} {U U' : Nat→Prop}
    (hA : ∀ b,b < w.heap.size→A' b→A b)
    (hw : ∀ b,b < w.heap.size→¬ A b→w'.heap[b]?=w.heap[b]?)
    (hs : ∀ b e n,w.shape? b=some (e,n)→∃ e' n',w'.shape? b=some (e',n')∧n≤n')
    (hU : ∀ b,U b→U' b) (hμ : ∀ b,U b→μ' b=μ b) {v : Value} {x : AV} (h : RA w A μ U v x) : RA w' A' μ' U' v x:=by
  induction h with
  | d v x h=>exact .d v x (h.mono hA hw)
  | agg vs cs h1 hr ih=>exact .agg vs cs h1 ih
  | tup vs cs h1 hr ih=>exact .tup vs cs h1 ih
  | ptrL b off blk h1 h2=>exact .ptrL b off blk (hU b h1) ((hμ b h1).trans h2)
  | slL b off len sz blk cap n e h1 h2 h3 h4 h5 =>
    obtain ⟨e',n',h6,h7⟩:=hs _ _ _ h4
    exact .slL b off len sz blk cap n' e' (hU b h1) ((hμ b h1).trans h2) h3 h6 (Nat.le_trans h5 h7)
  | slN b sz h1 h2=>exact .slN b sz (hU b h1) ((hμ b h1).trans h2)
  | fnL f vs cs h1 hr ih=>exact .fnL f vs cs h1 ih
  | dead v=>exact .dead v

theorem RA.mono {w w' : World} {A A' : Nat→Prop} {μ μ' : Nat→Option Nat} {U U' : Nat→Prop}
    (hA : ∀ b,b < w.heap.size→A' b→A b)
    (hw : ∀ b,b < w.heap.size→¬ A b→w'.heap[b]?=w.heap[b]?)
    (hs : ∀ b s,w.shape? b=some s→w'.shape? b=some s)
    (hU : ∀ b,U b→U' b) (hμ : ∀ b,U b→μ' b=μ b) {v : Value} {x : AV} (h : RA w A μ U v x) : RA w' A' μ' U' v x :=
  h.mono' hA hw (fun b e n hb=>⟨e,n,hs b _ hb,Nat.le_refl _⟩) hU hμ

def AV.one : AV→Bool
  | .d _ | .ptrL .. | .slL .. | .fnL ..=>true
  | _=>false

theorem RA.one {w : World} {A : Nat→Prop} {μ : Nat→Option Nat} {U : Nat→Prop} {v : Value} {x : AV}
    (h : RA w A μ U v x) (hx : x.one=true) : v.oneCell'=true:=by
  cases h<;>first | (simp [AV.one] at hx;done) | rfl | (rename_i h;exact h.one)


def Av (S : Nat→Prop) (C : Heap) (Z : Frz) (μ : Nat→Option Nat) : Nat→Prop :=
  fun k=>S k ∨ ∃ b,(C b).isSome∧Z b=false∧μ b=some k

def RowOK (w : World) (A : Nat→Prop) (μ : Nat→Option Nat) (U : Nat→Prop) (r : List AV) (m : Option Nat) : Prop :=
  (r=[]∧m=none) ∨ ∃ blk c e,m=some blk∧w.heap[blk]?=some (.cells c e (0,0))∧r.length≤c.size ∧
    ∀ j (h : j < r.length),RA w A μ U (c.getD j undef) (r[j])

theorem RowOK.mono {w w' : World} {A A' : Nat→Prop} {μ μ' : Nat→Option Nat} {U U' : Nat→Prop} {r : List AV} {m m' : Option Nat}
    (hra : ∀ v x,RA w A μ U v x→RA w' A' μ' U' v x) (hm : m'=m) (hb : ∀ blk,m=some blk→w'.heap[blk]?=w.heap[blk]?)
    (h : RowOK w A μ U r m) : RowOK w' A' μ' U' r m':=by
  subst hm
  rcases h with h | ⟨blk,c,e,h1,h2,h3,h4⟩
  · exact .inl h
  · exact .inr ⟨blk,c,e,h1,(hb blk h1).trans h2,h3,fun j hj=>hra _ _ (h4 j hj)⟩

structure HOK (w0 : World) (S Wr : Nat→Prop) (μ : Nat→Option Nat) (U : Nat→Prop) (C : Heap) (Z : Frz) (w : World) : Prop where
  os : w.os=w0.os
  tape : w.tape=w0.tape
  output : w.output=w0.output
  size : w0.heap.size≤w.heap.size
  keep : ∀ k,k < w0.heap.size→¬ Wr k→w.heap[k]?=w0.heap[k]?
  used : ∀ b r,C b=some r→U b
  row : ∀ b r,C b=some r→RowOK w (Av S C Z μ) μ U r (μ b)
  own : ∀ b r k,C b=some r→μ b=some k→w0.heap.size≤k ∨ Wr k
  inj : ∀ b b' r r' k,C b=some r→C b'=some r'→μ b=some k→μ b'=some k→b=b'

structure Step (S : Nat→Prop) (w : World) (C : Heap) (Z : Frz) (μ : Nat→Option Nat) (U : Nat→Prop)
    (w' : World) (C' : Heap) (Z' : Frz) (μ' : Nat→Option Nat) (U' : Nat→Prop) : Prop where
  ra : ∀ v x,RA w (Av S C Z μ) μ U v x→RA w' (Av S C' Z' μ') μ' U' v x

theorem HOK.lt {w0 : World} {S Wr : Nat→Prop} {μ : Nat→Option Nat} {U : Nat→Prop} {C : Heap} {Z : Frz} {w : World}
    (h : HOK w0 S Wr μ U C Z w) {b k : Nat} {r : List AV} (hc : C b=some r) (hm : μ b=some k) : k < w.heap.size:=by
  rcases h.row b r hc with ⟨_,h2⟩ | ⟨blk,c,e,h1,h2,_⟩
  · rw [hm] at h2;cases h2
  · rw [hm] at h1;cases h1
    exact (Array.getElem?_eq_some_iff.1 h2).1

section changes
variable {w0 : World} {S Wr : Nat→Prop} {μ : Nat→Option Nat} {U : Nat→Prop} {C : Heap} {Z : Frz} {w : World}

theorem HOK.alloc (h : HOK w0 S Wr μ U C Z w) {id : Nat} (hid : ¬ U id) (c : Array Value) (e : TypeId) (r : List AV)
    (hr : r.length≤c.size) (hc : ∀ j (h : j < r.length),RA w (Av S C Z μ) μ U (c.getD j undef) (r[j])) {w' : World}
    (hw : w'.heap=w.heap.push (.cells c e)) (hos : w'.os=w.os) (htape : w'.tape=w.tape) (hout : w'.output=w.output) :
    HOK w0 S Wr (fun b=>if id=b then some w.heap.size else μ b) (fun b=>U b ∨ b=id) (C.put id r) Z w' ∧
    Step S w C Z μ U w' (C.put id r) Z (fun b=>if id=b then some w.heap.size else μ b) (fun b=>U b ∨ b=id):=by
  have hold : ∀ b,b < w.heap.size→w'.heap[b]?=w.heap[b]?:=fun b hb=>by
    rw [hw,Array.getElem?_push,if_neg (by omega)]
  have hCid : C id=none:=by
    cases hh : C id with
    | none=>rfl
    | some r=>exact absurd (h.used id r hh) hid
  have hra : ∀ v x,RA w (Av S C Z μ) μ U v x →
      RA w' (Av S (C.put id r) Z (fun b=>if id=b then some w.heap.size else μ b)) (fun b=>if id=b then some w.heap.size else μ b) (fun b=>U b ∨ b=id) v x:=by
    intro v x hx
    refine hx.mono ?_ (fun b hb _=>hold b hb) ?_ (fun b hb=>.inl hb) ?_
    · rintro b hb (hs | ⟨b',h1,h2,h3⟩)
      · exact .inl hs
      · simp only [Heap.put] at h1
        by_cases hne : id=b'
        · simp only [hne,if_true] at h3;cases h3;omega
        · simp only [hne,if_false] at h1 h3
          exact .inr ⟨b',h1,h2,h3⟩
    · intro b s hs
      have hb:=shape_lt hs
      unfold World.shape? at *
      rw [hold b hb];exact hs
    · intro b hb
      have hne : id ≠ b:=fun h=>hid (h ▸ hb)
      exact if_neg hne
  refine ⟨⟨hos.trans h.os,htape.trans h.tape,hout.trans h.output,?_,?_,?_,?_,?_,?_⟩,⟨hra⟩⟩
  · rw [hw];have:=h.size;simp;omega
  · intro k hk hn
    rw [hold k (by have:=h.size;omega)]
    exact h.keep k hk hn
  · intro b r' hb
    simp only [Heap.put] at hb
    split at hb
    · rename_i e;exact .inr e.symm
    · exact .inl (h.used b r' hb)
  · intro b r' hb
    simp only [Heap.put] at hb
    split at hb
    · rename_i he
      cases hb
      subst he
      refine .inr ⟨w.heap.size,c,e,if_pos rfl,?_,hr,fun j hj=>hra _ _ (hc j hj)⟩
      rw [hw,Array.getElem?_push,if_pos rfl]
    · rename_i hne
      refine (h.row b r' hb).mono hra (if_neg hne) (fun blk hm=>hold blk ?_)
      exact h.lt hb hm
  · intro b r' k hb hm
    simp only [Heap.put] at hb
    split at hb
    · rename_i e
      rw [if_pos e] at hm;cases hm
      exact .inl h.size
    · rename_i hne
      rw [if_neg hne] at hm
      exact h.own b r' k hb hm
  · intro b b' r1 r2 k h1 h2 h3 h4
    simp only [Heap.put] at h1 h2
    by_cases e1 : id=b
    · by_cases e2 : id=b'
      · exact e1.symm.trans e2
      · rw [if_pos e1] at h3;rw [if_neg e2] at h4 h2
        cases h3
        have:=h.lt h2 h4
        omega
    · by_cases e2 : id=b'
      · rw [if_neg e1] at h3 h1;rw [if_pos e2] at h4
        cases h4
        have:=h.lt h1 h3
        omega
      · rw [if_neg e1] at h3 h1;rw [if_neg e2] at h4 h2
        exact h.inj b b' r1 r2 k h1 h2 h3 h4

theorem HOK.write (h : HOK w0 S Wr μ U C Z w) {b blk : Nat} {r0 r : List AV} (hb : C b=some r0) (hz : Z b=false) (hm : μ b=some blk)
    {c c' : Array Value} {e : TypeId} (h0 : w.heap[blk]?=some (.cells c e (0,0))) (hsz : c'.size=c.size)
    (hr : r.length≤c'.size) (hc : ∀ j (h : j < r.length),RA w (Av S C Z μ) μ U (c'.getD j undef) (r[j])) {w' : World}
    (hw : w'.heap[blk]?=some (.cells c' e (0,0))) (hoth : ∀ k,k ≠ blk→w'.heap[k]?=w.heap[k]?) (hsize : w'.heap.size=w.heap.size)
    (hos : w'.os=w.os) (htape : w'.tape=w.tape) (hout : w'.output=w.output) :
    HOK w0 S Wr μ U (C.put b r) Z w'∧Step S w C Z μ U w' (C.put b r) Z μ U:=by
  have hAv : ∀ k,Av S (C.put b r) Z μ k↔Av S C Z μ k:=by
    intro k
    have : ∀ b',((C.put b r) b').isSome=(C b').isSome:=fun b'=>by
      simp only [Heap.put];split
      · rename_i e;subst e;simp [hb]
      · rfl
    simp only [Av,this]
  have hblk : Av S C Z μ blk:=.inr ⟨b,by simp [hb],hz,hm⟩
  have hra : ∀ v x,RA w (Av S C Z μ) μ U v x→RA w' (Av S (C.put b r) Z μ) μ U v x:=by
    intro v x hx
    refine hx.mono (fun k _ hk=>(hAv k).1 hk) (fun k _ hk=>hoth k (fun e=>hk (e ▸ hblk))) ?_ (fun _ h=>h) (fun _ _=>rfl)
    intro k s hs
    by_cases hk : k=blk
    · subst hk
      unfold World.shape? at *
      rw [h0] at hs;rw [hw]
      simp only [hsz];exact hs
    · unfold World.shape? at *
      rw [hoth k hk];exact hs
  refine ⟨⟨hos.trans h.os,htape.trans h.tape,hout.trans h.output,?_,?_,?_,?_,?_,?_⟩,⟨hra⟩⟩
  · rw [hsize];exact h.size
  · intro k hk hn
    rw [hoth k (fun e=>?_)]
    · exact h.keep k hk hn
    · subst e
      rcases h.own b r0 k hb hm with h1 | h1
      · omega
      · exact hn h1
  · intro b' r' hb'
    simp only [Heap.put] at hb'
    split at hb'
    · rename_i e;subst e;exact h.used b r0 hb
    · exact h.used b' r' hb'
  · intro b' r' hb'
    simp only [Heap.put] at hb'
    split at hb'
    · rename_i e'
      cases hb'
      subst e'
      exact .inr ⟨blk,c',e,hm,hw,hr,fun j hj=>hra _ _ (hc j hj)⟩
    · rename_i hne
      refine (h.row b' r' hb').mono hra rfl (fun k hk=>hoth k (fun e=>?_))
      subst e
      exact hne (h.inj b b' r0 r' k hb hb' hm hk)
  · intro b' r' k hb' hm'
    simp only [Heap.put] at hb'
    split at hb'
    · rename_i e;subst e;exact h.own b r0 k hb hm'
    · exact h.own b' r' k hb' hm'
  · intro b1 b2 r1 r2 k h1 h2 h3 h4
    simp only [Heap.put] at h1 h2
    have g : ∀ b' r',(if b=b' then some r else C b')=some r'→∃ r'',C b'=some r'':=fun b' r' hh=>by
      split at hh
      · rename_i e;subst e;exact ⟨r0,hb⟩
      · exact ⟨r',hh⟩
    obtain ⟨r1',h1'⟩:=g _ _ h1
    obtain ⟨r2',h2'⟩:=g _ _ h2
    exact h.inj b1 b2 r1' r2' k h1' h2' h3 h4

theorem HOK.same (h : HOK w0 S Wr μ U C Z w) {w' : World} (hw : w'.heap=w.heap) (hos : w'.os=w.os) (htape : w'.tape=w.tape) (hout : w'.output=w.output) :
    HOK w0 S Wr μ U C Z w'∧Step S w C Z μ U w' C Z μ U:=by
  have hra : ∀ v x,RA w (Av S C Z μ) μ U v x→RA w' (Av S C Z μ) μ U v x:=fun v x hx =>
    hx.mono (fun _ _ h=>h) (fun b _ _=>by rw [hw]) (fun b s hs=>by unfold World.shape? at *;rw [hw];exact hs) (fun _ h=>h) (fun _ _=>rfl)
  exact ⟨⟨hos.trans h.os,htape.trans h.tape,hout.trans h.output,by rw [hw];exact h.size,fun k hk hn=>by rw [hw];exact h.keep k hk hn,
    h.used,fun b r hb=>(h.row b r hb).mono hra rfl (fun blk _=>by rw [hw]),h.own,h.inj⟩,⟨hra⟩⟩

theorem HOK.less (h : HOK w0 S Wr μ U C Z w) {C' : Heap} {Z' : Frz} (hC : ∀ b r,C' b=some r→C b=some r) (hZ : ∀ b,Z b=true→Z' b=true) :
    HOK w0 S Wr μ U C' Z' w∧Step S w C Z μ U w C' Z' μ U:=by
  have hra : ∀ v x,RA w (Av S C Z μ) μ U v x→RA w (Av S C' Z' μ) μ U v x:=fun v x hx=>by
    refine hx.mono ?_ (fun b _ _=>rfl) (fun b s hs=>hs) (fun _ h=>h) (fun _ _=>rfl)
    rintro b _ (h1 | ⟨b',h1,h2,h3⟩)
    · exact .inl h1
    · refine .inr ⟨b',?_,?_,h3⟩
      · obtain ⟨r,hr⟩:=Option.isSome_iff_exists.1 h1
        simp [hC b' r hr]
      · cases hz : Z b' with
        | false=>rfl
        | true=>rw [hZ b' hz] at h2;cases h2
  exact ⟨⟨h.os,h.tape,h.output,h.size,h.keep,fun b r hb=>h.used b r (hC b r hb),fun b r hb=>(h.row b r (hC b r hb)).mono hra rfl (fun _ _=>rfl),
    fun b r k hb=>h.own b r k (hC b r hb),fun b b' r r' k h1 h2=>h.inj b b' r r' k (hC b r h1) (hC b' r' h2)⟩,⟨hra⟩⟩

theorem HOK.more (h : HOK w0 S Wr μ U C Z w) {U' : Nat→Prop} (hU : ∀ b,U b→U' b) :
    HOK w0 S Wr μ U' C Z w∧Step S w C Z μ U w C Z μ U':=by
  have hra : ∀ v x,RA w (Av S C Z μ) μ U v x→RA w (Av S C Z μ) μ U' v x:=fun v x hx =>
    hx.mono (fun _ _ h=>h) (fun b _ _=>rfl) (fun b s hs=>hs) hU (fun _ _=>rfl)
  exact ⟨⟨h.os,h.tape,h.output,h.size,h.keep,fun b r hb=>hU b (h.used b r hb),fun b r hb=>(h.row b r hb).mono hra rfl (fun _ _=>rfl),h.own,h.inj⟩,⟨hra⟩⟩

theorem Step.trans {w' w'' : World} {C' C'' : Heap} {Z' Z'' : Frz} {μ' μ'' : Nat→Option Nat} {U' U'' : Nat→Prop}
    (h : Step S w C Z μ U w' C' Z' μ' U') (k : Step S w' C' Z' μ' U' w'' C'' Z'' μ'' U'') : Step S w C Z μ U w'' C'' Z'' μ'' U'' :=
  ⟨fun v x hx=>k.ra v x (h.ra v x hx)⟩
theorem Step.refl : Step S w C Z μ U w C Z μ U:=⟨fun _ _ h=>h⟩
end changes
theorem dT {p : Prop} [i : Decidable p] (h : p) : decide p = true := decide_eq_true h
theorem dF {p : Prop} [i : Decidable p] (h : ¬ p) : decide p = false := decide_eq_false h
end Go.Sv
namespace Go.Sv
open Go


abbrev Fr:=Nat→AV
def Fr.put (fr : Fr) (d : Nat) (v : AV) : Fr:=fun n=>if d=n then v else fr n
def Fr.nil : Fr:=fun _=>.dead
def Fr.putO (fr : Fr) (d : Option Nat) (v : AV) : Fr:=match d with | some d=>fr.put d v | none=>fr

inductive X where
  | t (n : Nat)
  | k (v : AV)
  deriving Inhabited

def X.ev (fr : Fr) : X→AV
  | .t n=>fr n
  | .k v=>v

def ofV : Value→AV
  | .agg cs=>if cs.toList.all (·.oneCell') then .agg (cs.toList.map fun c=>.d (.val c)) else .dead
  | .tuple _=>.dead
  | v=>.d (.val v)

inductive XI where
  | mv (x : X)
  | pick (c a b : X)
  | alloc (zs : List Value)
  | box (x : X)
  | build (zs : List Value) (ps : List (Nat × Nat × X))
  | mkrow (zs : List Value) (len sz : Nat) (ps : List (Nat × Nat × X))
  | load (n : Option Nat) (a : X)
  | store (n : Nat) (a x : X)
  | nilck (x : X)
  | arith (op : BinOp) (x y : X)
  | eqAgg (n : Nat) (neg : Bool) (x y : X)
  | beq (neg : Bool) (x y : X)
  | idT (x : X)
  | un (op : UnOp) (x : X)
  | conv (k : IntKind) (x : X)
  | fadd (k : Nat) (x : X)
  | fsub (off : Nat) (n : Option Nat) (x : X)
  | idxS (sz : Nat) (x i : X)
  | idxP (n sz : Nat) (x i : X)
  | idxT (x i : X)
  | mks (zs : List Value) (bytes : Nat) (len cap : X)
  | slS (sz : Nat) (x : X) (lo hi : Option X)
  | slT (x : X) (lo hi : Option X)
  | ext (x : X) (i : Nat)
  | lenT (x : X)
  | lenS (x : X)
  | app (zs : List Value) (bytes : Nat) (s x : X)
  | cpy (sz : Nat) (d s : X)
  | max (xs : List X)
  | min (xs : List X)
  | mkfn (f : FuncId) (caps : List X)
  | call (f : FuncId) (args : List X) (lp : Option Nat) (nw : Bool)
  | callv (g : X) (args : List X)
  | strB (x : X)
  | bad
  | storeA (n : Nat) (a x : X) (av : List Nat)
  | callA (f : FuncId) (args : List X) (j : Nat) (av : List Nat)
  | clr (zs : List Value) (x : X)
  deriving Inhabited


def arith (op : BinOp) (x y : Value) : Option Value :=
  match x,y with
  | .int k a,.int k' b =>
    match op with
    | .shl=>if 0≤b then some (.int k (k.wrap (a * 2 ^ (min b.toNat k.bits)))) else none
    | .shr=>if 0≤b then some (.int k (a.fdiv (2 ^ (min b.toNat k.bits)))) else none
    | op =>
      if k=k' then
        match op with
        | .add=>some (.int k (k.wrap (a + b)))
        | .sub=>some (.int k (k.wrap (a - b)))
        | .mul=>some (.int k (k.wrap (a * b)))
        | .quo=>if b=0 then none else some (.int k (k.wrap (a.tdiv b)))
        | .rem=>if b=0 then none else some (.int k (a.tmod b))
        | .and=>some (.int k (k.wrap (BitVec.ofInt k.bits a &&& BitVec.ofInt k.bits b).toNat))
        | .or=>some (.int k (k.wrap (BitVec.ofInt k.bits a ||| BitVec.ofInt k.bits b).toNat))
        | .xor=>some (.int k (k.wrap (BitVec.ofInt k.bits a ^^^ BitVec.ofInt k.bits b).toNat))
        | .andNot=>some (.int k (k.wrap (BitVec.ofInt k.bits a &&& ~~~BitVec.ofInt k.bits b).toNat))
        | .eql=>some (.bool (a == b))
        | .neq=>some (.bool (a != b))
        | .lss=>some (.bool (a < b))
        | .leq=>some (.bool (a≤b))
        | .gtr=>some (.bool (a > b))
        | .geq=>some (.bool (a ≥ b))
        | _=>none
      else none
  | .string a,.string b =>
    match op with
    | .add=>if ((a.size + b.size : Nat) : Int)≤9223372036854775807 then some (.string (a++b)) else none
    | .eql=>some (.bool (a.toList == b.toList))
    | .neq=>some (.bool !(a.toList == b.toList))
    | _=>none
  | _,_=>none

def unary (op : UnOp) (x : Value) : Option Value :=
  match op,x with
  | .not,.bool b=>some (.bool !b)
  | .neg,.int k n=>some (.int k (k.wrap (0 - n)))
  | .xor,.int k n=>some (.int k (k.wrap (BitVec.ofInt k.bits (if k.signed then -1 else k.max) ^^^ BitVec.ofInt k.bits n).toNat))
  | _,_=>none

def eqCells : List AV→List AV→Option Bool
  | [],[]=>some true
  | .d (.val (.int k a)) :: s,.d (.val (.int k' b)) :: t=>if k=k' then (eqCells s t).map fun r=>a == b && r else none
  | _,_=>none

def cellsOf : AV→Option (List AV)
  | .agg cs=>some cs
  | .tup _=>none
  | .dead=>none
  | x=>some [x]

def splice {α : Type} (r : List α) (off : Nat) (cs : List α) : List α:=r.take off++cs++r.drop (off + cs.length)

def fillA : List AV→List (Nat × Nat × Option (List AV))→Option (List AV)
  | cells,[]=>some cells
  | cells,(off,size,some vs) :: rest=>if vs.length=size∧off + vs.length≤cells.length then fillA (splice cells off vs) rest else none
  | _,(_,_,none) :: _=>none

def zeroA (zs : List Value) : List AV:=zs.map fun z=>.d (.val z)

def subA (cs : List AV) (off : Nat) : Option Nat→Option AV
  | none=>cs[off]?
  | some k=>if off + k≤cs.length then some (.agg ((cs.drop off).take k)) else none

def rowOf (C : Heap) : AV→Option (List AV × Nat)
  | .ptrL b off=>(C b).map fun r=>(r,off)
  | .d (.ptr cs off)=>some (cs.map AV.d,off)
  | _=>none

def intIn (n : Nat) : AV→Option Nat
  | .d (.val (.int _ i))=>if 0≤i∧i < n then some i.toNat else none
  | _=>none

def intUpto (n : Nat) : AV→Option Nat
  | .d (.val (.int _ i))=>if 0≤i∧i≤n then some i.toNat else none
  | _=>none

def srcOf (C : Heap) (sz : Nat) : AV→Option (List AV × Nat)
  | .d (.val (.slice none 0 0))=>some ([],0)
  | .d (.sl cs n)=>if cs.length=n * sz then some (cs.map AV.d,n) else none
  | .slL b off len sz'=>if sz'=sz then (C b).bind fun r=>if off + len * sz≤r.length then some ((r.drop off).take (len * sz),len) else none else none
  | _=>none

def intsA : List AV→Option (IntKind × List Int)
  | [.d (.val (.int k n))]=>some (k,[n])
  | .d (.val (.int k n)) :: t=>(intsA t).bind fun (k',l)=>if k=k' then some (k,n :: l) else none
  | _=>none

def maxI : List Int→Int
  | []=>0
  | x :: l=>l.foldl (fun a y=>if y > a then y else a) x
def minI : List Int→Int
  | []=>0
  | x :: l=>l.foldl (fun a y=>if y < a then y else a) x

def repl (zs : List AV) : Nat→List AV
  | 0=>[]
  | n + 1=>zs++repl zs n

def AV.iteB (t : Bool) (a b : AV) : AV:=if t then a else b

def hiOf (fr : Fr) (n : Nat) : Option X→Option Nat
  | none=>some n
  | some h=>intUpto n (h.ev fr)
def loOf (fr : Fr) (h : Nat) : Option X→Option Nat
  | none=>some 0
  | some l=>intUpto h (l.ev fr)

def xp (fr : Fr) : XI→Option AV
  | .mv x=>some (x.ev fr)
  | .pick c a b=>match c.ev fr with
    | .d (.val (.bool t))=>some (AV.iteB t (a.ev fr) (b.ev fr))
    | _=>none
  | .build zs ps=>(fillA (zeroA zs) (ps.map fun (o,s,x)=>(o,s,cellsOf (x.ev fr)))).map AV.agg
  | .nilck x=>match x.ev fr with
    | .ptrL b off=>some (.ptrL b off)
    | .d (.ptr cs off)=>some (.d (.ptr cs off))
    | _=>none
  | .arith op x y=>match x.ev fr,y.ev fr with
    | .d (.val a),.d (.val b)=>(arith op a b).map fun v=>.d (.val v)
    | _,_=>none
  | .eqAgg n neg x y=>match x.ev fr,y.ev fr with
    | .agg a,.agg b=>if a.length=n then (eqCells a b).map fun r=>.d (.val (.bool (if neg then !r else r))) else none
    | _,_=>none
  | .beq neg x y=>match x.ev fr,y.ev fr with
    | .d (.val (.bool a)),.d (.val (.bool b))=>some (.d (.val (.bool (if neg then !(a == b) else a == b))))
    | _,_=>none
  | .idT x=>match x.ev fr with
    | .d (.val (.string s))=>some (.d (.val (.string s)))
    | _=>none
  | .un op x=>match x.ev fr with
    | .d (.val a)=>(unary op a).map fun v=>.d (.val v)
    | _=>none
  | .conv k x=>match x.ev fr with
    | .d (.val (.int _ n))=>some (.d (.val (.int k (k.wrap n))))
    | _=>none
  | .fadd k x=>match x.ev fr with
    | .ptrL b off=>some (.ptrL b (off + k))
    | .d (.ptr cs off)=>some (.d (.ptr cs (off + k)))
    | _=>none
  | .fsub off n x=>match x.ev fr with
    | .agg cs=>subA cs off n
    | _=>none
  | .idxS sz x i=>match x.ev fr with
    | .slL b off len sz'=>if sz'=sz then (intIn len (i.ev fr)).map fun j=>.ptrL b (off + j * sz) else none
    | .d (.sl cs n)=>if cs=[] then none else (intIn n (i.ev fr)).map fun j=>.d (.ptr cs (j * sz))
    | _=>none
  | .idxP n sz x i=>match x.ev fr with
    | .ptrL b off=>(intIn n (i.ev fr)).map fun j=>.ptrL b (off + j * sz)
    | .d (.ptr cs off)=>(intIn n (i.ev fr)).map fun j=>.d (.ptr cs (off + j * sz))
    | _=>none
  | .idxT x i=>match x.ev fr,i.ev fr with
    | .d (.val (.string s)),.d (.val (.int _ j))=>if 0≤j∧j < s.size then some (.d (.val (.int .u8 (s.data.getD j.toNat 0).toNat))) else none
    | _,_=>none
  | .slS sz x lo hi=>match x.ev fr with
    | .slL b off len sz'=>if sz'=sz then
        (hiOf fr len hi).bind fun h =>
        (loOf fr h lo).map fun l =>
          if l=0 then .slL b off h sz else if l=h then .d (.sl [] 0) else .slL b (off + l * sz) (h - l) sz
      else none
    | .d (.sl cs n) =>
        if cs.length=n * sz∧sz ≠ 0 then
        (hiOf fr n hi).bind fun h =>
        (loOf fr h lo).map fun l =>
          if h=l then .d (.sl [] 0) else .d (.sl ((cs.drop (l * sz)).take ((h - l) * sz)) (h - l))
        else none
    | _=>none
  | .slT x lo hi=>match x.ev fr with
    | .d (.val (.string s)) =>
        (hiOf fr s.size hi).bind fun h =>
        (loOf fr h lo).map fun l =>
          .d (.val (.string (s.extract l h)))
    | _=>none
  | .ext x i=>match x.ev fr with
    | .tup vs=>vs[i]?
    | _=>none
  | .lenT x=>match x.ev fr with
    | .d (.val (.string s))=>some (.d (.val (.int .i64 s.size)))
    | _=>none
  | .lenS x=>match x.ev fr with
    | .d (.val (.slice none 0 0))=>some (.d (.val (.int .i64 0)))
    | .d (.sl _ n)=>some (.d (.val (.int .i64 n)))
    | .slL _ _ n _=>some (.d (.val (.int .i64 n)))
    | _=>none
  | .max xs=>(intsA (xs.map (X.ev fr))).map fun (k,l)=>.d (.val (.int k (maxI l)))
  | .min xs=>(intsA (xs.map (X.ev fr))).map fun (k,l)=>.d (.val (.int k (minI l)))
  | .mkfn f caps=>some (.fnL f (caps.map (X.ev fr)))
  | _=>none

def bytesA : List AV→Option (List UInt8)
  | []=>some []
  | .d (.val (.int .u8 k)) :: l=>if 0≤k∧k < 256 then (bytesA l).map fun r=>UInt8.ofNat k.toNat :: r else none
  | _=>none

def xl (fr : Fr) (C : Heap) : XI→Option AV
  | .load n a=>(rowOf C (a.ev fr)).bind fun (r,off)=>subA r off n
  | .strB x=>(srcOf C 1 (x.ev fr)).bind fun (cs,n)=>if n=0 then none else (bytesA cs).map fun l=>.d (.val (.string ⟨l.toArray⟩))
  | _=>none

def xn (fr : Fr) (id : Nat) : XI→Option (AV × List AV)
  | .alloc zs=>some (.ptrL id 0,zeroA zs)
  | .box x=>(cellsOf (x.ev fr)).bind fun cs=>if cs.all AV.one then some (.ptrL id 0,cs) else none
  | .mkrow zs len sz ps=>(fillA (repl (zeroA zs) len) (ps.map fun (o,s,x)=>(o,s,cellsOf (x.ev fr)))).bind fun cs=>if cs.all AV.one then some (.slL id 0 len sz,cs) else none
  | .mks zs bytes l c=>match l.ev fr,c.ev fr with
    | .d (.val (.int _ a)),.d (.val (.int _ b))=>if 0≤a∧a≤b∧b * bytes≤281474976710656∧b≤9223372036854775807 then some (.slL id 0 a.toNat zs.length,repl (zeroA zs) b.toNat) else none
    | _,_=>none
  | _=>none

def xw (fr : Fr) (C : Heap) (Z : Frz) (id : Nat) : XI→Option (AV × Heap)
  | .store n a x=>match a.ev fr with
    | .ptrL b off=>(C b).bind fun r=>(cellsOf (x.ev fr)).bind fun cs =>
      if Z b=false∧cs.length=n∧off + n≤r.length∧cs.all AV.one=true then some (.tup [],C.put b (splice r off cs)) else none
    | _=>none
  | .app zs bytes s x =>
    (srcOf C zs.length (x.ev fr)).bind fun (src,n) =>
    if src.all AV.one=true then
      match s.ev fr with
      | .d (.val (.slice none 0 0))=>if n * bytes≤140737488355328 then some (.slL id 0 n zs.length,C.put id src) else none
      | .slL b 0 len sz=>(C b).bind fun r =>
        if sz=zs.length∧Z b=false∧len * sz≤r.length∧(len + n) * bytes≤140737488355328 then
          some (.slL id 0 (len + n) sz,(C.del b).put id (r.take (len * sz)++src)) else none
      | _=>none
    else none
  | .cpy sz d x =>
    (srcOf C sz (x.ev fr)).bind fun (src,n) =>
    match d.ev fr with
    | .slL b off len sz'=>(C b).bind fun r =>
      if sz'=sz∧Z b=false∧off + len * sz≤r.length∧src.all AV.one=true then
        some (.d (.val (.int .i64 (Nat.min n len : Nat))),C.put b (splice r off (src.take (Nat.min n len * sz)))) else none
    | _=>none
  | .clr zs x=>match x.ev fr with
    | .d (.val (.slice none 0 0))=>some (.tup [],C)
    | .d (.sl [] 0)=>some (.tup [],C)
    | .slL b off len sz=>(C b).bind fun r =>
      if sz=zs.length∧Z b=false∧off + len * sz≤r.length∧zs.all (·.oneCell')=true then some (.tup [],C.put b (splice r off (repl (zeroA zs) len))) else none
    | _=>none
  | _=>none

def XI.cls : XI→Nat
  | .load ..=>1
  | .strB ..=>1
  | .bad=>3
  | .callv ..=>1
  | .call _ _ none false=>1
  | .call ..=>3
  | .alloc .. | .box .. | .mkrow .. | .mks ..=>2
  | .store .. | .app .. | .cpy ..=>3
  | .storeA .. | .callA .. | .clr ..=>3
  | _=>0

def xi (fr : Fr) (C : Heap) (Z : Frz) (id : Nat) (i : XI) : Option (AV × Heap) :=
  match i.cls with
  | 0=>(xp fr i).map fun v=>(v,C)
  | 1=>(xl fr C i).map fun v=>(v,C)
  | 2=>(xn fr id i).map fun (v,r)=>(v,C.put id r)
  | _=>xw fr C Z id i


def DV.norm : DV→DV
  | .val (.slice none 0 0)=>.sl [] 0
  | x=>x

def mapO (g : AV→Option (DV × List Nat)) : List AV→Option (List DV × List Nat)
  | []=>some ([],[])
  | x :: l=>(g x).bind fun (y,u)=>(mapO g l).map fun (ys,us)=>(y :: ys,u++us)

def convC (C : Heap) (ex : Nat→Bool) : Nat→AV→Option (DV × List Nat)
  | 0,_=>none
  | _ + 1,.d x=>some (x.norm,[])
  | k + 1,.ptrL b off=>if ex b then none else (C b).bind fun r=>if r=[] then none else (mapO (convC C ex k) r).map fun (ds,us)=>(.ptr ds off,b :: us)
  | k + 1,.slL b off len sz =>
    if len=0 then some (.sl [] 0,[]) else
    if ex b ∨ sz=0 then none else (C b).bind fun r =>
      if off + len * sz≤r.length then (mapO (convC C ex k) ((r.drop off).take (len * sz))).map fun (ds,us)=>(.sl ds len,b :: us) else none
  | k + 1,.fnL f caps=>(mapO (convC C ex k) caps).map fun (ds,us)=>(.fn f ds,us)
  | _ + 1,_=>none

def convA (C : Heap) (ex : Nat→Bool) : AV→Option (AV × List Nat)
  | .agg cs=>(mapO (convC C ex 9) cs).map fun (ds,us)=>(.agg (ds.map AV.d),us)
  | x=>(convC C ex 9 x).map fun (y,u)=>(.d y,u)

def convT (C : Heap) (ex : Nat→Bool) : AV→Option AV
  | .tup vs=>(vs.mapM fun x=>(convA C ex x).map (·.1)).map AV.tup
  | x=>(convA C ex x).map (·.1)

def convAs (C : Heap) (ex : Nat→Bool) : List AV→Option (List AV × List Nat)
  | []=>some ([],[])
  | x :: l=>(convA C ex x).bind fun (y,u)=>(convAs C ex l).map fun (ys,us)=>(y :: ys,u++us)

def AV.scalar : AV→Bool
  | .d (.val _)=>true
  | .agg cs=>cs.all fun c=>match c with | .d (.val _)=>true | _=>false
  | .tup vs=>vs.all fun c=>match c with
    | .d (.val _)=>true
    | .agg cs=>cs.all fun c=>match c with | .d (.val _)=>true | _=>false
    | _=>false
  | _=>false
def DV.scalar : DV→Bool
  | .val _=>true
  | _=>false

def AV.ren (b id : Nat) : AV→AV
  | .ptrL 0 off=>.ptrL b off
  | .ptrL _ off=>.ptrL id off
  | .slL 0 off len sz=>.slL b off len sz
  | .slL _ off len sz=>.slL id off len sz
  | x=>x
end Go.Sv
namespace Go.Sv
open Go


def Enterable (P : Program) (f : FuncId) : Prop :=
  ∃ fn,P.funcs[f]?=some fn∧fn.body.isSome=true∧(fn.name == "runtime.NumGoroutine")=false

def RAs (w : World) (A : Nat→Prop) (μ : Nat→Option Nat) (U : Nat→Prop) (vs : Array Value) (cs : List AV) : Prop :=
  vs.size=cs.length∧∀ j (h : j < cs.length),RA w A μ U (vs.getD j undef) (cs[j])

def RowD (w : World) (A : Nat→Prop) (m : Option Nat) (ds : List DV) : Prop :=
  (ds=[]∧m=none) ∨ ∃ blk c e,m=some blk∧w.heap[blk]?=some (.cells c e (0,0))∧ds.length≤c.size ∧
    ∀ j (h : j < ds.length),RD w A (c.getD j undef) (ds[j])

structure Kept (w w' : World) (Wr : Nat→Prop) : Prop where
  os : w'.os=w.os
  tape : w'.tape=w.tape
  output : w'.output=w.output
  size : w.heap.size≤w'.heap.size
  keep : ∀ k,k < w.heap.size→¬ Wr k→w'.heap[k]?=w.heap[k]?
  shape : ∀ k e n,w.shape? k=some (e,n)→∃ e' n',w'.shape? k=some (e',n')∧n≤n'

def Good (P : Program) (f : FuncId) (as : List AV) (row : Option (List DV)) (r : AV) (row' nw : Option (List DV)) : Prop :=
  Enterable P f∧(row'.isSome=true→row.isSome=true)∧∀ (w : World) (S : Nat→Prop) (m : Option Nat) (vs : Array Value),
    (∀ k,S k→k < w.heap.size)→(∀ k,row.isSome=true→m=some k→¬ S k) →
    (∀ ds,row=some ds→RowD w (fun k=>S k ∨ m=some k) m ds) →
    RAs w (fun k=>S k ∨ (row.isSome=true∧m=some k)) (fun _=>m) (fun b=>row.isSome=true∧b=0) vs as →
    Calls P f vs w fun e w'=>∃ v nm,e=.returned v∧Kept w w' (fun k=>row.isSome=true∧m=some k) ∧
      (∀ k,nw.isSome=true→nm=some k→w.heap.size≤k ∨ (row.isSome=true∧row'=none∧m=some k)) ∧
      (∀ ds,row'=some ds→RowD w' (fun k=>S k ∨ (row'.isSome=true∧m=some k) ∨ (nw.isSome=true∧nm=some k)) m ds) ∧
      (∀ ds,nw=some ds→RowD w' (fun k=>S k ∨ (row'.isSome=true∧m=some k) ∨ (nw.isSome=true∧nm=some k)) nm ds) ∧
      RA w' (fun k=>S k ∨ (row'.isSome=true∧m=some k) ∨ (nw.isSome=true∧nm=some k)) (fun b=>if b=0 then m else nm)
        (fun b=>(b=0∧row'.isSome=true) ∨ (b=1∧nw.isSome=true)) v r

def putO (C : Heap) (b : Nat) : Option (List DV)→Heap
  | none=>C
  | some ds=>C.put b (ds.map AV.d)
def setO (C : Heap) (b : Nat) : Option (List DV)→Heap
  | none=>C.del b
  | some ds=>C.put b (ds.map AV.d)

def liveB : AV→Option Nat
  | .ptrL b _=>some b
  | .slL b _ _ _=>some b
  | _=>none
def toZ : AV→AV
  | .ptrL _ off=>.ptrL 0 off
  | .slL _ off len sz=>.slL 0 off len sz
  | x=>x

def convAsL (C : Heap) (b : Nat) : Nat→List AV→Option (List AV × List Nat)
  | _,[]=>some ([],[])
  | 0,x :: l=>(convAs C (fun k=>k == b) l).map fun (ys,us)=>(toZ x :: ys,us)
  | j + 1,x :: l=>(convA C (fun k=>k == b) x).bind fun (y,u)=>(convAsL C b j l).map fun (ys,us)=>(y :: ys,u++us)

def AV.isD : AV→Bool
  | .d _=>true
  | _=>false
def AV.flat : AV→Bool
  | .d _ | .ptrL .. | .slL ..=>true
  | .agg cs=>cs.all AV.isD
  | .tup vs=>vs.all fun x=>match x with
    | .d _=>true
    | .agg cs=>cs.all AV.isD
    | _=>false
  | _=>false

def scalO : Option (List DV)→Bool
  | none=>true
  | some ds=>ds.all DV.scalar

def keepN : Option Nat→List AV→List AV→List AV
  | none,_,bs=>bs
  | some j,as,bs=>match as[j]? with
    | some (.d (.val (.slice none 0 0)))=>bs.set j (.d (.val (.slice none 0 0)))
    | _=>bs
theorem keepN_len (kp : Option Nat) (as bs : List AV) : (keepN kp as bs).length=bs.length:=by
  cases kp with
  | none=>rfl
  | some j =>
    simp only [keepN]
    split
    · rw [List.length_set]
    · rfl
theorem keepN_get {kp : Option Nat} {as bs : List AV} {j : Nat} {x : AV} (h : (keepN kp as bs)[j]?=some x) : bs[j]?=some x ∨ (x=.d (.val (.slice none 0 0))∧as[j]?=some (.d (.val (.slice none 0 0)))):=by
  cases kp with
  | none=>exact .inl h
  | some i =>
    simp only [keepN] at h
    split at h
    · rename_i he
      by_cases e : i=j
      · subst e
        rw [List.getElem?_set_self'] at h
        cases hb : bs[i]? with
        | none=>rw [hb] at h;simp at h
        | some y=>rw [hb] at h;simp at h;exact .inr ⟨h.symm,he⟩
      · rw [List.getElem?_set_ne e] at h;exact .inl h
    · exact .inl h
def XCall (P : Program) (C : Heap) (Z : Frz) (id : Nat) (f : FuncId) (as : List AV) (lp : Option Nat) (nw : Bool) (v : AV) (C' : Heap) (Z' : Frz) : Prop :=
  match lp with
  | none=>∃ bs us r nr kp,convAs C (fun _=>false) as=some (bs,us)∧Good P f (keepN kp as bs) none r none nr∧nr.isSome=nw∧(nw=true→r.flat=true) ∧
      v=(if nw then r.ren 0 id else r)∧C'=putO C id nr∧Z'=Z.add (if r.scalar && scalO nr then [] else us)
  | some j=>∃ b ds bs us r row' nr,(as[j]?).bind liveB=some b∧C b=some (ds.map AV.d)∧Z b=false ∧
      convAsL C b j as=some (bs,us)∧Good P f bs (some ds) r row' nr∧nr.isSome=nw∧r.flat=true ∧
      v=r.ren b id∧C'=putO (setO C b row') id nr∧Z'=Z.add (if r.scalar && scalO row' && scalO nr then [] else us)

def sepL (x v : AV) : Bool:=match liveB x,v with
  | some b,.ptrL c _=>!(Nat.beq c b)
  | _,_=>true
def sepO (x : Option AV) (v : AV) : Bool:=match x with
  | some x=>sepL x v
  | none=>true
def XStep (P : Program) (fr : Fr) (C : Heap) (Z : Frz) (id : Nat) (i : XI) (v : AV) (C' : Heap) (Z' : Frz) : Prop :=
  match i with
  | .call f args lp nw=>∃ q,(q=lp ∨ q=none)∧XCall P C Z id f (args.map (X.ev fr)) q nw v C' Z'
  | .callv g args=>∃ f caps,(g.ev fr=.fnL f caps ∨ ∃ ds,g.ev fr=.d (.fn f ds)∧caps=ds.map AV.d) ∧
      XCall P C Z id f (args.map (X.ev fr)++caps) none false v C' Z'
  | .storeA n a x av=>av.all (fun s=>sepL (a.ev fr) (fr s))=true∧xi fr C Z id (.store n a x)=some (v,C')∧Z'=Z
  | .callA f args j av=>av.all (fun s=>sepO (args.map (X.ev fr))[j]? (fr s))=true∧XCall P C Z id f (args.map (X.ev fr)) (some j) false v C' Z'
  | i=>xi fr C Z id i=some (v,C')∧Z'=Z

theorem Frz.add_nil (Z : Frz) : Z.add []=Z:=by funext k;simp [Frz.add]
theorem Frz.add_comm (Z : Frz) (a b : List Nat) : (Z.add a).add b=(Z.add b).add a:=by
  funext k;simp only [Frz.add,Bool.or_assoc,Bool.or_comm (a.contains k)]
theorem Heap.put_comm (C : Heap) {a b : Nat} (h : a ≠ b) (r s : List AV) : (C.put a r).put b s=(C.put b s).put a r:=by
  funext k
  simp only [Heap.put]
  split
  · rename_i e;subst e;rw [if_neg h]
  · rfl

theorem XCall.cls1 {P : Program} {C : Heap} {Z : Frz} {id : Nat} {f : FuncId} {as : List AV} {v : AV} {C' : Heap} {Z' : Frz}
    (h : XCall P C Z id f as none false v C' Z') : C'=C∧∃ l,Z'=Z.add l∧∀ Z2 id2,XCall P C Z2 id2 f as none false v C (Z2.add l):=by
  obtain ⟨bs,us,r,nr,kp,h1,h2,h3,h3',h4,h5,h6⟩:=h
  have hn : nr=none:=by cases nr<;>simp_all
  subst hn
  exact ⟨h5,_,h6,fun Z2 id2=>⟨bs,us,r,none,kp,h1,h2,rfl,h3',h4,rfl,rfl⟩⟩

theorem cls1 {P : Program} {fr : Fr} {C : Heap} {Z : Frz} {id : Nat} {i : XI} {v : AV} {C' : Heap} {Z' : Frz} (hc : i.cls≤1)
    (h : XStep P fr C Z id i v C' Z') : C'=C∧∃ l,Z'=Z.add l∧∀ Z2 id2,XStep P fr C Z2 id2 i v C (Z2.add l):=by
  have plain : ∀ i : XI,(∀ Z id,xi fr C Z id i=(xp fr i).map fun v=>(v,C)) ∨ (∀ Z id,xi fr C Z id i=(xl fr C i).map fun v=>(v,C)) →
      (xi fr C Z id i=some (v,C')∧Z'=Z)→C'=C∧∃ l,Z'=Z.add l∧∀ Z2 id2,(xi fr C Z2 id2 i=some (v,C)∧Z2.add l=Z2):=by
    rintro i hi ⟨h,rfl⟩
    rcases hi with hi | hi
    all_goals
      rw [hi] at h
      obtain ⟨v',hv,he⟩:=Option.map_eq_some_iff.1 h
      cases he
      exact ⟨rfl,[],(Frz.add_nil _).symm,fun Z2 id2=>⟨by rw [hi,hv];rfl,Frz.add_nil _⟩⟩
  cases i with
  | call f args lp nw =>
    cases lp with
    | some j=>simp [XI.cls] at hc
    | none=>cases nw with
      | true=>simp [XI.cls] at hc
      | false =>
        obtain ⟨q,hq,hx⟩:=h
        have hq : q=none:=by rcases hq with hq | hq<;>exact hq
        subst hq
        obtain ⟨h1,l,h2,h3⟩:=XCall.cls1 hx
        exact ⟨h1,l,h2,fun Z2 id2=>⟨none,.inl rfl,h3 Z2 id2⟩⟩
  | callv g args =>
    obtain ⟨f,caps,hg,hx⟩:=h
    obtain ⟨h1,l,h2,h3⟩:=hx.cls1
    exact ⟨h1,l,h2,fun Z2 id2=>⟨f,caps,hg,h3 Z2 id2⟩⟩
  | load n a=>exact plain _ (.inr fun _ _=>rfl) h
  | strB x=>exact plain _ (.inr fun _ _=>rfl) h
  | alloc | box | mkrow | mks | store | app | cpy | bad | storeA | callA | clr=>simp [XI.cls] at hc
  | _=>exact plain _ (.inl fun _ _=>rfl) h

theorem cls2 {P : Program} {fr : Fr} {C : Heap} {Z : Frz} {id : Nat} {i : XI} {v : AV} {C' : Heap} {Z' : Frz} (hc : i.cls=0 ∨ i.cls=2)
    (h : XStep P fr C Z id i v C' Z') : Z'=Z∧((C'=C∧∀ C2 Z2,XStep P fr C2 Z2 id i v C2 Z2) ∨ (∃ r,C'=C.put id r∧∀ C2 Z2,XStep P fr C2 Z2 id i v (C2.put id r) Z2)):=by
  have p0 : ∀ i : XI,(∀ C Z id,xi fr C Z id i=(xp fr i).map fun v=>(v,C))→(xi fr C Z id i=some (v,C')∧Z'=Z) →
      Z'=Z∧((C'=C∧∀ C2 Z2,(xi fr C2 Z2 id i=some (v,C2)∧Z2=Z2)) ∨ (∃ r,C'=C.put id r∧∀ C2 Z2,(xi fr C2 Z2 id i=some (v,C2.put id r)∧Z2=Z2))):=by
    rintro i hi ⟨h,rfl⟩
    rw [hi] at h
    obtain ⟨v',hv,he⟩:=Option.map_eq_some_iff.1 h
    cases he
    exact ⟨rfl,.inl ⟨rfl,fun C2 Z2=>⟨by rw [hi,hv];rfl,rfl⟩⟩⟩
  have p2 : ∀ i : XI,(∀ C Z id,xi fr C Z id i=(xn fr id i).map fun (v,r)=>(v,C.put id r))→(xi fr C Z id i=some (v,C')∧Z'=Z) →
      Z'=Z∧((C'=C∧∀ C2 Z2,(xi fr C2 Z2 id i=some (v,C2)∧Z2=Z2)) ∨ (∃ r,C'=C.put id r∧∀ C2 Z2,(xi fr C2 Z2 id i=some (v,C2.put id r)∧Z2=Z2))):=by
    rintro i hi ⟨h,rfl⟩
    rw [hi] at h
    obtain ⟨⟨v',r⟩,hv,he⟩:=Option.map_eq_some_iff.1 h
    cases he
    exact ⟨rfl,.inr ⟨r,rfl,fun C2 Z2=>⟨by rw [hi,hv];rfl,rfl⟩⟩⟩
  cases i with
  | call f args lp nw=>cases lp<;>cases nw<;>simp [XI.cls] at hc
  | callv g args=>simp [XI.cls] at hc
  | load n a=>simp [XI.cls] at hc
  | strB x=>simp [XI.cls] at hc
  | store | app | cpy | bad | storeA | callA | clr=>simp [XI.cls] at hc
  | alloc | box | mkrow | mks=>exact p2 _ (fun _ _ _=>rfl) h
  | _=>exact p0 _ (fun _ _ _=>rfl) h

theorem cls0 {P : Program} {fr : Fr} {C : Heap} {Z : Frz} {id : Nat} {i : XI} {v : AV} {C' : Heap} {Z' : Frz} (hc : i.cls=0)
    (h : XStep P fr C Z id i v C' Z') : C'=C∧Z'=Z∧∀ C2 Z2 id2,XStep P fr C2 Z2 id2 i v C2 Z2:=by
  have p0 : ∀ i : XI,(∀ C Z id,xi fr C Z id i=(xp fr i).map fun v=>(v,C))→(xi fr C Z id i=some (v,C')∧Z'=Z) →
      C'=C∧Z'=Z∧∀ C2 Z2 id2,(xi fr C2 Z2 id2 i=some (v,C2)∧Z2=Z2):=by
    rintro i hi ⟨h,rfl⟩
    rw [hi] at h
    obtain ⟨v',hv,he⟩:=Option.map_eq_some_iff.1 h
    cases he
    exact ⟨rfl,rfl,fun C2 Z2 id2=>⟨by rw [hi,hv];rfl,rfl⟩⟩
  cases i with
  | call f args lp nw=>cases lp<;>cases nw<;>simp [XI.cls] at hc
  | callv g args=>simp [XI.cls] at hc
  | load | strB | bad | alloc | box | mkrow | mks | store | app | cpy | storeA | callA | clr=>simp [XI.cls] at hc
  | _=>exact p0 _ (fun _ _ _=>rfl) h


def X.reads : X→List Nat
  | .t n=>[n]
  | .k _=>[]
def oX : Option X→List Nat
  | none=>[]
  | some x=>x.reads
def XI.isA : XI→Bool
  | .storeA .. | .callA ..=>true
  | _=>false
def XI.avoids : XI→Nat→Bool
  | .storeA _ _ _ av,s | .callA _ _ _ av,s=>av.contains s
  | _,_=>false
def XI.reads : XI→List Nat
  | .mv x | .idT x | .box x | .load _ x | .nilck x | .un _ x | .conv _ x | .fadd _ x | .fsub _ _ x | .ext x _ | .lenT x | .lenS x | .strB x | .clr _ x=>x.reads
  | .bad=>[]
  | .pick a b c=>a.reads++b.reads++c.reads
  | .alloc _=>[]
  | .build _ ps | .mkrow _ _ _ ps=>ps.flatMap fun p=>p.2.2.reads
  | .store _ a x | .arith _ a x | .eqAgg _ _ a x | .beq _ a x | .idxS _ a x | .idxP _ _ a x | .idxT a x | .mks _ _ a x | .app _ _ a x | .cpy _ a x=>a.reads++x.reads
  | .slS _ x lo hi | .slT x lo hi=>x.reads++oX lo++oX hi
  | .max xs | .min xs | .mkfn _ xs | .call _ xs _ _=>xs.flatMap X.reads
  | .callv g xs=>g.reads++xs.flatMap X.reads
  | .storeA _ a x av=>a.reads++x.reads++av
  | .callA _ xs _ av=>xs.flatMap X.reads++av

theorem X.ev_congr {fr fr' : Fr} {x : X} (h : ∀ s ∈ x.reads,fr s=fr' s) : x.ev fr=x.ev fr':=by
  cases x with
  | t n=>exact h n (by simp [X.reads])
  | k v=>rfl
theorem evs_congr {fr fr' : Fr} {xs : List X} (h : ∀ s ∈ xs.flatMap X.reads,fr s=fr' s) : xs.map (X.ev fr)=xs.map (X.ev fr') :=
  List.map_congr_left fun x hx=>X.ev_congr fun s hs=>h s (List.mem_flatMap.2 ⟨x,hx,hs⟩)
theorem parts_congr {fr fr' : Fr} {ps : List (Nat × Nat × X)} (h : ∀ s ∈ ps.flatMap fun p=>p.2.2.reads,fr s=fr' s) :
    (ps.map fun (o,s,x)=>(o,s,cellsOf (x.ev fr)))=ps.map fun (o,s,x)=>(o,s,cellsOf (x.ev fr')) :=
  List.map_congr_left fun p hp=>by
    obtain ⟨o,s,x⟩:=p
    simp only [X.ev_congr (fr:=fr) (fr':=fr') (x:=x) fun s hs=>h s (List.mem_flatMap.2 ⟨(o,_,x),hp,hs⟩)]

theorem all_congr {l : List Nat} {p q : Nat→Bool} (h : ∀ s ∈ l,p s=q s) : l.all p=l.all q:=by
  induction l with
  | nil=>rfl
  | cons a l ih=>rw [List.all_cons,List.all_cons,h a (by simp),ih fun s hs=>h s (by simp [hs])]
theorem XStep.congr {P : Program} {fr fr' : Fr} {C : Heap} {Z : Frz} {id : Nat} {i : XI} {v : AV} {C' : Heap} {Z' : Frz}
    (h : ∀ s ∈ i.reads,fr s=fr' s) (hx : XStep P fr C Z id i v C' Z') : XStep P fr' C Z id i v C' Z':=by
  have one : ∀ x : X,(∀ s ∈ x.reads,fr s=fr' s)→x.ev fr=x.ev fr':=fun x h=>X.ev_congr h
  cases i with
  | call f args lp nw=>simp only [XStep,XI.reads] at *;rw [← evs_congr h];exact hx
  | callv g args =>
    simp only [XStep,XI.reads,List.mem_append] at *
    rw [← evs_congr fun s hs=>h s (.inr hs),← one g fun s hs=>h s (.inl hs)];exact hx
  | storeA n a x av =>
    simp only [XStep,xi,XI.cls,xw,XI.reads,List.mem_append] at *
    rw [← one a fun s hs=>h s (.inl (.inl hs)),← one x fun s hs=>h s (.inl (.inr hs))]
    refine ⟨?_,hx.2⟩
    rw [← hx.1]
    refine all_congr fun s hs=>?_
    rw [h s (.inr hs)]
  | callA f args j av =>
    simp only [XStep,XI.reads,List.mem_append] at *
    rw [← evs_congr fun s hs=>h s (.inl hs)]
    refine ⟨?_,hx.2⟩
    rw [← hx.1]
    refine all_congr fun s hs=>?_
    rw [h s (.inr hs)]
  | alloc zs=>exact hx
  | build zs ps=>simp only [XStep,xi,XI.cls,xp,XI.reads] at *;rw [← parts_congr h];exact hx
  | mkrow zs len sz ps=>simp only [XStep,xi,XI.cls,xn,XI.reads] at *;rw [← parts_congr h];exact hx
  | max xs=>simp only [XStep,xi,XI.cls,xp,XI.reads] at *;rw [← evs_congr h];exact hx
  | min xs=>simp only [XStep,xi,XI.cls,xp,XI.reads] at *;rw [← evs_congr h];exact hx
  | mkfn f xs=>simp only [XStep,xi,XI.cls,xp,XI.reads] at *;rw [← evs_congr h];exact hx
  | pick a b c =>
    simp only [XStep,xi,XI.cls,xp,XI.reads,List.mem_append] at *
    rw [← one a fun s hs=>h s (.inl (.inl hs)),← one b fun s hs=>h s (.inl (.inr hs)),← one c fun s hs=>h s (.inr hs)];exact hx
  | slS sz x lo hi =>
    simp only [XStep,xi,XI.cls,xp,XI.reads,List.mem_append] at *
    rw [← one x fun s hs=>h s (.inl (.inl hs))]
    have e1 : ∀ l,lo=some l→l.ev fr=l.ev fr':=fun l hl=>one l fun s hs=>h s (.inl (.inr (by subst hl;exact hs)))
    have e2 : ∀ l,hi=some l→l.ev fr=l.ev fr':=fun l hl=>one l fun s hs=>h s (.inr (by subst hl;exact hs))
    cases lo<;>cases hi<;>simp_all [hiOf,loOf]
  | slT x lo hi =>
    simp only [XStep,xi,XI.cls,xp,XI.reads,List.mem_append] at *
    rw [← one x fun s hs=>h s (.inl (.inl hs))]
    have e1 : ∀ l,lo=some l→l.ev fr=l.ev fr':=fun l hl=>one l fun s hs=>h s (.inl (.inr (by subst hl;exact hs)))
    have e2 : ∀ l,hi=some l→l.ev fr=l.ev fr':=fun l hl=>one l fun s hs=>h s (.inr (by subst hl;exact hs))
    cases lo<;>cases hi<;>simp_all [hiOf,loOf]
  | store n a x =>
    simp only [XStep,xi,XI.cls,xw,XI.reads,List.mem_append] at *
    rw [← one a fun s hs=>h s (.inl hs),← one x fun s hs=>h s (.inr hs)];exact hx
  | app zs b a x =>
    simp only [XStep,xi,XI.cls,xw,XI.reads,List.mem_append] at *
    rw [← one a fun s hs=>h s (.inl hs),← one x fun s hs=>h s (.inr hs)];exact hx
  | cpy n a x =>
    simp only [XStep,xi,XI.cls,xw,XI.reads,List.mem_append] at *
    rw [← one a fun s hs=>h s (.inl hs),← one x fun s hs=>h s (.inr hs)];exact hx
  | clr zs x =>
    simp only [XStep,xi,XI.cls,xw,XI.reads] at *
    rw [← one x h];exact hx
  | mks n b a x =>
    simp only [XStep,xi,XI.cls,xn,XI.reads,List.mem_append] at *
    rw [← one a fun s hs=>h s (.inl hs),← one x fun s hs=>h s (.inr hs)];exact hx
  | arith op a x =>
    simp only [XStep,xi,XI.cls,xp,XI.reads,List.mem_append] at *
    rw [← one a fun s hs=>h s (.inl hs),← one x fun s hs=>h s (.inr hs)];exact hx
  | eqAgg n op a x =>
    simp only [XStep,xi,XI.cls,xp,XI.reads,List.mem_append] at *
    rw [← one a fun s hs=>h s (.inl hs),← one x fun s hs=>h s (.inr hs)];exact hx
  | beq op a x =>
    simp only [XStep,xi,XI.cls,xp,XI.reads,List.mem_append] at *
    rw [← one a fun s hs=>h s (.inl hs),← one x fun s hs=>h s (.inr hs)];exact hx
  | idxS op a x =>
    simp only [XStep,xi,XI.cls,xp,XI.reads,List.mem_append] at *
    rw [← one a fun s hs=>h s (.inl hs),← one x fun s hs=>h s (.inr hs)];exact hx
  | idxP n op a x =>
    simp only [XStep,xi,XI.cls,xp,XI.reads,List.mem_append] at *
    rw [← one a fun s hs=>h s (.inl hs),← one x fun s hs=>h s (.inr hs)];exact hx
  | idxT a x =>
    simp only [XStep,xi,XI.cls,xp,XI.reads,List.mem_append] at *
    rw [← one a fun s hs=>h s (.inl hs),← one x fun s hs=>h s (.inr hs)];exact hx
  | box x=>simp only [XStep,xi,XI.cls,xn,XI.reads] at *;rw [← one x h];exact hx
  | load n x=>simp only [XStep,xi,XI.cls,xl,XI.reads] at *;rw [← one x h];exact hx
  | strB x=>simp only [XStep,xi,XI.cls,xl,XI.reads] at *;rw [← one x h];exact hx
  | bad=>exact hx
  | mv x=>simp only [XStep,xi,XI.cls,xp,XI.reads] at *;rw [← one x h];exact hx
  | idT x=>simp only [XStep,xi,XI.cls,xp,XI.reads] at *;rw [← one x h];exact hx
  | nilck x=>simp only [XStep,xi,XI.cls,xp,XI.reads] at *;rw [← one x h];exact hx
  | un op x=>simp only [XStep,xi,XI.cls,xp,XI.reads] at *;rw [← one x h];exact hx
  | conv op x=>simp only [XStep,xi,XI.cls,xp,XI.reads] at *;rw [← one x h];exact hx
  | fadd op x=>simp only [XStep,xi,XI.cls,xp,XI.reads] at *;rw [← one x h];exact hx
  | fsub op n x=>simp only [XStep,xi,XI.cls,xp,XI.reads] at *;rw [← one x h];exact hx
  | ext x n=>simp only [XStep,xi,XI.cls,xp,XI.reads] at *;rw [← one x h];exact hx
  | lenT x=>simp only [XStep,xi,XI.cls,xp,XI.reads] at *;rw [← one x h];exact hx
  | lenS x=>simp only [XStep,xi,XI.cls,xp,XI.reads] at *;rw [← one x h];exact hx


section more
variable {C : Heap} {k : Nat} {r : List AV} (hk : C k=none)
include hk

theorem Heap.put_get {b : Nat} {x : List AV} (h : C b=some x) : (C.put k r) b=some x:=by
  simp only [Heap.put]
  rw [if_neg]
  · exact h
  · rintro rfl;rw [hk] at h;cases h

theorem rowOf_more {x : AV} {p : List AV × Nat} (h : rowOf C x=some p) : rowOf (C.put k r) x=some p:=by
  unfold rowOf at *
  split at h
  · rename_i b off
    obtain ⟨y,hy,rfl⟩:=Option.map_eq_some_iff.1 h
    rw [Heap.put_get hk hy];rfl
  · exact h
  · cases h

theorem srcOf_more {sz : Nat} {x : AV} {p : List AV × Nat} (h : srcOf C sz x=some p) : srcOf (C.put k r) sz x=some p:=by
  unfold srcOf at *
  split at h
  · exact h
  · exact h
  · rename_i b off len sz'
    split at h
    · rename_i hz
      obtain ⟨y,hy,h2⟩:=Option.bind_eq_some_iff.1 h
      rw [if_pos hz,Heap.put_get hk hy];exact h2
    · cases h
  · cases h

theorem mapO_more {g g' : AV→Option (DV × List Nat)} (hg : ∀ x y,g x=some y→g' x=some y) : ∀ {l : List AV} {p},mapO g l=some p→mapO g' l=some p
  | [],p,h=>h
  | x :: l,p,h=>by
    simp only [mapO] at *
    obtain ⟨y,h1,h2⟩:=Option.bind_eq_some_iff.1 h
    obtain ⟨z,h3,h4⟩:=Option.map_eq_some_iff.1 h2
    rw [hg _ _ h1]
    simp only [Option.bind_some]
    rw [mapO_more hg h3]
    simpa using h4

theorem convC_more {ex : Nat→Bool} : ∀ (n : Nat) {x : AV} {p},convC C ex n x=some p→convC (C.put k r) ex n x=some p
  | 0,x,p,h=>by simp [convC] at h
  | n + 1,x,p,h=>by
    have ih : ∀ {l : List AV} {p : List DV × List Nat},mapO (convC C ex n) l=some p→mapO (convC (C.put k r) ex n) l=some p:=fun h=>mapO_more hk (fun x y=>convC_more (ex:=ex) n (x:=x) (p:=y)) h
    cases x with
    | d x=>exact h
    | ptrL b off =>
      simp only [convC] at *
      split at h
      · cases h
      rename_i hex
      obtain ⟨y,hy,h2⟩:=Option.bind_eq_some_iff.1 h
      rw [if_neg hex,Heap.put_get hk hy]
      simp only [Option.bind_some]
      split at h2
      · cases h2
      rename_i hne
      obtain ⟨z,h3,h4⟩:=Option.map_eq_some_iff.1 h2
      rw [if_neg hne,ih h3];simpa using h4
    | slL b off len sz =>
      simp only [convC] at *
      split at h
      · rename_i h0;rw [if_pos h0];exact h
      rename_i h0
      split at h
      · cases h
      rename_i hex
      obtain ⟨y,hy,h2⟩:=Option.bind_eq_some_iff.1 h
      rw [if_neg h0,if_neg hex,Heap.put_get hk hy]
      simp only [Option.bind_some]
      split at h2
      case isFalse=>cases h2
      rename_i hle
      obtain ⟨z,h3,h4⟩:=Option.map_eq_some_iff.1 h2
      rw [if_pos hle,ih h3];simpa using h4
    | fnL f caps =>
      simp only [convC] at *
      obtain ⟨z,h3,h4⟩:=Option.map_eq_some_iff.1 h
      rw [ih h3];simpa using h4
    | agg | tup | dead=>simp [convC] at h

theorem convA_more {ex : Nat→Bool} {x : AV} {p} (h : convA C ex x=some p) : convA (C.put k r) ex x=some p:=by
  have one : ∀ x,((convC C ex 9 x).map fun (q : DV × List Nat)=>(AV.d q.1,q.2))=some p→((convC (C.put k r) ex 9 x).map fun (q : DV × List Nat)=>(AV.d q.1,q.2))=some p:=by
    intro x h
    obtain ⟨z,h3,h4⟩:=Option.map_eq_some_iff.1 h
    rw [convC_more hk 9 h3];simpa using h4
  cases x with
  | agg cs =>
    simp only [convA] at *
    obtain ⟨z,h3,h4⟩:=Option.map_eq_some_iff.1 h
    rw [mapO_more hk (fun x y=>convC_more hk 9 (x:=x) (p:=y)) h3];simpa using h4
  | d x=>exact h
  | tup x=>exact h
  | ptrL b off=>exact one _ h
  | slL b off len sz=>exact one _ h
  | fnL f c=>exact one _ h
  | dead=>exact h

theorem convAs_more {ex : Nat→Bool} : ∀ {l : List AV} {p},convAs C ex l=some p→convAs (C.put k r) ex l=some p
  | [],p,h=>h
  | x :: l,p,h=>by
    simp only [convAs] at *
    obtain ⟨y,h1,h2⟩:=Option.bind_eq_some_iff.1 h
    obtain ⟨z,h3,h4⟩:=Option.map_eq_some_iff.1 h2
    rw [convA_more hk h1]
    simp only [Option.bind_some]
    rw [convAs_more h3];simpa using h4

theorem convAsL_more {b : Nat} : ∀ {j : Nat} {l : List AV} {p},convAsL C b j l=some p→convAsL (C.put k r) b j l=some p
  | _,[],p,h=>by simp only [convAsL] at *;exact h
  | 0,x :: l,p,h=>by
    simp only [convAsL] at *
    obtain ⟨z,h3,h4⟩:=Option.map_eq_some_iff.1 h
    rw [convAs_more hk h3];simpa using h4
  | j + 1,x :: l,p,h=>by
    simp only [convAsL] at *
    obtain ⟨y,h1,h2⟩:=Option.bind_eq_some_iff.1 h
    obtain ⟨z,h3,h4⟩:=Option.map_eq_some_iff.1 h2
    rw [convA_more hk h1]
    simp only [Option.bind_some]
    rw [convAsL_more h3];simpa using h4

theorem putO_more {id : Nat} (hid : k ≠ id) (nr : Option (List DV)) : putO (C.put k r) id nr=(putO C id nr).put k r:=by
  cases nr with
  | none=>rfl
  | some ds=>exact Heap.put_comm C hid _ _

theorem XCall_more {P : Program} {Z : Frz} {id : Nat} (hid : k ≠ id) {f : FuncId} {as : List AV} {lp : Option Nat} {nw : Bool} {v : AV} {C' : Heap} {Z' : Frz}
    (h : XCall P C Z id f as lp nw v C' Z') : XCall P (C.put k r) Z id f as lp nw v (C'.put k r) Z':=by
  cases lp with
  | none =>
    obtain ⟨bs,us,x,nr,kp,h1,h2,h3,h4,h5,h6,h7⟩:=h
    refine ⟨bs,us,x,nr,kp,convAs_more hk h1,h2,h3,h4,h5,?_,h7⟩
    rw [h6,putO_more hk hid]
  | some j =>
    obtain ⟨b,ds,bs,us,x,row',nr,g1,g2,g3,h1,h2,h3,h4,h5,h6,h7⟩:=h
    have hkb : k ≠ b:=by rintro rfl;rw [hk] at g2;cases g2
    refine ⟨b,ds,bs,us,x,row',nr,g1,Heap.put_get hk g2,g3,convAsL_more hk h1,h2,h3,h4,h5,?_,h7⟩
    rw [h6]
    have e1 : setO (C.put k r) b row'=(setO C b row').put k r:=by
      cases row' with
      | none =>
        funext n;simp only [setO,Heap.del,Heap.put]
        by_cases e : b=n
        · subst e;simp [hkb]
        · simp [e]
      | some ds=>exact Heap.put_comm C hkb _ _
    rw [e1]
    cases nr with
    | none=>rfl
    | some ds=>exact (Heap.put_comm _ hid _ _).symm ▸ rfl

theorem XStep_more0 {P : Program} {fr : Fr} {Z : Frz} {id : Nat} (hid : k ≠ id) {i : XI} {v : AV} {C' : Heap} {Z' : Frz} (hA : i.isA=false)
    (h : XStep P fr C Z id i v C' Z') : XStep P fr (C.put k r) Z id i v (C'.put k r) Z':=by
  have p0 : ∀ i : XI,(∀ C Z id,xi fr C Z id i=(xp fr i).map fun v=>(v,C))→(xi fr C Z id i=some (v,C')∧Z'=Z)→(xi fr (C.put k r) Z id i=some (v,C'.put k r)∧Z'=Z):=by
    rintro i hi ⟨h,rfl⟩
    rw [hi] at h ⊢
    obtain ⟨v',hv,he⟩:=Option.map_eq_some_iff.1 h
    cases he
    exact ⟨by rw [hv];rfl,rfl⟩
  have p2 : ∀ i : XI,(∀ C Z id,xi fr C Z id i=(xn fr id i).map fun (v,r)=>(v,C.put id r))→(xi fr C Z id i=some (v,C')∧Z'=Z)→(xi fr (C.put k r) Z id i=some (v,C'.put k r)∧Z'=Z):=by
    rintro i hi ⟨h,rfl⟩
    rw [hi] at h ⊢
    obtain ⟨⟨v',r'⟩,hv,he⟩:=Option.map_eq_some_iff.1 h
    cases he
    refine ⟨?_,rfl⟩
    rw [hv]
    simp only [Option.map_some]
    rw [Heap.put_comm C hid]
  cases i with
  | storeA | callA=>simp [XI.isA] at hA
  | call f args lp nw =>
    obtain ⟨q,hq,hx⟩:=h
    exact ⟨q,hq,XCall_more hk hid hx⟩
  | callv g args =>
    obtain ⟨f,caps,hg,hx⟩:=h
    exact ⟨f,caps,hg,XCall_more hk hid hx⟩
  | load n a =>
    obtain ⟨h,rfl⟩:=h
    refine ⟨?_,rfl⟩
    obtain ⟨v',hv,he⟩:=Option.map_eq_some_iff.1 h
    cases he
    simp only [xl] at hv
    obtain ⟨p,h1,h2⟩:=Option.bind_eq_some_iff.1 hv
    show ((xl fr (C.put k r) (.load n a)).map fun v=>(v,C.put k r))=_
    simp only [xl]
    rw [rowOf_more hk h1]
    simp only [Option.bind_some,h2,Option.map_some]
  | strB x =>
    obtain ⟨h,rfl⟩:=h
    refine ⟨?_,rfl⟩
    obtain ⟨v',hv,he⟩:=Option.map_eq_some_iff.1 h
    cases he
    simp only [xl] at hv
    obtain ⟨p,h1,h2⟩:=Option.bind_eq_some_iff.1 hv
    show ((xl fr (C.put k r) (.strB x)).map fun v=>(v,C.put k r))=_
    simp only [xl]
    rw [srcOf_more hk h1]
    simp only [Option.bind_some,h2,Option.map_some]
  | bad=>obtain ⟨h,_⟩:=h;exact absurd h (by simp [xi,XI.cls,xw])
  | alloc | box | mkrow | mks=>exact p2 _ (fun _ _ _=>rfl) h
  | store n a x =>
    obtain ⟨h,rfl⟩:=h
    refine ⟨?_,rfl⟩
    have h : xw fr C Z' id (.store n a x)=some (v,C'):=h
    show xw fr (C.put k r) Z' id (.store n a x)=_
    simp only [xw] at *
    split at h
    · rename_i b off he
      obtain ⟨y,hy,h2⟩:=Option.bind_eq_some_iff.1 h
      obtain ⟨cs,hcs,h3⟩:=Option.bind_eq_some_iff.1 h2
      have hkb : k ≠ b:=by rintro rfl;rw [hk] at hy;cases hy
      rw [Heap.put_get hk hy]
      simp only [Option.bind_some,hcs]
      split at h3
      · rename_i hc
        cases h3
        rw [if_pos hc,Heap.put_comm C hkb]
      · cases h3
    · cases h
  | app zs bytes s x =>
    obtain ⟨h,rfl⟩:=h
    refine ⟨?_,rfl⟩
    have h : xw fr C Z' id (.app zs bytes s x)=some (v,C'):=h
    show xw fr (C.put k r) Z' id (.app zs bytes s x)=_
    simp only [xw] at *
    obtain ⟨p,h1,h2⟩:=Option.bind_eq_some_iff.1 h
    rw [srcOf_more hk h1]
    simp only [Option.bind_some] at *
    split at h2
    case isFalse=>cases h2
    rename_i hone
    rw [if_pos hone]
    split at h2
    · rename_i he
      split at h2
      · rename_i hc;cases h2;rw [if_pos hc,Heap.put_comm C hid]
      · cases h2
    · rename_i b len sz he
      obtain ⟨y,hy,h3⟩:=Option.bind_eq_some_iff.1 h2
      have hkb : k ≠ b:=by rintro rfl;rw [hk] at hy;cases hy
      rw [Heap.put_get hk hy]
      simp only [Option.bind_some]
      split at h3
      · rename_i hc
        cases h3
        rw [if_pos hc]
        congr 2
        funext n
        simp only [Heap.put,Heap.del]
        by_cases e1 : id=n
        · subst e1;simp [hid]
        · by_cases e2 : k=n
          · subst e2;simp [e1,hkb.symm]
          · simp [e1,e2]
      · cases h3
    · cases h2
  | clr zs x =>
    obtain ⟨h,rfl⟩:=h
    refine ⟨?_,rfl⟩
    have h : xw fr C Z' id (.clr zs x)=some (v,C'):=h
    show xw fr (C.put k r) Z' id (.clr zs x)=_
    simp only [xw] at *
    split at h
    · cases h;rfl
    · cases h;rfl
    · rename_i b off len sz he
      obtain ⟨y,hy,h3⟩:=Option.bind_eq_some_iff.1 h
      have hkb : k ≠ b:=by rintro rfl;rw [hk] at hy;cases hy
      rw [Heap.put_get hk hy]
      simp only [Option.bind_some]
      split at h3
      · rename_i hc
        cases h3
        rw [if_pos hc,Heap.put_comm C hkb]
      · cases h3
    · cases h
  | cpy sz d x =>
    obtain ⟨h,rfl⟩:=h
    refine ⟨?_,rfl⟩
    have h : xw fr C Z' id (.cpy sz d x)=some (v,C'):=h
    show xw fr (C.put k r) Z' id (.cpy sz d x)=_
    simp only [xw] at *
    obtain ⟨p,h1,h2⟩:=Option.bind_eq_some_iff.1 h
    rw [srcOf_more hk h1]
    simp only [Option.bind_some] at *
    split at h2
    · rename_i b off len sz' he
      obtain ⟨y,hy,h3⟩:=Option.bind_eq_some_iff.1 h2
      have hkb : k ≠ b:=by rintro rfl;rw [hk] at hy;cases hy
      rw [Heap.put_get hk hy]
      simp only [Option.bind_some]
      split at h3
      · rename_i hc
        cases h3
        rw [if_pos hc,Heap.put_comm C hkb]
      · cases h3
    · cases h2
  | _=>exact p0 _ (fun _ _ _=>rfl) h
theorem XStep_more {P : Program} {fr : Fr} {Z : Frz} {id : Nat} (hid : k ≠ id) {i : XI} {v : AV} {C' : Heap} {Z' : Frz}
    (h : XStep P fr C Z id i v C' Z') : XStep P fr (C.put k r) Z id i v (C'.put k r) Z':=by
  cases i with
  | storeA n a x av=>exact ⟨h.1,XStep_more0 hk (P:=P) (i:=.store n a x) hid rfl h.2⟩
  | callA f args j av=>exact ⟨h.1,XCall_more hk hid h.2⟩
  | _=>exact XStep_more0 hk hid rfl h
end more

theorem XStep_free0 {P : Program} {fr : Fr} {C : Heap} {Z : Frz} {id : Nat} {i : XI} {v : AV} {C' : Heap} {Z' : Frz} (hA : i.isA=false)
    (h : XStep P fr C Z id i v C' Z') {k : Nat} (hk : C k=none) (hid : k ≠ id) : C' k=none:=by
  have put : ∀ {D : Heap} {b : Nat} {x : List AV},D k=none→b ≠ k→(D.put b x) k=none:=fun h1 h2=>by
    simp only [Heap.put];rw [if_neg h2];exact h1
  have del : ∀ {D : Heap} {b : Nat},D k=none→(D.del b) k=none:=fun h1=>by
    simp only [Heap.del];split
    · rfl
    · exact h1
  have some_ne : ∀ {b : Nat} {x : List AV},C b=some x→b ≠ k:=by rintro b x h1 rfl;rw [hk] at h1;cases h1
  have call : ∀ {f as lp nw},XCall P C Z id f as lp nw v C' Z'→C' k=none:=by
    intro f as lp nw hx
    have pO : ∀ {D : Heap} {nr : Option (List DV)},D k=none→(putO D id nr) k=none:=fun {D nr} h1=>by
      cases nr with
      | none=>exact h1
      | some ds=>exact put h1 fun e=>hid e.symm
    cases lp with
    | none =>
      obtain ⟨bs,us,x,nr,_,_,_,_,_,_,h6,_⟩:=hx
      rw [h6];exact pO hk
    | some j =>
      obtain ⟨b,ds,bs,us,x,row',nr,_,g2,_,_,_,_,_,_,h6,_⟩:=hx
      rw [h6]
      refine pO ?_
      cases row' with
      | none=>exact del hk
      | some ds=>exact put hk (some_ne g2)
  cases i with
  | storeA | callA=>simp [XI.isA] at hA
  | call f args lp nw =>
    obtain ⟨q,_,hx⟩:=h
    exact call hx
  | callv g args=>obtain ⟨f,caps,_,hx⟩:=h;exact call hx
  | load n a=>obtain ⟨e,_⟩:=cls1 (by simp [XI.cls]) h;rw [e];exact hk
  | strB x=>obtain ⟨e,_⟩:=cls1 (by simp [XI.cls]) h;rw [e];exact hk
  | bad=>obtain ⟨h,_⟩:=h;exact absurd h (by simp [xi,XI.cls,xw])
  | alloc | box | mkrow | mks =>
    obtain ⟨_,h2⟩:=cls2 (by simp [XI.cls]) h
    rcases h2 with ⟨e,_⟩ | ⟨r,e,_⟩
    · rw [e];exact hk
    · rw [e];exact put hk fun e=>hid e.symm
  | store n a x =>
    obtain ⟨h,_⟩:=h
    have h : xw fr C Z id (.store n a x)=some (v,C'):=h
    simp only [xw] at h
    split at h
    · obtain ⟨y,hy,h2⟩:=Option.bind_eq_some_iff.1 h
      obtain ⟨cs,hcs,h3⟩:=Option.bind_eq_some_iff.1 h2
      split at h3
      · cases h3;exact put hk (some_ne hy)
      · cases h3
    · cases h
  | app zs bytes s x =>
    obtain ⟨h,_⟩:=h
    have h : xw fr C Z id (.app zs bytes s x)=some (v,C'):=h
    simp only [xw] at h
    obtain ⟨p,h1,h2⟩:=Option.bind_eq_some_iff.1 h
    split at h2
    case isFalse=>cases h2
    split at h2
    · split at h2
      · cases h2;exact put hk fun e=>hid e.symm
      · cases h2
    · obtain ⟨y,hy,h3⟩:=Option.bind_eq_some_iff.1 h2
      split at h3
      · cases h3;exact put (del hk) fun e=>hid e.symm
      · cases h3
    · cases h2
  | clr zs x =>
    obtain ⟨h,_⟩:=h
    have h : xw fr C Z id (.clr zs x)=some (v,C'):=h
    simp only [xw] at h
    split at h
    · cases h;exact hk
    · cases h;exact hk
    · obtain ⟨y,hy,h3⟩:=Option.bind_eq_some_iff.1 h
      split at h3
      · cases h3;exact put hk (some_ne hy)
      · cases h3
    · cases h
  | cpy sz d x =>
    obtain ⟨h,_⟩:=h
    have h : xw fr C Z id (.cpy sz d x)=some (v,C'):=h
    simp only [xw] at h
    obtain ⟨p,h1,h2⟩:=Option.bind_eq_some_iff.1 h
    split at h2
    · obtain ⟨y,hy,h3⟩:=Option.bind_eq_some_iff.1 h2
      split at h3
      · cases h3;exact put hk (some_ne hy)
      · cases h3
    · cases h2
  | _=>obtain ⟨e,_⟩:=cls1 (by simp [XI.cls]) h;rw [e];exact hk

theorem XStep_free {P : Program} {fr : Fr} {C : Heap} {Z : Frz} {id : Nat} {i : XI} {v : AV} {C' : Heap} {Z' : Frz}
    (h : XStep P fr C Z id i v C' Z') {k : Nat} (hk : C k=none) (hid : k ≠ id) : C' k=none:=by
  cases i with
  | storeA n a x av=>exact XStep_free0 (P:=P) (i:=.store n a x) rfl h.2 hk hid
  | callA f args j av=>exact XStep_free0 (P:=P) (i:=.call f args (some j) false) rfl ⟨some j,.inl rfl,h.2⟩ hk hid
  | _=>exact XStep_free0 rfl h hk hid

theorem rowOf_ne {C C' : Heap} {b : Nat} {v : AV} (h : ∀ k,k ≠ b→C' k=C k) (hv : ∀ c off,v=.ptrL c off→c ≠ b) : rowOf C' v=rowOf C v:=by
  cases v with
  | ptrL c off=>simp only [rowOf];rw [h c (hv c off rfl)]
  | d x=>cases x<;>rfl
  | _=>rfl
theorem sepL_ne {x v : AV} {b : Nat} (hx : liveB x=some b) (h : sepL x v=true) : ∀ c off,v=.ptrL c off→c ≠ b:=by
  rintro c off rfl e
  subst e
  simp [sepL,hx] at h
theorem stepA_row {P : Program} {fr : Fr} {C : Heap} {Z : Frz} {id : Nat} {i : XI} {v : AV} {C' : Heap} {Z' : Frz} {s : Nat} (hs : i.avoids s=true) (h : XStep P fr C Z id i v C' Z') : rowOf C' (fr s)=rowOf C (fr s):=by
  cases i with
  | storeA n a x av =>
    simp only [XI.avoids] at hs
    obtain ⟨h0,h1,_⟩:=h
    have h2:=List.all_eq_true.1 h0 s (by simpa using hs)
    have h1 : xw fr C Z id (.store n a x)=some (v,C'):=h1
    simp only [xw] at h1
    split at h1
    · rename_i b off he
      obtain ⟨y,hy,h3⟩:=Option.bind_eq_some_iff.1 h1
      obtain ⟨cs,hcs,h4⟩:=Option.bind_eq_some_iff.1 h3
      split at h4
      · cases h4
        refine rowOf_ne (b:=b) (fun k hk=>?_) (sepL_ne (x:=a.ev fr) (by rw [he];rfl) h2)
        simp only [Heap.put];rw [if_neg (Ne.symm hk)]
      · cases h4
    · cases h1
  | callA f args j av =>
    simp only [XI.avoids] at hs
    obtain ⟨h0,b,ds,bs,us,x,row',nr,g1,g2,_,_,_,g3,_,_,g4,_⟩:=h
    have h2:=List.all_eq_true.1 h0 s (by simpa using hs)
    obtain ⟨y,hy,hb⟩:=Option.bind_eq_some_iff.1 g1
    simp only [hy,sepO] at h2
    have hn : nr=none:=by cases nr<;>simp_all
    subst hn
    rw [g4]
    refine rowOf_ne (b:=b) (fun k hk=>?_) (sepL_ne (x:=y) hb h2)
    cases row' with
    | none=>simp only [putO,setO,Heap.del];rw [if_neg (Ne.symm hk)]
    | some ds=>simp only [putO,setO,Heap.put];rw [if_neg (Ne.symm hk)]
  | _=>simp [XI.avoids] at hs
theorem load_row {P : Program} {fr : Fr} {C : Heap} {Z : Frz} {id : Nat} {m : Option Nat} {s : Nat} {v : AV} {C' : Heap} {Z' : Frz} (h : XStep P fr C Z id (.load m (.t s)) v C' Z') :
    C'=C∧Z'=Z∧∀ C2 Z2 id2,rowOf C2 (fr s)=rowOf C (fr s)→XStep P fr C2 Z2 id2 (.load m (.t s)) v C2 Z2:=by
  obtain ⟨h,rfl⟩:=h
  obtain ⟨v',hv,he⟩:=Option.map_eq_some_iff.1 h
  cases he
  refine ⟨rfl,rfl,fun C2 Z2 id2 hr=>⟨?_,rfl⟩⟩
  simp only [xl,X.ev] at hv
  show ((xl fr C2 (.load m (.t s))).map fun v=>(v,C2))=_
  simp only [xl,X.ev,hr,hv,Option.map_some]


structure XO where
  dst : Option Nat
  guard : Option (Nat × Bool)
  i : XI
  deriving Inhabited

def wantB (fr : Fr) : Option (Nat × Bool)→Option Bool
  | none=>some true
  | some (s,want)=>match fr s with
    | .d (.val (.bool b))=>some (b == want)
    | .tup []=>some false
    | _=>none

def XO.looks (o : XO) : List Nat:=o.i.reads++(match o.guard with | none=>[] | some (s,_)=>[s])

def Gives (P : Program) (fr : Fr) (C : Heap) (Z : Frz) (id : Nat) (o : XO) (v : AV) (C' : Heap) (Z' : Frz) : Prop :=
  (wantB fr o.guard=some true∧XStep P fr C Z id o.i v C' Z') ∨ (wantB fr o.guard=some false∧v=.tup []∧C'=C∧Z'=Z)

theorem Gives.congr {P : Program} {fr fr' : Fr} {C : Heap} {Z : Frz} {id : Nat} {o : XO} {v : AV} {C' : Heap} {Z' : Frz}
    (h : ∀ s ∈ o.looks,fr s=fr' s) (hx : Gives P fr C Z id o v C' Z') : Gives P fr' C Z id o v C' Z':=by
  have hw : wantB fr' o.guard=wantB fr o.guard:=by
    cases hg : o.guard with
    | none=>rfl
    | some g =>
      obtain ⟨s,b⟩:=g
      have:=h s (by simp [XO.looks,hg])
      simp [wantB,this]
  rcases hx with ⟨h1,h2⟩ | ⟨h1,h2⟩
  · exact .inl ⟨hw.trans h1,h2.congr fun s hs=>h s (by simp [XO.looks,hs])⟩
  · exact .inr ⟨hw.trans h1,h2⟩

def okCls (x y : XI) : Bool:=(x.cls≤1 && y.cls≤1) || (x.cls == 0 || (y.cls == 0 || y.cls == 2))

def sepX (x y : XI) : Bool:=match x with
  | .load _ (.t s)=>y.avoids s
  | _=>false
def okPair (x y : XI) : Bool:=okCls x y || (sepX x y || sepX y x)
theorem sepX_load {x y : XI} (h : sepX x y=true) : ∃ m s,x=.load m (.t s)∧y.avoids s=true:=by
  unfold sepX at h
  split at h
  · exact ⟨_,_,rfl,h⟩
  · cases h

def XO.apart (x y : XO) : Bool :=
  (match x.dst with
   | some d=>!(y.looks).contains d && y.dst != some d
   | none=>true) &&
  (match y.dst with
   | some d=>!(x.looks).contains d
   | none=>true) && okPair x.i y.i

theorem putO_comm (fr : Fr) {x y : Option Nat} (v u : AV) (h : ∀ d,x=some d→y ≠ some d) :
    Fr.putO (Fr.putO fr x v) y u=Fr.putO (Fr.putO fr y u) x v:=by
  cases x with
  | none=>rfl
  | some d =>
    cases y with
    | none=>rfl
    | some e =>
      have hne : d ≠ e:=fun he=>h d rfl (he ▸ rfl)
      funext n
      simp only [Fr.putO,Fr.put]
      split
      · rename_i h1;subst h1;rw [if_neg hne]
      · rfl

theorem putO_get {fr : Fr} {d : Option Nat} {v : AV} {s : Nat} (h : d ≠ some s) : Fr.putO fr d v s=fr s:=by
  cases d with
  | none=>rfl
  | some d=>simp only [Fr.putO,Fr.put];rw [if_neg];intro e;exact h (e ▸ rfl)

theorem Gives.free {P : Program} {fr : Fr} {C : Heap} {Z : Frz} {id : Nat} {o : XO} {v : AV} {C' : Heap} {Z' : Frz} (h : Gives P fr C Z id o v C' Z') {k : Nat} (hk : C k=none) (hid : k ≠ id) : C' k=none:=by
  rcases h with ⟨_,h⟩ | ⟨_,_,rfl,_⟩
  · exact XStep_free h hk hid
  · exact hk

theorem Gives.more {P : Program} {fr : Fr} {C : Heap} {Z : Frz} {id : Nat} {o : XO} {v : AV} {C' : Heap} {Z' : Frz} (h : Gives P fr C Z id o v C' Z') {k : Nat} {r : List AV} (hk : C k=none) (hid : k ≠ id) :
    Gives P fr (C.put k r) Z id o v (C'.put k r) Z':=by
  rcases h with ⟨h1,h⟩ | ⟨h1,h2,rfl,h3⟩
  · exact .inl ⟨h1,XStep_more hk hid h⟩
  · exact .inr ⟨h1,h2,rfl,h3⟩

theorem Gives.swap {P : Program} {fr : Fr} {C : Heap} {Z : Frz} {base i j : Nat} {oi oj : XO} {vi vj : AV} {Ci Cij : Heap} {Zi Zij : Frz}
    (hij : i ≠ j) (hfree : C (base + j)=none) (hap : oi.apart oj=true) (hi : Gives P fr C Z (base + i) oi vi Ci Zi) (hj : Gives P (Fr.putO fr oi.dst vi) Ci Zi (base + j) oj vj Cij Zij) :
    ∃ Cj Zj,Gives P fr C Z (base + j) oj vj Cj Zj∧Gives P (Fr.putO fr oj.dst vj) Cj Zj (base + i) oi vi Cij Zij:=by
  simp only [XO.apart,Bool.and_eq_true] at hap
  obtain ⟨⟨ha1,ha2⟩,ha3⟩:=hap
  have hj' : Gives P fr Ci Zi (base + j) oj vj Cij Zij:=hj.congr fun s hs=>putO_get fun e=>by
    rw [e] at ha1;simp at ha1;exact ha1.1 hs
  have keep : ∀ C Z vi Ci Zi,Gives P fr C Z (base + i) oi vi Ci Zi→Gives P (Fr.putO fr oj.dst vj) C Z (base + i) oi vi Ci Zi:=fun C Z vi Ci Zi h =>
    h.congr fun s hs=>(putO_get fun e=>by rw [e] at ha2;simp at ha2;exact ha2 hs).symm
  have lift1 : ∀ (o : XO) (C : Heap) (Z : Frz) (id : Nat) (v : AV) (C' : Heap) (Z' : Frz),o.i.cls≤1→Gives P fr C Z id o v C' Z' →
      C'=C∧∃ l,Z'=Z.add l∧∀ Z2 id2,Gives P fr C Z2 id2 o v C (Z2.add l):=by
    rintro o C Z id v C' Z' hc (⟨h1,h2⟩ | ⟨h1,rfl,rfl,rfl⟩)
    · obtain ⟨e,l,h3,h4⟩:=cls1 hc h2
      exact ⟨e,l,h3,fun Z2 id2=>.inl ⟨h1,h4 Z2 id2⟩⟩
    · exact ⟨rfl,[],(Frz.add_nil _).symm,fun Z2 id2=>.inr ⟨h1,rfl,rfl,Frz.add_nil _⟩⟩
  have lift2 : ∀ (o : XO) (C : Heap) (Z : Frz) (id : Nat) (v : AV) (C' : Heap) (Z' : Frz),(o.i.cls=0 ∨ o.i.cls=2)→Gives P fr C Z id o v C' Z' →
      Z'=Z∧((C'=C∧∀ C2 Z2,Gives P fr C2 Z2 id o v C2 Z2) ∨ (∃ r,C'=C.put id r∧∀ C2 Z2,Gives P fr C2 Z2 id o v (C2.put id r) Z2)):=by
    rintro o C Z id v C' Z' hc (⟨h1,h2⟩ | ⟨h1,rfl,rfl,rfl⟩)
    · obtain ⟨e,h3⟩:=cls2 hc h2
      refine ⟨e,?_⟩
      rcases h3 with ⟨h3,h4⟩ | ⟨r,h3,h4⟩
      · exact .inl ⟨h3,fun C2 Z2=>.inl ⟨h1,h4 C2 Z2⟩⟩
      · exact .inr ⟨r,h3,fun C2 Z2=>.inl ⟨h1,h4 C2 Z2⟩⟩
    · exact ⟨rfl,.inl ⟨rfl,fun C2 Z2=>.inr ⟨h1,rfl,rfl,rfl⟩⟩⟩
  simp only [okPair,okCls,Bool.or_eq_true,Bool.and_eq_true,decide_eq_true_eq,beq_iff_eq] at ha3
  rcases ha3 with ha3 | ha3 | ha3
  rotate_left
  · obtain ⟨m,s,hm,hav⟩:=sepX_load ha3
    rcases hi with ⟨w1,h1⟩ | ⟨w1,rfl,rfl,rfl⟩
    · rw [hm] at h1
      obtain ⟨rfl,rfl,h2⟩:=load_row h1
      have h3 : rowOf Cij (fr s)=rowOf Ci (fr s):=by
        rcases hj' with ⟨_,g⟩ | ⟨_,_,rfl,_⟩
        · exact stepA_row hav g
        · rfl
      refine ⟨_,_,hj',keep _ _ _ _ _ (.inl ⟨w1,?_⟩)⟩
      rw [hm];exact h2 _ _ _ h3
    · exact ⟨_,_,hj',keep _ _ _ _ _ (.inr ⟨w1,rfl,rfl,rfl⟩)⟩
  · obtain ⟨m,s,hm,hav⟩:=sepX_load ha3
    rcases hj' with ⟨w1,h1⟩ | ⟨w1,rfl,rfl,rfl⟩
    · rw [hm] at h1
      obtain ⟨rfl,rfl,h2⟩:=load_row h1
      have h3 : rowOf Cij (fr s)=rowOf C (fr s):=by
        rcases hi with ⟨_,g⟩ | ⟨_,_,rfl,_⟩
        · exact stepA_row hav g
        · rfl
      refine ⟨C,Z,.inl ⟨w1,?_⟩,keep _ _ _ _ _ hi⟩
      rw [hm];exact h2 _ _ _ h3.symm
    · exact ⟨C,Z,.inr ⟨w1,rfl,rfl,rfl⟩,keep _ _ _ _ _ hi⟩
  rcases ha3 with ⟨c1,c2⟩ | c1 | c2
  · obtain ⟨e1,l,e2,k1⟩:=lift1 _ _ _ _ _ _ _ c1 hi
    subst e1;subst e2
    obtain ⟨e3,m,e4,k2⟩:=lift1 _ _ _ _ _ _ _ c2 hj'
    subst e3;subst e4
    refine ⟨_,_,k2 Z (base + j),keep _ _ _ _ _ ?_⟩
    rw [Frz.add_comm]
    exact k1 _ _
  · have h0 : Ci=C∧Zi=Z∧∀ C2 Z2,Gives P fr C2 Z2 (base + i) oi vi C2 Z2:=by
      rcases hi with ⟨h1,h2⟩ | ⟨h1,rfl,rfl,rfl⟩
      · obtain ⟨e1,e2,h3⟩:=cls0 c1 h2
        exact ⟨e1,e2,fun C2 Z2=>.inl ⟨h1,h3 C2 Z2 _⟩⟩
      · exact ⟨rfl,rfl,fun C2 Z2=>.inr ⟨h1,rfl,rfl,rfl⟩⟩
    obtain ⟨rfl,rfl,h3⟩:=h0
    exact ⟨_,_,hj',keep _ _ _ _ _ (h3 _ _)⟩
  · obtain ⟨e3,k2⟩:=lift2 _ _ _ _ _ _ _ c2 hj'
    subst e3
    rcases k2 with ⟨e2,k2⟩ | ⟨r2,e2,k2⟩
    · subst e2;exact ⟨_,_,k2 _ _,keep _ _ _ _ _ hi⟩
    · subst e2
      exact ⟨_,_,k2 _ _,keep _ _ _ _ _ (hi.more hfree (by omega))⟩
end Go.Sv
namespace Go.Sv
open Go

section
variable (P : Program)

def aRun : List (Nat × XO)→Nat→(Fr→Heap→Frz→Prop)→Fr→Heap→Frz→Prop
  | [],_,K,fr,C,Z=>K fr C Z
  | (i,o) :: l,base,K,fr,C,Z=>∃ v C' Z',Gives P fr C Z (base + i) o v C' Z'∧aRun l base K (Fr.putO fr o.dst v) C' Z'

def aOp (L : List XO) (base i : Nat) (K : Fr→Heap→Frz→Prop) (fr : Fr) (C : Heap) (Z : Frz) : Prop :=
  match L[i]? with
  | none=>K fr C Z
  | some o=>∃ v C' Z',Gives P fr C Z (base + i) o v C' Z'∧K (Fr.putO fr o.dst v) C' Z'

def aAny (ops : Array Oper) (L : List XO) (base : Nat) (K : Fr→Heap→Frz→Prop) : Nat→Array Bool→Fr→Heap→Frz→Prop
  | 0,listed,fr,C,Z=>Region.ready .any ops listed=[]∧K fr C Z
  | fuel + 1,listed,fr,C,Z=>(Region.ready .any ops listed=[]→K fr C Z) ∧
    ∀ i ∈ Region.ready .any ops listed,aOp P L base i (aAny ops L base K fuel (listed.setIfInBounds i true)) fr C Z
end

def ancOK (ops : List Oper) (tbl : List (List Nat)) : Bool :=
  (ops.zip tbl).zipIdx.all fun ((o,t),j)=>t.all fun k=>o.after.toList.any fun e=>Region.binds .any e && decide (e.on < j) && (e.on == k || (tbl.getD e.on []).contains k)

def ordOK (ops : List Oper) (tbl : List (List Nat)) (L : List XO) : List Nat→Bool
  | []=>true
  | i :: l=>(match ops[i]?,L[i]? with
      | some o,some x=>(o.after.toList.all fun e=>!Region.binds .any e || (decide (e.on < ops.length) && !(i :: l).contains e.on)) &&
          (l.all fun j=>(tbl.getD j []).contains i || (match L[j]? with | some y=>x.apart y | none=>false))
      | _,_=>false) && !l.contains i && ordOK ops tbl L l

def lexX (ops : List Oper) (L : List XO) (tbl : List (List Nat)) (ord : List Nat) : Bool :=
  ops.length == L.length && tbl.length == ops.length && ancOK ops tbl && ordOK ops tbl L ord && ord.length == ops.length

def pair (L : List XO) : List Nat→List (Nat × XO)
  | []=>[]
  | i :: l=>(match L[i]? with | some o=>[(i,o)] | none=>[])++pair L l

section
variable {P : Program} {ops : Array Oper} {L : List XO} {base : Nat} {K : Fr→Heap→Frz→Prop}

def Closed (ops : Array Oper) (listed : Array Bool) : Prop :=
  ∀ (j : Nat) (o : Oper),ops[j]?=some o→listed.getD j false=true→∀ e ∈ o.after,Region.binds .any e=true→listed.getD e.on false=true

theorem anc_listed {tbl : List (List Nat)} (htbl : ancOK ops.toList tbl=true) (hlen : tbl.length=ops.size) {listed : Array Bool} (hc : Closed ops listed) :
    ∀ (n j : Nat),j < n→∀ o,ops[j]?=some o→(∀ e ∈ o.after,Region.binds .any e=true→listed.getD e.on false=true) →
      ∀ k ∈ tbl.getD j [],listed.getD k false=true:=by
  intro n
  induction n with
  | zero=>intro j hj;omega
  | succ n ih =>
    intro j hj o ho hd k hk
    have hjs : j < ops.size:=(Array.getElem?_eq_some_iff.1 ho).1
    have ht : tbl[j]?=some (tbl.getD j []):=by
      rw [List.getD_eq_getElem?_getD,List.getElem?_eq_getElem (by omega)];rfl
    have hz:=List.all_eq_true.1 htbl ((o,tbl.getD j []),j) (by
      rw [List.mem_zipIdx_iff_getElem?,List.getElem?_zip_eq_some]
      exact ⟨by simpa using ho,ht⟩)
    have h1:=List.all_eq_true.1 hz k hk
    obtain ⟨e,he,h2⟩:=List.any_eq_true.1 h1
    simp only [Bool.and_eq_true,Bool.or_eq_true,decide_eq_true_eq,beq_iff_eq,List.contains_iff_mem] at h2
    obtain ⟨⟨hb,hlt⟩,h3⟩:=h2
    have hl:=hd e (by simpa using he) hb
    rcases h3 with h3 | h3
    · exact h3 ▸ hl
    · have hes : e.on < ops.size:=by omega
      have hoe : ops[e.on]?=some ops[e.on]:=Array.getElem?_eq_getElem hes
      exact ih e.on (by omega) _ hoe (hc _ _ hoe hl) k h3

theorem aAny_first {tbl : List (List Nat)} (htbl : ancOK ops.toList tbl=true) (hlen : tbl.length=ops.size) (hL : L.length=ops.size)
    {i : Nat} {oi : XO} {v : AV} (hi : L[i]?=some oi) :
    ∀ (fuel : Nat) (listed : Array Bool) (fr : Fr) (C C1 : Heap) (Z Z1 : Frz),(∀ j,j < ops.size→listed.getD j true=false→C (base + j)=none) →
      (∀ j oj,L[j]?=some oj→j ≠ i→listed.getD j true=false→i ∈ tbl.getD j [] ∨ oi.apart oj=true) →
      Closed ops listed→i ∈ Region.ready .any ops listed→Gives P fr C Z (base + i) oi v C1 Z1 →
      aAny P ops L base K fuel (listed.setIfInBounds i true) (Fr.putO fr oi.dst v) C1 Z1→aAny P ops L base K (fuel + 1) listed fr C Z:=by
  intro fuel
  induction fuel with
  | zero =>
    intro listed fr C C1 Z Z1 _ _ _ hr hy H
    refine ⟨fun h=>(by rw [h] at hr;cases hr),fun j hj=>?_⟩
    by_cases hji : j=i
    · subst hji;unfold aOp;rw [hi];exact ⟨v,C1,Z1,hy,H⟩
    · have:=ready_mono hj hji
      rw [H.1] at this
      cases this
  | succ fuel ih =>
    intro listed fr C C1 Z Z1 hnone hfree hcl hr hy H
    refine ⟨fun h=>(by rw [h] at hr;cases hr),fun j hj=>?_⟩
    by_cases hji : j=i
    · subst hji;unfold aOp;rw [hi];exact ⟨v,C1,Z1,hy,H⟩
    · have h1:=H.2 j (ready_mono hj hji)
      obtain ⟨hjun,o,ho,hall⟩:=mem_ready.1 hj
      have hjs : j < L.length:=by rw [hL];exact (Array.getElem?_eq_some_iff.1 ho).1
      have hoj : L[j]?=some L[j]:=List.getElem?_eq_getElem hjs
      have hiun:=(mem_ready.1 hr).1
      have hap : oi.apart L[j]=true:=by
        rcases hfree j _ hoj hji hjun with h2 | h2
        · exfalso
          have h3:=anc_listed htbl hlen hcl (j + 1) j (by omega) o ho hall i h2
          rcases Nat.lt_or_ge i listed.size with h' | h'
          · simp [h'] at hiun h3;rw [hiun] at h3;cases h3
          · simp [Array.getElem?_eq_none h'] at h3
        · exact h2
      unfold aOp at h1 ⊢
      rw [hoj] at h1 ⊢
      obtain ⟨vj,C2,Z2,g1,g2⟩:=h1
      obtain ⟨Cj,Zj,g3,g4⟩:=Gives.swap (fun e=>hji e.symm) (hnone j (by omega) hjun) hap hy g1
      refine ⟨vj,Cj,Zj,g3,ih (listed.setIfInBounds j true) _ _ _ _ _ ?_ ?_ ?_ (ready_mono hr (Ne.symm hji)) g4 ?_⟩
      · intro k hk hl
        by_cases hjk : j=k
        · subst hjk
          have hls : j < listed.size:=by
            rcases Nat.lt_or_ge j listed.size with h' | h'
            · exact h'
            · simp [Array.getElem?_eq_none h'] at hjun
          simp [hls] at hl
        · rw [getD_set_ne true hjk] at hl
          exact g3.free (hnone k hk hl) (by omega)
      · intro k ok hk hki hun
        refine hfree k ok hk hki ?_
        by_cases hjk : j=k
        · subst hjk;exact hjun
        · rw [getD_set_ne true hjk] at hun;exact hun
      · intro k ok hk hl e he hb
        by_cases hjk : j=k
        · subst hjk
          rw [ho] at hk;cases hk
          exact getD_set_true (hall e he hb)
        · rw [getD_set_ne false hjk] at hl
          exact getD_set_true (hcl k ok hk hl e he hb)
      · rw [Array.setIfInBounds_comm _ _ hji]
        have e1 : Fr.putO (Fr.putO fr oi.dst v) L[j].dst vj=Fr.putO (Fr.putO fr L[j].dst vj) oi.dst v:=by
          refine putO_comm fr v vj fun d hd e=>?_
          simp only [XO.apart,Bool.and_eq_true] at hap
          have:=hap.1.1
          rw [hd,e] at this
          simp at this
        rw [← e1]
        exact g2

theorem aAny_lex {tbl : List (List Nat)} {ord0 : List Nat} (hB : lexX ops.toList L tbl ord0=true) : ∀ (ord : List Nat) (listed : Array Bool) (fr : Fr) (C : Heap) (Z : Frz),ordOK ops.toList tbl L ord=true→listed.size=ops.size →
    (∀ j,j < ops.size→(listed.getD j true=false↔j ∈ ord))→(∀ j,j < ops.size→listed.getD j true=false→C (base + j)=none)→Closed ops listed →
    aRun P (pair L ord) base K fr C Z→aAny P ops L base K ord.length listed fr C Z:=by
  simp only [lexX,Bool.and_eq_true,beq_iff_eq,Array.length_toList] at hB
  obtain ⟨⟨⟨⟨hL,hlen⟩,htbl⟩,_⟩,_⟩:=hB
  have conv : ∀ (listed : Array Bool),listed.size=ops.size→∀ j,j < ops.size→listed.getD j false=listed.getD j true:=fun listed hs j hj=>by
    simp [hs,hj]
  intro ord
  induction ord with
  | nil =>
    intro listed fr C Z _ hs hl _ _ h
    refine ⟨?_,h⟩
    cases hr : Region.ready .any ops listed with
    | nil=>rfl
    | cons x xs =>
      have hx : x ∈ Region.ready .any ops listed:=by rw [hr];simp
      obtain ⟨h1,o,ho,_⟩:=mem_ready.1 hx
      have hxs:=(Array.getElem?_eq_some_iff.1 ho).1
      have:=(hl x hxs).1 h1
      simp at this
  | cons i ord ih =>
    intro listed fr C Z hord hs hl hnone hcl h
    simp only [ordOK,Bool.and_eq_true] at hord
    obtain ⟨⟨h1,h2⟩,h3⟩:=hord
    split at h1
    case h_2=>cases h1
    rename_i o x ho hx
    have hi : i < ops.size:=by
      have : ops[i]?=some o:=by simpa using ho
      exact (Array.getElem?_eq_some_iff.1 this).1
    have hoi : ops[i]?=some o:=by simpa using ho
    simp only [Bool.and_eq_true] at h1
    obtain ⟨hdep,hap⟩:=h1
    simp only [pair,hx] at h
    obtain ⟨v,C',Z',g1,g2⟩:=h
    have hui : listed.getD i true=false:=(hl i hi).2 (by simp)
    have hdeps : ∀ e ∈ o.after,Region.binds .any e=true→listed.getD e.on false=true:=by
      intro e he hb
      have h4:=List.all_eq_true.1 hdep e (by simpa using he)
      simp only [hb,Bool.not_true,Bool.false_or,Bool.and_eq_true,decide_eq_true_eq,Bool.not_eq_true'] at h4
      have hlt : e.on < ops.size:=by simpa using h4.1
      rw [conv listed hs _ hlt]
      cases hh : listed.getD e.on true with
      | true=>rfl
      | false =>
        have:=(hl e.on hlt).1 hh
        have h5:=h4.2
        rw [List.contains_iff_mem.2 this] at h5
        cases h5
    refine aAny_first (tbl:=tbl) htbl (by simpa using hlen) (by omega) hx ord.length listed fr C C' Z Z' hnone ?_ hcl (mem_ready.2 ⟨hui,o,hoi,hdeps⟩) g1 ?_
    · intro j oj hj hji hun
      have hjs : j < ops.size:=by
        have:=(List.getElem?_eq_some_iff.1 hj).1;omega
      have hm:=(hl j hjs).1 hun
      rcases List.mem_cons.1 hm with h4 | h4
      · exact absurd h4 hji
      · have h5:=List.all_eq_true.1 hap j h4
        simp only [Bool.or_eq_true,List.contains_iff_mem,hj] at h5
        exact h5
    · refine ih _ _ _ _ h3 (by simpa using hs) ?_ ?_ ?_ g2
      · intro j hj
        by_cases hij : i=j
        · subst hij
          have hni : i ∉ ord:=by
            intro hm
            rw [List.contains_iff_mem.2 hm] at h2
            cases h2
          simp [hs,hi,hni]
        · rw [getD_set_ne true hij,hl j hj]
          simp
          intro e;exact absurd e.symm hij
      · intro j hj hun
        by_cases hij : i=j
        · subst hij;simp [hs,hi] at hun
        · rw [getD_set_ne true hij] at hun
          exact g1.free (hnone j hj hun) (by omega)
      · intro k ok hk hlk e he hb
        by_cases hik : i=k
        · subst hik
          rw [hoi] at hk;cases hk
          exact getD_set_true (hdeps e he hb)
        · rw [getD_set_ne false hik] at hlk
          exact getD_set_true (hcl k ok hk hlk e he hb)
end
end Go.Sv
namespace Go.Sv
open Go
set_option linter.unusedSimpArgs false
set_option linter.unusedVariables false

def Impl (P : Program) (o : Oper) (i : XI) : Prop :=
  ∀ (w0 : World) (S Wr : Nat→Prop) (μ : Nat→Option Nat) (U : Nat→Prop) (C : Heap) (Z : Frz) (w : World) (a : Act) (fr : Fr) (id : Nat) (v : AV) (C' : Heap) (Z' : Frz),
    (∀ k,S k→k < w0.heap.size∧¬ Wr k)→HOK w0 S Wr μ U C Z w→(∀ s,RA w (Av S C Z μ) μ U (a.tmps.getD s undef) (fr s))→¬ U id →
    XStep P fr C Z id i v C' Z'→∀ (K : Act→World→Prop) (Q : Exit→Act→World→Prop),
    (∀ cv w' μ' U',HOK w0 S Wr μ' U' C' Z' w'→Step S w C Z μ U w' C' Z' μ' U'→RA w' (Av S C' Z' μ') μ' U' cv v→(∀ b,U' b→U b ∨ b=id)→K (a.put o.dst cv) w') →
    o.wp P a w K Q


def xo : Operand→Option X
  | .tmp t=>some (.t t)
  | .const v=>some (.k (ofV v))
  | .func f=>some (.k (.d (.fn f [])))
  | .global _=>none

section
variable {w : World} {A : Nat→Prop} {μ : Nat→Option Nat} {U : Nat→Prop}

theorem ofV_sound (v : Value) : RA w A μ U v (ofV v):=by
  cases v with
  | agg cs =>
    simp only [ofV]
    split
    · rename_i h
      refine .agg cs _ (by simp) (fun j hj=>?_)
      simp at hj
      simp only [List.getElem_map,Array.getElem_toList]
      have h1:=List.all_eq_true.1 h (cs[j]) (by simp)
      simp [hj]
      exact .d _ _ (.val _ h1)
    · exact .dead _
  | tuple vs=>exact .dead _
  | _=>exact .d _ _ (.val _ rfl)

theorem xo_sound {a : Act} {fr : Fr} (hf : ∀ s,RA w A μ U (a.tmps.getD s undef) (fr s)) {x : Operand} {y : X} (h : xo x=some y) : RA w A μ U (a.eval x) (y.ev fr):=by
  cases x with
  | tmp t=>cases h;exact hf t
  | const v=>cases h;exact ofV_sound v
  | func f=>cases h;exact .d _ _ (.fn f #[] [] rfl (fun j hj=>absurd hj (by simp)))
  | global g=>cases h

theorem RA.val_eq {v u : Value} (h : RA w A μ U v (.d (.val u))) : v=u:=by
  cases h with
  | d _ _ h=>cases h;rfl

theorem RA.agg_inv {v : Value} {cs : List AV} (h : RA w A μ U v (.agg cs)) : ∃ vs,v=.agg vs∧RAs w A μ U vs cs:=by
  cases h with
  | agg vs _ h1 h2=>exact ⟨vs,rfl,h1,h2⟩

theorem RA.tup_inv {v : Value} {cs : List AV} (h : RA w A μ U v (.tup cs)) : ∃ vs,v=.tuple vs∧RAs w A μ U vs cs:=by
  cases h with
  | tup vs _ h1 h2=>exact ⟨vs,rfl,h1,h2⟩

theorem RAs.get {vs : Array Value} {cs : List AV} (h : RAs w A μ U vs cs) {j : Nat} (hj : j < cs.length) :
    ∃ hv : j < vs.size,RA w A μ U vs[j] cs[j]:=by
  have:=h.1
  refine ⟨by omega,?_⟩
  have h2:=h.2 j hj
  rwa [Array.getD_eq_getD_getElem?,Array.getElem?_eq_getElem (by omega)] at h2

theorem RAs.get? {vs : Array Value} {cs : List AV} (h : RAs w A μ U vs cs) {j : Nat} {x : AV} (hx : cs[j]?=some x) :
    ∃ v,vs[j]?=some v∧RA w A μ U v x:=by
  obtain ⟨hj,rfl⟩:=List.getElem?_eq_some_iff.1 hx
  obtain ⟨hv,h2⟩:=h.get hj
  exact ⟨vs[j],Array.getElem?_eq_getElem hv,h2⟩

theorem RAs.of_get? {vs : Array Value} {cs : List AV} (hs : vs.size=cs.length) (h : ∀ (j : Nat) x,cs[j]?=some x→∃ v,vs[j]?=some v∧RA w A μ U v x) : RAs w A μ U vs cs:=by
  refine ⟨hs,fun j hj=>?_⟩
  obtain ⟨v,h1,h2⟩:=h j _ (List.getElem?_eq_getElem hj)
  rw [Array.getD_eq_getD_getElem?,h1]
  exact h2

theorem cells_sound {v : Value} {x : AV} {cs : List AV} (h : RA w A μ U v x) (hc : cellsOf x=some cs) : RAs w A μ U v.cells cs:=by
  have one : ∀ {v x},RA w A μ U v x→x.one=true→cellsOf x=some cs→RAs w A μ U v.cells cs:=by
    intro v x h h1 hc
    have h2:=h.one h1
    have hv : v.cells=#[v]:=by cases v<;>first | rfl | (simp [Value.oneCell'] at h2)
    have hcs : cs=[x]:=by cases x<;>first | (simp [AV.one] at h1;done) | (simp [cellsOf] at hc;exact hc.symm)
    subst hcs
    rw [hv]
    refine RAs.of_get? rfl fun j y hy=>?_
    cases j with
    | zero=>simp at hy;subst hy;exact ⟨v,rfl,h⟩
    | succ j=>simp at hy
  cases x with
  | agg cs' =>
    obtain ⟨vs,rfl,h1⟩:=h.agg_inv
    cases hc
    exact h1
  | tup _=>cases hc
  | dead=>cases hc
  | d x=>exact one h rfl hc
  | ptrL b off=>exact one h rfl hc
  | slL b off len sz=>exact one h rfl hc
  | fnL f c=>exact one h rfl hc

theorem RAs.one {vs : Array Value} {cs : List AV} (h : RAs w A μ U vs cs) (h1 : cs.all AV.one=true) : ∀ v ∈ vs.toList,v.oneCell'=true:=by
  intro v hv
  obtain ⟨j,hj⟩:=List.mem_iff_getElem?.1 hv
  have hj' : j < vs.size:=by
    have:=(List.getElem?_eq_some_iff.1 hj).1;simpa using this
  obtain ⟨hv',h2⟩:=h.get (j:=j) (by have:=h.1;omega)
  have h3 : v=vs[j]:=by
    have:=(List.getElem?_eq_some_iff.1 hj).2;simpa using this.symm
  rw [h3]
  exact h2.one (List.all_eq_true.1 h1 _ (List.getElem_mem _))

theorem RAs.append {vs us : Array Value} {cs ds : List AV} (h : RAs w A μ U vs cs) (k : RAs w A μ U us ds) : RAs w A μ U (vs++us) (cs++ds):=by
  refine RAs.of_get? (by simp [h.1,k.1]) fun j x hx=>?_
  rw [List.getElem?_append] at hx
  rw [Array.getElem?_append,h.1]
  split at hx
  · rename_i hj;rw [if_pos hj];exact h.get? hx
  · rename_i hj;rw [if_neg hj];exact k.get? hx

theorem RAs.extract {vs : Array Value} {cs : List AV} (h : RAs w A μ U vs cs) (off n : Nat) (hn : off + n≤cs.length) :
    RAs w A μ U (vs.extract off (off + n)) ((cs.drop off).take n):=by
  refine RAs.of_get? (by simp [h.1];omega) fun j x hx=>?_
  rw [List.getElem?_take] at hx
  split at hx
  · rename_i hj
    rw [List.getElem?_drop] at hx
    obtain ⟨v,h1,h2⟩:=h.get? hx
    refine ⟨v,?_,h2⟩
    rw [Array.getElem?_extract]
    have : off + j < vs.size:=by have:=h.1;omega
    rw [if_pos (by omega),h1]
  · cases hx

theorem zero_sound (zs : List Value) (h : zs.all (·.oneCell')=true) : RAs w A μ U zs.toArray (zeroA zs):=by
  refine RAs.of_get? (by simp [zeroA]) fun j x hx=>?_
  simp only [zeroA,List.getElem?_map,Option.map_eq_some_iff] at hx
  obtain ⟨z,hz,rfl⟩:=hx
  exact ⟨z,by simpa using hz,.d _ _ (.val _ (List.all_eq_true.1 h z (List.mem_of_getElem? hz)))⟩
end
end Go.Sv
namespace Go.Sv
open Go
set_option linter.unusedSimpArgs false
set_option linter.unusedVariables false

def XI.isCall : XI→Bool
  | .call .. | .callv .. | .storeA .. | .callA ..=>true
  | _=>false

theorem XStep.toXi {P : Program} {fr : Fr} {C : Heap} {Z : Frz} {id : Nat} {i : XI} {v : AV} {C' : Heap} {Z' : Frz} (hc : i.isCall=false)
    (h : XStep P fr C Z id i v C' Z') : xi fr C Z id i=some (v,C')∧Z'=Z:=by
  cases i<;>first | exact h | (simp [XI.isCall] at hc)

theorem Impl.ofPure {P : Program} {o : Oper} {i : XI} (hc : i.cls=0)
    (h : ∀ (w : World) (A : Nat→Prop) (μ : Nat→Option Nat) (U : Nat→Prop) (a : Act) (fr : Fr) (v : AV),(∀ s,RA w A μ U (a.tmps.getD s undef) (fr s)) →
      xp fr i=some v→∃ cv,(execOp a.eval o).run P w=.ok (.value cv) w∧RA w A μ U cv v) : Impl P o i:=by
  intro w0 S Wr μ U C Z w a fr id v C' Z' hS hH hf hid hx K Q hK
  have hnc : i.isCall=false:=by
    cases i<;>first | rfl | (simp [XI.cls] at hc;done) | skip
    rename_i f args lp nw
    cases lp<;>cases nw<;>simp [XI.cls] at hc
  obtain ⟨h1,rfl⟩:=hx.toXi hnc
  unfold xi at h1
  rw [hc] at h1
  obtain ⟨v',hv,he⟩:=Option.map_eq_some_iff.1 h1
  cases he
  obtain ⟨cv,hr,ha⟩:=h w _ μ U a fr v hf hv
  unfold Oper.wp
  rw [hr]
  exact hK cv w μ U hH Step.refl ha (fun b hb=>.inl hb)

section
variable {P : Program} {o : Oper}

theorem impl_mv {x : Operand} {x' : X} (ho : o.op=.move x ∨ o.op=.assign x) (hx : xo x=some x') : Impl P o (.mv x') :=
  Impl.ofPure rfl fun w A μ U a fr v hf h=>by
    cases h
    refine ⟨a.eval x,?_,xo_sound hf hx⟩
    rcases ho with ho | ho<;>simp [execOp,ho]

theorem impl_pick {c x y : Operand} {c' x' y' : X} (ho : o.op=.pick c x y) (hc : xo c=some c') (hx : xo x=some x') (hy : xo y=some y') : Impl P o (.pick c' x' y') :=
  Impl.ofPure rfl fun w A μ U a fr v hf h=>by
    have h1:=xo_sound hf hc
    simp only [xp] at h
    split at h
    · rename_i t he
      rw [he] at h1
      have e1:=h1.val_eq
      cases h
      refine ⟨if t then a.eval x else a.eval y,?_,?_⟩
      · cases t<;>simp [execOp,ho,e1,asBool]
      · cases t
        · exact xo_sound hf hy
        · exact xo_sound hf hx
    · cases h

theorem impl_nilck {x : Operand} {x' : X} (ho : o.op=.nilCheck x) (hx : xo x=some x') : Impl P o (.nilck x') :=
  Impl.ofPure rfl fun w A μ U a fr v hf h=>by
    have h1:=xo_sound hf hx
    simp only [xp] at h
    split at h
    · rename_i b off he
      cases h
      rw [he] at h1
      refine ⟨a.eval x,?_,h1⟩
      generalize hv : a.eval x=cv at h1
      cases h1
      simp only [execOp,ho,hv];rfl
    · rename_i cs off he
      cases h
      rw [he] at h1
      refine ⟨a.eval x,?_,h1⟩
      generalize hv : a.eval x=cv at h1
      cases h1 with
      | d _ _ h1 =>
        cases h1
        simp only [execOp,ho,hv];rfl
    · cases h

theorem impl_idT {x : Operand} {x' : X} {src dst : TypeId} {d : TypeDesc} (ho : o.op=.convert src dst x) (hs : P.underlying src=some d) (hd : P.underlying dst=some .string) (hx : xo x=some x') : Impl P o (.idT x') :=
  Impl.ofPure rfl fun w A μ U a fr v hf h=>by
    have h1:=xo_sound hf hx
    simp only [xp] at h
    split at h
    · rename_i s he
      cases h
      rw [he] at h1
      have e1:=h1.val_eq
      refine ⟨_,?_,h1⟩
      simp [execOp,ho,e1,convert,run_underlying hs,run_underlying hd]
    · cases h

theorem impl_conv {x : Operand} {x' : X} {src dst : TypeId} {d : TypeDesc} {k : IntKind} (ho : o.op=.convert src dst x) (hs : P.underlying src=some d) (hd : P.underlying dst=some (.int k)) (hx : xo x=some x') : Impl P o (.conv k x') :=
  Impl.ofPure rfl fun w A μ U a fr v hf h=>by
    have h1:=xo_sound hf hx
    simp only [xp] at h
    split at h
    · rename_i s he
      cases h
      rw [he] at h1
      have e1:=h1.val_eq
      refine ⟨_,?_,.d _ _ (.val _ rfl)⟩
      simp [execOp,ho,e1,convert,run_underlying hs,run_underlying hd,Conv.intToInt]
    · cases h

theorem impl_un {x : Operand} {x' : X} {t : TypeId} {op : UnOp} (ho : o.op=.unOp op t x) (hx : xo x=some x') : Impl P o (.un op x') :=
  Impl.ofPure rfl fun w A μ U a fr v hf h=>by
    have h1:=xo_sound hf hx
    simp only [xp] at h
    split at h
    · rename_i s he
      rw [he] at h1
      have e1:=h1.val_eq
      obtain ⟨u,hu,rfl⟩:=Option.map_eq_some_iff.1 h
      have hu1 : u.oneCell'=true:=by
        unfold unary at hu
        split at hu<;>first | (cases hu;rfl) | (cases hu;done)
      refine ⟨u,?_,.d _ _ (.val _ hu1)⟩
      unfold unary at hu
      split at hu
      · cases hu;simp [execOp,ho,e1,Op.unary]
      · cases hu;simp [execOp,ho,e1,Op.unary,Op.intArith]
      · cases hu;simp [execOp,ho,e1,Op.unary,Op.intBits]
      · cases hu
    · cases h

theorem arith_run {op : BinOp} {x y u : Value} (h : arith op x y=some u) (t : TypeId) (xo yo : Operand) (w : World) :
    (do eqGuard op t xo yo x y;binOp op t x y).run P w=.ok u w∧u.oneCell'=true:=by
  unfold arith at h
  split at h
  · rename_i k a k' b
    have hg : (eqGuard op t xo yo (.int k a) (.int k' b)).run P w=.ok () w:=by
      unfold eqGuard;cases op<;>rfl
    simp only [Sem.run_bind,hg,Result.andThen_ok]
    cases op<;>simp only at h
    case shl =>
      split at h
      · rename_i hb;cases h
        have : ¬ b < 0:=by omega
        simp [binOp,Op.shift,this,Value.oneCell']
      · cases h
    case shr =>
      split at h
      · rename_i hb;cases h
        have : ¬ b < 0:=by omega
        simp [binOp,Op.shift,this,Value.oneCell']
      · cases h
    all_goals
      split at h
      · rename_i hk
        subst hk
        first
          | (cases h;simp [binOp,Op.intArith,Op.intBits,Op.intCmp,Value.oneCell'];done)
          | (split at h
             · cases h
             · rename_i hb;cases h;simp [binOp,Op.intDiv,hb,Value.oneCell'])
      · cases h
  · rename_i a b
    have hg : (eqGuard op t xo yo (.string a) (.string b)).run P w=.ok () w:=by
      unfold eqGuard;cases op<;>rfl
    simp only [Sem.run_bind,hg,Result.andThen_ok]
    cases op<;>simp only at h
    case add =>
      split at h
      · rename_i hb;cases h
        have hm : IntKind.i64.max=9223372036854775807:=by decide
        have : ¬ (((a.size + b.size : Nat) : Int) > IntKind.i64.max):=by rw [hm];omega
        refine ⟨?_,rfl⟩
        show (Op.stringOp .add a b).run P w=_
        simp only [Op.stringOp]
        rw [if_neg this];rfl
      · cases h
    all_goals first | (cases h;done) | (cases h;simp [binOp,Op.stringOp,Value.oneCell'])
  · cases h

theorem impl_arith {x y : Operand} {x' y' : X} {t t' : TypeId} {op : BinOp} (ho : o.op=.binOp op t x y t') (hx : xo x=some x') (hy : xo y=some y') : Impl P o (.arith op x' y') :=
  Impl.ofPure rfl fun w A μ U a fr v hf h=>by
    have h1:=xo_sound hf hx
    have h2:=xo_sound hf hy
    simp only [xp] at h
    split at h
    · rename_i s r he1 he2
      rw [he1] at h1;rw [he2] at h2
      have e1:=h1.val_eq
      have e2:=h2.val_eq
      obtain ⟨u,hu,rfl⟩:=Option.map_eq_some_iff.1 h
      obtain ⟨hr,ho1⟩:=arith_run (P:=P) hu t x y w
      refine ⟨u,?_,.d _ _ (.val _ ho1)⟩
      simp only [execOp,ho,e1,e2]
      rw [Sem.run_bind,hr];rfl
    · cases h

theorem impl_beq {x y : Operand} {x' y' : X} {t t' : TypeId} {neg : Bool} (ho : o.op=.binOp (if neg then .neq else .eql) t x y t') (ht : P.underlying t=some .bool) (hx : xo x=some x') (hy : xo y=some y') : Impl P o (.beq neg x' y') :=
  Impl.ofPure rfl fun w A μ U a fr v hf h=>by
    have h1:=xo_sound hf hx
    have h2:=xo_sound hf hy
    simp only [xp] at h
    split at h
    · rename_i s r he1 he2
      rw [he1] at h1;rw [he2] at h2
      have e1:=h1.val_eq
      have e2:=h2.val_eq
      cases h
      have he : ∀ p q : Bool,(Op.equal t (.bool p) (.bool q)).run P w=.ok (p == q) w:=fun p q=>run_equalIn_bool' w 9999 t p q ht
      refine ⟨_,?_,.d _ _ (.val _ rfl)⟩
      simp only [execOp,ho,e1,e2]
      cases neg
      · have e3 : eqGuard .eql t x y (.bool s) (.bool r)=pure ():=rfl
        have e4 : binOp .eql t (.bool s) (.bool r)=(do let b ← Op.equal t (.bool s) (.bool r);pure (.bool b)):=rfl
        simp only [Bool.false_eq_true,if_false,e3,e4]
        simp [he]
      · have e3 : eqGuard .neq t x y (.bool s) (.bool r)=pure ():=rfl
        have e4 : binOp .neq t (.bool s) (.bool r)=(do let b ← Op.equal t (.bool s) (.bool r);pure (.bool (!b))):=rfl
        simp only [if_true,e3,e4]
        simp [he]
    · cases h
end
end Go.Sv
namespace Go.Sv
open Go
set_option linter.unusedSimpArgs false
set_option linter.unusedVariables false

def szOf (P : Program) (t : TypeId) : Option Nat:=(P.info? t).map (·.size)
theorem run_szOf {P : Program} {t : TypeId} {n : Nat} (h : szOf P t=some n) (w : World) : (sizeOf t).run P w=.ok n w:=by
  unfold szOf at h
  cases hi : P.info? t with
  | none=>simp [hi] at h
  | some i =>
    simp [hi] at h
    simp [sizeOf,typeInfo,hi,h]

theorem add_lit' (blk off k : Nat) : (⟨blk,off,none⟩ : Addr).add k=⟨blk,off + k,none⟩:=by
  unfold Addr.add;split<;>simp_all

section
variable {w : World} {A : Nat→Prop} {μ : Nat→Option Nat} {U : Nat→Prop}

theorem RA.ptrL_inv {v : Value} {b off : Nat} (h : RA w A μ U v (.ptrL b off)) : ∃ blk,v=.pointer (some ⟨blk,off,none⟩)∧U b∧μ b=some blk:=by
  cases h with
  | ptrL _ _ blk h1 h2=>exact ⟨blk,rfl,h1,h2⟩

theorem RA.ptrD_inv {v : Value} {cs : List DV} {off : Nat} (h : RA w A μ U v (.d (.ptr cs off))) :
    ∃ (blk b0 : Nat) (f : Nat→Value),v=.pointer (some ⟨blk,b0 + off,none⟩)∧¬ A blk∧0 < cs.length∧(∀ j,j < cs.length→w.cell? ⟨blk,b0 + j,none⟩=some (f j)) ∧
      ∀ j (h : j < cs.length),RD w A (f j) (cs[j]):=by
  cases h with
  | d _ _ h =>
    cases h with
    | ptr blk b0 _ _ f h1 h2 h3 h4=>exact ⟨blk,b0,f,rfl,h1,h2,h3,h4⟩

theorem RA.slD_inv {v : Value} {cs : List DV} {n : Nat} (h : RA w A μ U v (.d (.sl cs n))) :
    (cs=[]∧n=0∧∃ a cap,v=.slice a 0 cap) ∨ ∃ (blk b0 cap : Nat) (f : Nat→Value),v=.slice (some ⟨blk,b0,none⟩) n cap∧¬ A blk∧0 < cs.length∧n≤cap∧(∀ j,j < cs.length→w.cell? ⟨blk,b0 + j,none⟩=some (f j)) ∧
      ∀ j (h : j < cs.length),RD w A (f j) (cs[j]):=by
  cases h with
  | d _ _ h =>
    cases h with
    | sl blk b0 _ cap _ f h1 h2 h3 h4 h5=>exact .inr ⟨blk,b0,cap,f,rfl,h1,h2,h3,h4,h5⟩
    | sl0 a cap=>exact .inl ⟨rfl,rfl,a,cap,rfl⟩

theorem RA.slL_inv {v : Value} {b off len sz : Nat} (h : RA w A μ U v (.slL b off len sz)) :
    (off=0∧len=0∧v=.slice none 0 0∧U b∧μ b=none) ∨ ∃ blk cap n e,v=.slice (some ⟨blk,off,none⟩) len cap∧U b∧μ b=some blk∧len≤cap∧w.shape? blk=some (e,n)∧off + cap * sz≤n:=by
  cases h with
  | slL _ _ _ _ blk cap n e h1 h2 h3 h4 h5=>exact .inr ⟨blk,cap,n,e,rfl,h1,h2,h3,h4,h5⟩
  | slN _ _ h1 h2=>exact .inl ⟨rfl,rfl,rfl,h1,h2⟩

theorem intIn_inv {v : Value} {x : AV} {n j : Nat} (h : RA w A μ U v x) (hi : intIn n x=some j) : ∃ k,v=.int k j∧j < n:=by
  unfold intIn at hi
  split at hi
  · rename_i k i
    split at hi
    · rename_i hc
      cases hi
      have e:=h.val_eq
      subst e
      refine ⟨k,?_,by omega⟩
      congr 1;omega
    · cases hi
  · cases hi

theorem intUpto_inv {v : Value} {x : AV} {n j : Nat} (h : RA w A μ U v x) (hi : intUpto n x=some j) : ∃ k,v=.int k j∧j≤n:=by
  unfold intUpto at hi
  split at hi
  · rename_i k i
    split at hi
    · rename_i hc
      cases hi
      have e:=h.val_eq
      subst e
      refine ⟨k,?_,by omega⟩
      congr 1;omega
    · cases hi
  · cases hi
end

section
variable {P : Program} {o : Oper}

theorem impl_fadd {x : Operand} {x' : X} {s : TypeId} {field n : Nat} {fields : Array Field} {f : Field} (ho : o.op=.fieldAddr s x field)
    (hs : P.underlying s=some (.struct fields)) (hf0 : fields[field]?=some f) (hn : szOf P f.type=some n) (hn0 : n ≠ 0) (hx : xo x=some x') : Impl P o (.fadd f.offset x') :=
  Impl.ofPure rfl fun w A μ U a fr v hf h=>by
    have h1:=xo_sound hf hx
    have hrun : ∀ blk off,a.eval x=.pointer (some ⟨blk,off,none⟩)→(execOp a.eval o).run P w=.ok (.value (.pointer (some ⟨blk,off + f.offset,none⟩))) w:=by
      intro blk off he
      simp [execOp,ho,he,Instr.fieldAt,run_underlying hs,hf0,Instr.sureAddr,fieldPlace,run_szOf hn,hn0,add_lit']
    simp only [xp] at h
    split at h
    · rename_i b off he
      cases h
      rw [he] at h1
      obtain ⟨blk,h2,h3,h4⟩:=h1.ptrL_inv
      exact ⟨_,hrun _ _ h2,.ptrL _ _ _ h3 h4⟩
    · rename_i cs off he
      cases h
      rw [he] at h1
      obtain ⟨blk,b0,g,h2,h3,h4,h5,h6⟩:=h1.ptrD_inv
      refine ⟨_,hrun _ _ h2,.d _ _ ?_⟩
      rw [Nat.add_assoc]
      exact .ptr blk b0 _ cs g h3 h4 h5 h6
    · cases h

theorem impl_idxS {x i : Operand} {x' i' : X} {t e : TypeId} {sz : Nat} (ho : o.op=.indexAddr t x i)
    (ht : P.underlying t=some (.slice e)) (hn : szOf P e=some sz) (hx : xo x=some x') (hi : xo i=some i') : Impl P o (.idxS sz x' i') :=
  Impl.ofPure rfl fun w A μ U a fr v hf h=>by
    have h1:=xo_sound hf hx
    have h2:=xo_sound hf hi
    have hrun : ∀ blk off len cap k (j : Nat),a.eval x=.slice (some ⟨blk,off,none⟩) len cap→a.eval i=.int k j→j < len →
        (execOp a.eval o).run P w=.ok (.value (.pointer (some ⟨blk,off + j * sz,none⟩))) w:=by
      intro blk off len cap k j he1 he2 hj
      simp [execOp,ho,he1,he2,Instr.indexAt,asIntOf,run_underlying ht,run_szOf hn,hj,add_lit']
    simp only [xp] at h
    split at h
    · rename_i b off len sz' he
      split at h
      · rename_i hz
        subst hz
        obtain ⟨j,hj,rfl⟩:=Option.map_eq_some_iff.1 h
        obtain ⟨k,h3,h4⟩:=intIn_inv h2 hj
        rw [he] at h1
        rcases h1.slL_inv with ⟨_,h5,_⟩ | ⟨blk,cap,n,e',h5,h6,h7,_⟩
        · omega
        · exact ⟨_,hrun _ _ _ _ _ _ h5 h3 h4,.ptrL _ _ _ h6 h7⟩
      · cases h
    · rename_i cs n he
      split at h
      · cases h
      rename_i hne
      obtain ⟨j,hj,rfl⟩:=Option.map_eq_some_iff.1 h
      obtain ⟨k,h3,h4⟩:=intIn_inv h2 hj
      rw [he] at h1
      rcases h1.slD_inv with ⟨h5,_⟩ | ⟨blk,b0,cap,g,h5,h6,h7,h8,h9,h10⟩
      · exact absurd h5 hne
      · exact ⟨_,hrun _ _ _ _ _ _ h5 h3 h4,.d _ _ (.ptr blk b0 _ cs g h6 h7 h9 h10)⟩
    · cases h

theorem impl_idxP {x i : Operand} {x' i' : X} {t e : TypeId} {sz n : Nat} (ho : o.op=.indexAddr t x i)
    (ht : P.underlying t=some (.array n e)) (hn : szOf P e=some sz) (hx : xo x=some x') (hi : xo i=some i') : Impl P o (.idxP n sz x' i') :=
  Impl.ofPure rfl fun w A μ U a fr v hf h=>by
    have h1:=xo_sound hf hx
    have h2:=xo_sound hf hi
    have hrun : ∀ blk off k (j : Nat),a.eval x=.pointer (some ⟨blk,off,none⟩)→a.eval i=.int k j→j < n →
        (execOp a.eval o).run P w=.ok (.value (.pointer (some ⟨blk,off + j * sz,none⟩))) w:=by
      intro blk off k j he1 he2 hj
      simp [execOp,ho,he1,he2,Instr.indexAt,asIntOf,run_underlying ht,run_szOf hn,hj,add_lit',Instr.sureAddr]
    simp only [xp] at h
    split at h
    · rename_i b off he
      obtain ⟨j,hj,rfl⟩:=Option.map_eq_some_iff.1 h
      obtain ⟨k,h3,h4⟩:=intIn_inv h2 hj
      rw [he] at h1
      obtain ⟨blk,h5,h6,h7⟩:=h1.ptrL_inv
      exact ⟨_,hrun _ _ _ _ h5 h3 h4,.ptrL _ _ _ h6 h7⟩
    · rename_i cs off he
      obtain ⟨j,hj,rfl⟩:=Option.map_eq_some_iff.1 h
      obtain ⟨k,h3,h4⟩:=intIn_inv h2 hj
      rw [he] at h1
      obtain ⟨blk,b0,g,h5,h6,h7,h8,h9⟩:=h1.ptrD_inv
      refine ⟨_,hrun _ _ _ _ h5 h3 h4,.d _ _ ?_⟩
      rw [Nat.add_assoc]
      exact .ptr blk b0 _ cs g h6 h7 h8 h9
    · cases h

theorem impl_idxT {x i : Operand} {x' i' : X} {t : TypeId} (ho : o.op=.index t x i)
    (ht : P.underlying t=some .string) (hx : xo x=some x') (hi : xo i=some i') : Impl P o (.idxT x' i') :=
  Impl.ofPure rfl fun w A μ U a fr v hf h=>by
    have h1:=xo_sound hf hx
    have h2:=xo_sound hf hi
    simp only [xp] at h
    split at h
    · rename_i s k j he1 he2
      split at h
      · rename_i hj
        cases h
        rw [he1] at h1;rw [he2] at h2
        have e1:=h1.val_eq
        have e2:=h2.val_eq
        refine ⟨_,?_,.d _ _ (.val _ rfl)⟩
        have hlt : j.toNat < s.size:=by omega
        have hs : s[j.toNat]?=some (s.data.getD j.toNat 0):=by
          have hl' : j.toNat < s.data.size:=hlt
          rw [getElem?_pos s j.toNat hlt]
          simp [Array.getElem?_eq_getElem hl']
          rfl
        simp only [execOp,ho,e1,e2]
        simp [Instr.index,asIntOf,run_underlying ht,hj.1,hs]
      · cases h
    · cases h

theorem impl_ext {x : Operand} {x' : X} {i : Nat} (ho : o.op=.extract x i) (hx : xo x=some x') : Impl P o (.ext x' i) :=
  Impl.ofPure rfl fun w A μ U a fr v hf h=>by
    have h1:=xo_sound hf hx
    simp only [xp] at h
    split at h
    · rename_i vs he
      rw [he] at h1
      obtain ⟨us,h2,h3⟩:=h1.tup_inv
      obtain ⟨u,h4,h5⟩:=h3.get? h
      refine ⟨u,?_,h5⟩
      simp only [execOp,ho,h2]
      simp [Instr.extract,h4]
    · cases h

theorem impl_lenT {x : Operand} {x' : X} {t : TypeId} (ho : o.op=.call { callee:=.builtin .len,args:=#[x],argTypes:=#[t] })
    (ht : P.underlying t=some .string) (hx : xo x=some x') : Impl P o (.lenT x') :=
  Impl.ofPure rfl fun w A μ U a fr v hf h=>by
    have h1:=xo_sound hf hx
    simp only [xp] at h
    split at h
    · rename_i s he
      cases h
      rw [he] at h1
      have e1:=h1.val_eq
      refine ⟨_,?_,.d _ _ (.val _ rfl)⟩
      simp [execOp,ho,resolve,invoke,builtin,e1,Builtin.len_,run_underlying ht,goInt]
    · cases h

theorem impl_lenS {x : Operand} {x' : X} {t e : TypeId} (ho : o.op=.call { callee:=.builtin .len,args:=#[x],argTypes:=#[t] })
    (ht : P.underlying t=some (.slice e)) (hx : xo x=some x') : Impl P o (.lenS x') :=
  Impl.ofPure rfl fun w A μ U a fr v hf h=>by
    have h1:=xo_sound hf hx
    have hrun : ∀ b n c,a.eval x=.slice b n c→(execOp a.eval o).run P w=.ok (.value (.int .i64 n)) w:=by
      intro b n c he
      simp [execOp,ho,resolve,invoke,builtin,he,Builtin.len_,run_underlying ht,goInt]
    simp only [xp] at h
    split at h
    · rename_i he
      cases h
      rw [he] at h1
      exact ⟨_,hrun _ _ _ h1.val_eq,.d _ _ (.val _ rfl)⟩
    · rename_i cs n he
      cases h
      rw [he] at h1
      rcases h1.slD_inv with ⟨_,h5,b,c,h6⟩ | ⟨blk,b0,cap,g,h5,_⟩
      · subst h5;exact ⟨_,hrun _ _ _ h6,.d _ _ (.val _ rfl)⟩
      · exact ⟨_,hrun _ _ _ h5,.d _ _ (.val _ rfl)⟩
    · rename_i b off n sz he
      cases h
      rw [he] at h1
      rcases h1.slL_inv with ⟨_,h5,h6,_⟩ | ⟨blk,cap,m,e',h5,_⟩
      · subst h5;exact ⟨_,hrun _ _ _ h6,.d _ _ (.val _ rfl)⟩
      · exact ⟨_,hrun _ _ _ h5,.d _ _ (.val _ rfl)⟩
    · cases h

theorem impl_mkfn {f : FuncId} {caps : Array Operand} {caps' : List X} (ho : o.op=.makeFunc (.func f) #[] caps) (hx : caps.toList.mapM xo=some caps') : Impl P o (.mkfn f caps') :=
  Impl.ofPure rfl fun w A μ U a fr v hf h=>by
    cases h
    refine ⟨.func (.func f) #[] (caps.map a.eval),by simp [execOp,ho,Instr.makeFunc],?_⟩
    have key : ∀ (l : List Operand) (l' : List X),l.mapM xo=some l'→l'.length=l.length∧∀ (j : Nat) y,l'[j]?=some y→∃ x,l[j]?=some x∧RA w A μ U (a.eval x) (y.ev fr):=by
      intro l
      induction l with
      | nil=>intro l' h;simp at h;subst h;exact ⟨rfl,fun j y hy=>by simp at hy⟩
      | cons x l ih =>
        intro l' h
        simp only [List.mapM_cons,Option.bind_eq_bind,Option.bind_eq_some_iff,Option.pure_def,Option.some.injEq] at h
        obtain ⟨y,h1,ys,h2,rfl⟩:=h
        obtain ⟨h3,h4⟩:=ih ys h2
        refine ⟨by simp [h3],fun j z hz=>?_⟩
        cases j with
        | zero=>simp at hz;subst hz;exact ⟨x,rfl,xo_sound hf h1⟩
        | succ j=>simp at hz;obtain ⟨x',h5,h6⟩:=h4 j z hz;exact ⟨x',by simpa using h5,h6⟩
    obtain ⟨h1,h2⟩:=key _ _ hx
    have hra : RAs w A μ U (caps.map a.eval) (caps'.map (X.ev fr)):=by
      refine RAs.of_get? (by simp [h1]) fun j x hj=>?_
      rw [List.getElem?_map,Option.map_eq_some_iff] at hj
      obtain ⟨y,hy,rfl⟩:=hj
      obtain ⟨z,hz,hz2⟩:=h2 j y hy
      exact ⟨a.eval z,by simpa using ⟨z,by simpa using hz,rfl⟩,hz2⟩
    exact .fnL f _ _ hra.1 hra.2
end
end Go.Sv
namespace Go.Sv
open Go
set_option linter.unusedSimpArgs false
set_option linter.unusedVariables false

def aggQ (P : Program) (t : TypeId) : Option Bool :=
  match P.underlying t with
  | some (.struct _)=>some true
  | some (.array _ _)=>some true
  | some _=>some false
  | none=>none

theorem run_aggQ {P : Program} {t : TypeId} {b : Bool} (h : aggQ P t=some b) (w : World) : (isAgg t).run P w=.ok b w:=by
  unfold aggQ at h
  unfold isAgg
  split at h
  all_goals first
    | (cases h;done)
    | (rename_i hu;cases h;simp [run_underlying hu];done)

def aggSz (P : Program) (t : TypeId) : Option (Option Nat) :=
  match aggQ P t,szOf P t with
  | some true,some n=>some (some n)
  | some false,some _=>some none
  | _,_=>none

section
variable {w : World} {A : Nat→Prop} {μ : Nat→Option Nat} {U : Nat→Prop}

theorem run_part {P : Program} {t : TypeId} {n : Option Nat} (hn : aggSz P t=some n) {vs : Array Value} {cs : List AV} (h : RAs w A μ U vs cs) {off : Nat} {x : AV}
    (hx : subA cs off n=some x) (w' : World) : ∃ v,(part t vs off).run P w'=.ok v w'∧RA w A μ U v x:=by
  unfold aggSz at hn
  split at hn
  · rename_i k h1 h2
    cases hn
    simp only [subA] at hx
    split at hx
    · rename_i hle
      cases hx
      have he:=h.extract off k hle
      refine ⟨_,?_,.agg _ _ he.1 he.2⟩
      simp [part,run_aggQ h1,run_szOf h2]
    · cases hx
  · rename_i h1 h2
    cases hn
    obtain ⟨v,hv,hr⟩:=h.get? hx
    refine ⟨v,?_,hr⟩
    simp [part,run_aggQ h1,hv]
  · cases hn

theorem foldl_set (off : Nat) : ∀ (l : List Value) (k : Nat) (cells : Array Value),
    ((l.zipIdx k).foldl (fun (cs : Array Value) (p : Value × Nat)=>cs.setIfInBounds (off + p.2) p.1) cells).size=cells.size ∧
    ∀ j,((l.zipIdx k).foldl (fun (cs : Array Value) (p : Value × Nat)=>cs.setIfInBounds (off + p.2) p.1) cells)[j]? =
      if off + k≤j∧j < off + k + l.length∧j < cells.size then l[j - (off + k)]? else cells[j]?
  | [],k,cells=>⟨rfl,fun j=>by simp;intro h1 h2;omega⟩
  | v :: l,k,cells=>by
    obtain ⟨h1,h2⟩:=foldl_set off l (k + 1) (cells.setIfInBounds (off + k) v)
    simp only [List.zipIdx_cons,List.foldl_cons]
    refine ⟨by rw [h1];simp,fun j=>?_⟩
    rw [h2 j]
    simp only [Array.size_setIfInBounds,List.length_cons]
    by_cases hj : j < cells.size
    · by_cases e : j=off + k
      · subst e
        rw [if_neg (by omega),if_pos (by omega)]
        simp [hj]
      · rw [Array.getElem?_setIfInBounds_ne (by omega)]
        by_cases hr : off + (k + 1)≤j∧j < off + (k + 1) + l.length∧j < cells.size
        · rw [if_pos hr,if_pos (by omega)]
          rw [show j - (off + k)=(j - (off + (k + 1))) + 1 by omega]
          simp
        · rw [if_neg hr,if_neg (by omega)]
    · rw [if_neg (by omega),if_neg (by omega)]
      simp [hj]

theorem splice_get {α : Type} (r : List α) (off : Nat) (cs : List α) (h : off + cs.length≤r.length) (j : Nat) :
    (splice r off cs)[j]?=if off≤j∧j < off + cs.length then cs[j - off]? else r[j]?:=by
  unfold splice
  by_cases h1 : j < off
  · rw [if_neg (by omega),List.append_assoc,List.getElem?_append_left (by simp;omega),List.getElem?_take,if_pos h1]
  · by_cases h2 : j < off + cs.length
    · rw [if_pos (by omega),List.append_assoc,List.getElem?_append_right (by simp;omega),List.getElem?_append_left (by simp;omega)]
      congr 1;simp;omega
    · rw [if_neg (by omega),List.getElem?_append_right (by simp;omega),List.getElem?_drop]
      congr 1;simp;omega

theorem splice_length {α : Type} (r : List α) (off : Nat) (cs : List α) (h : off + cs.length≤r.length) : (splice r off cs).length=r.length:=by
  simp [splice];omega

theorem fill_sound {place : Nat→Option (Nat × Nat)} : ∀ (parts : List (Nat × Value)) (ps : List (Nat × Nat × Option (List AV))) (cells : Array Value) (cs res : List AV),
    RAs w A μ U cells cs→parts.length=ps.length →
    (∀ (j : Nat) i v off s x,parts[j]?=some (i,v)→ps[j]?=some (off,s,x)→place i=some (off,s)∧∀ cs,x=some cs→RAs w A μ U v.cells cs) →
    fillA cs ps=some res→∃ cells',Instr.fill place cells parts=some cells'∧RAs w A μ U cells' res
  | [],ps,cells,cs,res,hc,hl,hp,h=>by
    have : ps=[]:=List.eq_nil_of_length_eq_zero (by simpa using hl.symm)
    subst this
    simp [fillA] at h;subst h
    exact ⟨cells,rfl,hc⟩
  | (i,v) :: parts,[],cells,cs,res,hc,hl,hp,h=>by simp at hl
  | (i,v) :: parts,(off,s,x) :: ps,cells,cs,res,hc,hl,hp,h=>by
    obtain ⟨hpl,hx⟩:=hp 0 i v off s x rfl rfl
    cases x with
    | none=>simp [fillA] at h
    | some xs =>
      simp only [fillA] at h
      split at h
      · rename_i hcond
        have hv:=hx xs rfl
        have hvs : v.cells.size=s:=by have:=hv.1;omega
        have hcs:=hc.1
        have hnew : RAs w A μ U (v.cells.zipIdx.foldl (fun cs (p : Value × Nat)=>cs.setIfInBounds (off + p.2) p.1) cells) (splice cs off xs):=by
          obtain ⟨g1,g2⟩:=foldl_set off v.cells.toList 0 cells
          rw [← Array.foldl_toList,Array.toList_zipIdx]
          refine RAs.of_get? (by rw [g1,splice_length _ _ _ hcond.2];exact hcs) fun j y hy=>?_
          rw [splice_get _ _ _ hcond.2] at hy
          rw [g2 j]
          have:=hv.1
          simp only [Array.length_toList,Nat.add_zero]
          by_cases hr : off≤j∧j < off + xs.length
          · rw [if_pos hr] at hy
            rw [if_pos (by omega)]
            obtain ⟨u,hu,hr2⟩:=hv.get? hy
            exact ⟨u,by simpa using hu,hr2⟩
          · rw [if_neg hr] at hy
            rw [if_neg (by omega)]
            exact hc.get? hy
        obtain ⟨cells',h1,h2⟩:=fill_sound parts ps _ _ res hnew (by simpa using hl) (fun j i' v' off' s' x' a b=>hp (j + 1) i' v' off' s' x' (by simpa using a) (by simpa using b)) h
        refine ⟨cells',?_,h2⟩
        have hsz : ¬ (v.cells.size ≠ s || decide (off + v.cells.size > cells.size))=true:=by
          have:=hv.1
          simp;omega
        simp only [Instr.fill,hpl]
        rw [if_neg hsz]
        exact h1
      · cases h

theorem intsA_sound : ∀ (l : List AV) (vs : List Value) (k : IntKind) (ns : List Int),intsA l=some (k,ns)→vs.length=l.length →
    (∀ (j : Nat) v x,vs[j]?=some v→l[j]?=some x→RA w A μ U v x)→vs=ns.map (Value.int k)∧ns ≠ []
  | [],vs,k,ns,h,hl,hr=>by simp [intsA] at h
  | x :: l,[],k,ns,h,hl,hr=>by simp at hl
  | x :: l,v :: vs,k,ns,h,hl,hr=>by
    have h0:=hr 0 v x rfl rfl
    unfold intsA at h
    split at h
    · rename_i k' n heq
      obtain ⟨rfl,rfl⟩:=List.cons.inj heq
      cases h
      have e:=h0.val_eq
      have : vs=[]:=List.eq_nil_of_length_eq_zero (by simpa using hl)
      subst this;subst e;simp
    · rename_i k' n t hne heq
      obtain ⟨rfl,rfl⟩:=List.cons.inj heq
      obtain ⟨⟨k2,l2⟩,h1,h2⟩:=Option.bind_eq_some_iff.1 h
      simp only at h2
      split at h2
      · rename_i hk;subst hk
        cases h2
        have e:=h0.val_eq
        obtain ⟨e2,_⟩:=intsA_sound l vs k l2 h1 (by simpa using hl) (fun j v x a b=>hr (j + 1) v x (by simpa using a) (by simpa using b))
        subst e;rw [e2];simp
      · cases h2
    · cases h
end

section
variable {P : Program} {o : Oper}

theorem impl_fsub {x : Operand} {x' : X} {t : TypeId} {field : Nat} {n : Option Nat} {fields : Array Field} {f : Field} (ho : o.op=.field t x field)
    (hs : P.underlying t=some (.struct fields)) (hf0 : fields[field]?=some f) (hn : aggSz P f.type=some n) (hx : xo x=some x') : Impl P o (.fsub f.offset n x') :=
  Impl.ofPure rfl fun w A μ U a fr v hf h=>by
    have h1:=xo_sound hf hx
    simp only [xp] at h
    split at h
    · rename_i cs he
      rw [he] at h1
      obtain ⟨vs,h2,h3⟩:=h1.agg_inv
      obtain ⟨u,h4,h5⟩:=run_part hn h3 h w
      refine ⟨u,?_,h5⟩
      simp [execOp,ho,h2,Instr.field,run_underlying hs,hf0,asAgg,h4]
    · cases h

theorem impl_build {t : TypeId} {parts : Array (Nat × Operand)} {it : TypeInfo} {z : Value} {place : Nat→Option (Nat × Nat)} {ps : List (Nat × Nat × X)} (ho : o.op=.build t parts)
    (hz : ∀ l,P.built t l=Instr.fill place z.cells l) (hzs : z.cells.toList.all (·.oneCell')=true)
    (hps : ps.length=parts.size) (hp : ∀ (j : Nat) i x off s y,parts[j]?=some (i,x)→ps[j]?=some (off,s,y)→place i=some (off,s)∧xo x=some y) :
    Impl P o (.build z.cells.toList ps) :=
  Impl.ofPure rfl fun w A μ U a fr v hf h=>by
    simp only [xp] at h
    obtain ⟨cs,h1,rfl⟩:=Option.map_eq_some_iff.1 h
    have hz0:=zero_sound (w:=w) (A:=A) (μ:=μ) (U:=U) _ hzs
    obtain ⟨cells',h2,h3⟩:=fill_sound (place:=place) (parts.toList.map fun (i,x)=>(i,a.eval x)) _ z.cells _ cs hz0 (by simp [hps]) (by
      intro j i v off s x hj1 hj2
      rw [List.getElem?_map,Option.map_eq_some_iff] at hj1 hj2
      obtain ⟨⟨i',x'⟩,h5,h6⟩:=hj1
      obtain ⟨⟨off',s',y'⟩,h7,h8⟩:=hj2
      cases h6;cases h8
      obtain ⟨h9,h10⟩:=hp j _ _ _ _ _ (by simpa using h5) h7
      exact ⟨h9,fun cs hcs=>cells_sound (xo_sound hf h10) hcs⟩) h1
    refine ⟨.agg cells',?_,.agg _ _ h3.1 h3.2⟩
    simp only [execOp,ho]
    rw [Sem.run_bind,run_build w t _ cells' (by rw [hz];simpa using h2)]
    rfl

theorem maxFold (k : IntKind) (w : World) : ∀ (l : List Int) (x : Int),((l.map (Value.int k)).foldlM Builtin.max2 (.int k x)).run P w=.ok (.int k (l.foldl (fun a y=>if y > a then y else a) x)) w
  | [],x=>by simp
  | y :: l,x=>by
    simp only [List.map_cons,List.foldlM_cons,List.foldl_cons,Sem.run_bind]
    have : (Builtin.max2 (.int k x) (.int k y)).run P w=.ok (.int k (if y > x then y else x)) w:=by simp [Builtin.max2]
    rw [this,Result.andThen_ok,maxFold k w l]
theorem minFold (k : IntKind) (w : World) : ∀ (l : List Int) (x : Int),((l.map (Value.int k)).foldlM Builtin.min2 (.int k x)).run P w=.ok (.int k (l.foldl (fun a y=>if y < a then y else a) x)) w
  | [],x=>by simp
  | y :: l,x=>by
    simp only [List.map_cons,List.foldlM_cons,List.foldl_cons,Sem.run_bind]
    have : (Builtin.min2 (.int k x) (.int k y)).run P w=.ok (.int k (if y < x then y else x)) w:=by simp [Builtin.min2]
    rw [this,Result.andThen_ok,minFold k w l]

theorem xos_sound {w : World} {A : Nat→Prop} {μ : Nat→Option Nat} {U : Nat→Prop} {a : Act} {fr : Fr} (hf : ∀ s,RA w A μ U (a.tmps.getD s undef) (fr s)) :
    ∀ (l : List Operand) (l' : List X),l.mapM xo=some l'→l'.length=l.length∧∀ (j : Nat) x y,l[j]?=some x→l'[j]?=some y→RA w A μ U (a.eval x) (y.ev fr)
  | [],l',h=>by simp at h;subst h;exact ⟨rfl,fun j x y hx=>by simp at hx⟩
  | x :: l,l',h=>by
    simp only [List.mapM_cons,Option.bind_eq_bind,Option.bind_eq_some_iff,Option.pure_def,Option.some.injEq] at h
    obtain ⟨y,h1,ys,h2,rfl⟩:=h
    obtain ⟨h3,h4⟩:=xos_sound hf l ys h2
    refine ⟨by simp [h3],fun j z u hz hu=>?_⟩
    cases j with
    | zero=>simp at hz hu;subst hz;subst hu;exact xo_sound hf h1
    | succ j=>simp at hz hu;exact h4 j z u hz hu

theorem xos_RAs {w : World} {A : Nat→Prop} {μ : Nat→Option Nat} {U : Nat→Prop} {a : Act} {fr : Fr} (hf : ∀ s,RA w A μ U (a.tmps.getD s undef) (fr s))
    {args : Array Operand} {l' : List X} (h : args.toList.mapM xo=some l') : RAs w A μ U (args.map a.eval) (l'.map (X.ev fr)):=by
  obtain ⟨h1,h2⟩:=xos_sound hf _ _ h
  refine RAs.of_get? (by simp [h1]) fun j x hj=>?_
  rw [List.getElem?_map,Option.map_eq_some_iff] at hj
  obtain ⟨y,hy,rfl⟩:=hj
  have hj' : j < args.size:=by have:=(List.getElem?_eq_some_iff.1 hy).1;simp at h1;omega
  refine ⟨a.eval args[j],by simp [hj'],h2 j _ _ (by simp [hj']) hy⟩

theorem impl_max {args : Array Operand} {ts : Array TypeId} {xs : List X} (ho : o.op=.call { callee:=.builtin .max,args:=args,argTypes:=ts }) (hx : args.toList.mapM xo=some xs) : Impl P o (.max xs) :=
  Impl.ofPure rfl fun w A μ U a fr v hf h=>by
    simp only [xp] at h
    obtain ⟨⟨k,l⟩,h1,rfl⟩:=Option.map_eq_some_iff.1 h
    have hr:=xos_RAs hf hx
    obtain ⟨e,hne⟩:=intsA_sound (w:=w) (A:=A) (μ:=μ) (U:=U) _ (args.map a.eval).toList k l h1 (by simpa using hr.1) (fun j v x hv hx'=>by
      obtain ⟨v',h2,h3⟩:=hr.get? hx'
      have : v=v':=by
        have hv' : (args.map a.eval)[j]?=some v:=by simpa using hv
        rw [h2] at hv';exact (Option.some.inj hv').symm
      subst this;exact h3)
    refine ⟨.int k (maxI l),?_,.d _ _ (.val _ rfl)⟩
    have : args.map a.eval=(l.map (Value.int k)).toArray:=by apply Array.ext';simpa using e
    simp only [execOp,ho,resolve,invoke,builtin]
    rw [this]
    cases l with
    | nil=>exact absurd rfl hne
    | cons x l=>simp [Builtin.max_,maxFold,maxI]

theorem impl_min {args : Array Operand} {ts : Array TypeId} {xs : List X} (ho : o.op=.call { callee:=.builtin .min,args:=args,argTypes:=ts }) (hx : args.toList.mapM xo=some xs) : Impl P o (.min xs) :=
  Impl.ofPure rfl fun w A μ U a fr v hf h=>by
    simp only [xp] at h
    obtain ⟨⟨k,l⟩,h1,rfl⟩:=Option.map_eq_some_iff.1 h
    have hr:=xos_RAs hf hx
    obtain ⟨e,hne⟩:=intsA_sound (w:=w) (A:=A) (μ:=μ) (U:=U) _ (args.map a.eval).toList k l h1 (by simpa using hr.1) (fun j v x hv hx'=>by
      obtain ⟨v',h2,h3⟩:=hr.get? hx'
      have : v=v':=by
        have hv' : (args.map a.eval)[j]?=some v:=by simpa using hv
        rw [h2] at hv';exact (Option.some.inj hv').symm
      subst this;exact h3)
    refine ⟨.int k (minI l),?_,.d _ _ (.val _ rfl)⟩
    have : args.map a.eval=(l.map (Value.int k)).toArray:=by apply Array.ext';simpa using e
    simp only [execOp,ho,resolve,invoke,builtin]
    rw [this]
    cases l with
    | nil=>exact absurd rfl hne
    | cons x l=>simp [Builtin.min_,minFold,minI]
end
end Go.Sv
namespace Go.Sv
open Go
set_option linter.unusedSimpArgs false
set_option linter.unusedVariables false

def eqInts : List (IntKind × Int)→List (IntKind × Int)→Bool
  | (_,a) :: s,(_,b) :: t=>a == b && eqInts s t
  | _,_=>true

section
variable {P : Program} {o : Oper}

theorem run_eqArr_from (d : Nat) (t e : TypeId) (k0 : IntKind) (hd : P.underlying e=some (.int k0)) (ha : aggQ P e=some false) (w : World) (xs ys : Array Value) :
    ∀ (l m : List (IntKind × Int)) (i : Nat),l.length=m.length →
      (∀ (j : Nat) p,l[j]?=some p→xs[i + j]?=some (.int p.1 p.2))→(∀ (j : Nat) p,m[j]?=some p→ys[i + j]?=some (.int p.1 p.2)) →
      (∀ (j : Nat) p q,l[j]?=some p→m[j]?=some q→p.1=q.1) →
      ((do
        let r ← forIn (List.range' i l.length 1) ((none,()) : Option Bool × Unit) fun j r=>do
          if (!(← Op.equalIn (d + 1) e (← part e xs (j * 1)) (← part e ys (j * 1))))=true then pure (ForInStep.done (some false,())) else pure (ForInStep.yield (none,()))
        match r.fst with
        | some a=>pure a
        | none=>pure true : Sem Bool)).run P w=.ok (eqInts l m) w
  | [],m,i,hl,hx,hy,hk=>by
    have : m=[]:=List.eq_nil_of_length_eq_zero (by simpa using hl.symm)
    subst this
    simp [eqInts]
  | (k,a) :: l,[],i,hl,hx,hy,hk=>by simp at hl
  | (k,a) :: l,(k',b) :: m,i,hl,hx,hy,hk=>by
    have hkk : k=k':=hk 0 _ _ rfl rfl
    subst hkk
    have h1 : (part e xs (i * 1)).run P w=.ok (.int k a) w:=by
      have:=hx 0 _ rfl
      simp at this
      simp [part,run_aggQ ha,this]
    have h2 : (part e ys (i * 1)).run P w=.ok (.int k b) w:=by
      have:=hy 0 _ rfl
      simp at this
      simp [part,run_aggQ ha,this]
    have ih:=run_eqArr_from d t e k0 hd ha w xs ys l m (i + 1) (by simpa using hl)
      (fun j p hp=>by have:=hx (j + 1) p (by simpa using hp);rwa [show i + (j + 1)=i + 1 + j by omega] at this)
      (fun j p hp=>by have:=hy (j + 1) p (by simpa using hp);rwa [show i + (j + 1)=i + 1 + j by omega] at this)
      (fun j p q hp hq=>hk (j + 1) p q (by simpa using hp) (by simpa using hq))
    simp only [List.length_cons,List.range'_succ,List.forIn_cons,Sem.run_bind,h1,h2,Result.andThen_ok,run_equalIn_int (P:=P) w d e k k0 a b hd] at ih ⊢
    by_cases hab : a=b
    · subst hab
      simp only [beq_self_eq_true,Bool.not_true,Bool.false_eq_true,if_false,Sem.run_pure,Result.andThen_ok,eqInts,Bool.true_and]
      exact ih
    · have hb : (a == b)=false:=by simpa using hab
      simp [hb,eqInts]

theorem run_equalIn_arr (d : Nat) (t e : TypeId) (n : Nat) (ht : P.underlying t=some (.array n e)) (hsz : szOf P e=some 1) (w : World) (xs ys : Array Value) :
    (Op.equalIn (d + 1) t (.agg xs) (.agg ys)).run P w=((do
        let r ← forIn (List.range' 0 n 1) ((none,()) : Option Bool × Unit) fun j r=>do
          if (!(← Op.equalIn d e (← part e xs (j * 1)) (← part e ys (j * 1))))=true then pure (ForInStep.done (some false,())) else pure (ForInStep.yield (none,()))
        match r.fst with
        | some a=>pure a
        | none=>pure true : Sem Bool)).run P w:=by
  simp only [Op.equalIn,Sem.run_bind,run_underlying ht,run_szOf hsz,Result.andThen_ok]
  simp only [Std.Legacy.Range.forIn_eq_forIn_range',Std.Legacy.Range.size]
  simp
  refine congrArg (Result.andThen _) ?_
  funext a w'
  obtain ⟨r,u⟩:=a
  cases r<;>rfl

theorem eqCells_ints : ∀ (a b : List AV) (r : Bool),eqCells a b=some r→∃ l m : List (IntKind × Int),a=l.map (fun p=>.d (.val (.int p.1 p.2)))∧b=m.map (fun p=>.d (.val (.int p.1 p.2))) ∧
    l.length=m.length∧(∀ (j : Nat) p q,l[j]?=some p→m[j]?=some q→p.1=q.1)∧r=eqInts l m
  | [],[],r,h=>by simp [eqCells] at h;subst h;exact ⟨[],[],rfl,rfl,rfl,fun j p q hp=>by simp at hp,rfl⟩
  | [],_ :: _,r,h=>by simp [eqCells] at h
  | x :: s,[],r,h=>by simp [eqCells] at h
  | x :: s,y :: t,r,h=>by
    unfold eqCells at h
    split at h
    · rename_i h1 h2;cases h1
    · rename_i k a s' k' b t' h1 h2
      cases h1;cases h2
      split at h
      · rename_i hk;subst hk
        obtain ⟨r',h3,rfl⟩:=Option.map_eq_some_iff.1 h
        obtain ⟨l,m,rfl,rfl,h4,h5,rfl⟩:=eqCells_ints _ _ _ h3
        refine ⟨(k,a) :: l,(k,b) :: m,rfl,rfl,by simp [h4],fun j p q hp hq=>?_,rfl⟩
        cases j with
        | zero=>simp at hp hq;subst hp;subst hq;rfl
        | succ j=>simp at hp hq;exact h5 j p q hp hq
      · cases h
    · cases h

theorem RAs.ints {w : World} {A : Nat→Prop} {μ : Nat→Option Nat} {U : Nat→Prop} {vs : Array Value} {l : List (IntKind × Int)}
    (h : RAs w A μ U vs (l.map (fun p=>.d (.val (.int p.1 p.2))))) : ∀ (j : Nat) p,l[j]?=some p→vs[j]?=some (.int p.1 p.2):=by
  intro j p hp
  obtain ⟨v,h1,h2⟩:=h.get? (j:=j) (x:=.d (.val (.int p.1 p.2))) (by simp [hp])
  rw [h1,h2.val_eq]

theorem impl_eqAgg {x y : Operand} {x' y' : X} {t t' e : TypeId} {n : Nat} {k0 : IntKind} {neg : Bool} (ho : o.op=.binOp (if neg then .neq else .eql) t x y t')
    (ht : P.underlying t=some (.array n e)) (he : P.underlying e=some (.int k0)) (hsz : szOf P e=some 1) (hzt : szOf P t=some n) (hg : P.eqGuardType P.depth t=false)
    (hx : xo x=some x') (hy : xo y=some y') : Impl P o (.eqAgg n neg x' y') :=
  Impl.ofPure rfl fun w A μ U a fr v hf h=>by
    have h1:=xo_sound hf hx
    have h2:=xo_sound hf hy
    have hag : aggQ P e=some false:=by simp [aggQ,he]
    simp only [xp] at h
    split at h
    · rename_i p q he1 he2
      by_cases hlen : p.length=n
      case neg=>rw [if_neg hlen] at h;cases h
      rw [if_pos hlen] at h
      obtain ⟨r,hr,rfl⟩:=Option.map_eq_some_iff.1 h
      rw [he1] at h1;rw [he2] at h2
      obtain ⟨vs,e1,g1⟩:=h1.agg_inv
      obtain ⟨us,e2,g2⟩:=h2.agg_inv
      obtain ⟨l,m,rfl,rfl,hl,hk,rfl⟩:=eqCells_ints _ _ _ hr
      have hln : l.length=n:=by simpa using hlen
      have hmain:=run_eqArr_from (P:=P) 9998 t e k0 he hag w vs us l m 0 hl (by simpa using g1.ints) (by simpa using g2.ints) hk
      have heq : (Op.equalIn 10000 t (.agg vs) (.agg us)).run P w=.ok (eqInts l m) w:=by
        rw [← hmain,hln]
        exact run_equalIn_arr 9999 t e n ht hsz w vs us
      refine ⟨_,?_,.d _ _ (.val _ rfl)⟩
      simp only [execOp,ho,e1,e2]
      cases neg
      · simp only [Bool.false_eq_true,if_false]
        rw [Sem.run_bind,Sem.run_bind,run_eqGuard_agg w .eql t x y vs us hg,Result.andThen_ok,run_eql_struct,heq]
        rfl
      · simp only [if_true]
        rw [Sem.run_bind,Sem.run_bind,run_eqGuard_agg w .neq t x y vs us hg,Result.andThen_ok,run_neq_struct,heq]
        rfl
    · cases h
end
end Go.Sv
namespace Go.Sv
open Go
set_option linter.unusedSimpArgs false
set_option linter.unusedVariables false

section
variable {P : Program} {o : Oper}

theorem bound_run {w : World} {v : Value} {k : IntKind} {j n : Nat} (c : BoundsCode) (hv : v=.int k j) (hj : j≤n) : (Instr.sliceBound v n c).run P w=.ok j w:=by
  subst hv
  simp [Instr.sliceBound,asIntOf,hj]

theorem bounds_run {w : World} {A : Nat→Prop} {μ : Nat→Option Nat} {U : Nat→Prop} {a : Act} {fr : Fr} (hf : ∀ s,RA w A μ U (a.tmps.getD s undef) (fr s)) {lo hi : Option Operand} {lo' hi' : Option X}
    (hlo : ∀ x,lo=some x→∃ y,lo'=some y∧xo x=some y) (hlo0 : lo=none→lo'=none) (hhi : ∀ x,hi=some x→∃ y,hi'=some y∧xo x=some y) (hhi0 : hi=none→hi'=none)
    {len cap l h : Nat} (b : Bool) (hlc : len≤cap)
    (e1 : hiOf fr len hi'=some h)
    (e2 : loOf fr h lo'=some l) :
    (Instr.sliceBounds b len cap (lo.map a.eval) (hi.map a.eval) none).run P w=.ok (l,h,cap) w∧l≤h∧h≤len:=by
  have g1 : ∃ (hr : h≤len),True:=by
    cases hi with
    | none=>rw [hhi0 rfl] at e1;simp [hiOf] at e1;exact ⟨by omega,trivial⟩
    | some x =>
      obtain ⟨y,hy,hxo⟩:=hhi x rfl
      rw [hy] at e1;simp only [hiOf] at e1
      obtain ⟨k,_,h5⟩:=intUpto_inv (xo_sound hf hxo) e1
      exact ⟨h5,trivial⟩
  obtain ⟨hh,_⟩:=g1
  have g2 : l≤h:=by
    cases lo with
    | none=>rw [hlo0 rfl] at e2;simp [loOf] at e2;omega
    | some x =>
      obtain ⟨y,hy,hxo⟩:=hlo x rfl
      rw [hy] at e2;simp only [loOf] at e2
      obtain ⟨k,_,h5⟩:=intUpto_inv (xo_sound hf hxo) e2
      exact h5
  refine ⟨?_,g2,hh⟩
  cases hi with
  | none =>
    rw [hhi0 rfl] at e1;simp [hiOf] at e1;subst e1
    cases lo with
    | none=>rw [hlo0 rfl] at e2;simp [loOf] at e2;subst e2;simp [Instr.sliceBounds]
    | some x =>
      obtain ⟨y,hy,hxo⟩:=hlo x rfl
      rw [hy] at e2;simp only [loOf] at e2
      obtain ⟨k,h4,h5⟩:=intUpto_inv (xo_sound hf hxo) e2
      have hb:=bound_run (P:=P) (w:=w) (if (none : Option Value).isSome then .slice3C else .sliceB) h4 h5
      simp at hb
      simp [Instr.sliceBounds,hb]
  | some z =>
    obtain ⟨y,hy,hxo⟩:=hhi z rfl
    rw [hy] at e1;simp only [hiOf] at e1
    obtain ⟨k,h4,h5⟩:=intUpto_inv (xo_sound hf hxo) e1
    have hb1:=bound_run (P:=P) (w:=w) (if b then .sliceAcap else .sliceAlen) h4 (Nat.le_trans h5 hlc)
    cases lo with
    | none=>rw [hlo0 rfl] at e2;simp [loOf] at e2;subst e2;simp [Instr.sliceBounds,hb1]
    | some x =>
      obtain ⟨y',hy',hxo'⟩:=hlo x rfl
      rw [hy'] at e2;simp only [loOf] at e2
      obtain ⟨k',h6,h7⟩:=intUpto_inv (xo_sound hf hxo') e2
      have hb2:=bound_run (P:=P) (w:=w) .sliceB h6 h7
      simp [Instr.sliceBounds,hb1,hb2]

def xoo : Option Operand→Option (Option X)
  | none=>some none
  | some x=>(xo x).map some
theorem xoo_spec {lo : Option Operand} {lo' : Option X} (h : xoo lo=some lo') : (∀ x,lo=some x→∃ y,lo'=some y∧xo x=some y)∧(lo=none→lo'=none):=by
  cases lo with
  | none=>simp [xoo] at h;subst h;exact ⟨fun x hx=>(by cases hx),fun _=>rfl⟩
  | some x =>
    obtain ⟨y,h1,rfl⟩:=Option.map_eq_some_iff.1 h
    exact ⟨fun z hz=>(by cases hz;exact ⟨y,rfl,h1⟩),fun hh=>(by cases hh)⟩

theorem impl_slS {x : Operand} {x' : X} {lo hi : Option Operand} {lo' hi' : Option X} {t e : TypeId} {sz : Nat} (ho : o.op=.slice t x lo hi none)
    (ht : P.underlying t=some (.slice e)) (hn : szOf P e=some sz) (hx : xo x=some x') (hlo : xoo lo=some lo') (hhi : xoo hi=some hi') : Impl P o (.slS sz x' lo' hi') :=
  Impl.ofPure rfl fun w A μ U a fr v hf h=>by
    have h1:=xo_sound hf hx
    obtain ⟨l1,l2⟩:=xoo_spec hlo
    obtain ⟨k1,k2⟩:=xoo_spec hhi
    have hrun : ∀ b len cap l h,a.eval x=.slice b len cap→len≤cap→hiOf fr len hi'=some h →
        loOf fr h lo'=some l →
        (execOp a.eval o).run P w=.ok (.value (.slice (if cap=l then b else b.map (·.add (l * sz))) (h - l) (cap - l))) w∧l≤h∧h≤len:=by
      intro b len cap l h he hlc e1 e2
      obtain ⟨g1,g2,g3⟩:=bounds_run (P:=P) (w:=w) hf l1 l2 k1 k2 true hlc e1 e2
      refine ⟨?_,g2,g3⟩
      simp [execOp,ho,he,Instr.sliceAt,Instr.slice,run_underlying ht,g1,run_szOf hn]
    simp only [xp] at h
    split at h
    · rename_i b off len sz' he
      split at h
      case isFalse=>cases h
      rename_i hz
      subst hz
      obtain ⟨hh,e1,h3⟩:=Option.bind_eq_some_iff.1 h
      obtain ⟨l,e2,rfl⟩:=Option.map_eq_some_iff.1 h3
      rw [he] at h1
      rcases h1.slL_inv with ⟨h5,h6,h7,h8,h9⟩ | ⟨blk,cap,n,e',h5,h6,h7,h8,h9,h10⟩
      · subst h5;subst h6
        obtain ⟨g1,g2,g3⟩:=hrun _ _ _ _ _ h7 (Nat.le_refl _) e1 e2
        refine ⟨_,g1,?_⟩
        have hl : l=0:=by omega
        have hhh : hh=0:=by omega
        subst hl;subst hhh
        simp
        exact .slN _ _ h8 h9
      · obtain ⟨g1,g2,g3⟩:=hrun _ _ _ _ _ h5 h8 e1 e2
        refine ⟨_,g1,?_⟩
        by_cases hl0 : l=0
        · subst hl0
          have : (if cap=0 then some ({ block:=blk,off:=off } : Addr) else Option.map (fun (x : Addr)=>x.add (0 * sz')) (some ⟨blk,off,none⟩))=some ⟨blk,off,none⟩:=by
            split
            · rfl
            · simp [add_lit']
          simp only [if_true,Nat.sub_zero,this]
          exact .slL _ _ _ _ blk cap n e' h6 h7 (by omega) h9 h10
        · by_cases hlh : l=hh
          · subst hlh
            simp only [if_neg hl0,if_true,Nat.sub_self]
            exact .d _ _ (.sl0 _ _)
          · simp only [if_neg hl0,if_neg hlh,if_neg (show ¬ cap=l by omega),Option.map_some,add_lit']
            refine .slL _ _ _ _ blk (cap - l) n e' h6 h7 (by omega) h9 ?_
            have : l * sz' + (cap - l) * sz'=cap * sz':=by rw [← Nat.add_mul];congr 1;omega
            omega
    · rename_i cs n he
      split at h
      case isFalse=>cases h
      rename_i hz
      obtain ⟨hh,e1,h3⟩:=Option.bind_eq_some_iff.1 h
      obtain ⟨l,e2,rfl⟩:=Option.map_eq_some_iff.1 h3
      rw [he] at h1
      rcases h1.slD_inv with ⟨h5,h6,b,cap,h7⟩ | ⟨blk,b0,cap,g,h5,h6,h7,h8,h9,h10⟩
      · subst h6
        obtain ⟨g1,g2,g3⟩:=hrun _ _ _ _ _ h7 (Nat.zero_le _) e1 e2
        refine ⟨_,g1,?_⟩
        have hl : l=0:=by omega
        have hhh : hh=0:=by omega
        subst hl;subst hhh
        simp
        exact .d _ _ (.sl0 _ _)
      · obtain ⟨g1,g2,g3⟩:=hrun _ _ _ _ _ h5 h8 e1 e2
        refine ⟨_,g1,?_⟩
        by_cases hlh : hh=l
        · subst hlh
          simp only [if_true,Nat.sub_self]
          exact .d _ _ (.sl0 _ _)
        · have hcl : ¬ cap=l:=by omega
          simp only [if_neg hlh,if_neg hcl,Option.map_some,add_lit']
          have hpos : 0 < (hh - l) * sz:=Nat.mul_pos (by omega) (by omega)
          have hle : l * sz + (hh - l) * sz≤cs.length:=by
            rw [hz.1,← Nat.add_mul];exact Nat.mul_le_mul_right _ (by omega)
          have hlen : ((cs.drop (l * sz)).take ((hh - l) * sz)).length=(hh - l) * sz:=by simp;omega
          refine .d _ _ (.sl blk (b0 + l * sz) (hh - l) (cap - l) _ (fun j=>g (l * sz + j)) h6 (by omega) (by omega) (fun j hj=>?_) (fun j hj=>?_))
          · rw [Nat.add_assoc];exact h9 _ (by omega)
          · have:=h10 (l * sz + j) (by omega)
            simpa using this
    · cases h

theorem impl_slT {x : Operand} {x' : X} {lo hi : Option Operand} {lo' hi' : Option X} {t : TypeId} (ho : o.op=.slice t x lo hi none)
    (ht : P.underlying t=some .string) (hx : xo x=some x') (hlo : xoo lo=some lo') (hhi : xoo hi=some hi') : Impl P o (.slT x' lo' hi') :=
  Impl.ofPure rfl fun w A μ U a fr v hf h=>by
    have h1:=xo_sound hf hx
    obtain ⟨l1,l2⟩:=xoo_spec hlo
    obtain ⟨k1,k2⟩:=xoo_spec hhi
    simp only [xp] at h
    split at h
    · rename_i s he
      obtain ⟨hh,e1,h3⟩:=Option.bind_eq_some_iff.1 h
      obtain ⟨l,e2,rfl⟩:=Option.map_eq_some_iff.1 h3
      rw [he] at h1
      have e0:=h1.val_eq
      obtain ⟨g1,g2,g3⟩:=bounds_run (P:=P) (w:=w) hf l1 l2 k1 k2 false (Nat.le_refl s.size) e1 e2
      refine ⟨_,?_,.d _ _ (.val _ rfl)⟩
      simp [execOp,ho,e0,Instr.sliceAt,Instr.slice,run_underlying ht,g1]
    · cases h


theorem load_run {w : World} {A : Nat→Prop} {μ : Nat→Option Nat} {U : Nat→Prop} {t : TypeId} {n : Option Nat} (hn : aggSz P t=some n) {blk b0 off : Nat} {cs : List AV} {g : Nat→Value}
    (hc : ∀ j,j < cs.length→w.cell? ⟨blk,b0 + j,none⟩=some (g j)) (hr : ∀ j (h : j < cs.length),RA w A μ U (g j) (cs[j])) {v : AV} (hv : subA cs off n=some v) :
    ∃ cv,(Instr.loadAt t (.pointer (some ⟨blk,b0 + off,none⟩))).run P w=.ok cv w∧RA w A μ U cv v:=by
  unfold aggSz at hn
  split at hn
  · rename_i k h1 h2
    cases hn
    simp only [subA] at hv
    split at hv
    · rename_i hle
      cases hv
      refine ⟨.agg ((List.range k).map fun j=>g (off + j)).toArray,?_,.agg _ _ (by simp;omega) (fun j hj=>?_)⟩
      · have hl:=run_loadCells (P:=P) w ⟨blk,b0 + off,none⟩ k (fun j=>g (off + j)) (fun j hj=>by
          rw [add_lit',Nat.add_assoc];exact hc _ (by omega))
        simp [Instr.loadAt,Instr.sureAddr,loadVar,run_aggQ h1,run_szOf h2,hl]
      · have hj' : j < k:=by simp at hj;omega
        have e1 : (((List.range k).map fun j=>g (off + j)).toArray.getD j undef)=g (off + j):=by
          simp [Array.getD_eq_getD_getElem?,hj']
        rw [e1]
        simpa using hr (off + j) (by omega)
    · cases hv
  · rename_i k h1 h2
    cases hn
    obtain ⟨hj,rfl⟩:=List.getElem?_eq_some_iff.1 hv
    refine ⟨g off,?_,hr off hj⟩
    have:=hc off hj
    simp [Instr.loadAt,Instr.sureAddr,loadVar,run_aggQ h1,this]
  · cases hn

theorem impl_load {x : Operand} {x' : X} {t : TypeId} {n : Option Nat} (ho : o.op=.load t x) (hn : aggSz P t=some n) (hx : xo x=some x') : Impl P o (.load n x'):=by
  intro w0 S Wr μ U C Z w a fr id v C' Z' hS hH hf hid hxs K Q hK
  obtain ⟨h1,rfl⟩:=hxs.toXi rfl
  obtain ⟨v',hv,he⟩:=Option.map_eq_some_iff.1 h1
  cases he
  simp only [xl] at hv
  obtain ⟨⟨r,off⟩,h2,h3⟩:=Option.bind_eq_some_iff.1 hv
  have hxa:=xo_sound hf hx
  have fin : ∀ cv,(Instr.loadAt t (a.eval x)).run P w=.ok cv w→RA w (Av S C Z' μ) μ U cv v→o.wp P a w K Q:=by
    intro cv hr ha
    unfold Oper.wp
    simp only [execOp,ho,Sem.run_bind,hr,Result.andThen_ok,Sem.run_pure]
    exact hK cv w μ U hH Step.refl ha (fun b hb=>.inl hb)
  unfold rowOf at h2
  split at h2
  · rename_i b off' he
    obtain ⟨r',hr',he2⟩:=Option.map_eq_some_iff.1 h2
    cases he2
    rw [he] at hxa
    obtain ⟨blk,e1,_,hm⟩:=hxa.ptrL_inv
    rcases hH.row b _ hr' with ⟨_,hn0⟩ | ⟨blk',c,e,hm',hc,hl,hra⟩
    · rw [hm] at hn0;cases hn0
    · rw [hm] at hm';cases hm'
      obtain ⟨cv,g1,g2⟩:=load_run (P:=P) (w:=w) hn (blk:=blk) (b0:=0) (off:=off) (g:=fun j=>c.getD j undef) (fun j hj=>by
        rw [Nat.zero_add,cell_of_row w blk j c e (0,0) hc,Array.getElem?_eq_getElem (by omega),Array.getD_eq_getD_getElem?,Array.getElem?_eq_getElem (by omega)];rfl) hra h3
      rw [Nat.zero_add] at g1
      exact fin cv (by rw [e1];exact g1) g2
  · rename_i cs off' he
    cases h2
    rw [he] at hxa
    obtain ⟨blk,b0,g,e1,hA,hpos,hc,hra⟩:=hxa.ptrD_inv
    obtain ⟨cv,g1,g2⟩:=load_run (P:=P) (w:=w) (A:=Av S C Z' μ) (μ:=μ) (U:=U) hn (blk:=blk) (b0:=b0) (off:=off) (cs:=cs.map AV.d) (g:=g) (fun j hj=>hc j (by simpa using hj))
      (fun j hj=>by simp at hj ⊢;exact .d _ _ (hra j hj)) h3
    exact fin cv (by rw [e1];exact g1) g2
  · cases h2


theorem Impl.ofNew {i : XI} (hc : i.cls=2)
    (h : ∀ (w : World) (A : Nat→Prop) (μ : Nat→Option Nat) (U : Nat→Prop) (a : Act) (fr : Fr) (id : Nat) (v : AV) (r : List AV),(∀ s,RA w A μ U (a.tmps.getD s undef) (fr s)) →
      xn fr id i=some (v,r)→∃ (c : Array Value) (e : TypeId) (cv : Value) (w' : World),(execOp a.eval o).run P w=.ok (.value cv) w'∧w'.heap=w.heap.push (.cells c e)∧w'.os=w.os∧w'.tape=w.tape∧w'.output=w.output ∧
        r.length≤c.size∧(∀ j (h : j < r.length),RA w A μ U (c.getD j undef) (r[j])) ∧
        ((cv=.pointer (some ⟨w.heap.size,0,none⟩)∧v=.ptrL id 0) ∨ (∃ len cap sz,cv=.slice (some ⟨w.heap.size,0,none⟩) len cap∧v=.slL id 0 len sz∧len≤cap∧cap * sz≤c.size))) : Impl P o i:=by
  intro w0 S Wr μ U C Z w a fr id v C' Z' hS hH hf hid hx K Q hK
  have hnc : i.isCall=false:=by
    cases i<;>first | rfl | (simp [XI.cls] at hc;done) | skip
    rename_i f args lp nw
    cases lp<;>cases nw<;>simp [XI.cls] at hc
  obtain ⟨h1,rfl⟩:=hx.toXi hnc
  unfold xi at h1
  rw [hc] at h1
  obtain ⟨⟨v',r⟩,hv,he⟩:=Option.map_eq_some_iff.1 h1
  cases he
  obtain ⟨c,e,cv,w',hr,hw,hos,htape,hout,hrl,hra,hcv⟩:=h w _ μ U a fr id v r hf hv
  obtain ⟨k1,k2⟩:=hH.alloc hid c e r hrl hra hw hos htape hout
  unfold Oper.wp
  rw [hr]
  refine hK cv w' _ _ k1 k2 ?_ (fun b hb=>hb)
  rcases hcv with ⟨rfl,rfl⟩ | ⟨len,cap,sz,rfl,rfl,hlc,hcs⟩
  · exact .ptrL _ _ _ (.inr rfl) (if_pos rfl)
  · refine .slL _ _ _ _ _ cap c.size e (.inr rfl) (if_pos rfl) hlc ?_ (by omega)
    simp [World.shape?,hw]

theorem impl_alloc {e : TypeId} {i : TypeInfo} {z : Value} (ho : o.op=.alloc e) (hi : P.info? e=some i) (hz : i.zero=some z) (hzs : z.cells.toList.all (·.oneCell')=true) : Impl P o (.alloc z.cells.toList) :=
  Impl.ofNew rfl fun w A μ U a fr id v r hf h=>by
    cases h
    have hz0:=zero_sound (w:=w) (A:=A) (μ:=μ) (U:=U) _ hzs
    refine ⟨z.cells,e,_,{ w with heap:=w.heap.push (.cells z.cells e) },?_,rfl,rfl,rfl,rfl,?_,?_,.inl ⟨rfl,rfl⟩⟩
    · simp [execOp,ho,Instr.alloc,zeroValue,typeInfo,hi,hz,newVar,newRow]
    · have:=hz0.1;simp at this ⊢;omega
    · have:=hz0.2;simpa using this

theorem impl_box {e : TypeId} {x : Operand} {x' : X} (ho : o.op=.box e x) (hx : xo x=some x') : Impl P o (.box x') :=
  Impl.ofNew rfl fun w A μ U a fr id v r hf h=>by
    simp only [xn] at h
    obtain ⟨cs,h1,h2⟩:=Option.bind_eq_some_iff.1 h
    split at h2
    · cases h2
      have hcs:=cells_sound (xo_sound hf hx) h1
      refine ⟨(a.eval x).cells,e,_,{ w with heap:=w.heap.push (.cells (a.eval x).cells e) },?_,rfl,rfl,rfl,rfl,?_,hcs.2,.inl ⟨rfl,rfl⟩⟩
      · simp [execOp,ho,Instr.box,newVar,newRow]
      · have:=hcs.1;omega
    · cases h2

theorem repl_sound {w : World} {A : Nat→Prop} {μ : Nat→Option Nat} {U : Nat→Prop} (z : Array Value) (hz : z.toList.all (·.oneCell')=true) (n : Nat) : RAs w A μ U (madeCells z (n * z.size)) (repl (zeroA z.toList) n):=by
  have hl : ∀ n,(repl (zeroA z.toList) n).length=n * z.size:=by
    intro n
    induction n with
    | zero=>simp [repl]
    | succ n ih=>simp only [repl,List.length_append,ih,Nat.succ_mul];simp [zeroA];omega
  have hg : ∀ n j,(repl (zeroA z.toList) n)[j]?=if j < n * z.size then (zeroA z.toList)[j % z.size]? else none:=by
    intro n
    induction n with
    | zero=>intro j;simp [repl]
    | succ n ih =>
      intro j
      simp only [repl]
      have hzl : (zeroA z.toList).length=z.size:=by simp [zeroA]
      by_cases h1 : j < z.size
      · rw [List.getElem?_append_left (by omega),if_pos (by rw [Nat.succ_mul];omega),Nat.mod_eq_of_lt h1]
      · rw [List.getElem?_append_right (by omega),ih,hzl]
        have h2 : (j - z.size < n * z.size)↔(j < (n + 1) * z.size):=by rw [Nat.succ_mul];omega
        have h3 : (j - z.size) % z.size=j % z.size:=by
          rw [Nat.mod_eq_sub_mod (a:=j) (by omega)]
        simp only [h2,h3]
  refine RAs.of_get? (by rw [size_madeCells,hl]) fun j x hx=>?_
  rw [hg] at hx
  split at hx
  · rename_i hj
    have hs : 0 < z.size:=by
      rcases Nat.eq_zero_or_pos z.size with h | h
      · rw [h] at hj;simp at hj
      · exact h
    have hm : j % z.size < z.size:=Nat.mod_lt _ hs
    obtain ⟨v,h1,h2⟩:=(zero_sound (w:=w) (A:=A) (μ:=μ) (U:=U) z.toList hz).get? hx
    refine ⟨v,?_,h2⟩
    have h3 : z[j % z.size]?=some v:=by simpa using h1
    simp only [madeCells,Array.getElem?_map]
    rw [Array.getElem?_range,if_pos hj]
    simp only [Option.map_some,Option.some.injEq]
    rw [getElem!_pos z _ hm]
    rw [Array.getElem?_eq_getElem hm] at h3
    exact Option.some.inj h3
  · cases hx

theorem impl_mks {x y : Operand} {x' y' : X} {t e : TypeId} {i : TypeInfo} {z : Value} (ho : o.op=.makeSlice t x y) (ht : P.underlying t=some (.slice e)) (hi : P.info? e=some i) (hz : i.zero=some z)
    (hzs : z.cells.toList.all (·.oneCell')=true) (hsz : i.size=z.cells.size) (hx : xo x=some x') (hy : xo y=some y') : Impl P o (.mks z.cells.toList i.bytes x' y') :=
  Impl.ofNew rfl fun w A μ U a fr id v r hf h=>by
    have h1:=xo_sound hf hx
    have h2:=xo_sound hf hy
    simp only [xn] at h
    split at h
    · rename_i k1 l k2 c he1 he2
      split at h
      · rename_i hc
        cases h
        rw [he1] at h1;rw [he2] at h2
        have e1:=h1.val_eq
        have e2:=h2.val_eq
        have hr:=run_make (P:=P) w t e i z ht hi hz k1 k2 l c hc.1 hc.2.1 (by have:=hc.2.2.1;rw [Int.mul_comm];exact this) hc.2.2.2
        have hrep:=repl_sound (w:=w) (A:=A) (μ:=μ) (U:=U) z.cells hzs c.toNat
        refine ⟨madeCells z.cells (c.toNat * i.size),e,_,w.alloc (.cells (madeCells z.cells (c.toNat * i.size)) e),?_,rfl,rfl,rfl,rfl,?_,?_,.inr ⟨l.toNat,c.toNat,z.cells.toList.length,rfl,rfl,by omega,?_⟩⟩
        · simp only [execOp,ho,e1,e2,Sem.run_bind,hr,Result.andThen_ok,Sem.run_pure]
        · rw [hsz];have:=hrep.1;omega
        · rw [hsz];exact hrep.2
        · rw [size_madeCells,hsz];simp
      · cases h
    · cases h

theorem impl_mkrow {t e : TypeId} {len : Nat} {parts : Array (Nat × Operand)} {i : TypeInfo} {z : Value} {ps : List (Nat × Nat × X)} (ho : o.op=.buildSlice t len parts)
    (ht : P.underlying t=some (.slice e)) (hi : P.info? e=some i) (hz : i.zero=some z) (hzs : z.cells.toList.all (·.oneCell')=true) (hsz : i.size=z.cells.size) (hsmall : ¬ len * i.size > 2 ^ 24)
    (hps : ps.length=parts.size) (hp : ∀ (j : Nat) n x off s y,parts[j]?=some (n,x)→ps[j]?=some (off,s,y)→(off,s)=(n * i.size,i.size)∧xo x=some y) :
    Impl P o (.mkrow z.cells.toList len i.size ps) :=
  Impl.ofNew rfl fun w A μ U a fr id v r hf h=>by
    simp only [xn] at h
    obtain ⟨cs,h1,h2⟩:=Option.bind_eq_some_iff.1 h
    split at h2
    · cases h2
      have hrep:=repl_sound (w:=w) (A:=A) (μ:=μ) (U:=U) z.cells hzs len
      obtain ⟨cells',h3,h4⟩:=fill_sound (place:=fun k=>some (k * i.size,i.size)) (parts.toList.map fun (i,x)=>(i,a.eval x)) _ _ _ r hrep (by simp [hps]) (by
        intro j n v off s x hj1 hj2
        rw [List.getElem?_map,Option.map_eq_some_iff] at hj1 hj2
        obtain ⟨⟨i',x'⟩,h5,h6⟩:=hj1
        obtain ⟨⟨off',s',y'⟩,h7,h8⟩:=hj2
        cases h6;cases h8
        obtain ⟨h9,h10⟩:=hp j _ _ _ _ _ (by simpa using h5) h7
        exact ⟨by rw [h9],fun cs hcs=>cells_sound (xo_sound hf h10) hcs⟩) h1
      have hlen : r.length=len * i.size:=by
        have e1 : r.length=cells'.size:=h4.1.symm
        have e2 : ∀ (ps : List (Nat × Nat × Option (List AV))) (cs res : List AV),fillA cs ps=some res→res.length=cs.length:=by
          intro ps
          induction ps with
          | nil=>intro cs res h;simp [fillA] at h;subst h;rfl
          | cons p ps ih =>
            intro cs res h
            obtain ⟨off,s,x⟩:=p
            cases x with
            | none=>simp [fillA] at h
            | some xs =>
              simp only [fillA] at h
              split at h
              · rename_i hc
                rw [ih _ _ h,splice_length _ _ _ hc.2]
              · cases h
        rw [e2 _ _ _ h1,← hrep.1,size_madeCells,hsz]
      refine ⟨cells',e,.slice (some ⟨w.heap.size,0,none⟩) len len,w.alloc (.cells cells' e),?_,rfl,rfl,rfl,rfl,by rw [h4.1];exact Nat.le_refl _,h4.2,.inr ⟨len,len,i.size,rfl,rfl,Nat.le_refl _,by rw [h4.1,hlen];exact Nat.le_refl _⟩⟩
      simp only [execOp,ho]
      by_cases hpos : len * i.size=0
      · have h3' : Instr.fill (fun k=>some (k * i.size,i.size)) ((Array.range (len * i.size)).map fun k=>(#[] : Array Value)[k % (#[] : Array Value).size]!) (parts.toList.map fun (i,x)=>(i,a.eval x))=some cells':=by
          rw [← h3]
          congr 1
          rw [← hsz,hpos]
          simp [madeCells]
        have hs' : ¬ 2 ^ 24 < len * i.size:=hsmall
        have hrun : (Instr.buildSlice t len (parts.map fun (i,x)=>(i,a.eval x))).run P w=.ok (.slice (some ⟨w.heap.size,0,none⟩) len len) (w.alloc (.cells cells' e)):=by
          rw [hpos] at h3'
          have h3'' : Instr.fill (fun k=>some (k * i.size,i.size)) #[] (parts.toList.map fun x=>(x.1,a.eval x.2))=some cells':=by
            rw [← h3'];congr 1;simp
          have hz0 : ¬ 2 ^ 24 < 0:=by omega
          simp [Instr.buildSlice,run_underlying ht,sizeOf,typeInfo,hi,hpos,newRow,Array.range_zero',h3'']
        simp only [Sem.run_bind,hrun,Result.andThen_ok,Sem.run_pure]
      · have hrun:=run_buildSlice (P:=P) w t e len (parts.map fun (i,x)=>(i,a.eval x)) cells' i z ht hi hz hsmall hpos (by
          have : (Array.range (len * i.size)).map (z.cells[· % z.cells.size]!)=madeCells z.cells (len * z.cells.size):=by rw [hsz];rfl
          rw [this];simpa using h3)
        simp only [Sem.run_bind,hrun,Result.andThen_ok,Sem.run_pure]
    · cases h2
end
end Go.Sv
namespace Go.Sv
open Go
set_option linter.unusedSimpArgs false
set_option linter.unusedVariables false

section changes
variable {w0 : World} {S Wr : Nat→Prop} {μ : Nat→Option Nat} {U : Nat→Prop} {C : Heap} {Z : Frz} {w : World}

theorem HOK.rename (h : HOK w0 S Wr μ U C Z w) {b id : Nat} {r : List AV} (hb : C b=some r) (hz : Z b=false) (hid : ¬ U id) :
    HOK w0 S Wr (fun k=>if id=k then μ b else μ k) (fun k=>U k ∨ k=id) ((C.del b).put id r) Z w ∧
    Step S w C Z μ U w ((C.del b).put id r) Z (fun k=>if id=k then μ b else μ k) (fun k=>U k ∨ k=id):=by
  have hbid : b ≠ id:=fun e=>hid (e ▸ h.used b r hb)
  have hget : ∀ k r',((C.del b).put id r) k=some r'→(k=id∧r'=r) ∨ (k ≠ id∧k ≠ b∧C k=some r'):=by
    intro k r' hk
    simp only [Heap.put,Heap.del] at hk
    split at hk
    · rename_i e;cases hk;exact .inl ⟨e.symm,rfl⟩
    · rename_i hne
      split at hk
      · cases hk
      · rename_i hnb;exact .inr ⟨fun e=>hne e.symm,fun e=>hnb e.symm,hk⟩
  have hra : ∀ v x,RA w (Av S C Z μ) μ U v x→RA w (Av S ((C.del b).put id r) Z (fun k=>if id=k then μ b else μ k)) (fun k=>if id=k then μ b else μ k) (fun k=>U k ∨ k=id) v x:=by
    intro v x hx
    refine hx.mono ?_ (fun _ _ _=>rfl) (fun _ _ hs=>hs) (fun _ hu=>.inl hu) ?_
    · rintro k _ (hs | ⟨b',h1,h2,h3⟩)
      · exact .inl hs
      · obtain ⟨r',hr'⟩:=Option.isSome_iff_exists.1 h1
        rcases hget b' r' hr' with ⟨e,_⟩ | ⟨e1,e2,e3⟩
        · subst e;simp only [if_true] at h3
          exact .inr ⟨b,by simp [hb],hz,h3⟩
        · simp only [if_neg (fun e : id=b'=>e1 e.symm)] at h3
          exact .inr ⟨b',by simp [e3],h2,h3⟩
    · intro k hk
      have : id ≠ k:=fun e=>hid (e ▸ hk)
      exact if_neg this
  refine ⟨⟨h.os,h.tape,h.output,h.size,h.keep,?_,?_,?_,?_⟩,⟨hra⟩⟩
  · intro k r' hk
    rcases hget k r' hk with ⟨e,_⟩ | ⟨_,_,e3⟩
    · exact .inr e
    · exact .inl (h.used k r' e3)
  · intro k r' hk
    rcases hget k r' hk with ⟨rfl,rfl⟩ | ⟨e1,e2,e3⟩
    · exact (h.row b _ hb).mono hra (if_pos rfl) (fun _ _=>rfl)
    · exact (h.row k r' e3).mono hra (if_neg fun e=>e1 e.symm) (fun _ _=>rfl)
  · intro k r' n hk hm
    rcases hget k r' hk with ⟨rfl,rfl⟩ | ⟨e1,e2,e3⟩
    · simp only [if_true] at hm;exact h.own b _ n hb hm
    · simp only [if_neg (fun e : id=k=>e1 e.symm)] at hm;exact h.own k r' n e3 hm
  · intro k k' r1 r2 n h1 h2 h3 h4
    rcases hget k r1 h1 with ⟨rfl,rfl⟩ | ⟨e1,e2,e3⟩
    · rcases hget k' r2 h2 with ⟨rfl,rfl⟩ | ⟨f1,f2,f3⟩
      · rfl
      · simp only [if_true] at h3;simp only [if_neg (fun e : k=k'=>f1 e.symm)] at h4
        exact absurd (h.inj b k' _ r2 n hb f3 h3 h4) (fun e=>f2 e.symm)
    · rcases hget k' r2 h2 with ⟨rfl,rfl⟩ | ⟨f1,f2,f3⟩
      · simp only [if_true] at h4;simp only [if_neg (fun e : k'=k=>e1 e.symm)] at h3
        exact absurd (h.inj k b r1 _ n e3 hb h3 h4) e2
      · simp only [if_neg (fun e : id=k=>e1 e.symm)] at h3;simp only [if_neg (fun e : id=k'=>f1 e.symm)] at h4
        exact h.inj k k' r1 r2 n e3 f3 h3 h4

theorem HOK.virt (h : HOK w0 S Wr μ U C Z w) {id : Nat} (hid : ¬ U id) :
    HOK w0 S Wr (fun k=>if id=k then none else μ k) (fun k=>U k ∨ k=id) (C.put id []) Z w ∧
    Step S w C Z μ U w (C.put id []) Z (fun k=>if id=k then none else μ k) (fun k=>U k ∨ k=id):=by
  have hget : ∀ k r',(C.put id []) k=some r'→(k=id∧r'=[]) ∨ (k ≠ id∧C k=some r'):=by
    intro k r' hk
    simp only [Heap.put] at hk
    split at hk
    · rename_i e;cases hk;exact .inl ⟨e.symm,rfl⟩
    · rename_i hne;exact .inr ⟨fun e=>hne e.symm,hk⟩
  have hra : ∀ v x,RA w (Av S C Z μ) μ U v x→RA w (Av S (C.put id []) Z (fun k=>if id=k then none else μ k)) (fun k=>if id=k then none else μ k) (fun k=>U k ∨ k=id) v x:=by
    intro v x hx
    refine hx.mono ?_ (fun _ _ _=>rfl) (fun _ _ hs=>hs) (fun _ hu=>.inl hu) ?_
    · rintro k _ (hs | ⟨b',h1,h2,h3⟩)
      · exact .inl hs
      · obtain ⟨r',hr'⟩:=Option.isSome_iff_exists.1 h1
        rcases hget b' r' hr' with ⟨e,_⟩ | ⟨e1,e3⟩
        · subst e;simp at h3
        · simp only [if_neg (fun e : id=b'=>e1 e.symm)] at h3
          exact .inr ⟨b',by simp [e3],h2,h3⟩
    · intro k hk
      have : id ≠ k:=fun e=>hid (e ▸ hk)
      exact if_neg this
  refine ⟨⟨h.os,h.tape,h.output,h.size,h.keep,?_,?_,?_,?_⟩,⟨hra⟩⟩
  · intro k r' hk
    rcases hget k r' hk with ⟨e,_⟩ | ⟨_,e3⟩
    · exact .inr e
    · exact .inl (h.used k r' e3)
  · intro k r' hk
    rcases hget k r' hk with ⟨rfl,rfl⟩ | ⟨e1,e3⟩
    · exact .inl ⟨rfl,if_pos rfl⟩
    · exact (h.row k r' e3).mono hra (if_neg fun e=>e1 e.symm) (fun _ _=>rfl)
  · intro k r' n hk hm
    rcases hget k r' hk with ⟨rfl,rfl⟩ | ⟨e1,e3⟩
    · simp at hm
    · simp only [if_neg (fun e : id=k=>e1 e.symm)] at hm;exact h.own k r' n e3 hm
  · intro k k' r1 r2 n h1 h2 h3 h4
    rcases hget k r1 h1 with ⟨rfl,rfl⟩ | ⟨e1,e3⟩
    · simp at h3
    · rcases hget k' r2 h2 with ⟨rfl,rfl⟩ | ⟨f1,f3⟩
      · simp at h4
      · simp only [if_neg (fun e : id=k=>e1 e.symm)] at h3;simp only [if_neg (fun e : id=k'=>f1 e.symm)] at h4
        exact h.inj k k' r1 r2 n e3 f3 h3 h4
end changes

section
variable {P : Program} {o : Oper}

theorem RAs.splice {w : World} {A : Nat→Prop} {μ : Nat→Option Nat} {U : Nat→Prop} {c : Array Value} {r : List AV} {vs : List Value} {cs : List AV} {off : Nat}
    (hr : ∀ j (h : j < r.length),RA w A μ U (c.getD j undef) (r[j])) (hrc : r.length≤c.size) (hv : RAs w A μ U vs.toArray cs) (hle : off + cs.length≤r.length) :
    (Sv.splice c.toList off vs).toArray.size=c.size∧∀ j (h : j < (Sv.splice r off cs).length),RA w A μ U ((Sv.splice c.toList off vs).toArray.getD j undef) ((Sv.splice r off cs)[j]):=by
  have hvl : vs.length=cs.length:=by have:=hv.1;simpa using this
  have hle2 : off + vs.length≤c.toList.length:=by simp;omega
  refine ⟨by rw [List.size_toArray,splice_length _ _ _ hle2];simp,fun j hj=>?_⟩
  have hj' : j < r.length:=by rwa [splice_length _ _ _ hle] at hj
  have e1 : (Sv.splice c.toList off vs).toArray.getD j undef=((Sv.splice c.toList off vs)[j]?).getD undef:=by
    simp [Array.getD_eq_getD_getElem?]
  have e2 : some (Sv.splice r off cs)[j]=(Sv.splice r off cs)[j]?:=(List.getElem?_eq_getElem hj).symm
  rw [splice_get _ _ _ hle] at e2
  rw [e1,splice_get _ _ _ hle2,hvl]
  by_cases hc : off≤j∧j < off + cs.length
  · rw [if_pos hc] at e2 ⊢
    obtain ⟨v,h1,h2⟩:=hv.get? e2.symm
    have : vs[j - off]?=some v:=by simpa using h1
    rw [this];exact h2
  · rw [if_neg hc] at e2 ⊢
    have h1:=hr j hj'
    rw [Array.getD_eq_getD_getElem?] at h1
    rw [List.getElem?_eq_getElem hj'] at e2
    rw [Option.some.inj e2]
    simpa using h1

theorem impl_store {x y : Operand} {x' y' : X} {t : TypeId} {n : Nat} (ho : o.op=.store t x y) (hn : szOf P t=some n) (hx : xo x=some x') (hy : xo y=some y') : Impl P o (.store n x' y'):=by
  intro w0 S Wr μ U C Z w a fr id v C' Z' hS hH hf hid hxs K Q hK
  obtain ⟨h1,rfl⟩:=hxs.toXi rfl
  have h2 : xw fr C Z' id (.store n x' y')=some (v,C'):=h1
  simp only [xw] at h2
  have hxa:=xo_sound hf hx
  have hya:=xo_sound hf hy
  split at h2
  · rename_i b off he
    rw [he] at hxa
    obtain ⟨blk,e1,hU,hm⟩:=hxa.ptrL_inv
    obtain ⟨r,hr,h3⟩:=Option.bind_eq_some_iff.1 h2
    obtain ⟨cs,hcs,h4⟩:=Option.bind_eq_some_iff.1 h3
    split at h4
    · rename_i hc
      obtain ⟨hz,hcl,hle,hone⟩:=hc
      cases h4
      have hcv:=cells_sound hya hcs
      rcases hH.row b r hr with ⟨_,hn0⟩ | ⟨blk',c,e,hm',hcc,hl,hra⟩
      · rw [hm] at hn0;cases hn0
      · rw [hm] at hm';cases hm'
        have hsz : (a.eval y).cells.size=n:=by rw [hcv.1,hcl]
        obtain ⟨k1,k2⟩:=RAs.splice (c:=c) (r:=r) (vs:=(a.eval y).cells.toList) (cs:=cs) (off:=off) hra hl (by simpa using hcv) (by omega)
        have hst:=run_storeCells_at P blk off e (a.eval y).cells.toList 0 c w hcc (by simp;omega) (hcv.one hone)
        have hrun : (execOp a.eval o).run P w=.ok .skip (w.setRow blk (Sv.splice c.toList off (a.eval y).cells.toList).toArray):=by
          have hst' : (storeCells ⟨blk,off,none⟩ (a.eval y).cells.toList).run P w=.ok () (w.setRow blk (Sv.splice c.toList off (a.eval y).cells.toList).toArray):=by
            simpa [Sv.splice] using hst
          simp only [execOp,ho,Instr.storeAt,Instr.sureAddr,e1,storeVar,Sem.run_bind,Sem.run_pure,Result.andThen_ok,run_szOf hn,hsz,ne_eq,not_true_eq_false,if_false,hst']
        obtain ⟨g1,g2⟩:=hH.write hr hz hm hcc k1 (by rw [k1,splice_length _ _ _ (by omega)];exact hl) k2 (setRow_heap w blk c _ e _ hcc)
          (fun k hk=>setRow_other w blk k _ hk) (by simp) rfl rfl rfl
        unfold Oper.wp
        rw [hrun]
        exact hK undef _ μ U g1 g2 (.tup #[] [] rfl (fun j hj=>absurd hj (by simp))) (fun b hb=>.inl hb)
    · cases h4
  · cases h2

theorem src_sound {w0 : World} {S Wr : Nat→Prop} {μ : Nat→Option Nat} {U : Nat→Prop} {C : Heap} {Z : Frz} {w : World} (hH : HOK w0 S Wr μ U C Z w) {v : Value} {x : AV} {sz n : Nat} {src : List AV}
    (hr : RA w (Av S C Z μ) μ U v x) (hs : srcOf C sz x=some (src,n)) :
    (n=0∧src=[]∧∃ a cap,v=.slice a 0 cap) ∨
    (∃ (blk b0 cap : Nat) (news : List Value),v=.slice (some ⟨blk,b0,none⟩) n cap∧news.length=n * sz∧(∀ (j : Nat) u,news[j]?=some u→w.cell? ⟨blk,b0 + j,none⟩=some u) ∧
      RAs w (Av S C Z μ) μ U news.toArray src):=by
  unfold srcOf at hs
  split at hs
  · cases hs
    exact .inl ⟨rfl,rfl,none,0,hr.val_eq⟩
  · rename_i cs m
    split at hs
    · rename_i hl
      cases hs
      rcases hr.slD_inv with ⟨rfl,rfl,a,cap,rfl⟩ | ⟨blk,b0,cap,g,rfl,hA,hp,hlc,hc,hrd⟩
      · exact .inl ⟨rfl,rfl,a,cap,rfl⟩
      · refine .inr ⟨blk,b0,cap,(List.range cs.length).map g,rfl,by simp [hl],fun j u hj=>?_,RAs.of_get? (by simp) fun j x hx=>?_⟩
        · rw [List.getElem?_map,Option.map_eq_some_iff] at hj
          obtain ⟨i,hi,rfl⟩:=hj
          obtain ⟨h1,rfl⟩:=List.getElem?_eq_some_iff.1 hi
          simp at h1 ⊢
          exact hc j h1
        · rw [List.getElem?_map,Option.map_eq_some_iff] at hx
          obtain ⟨d,hd,rfl⟩:=hx
          obtain ⟨h1,rfl⟩:=List.getElem?_eq_some_iff.1 hd
          exact ⟨g j,by simp [h1],.d _ _ (hrd j h1)⟩
    · cases hs
  · rename_i b off len sz'
    split at hs
    · rename_i hz;subst hz
      obtain ⟨r,hb,h1⟩:=Option.bind_eq_some_iff.1 hs
      split at h1
      · rename_i hle
        cases h1
        rcases hr.slL_inv with ⟨rfl,rfl,rfl,_,_⟩ | ⟨blk,cap,m,e',rfl,_,hm,_,_,_⟩
        · exact .inl ⟨rfl,by simp,none,0,rfl⟩
        · rcases hH.row b r hb with ⟨_,hn0⟩ | ⟨blk',c,e,hm',hcc,hl,hra⟩
          · rw [hm] at hn0;cases hn0
          · rw [hm] at hm';cases hm'
            refine .inr ⟨blk,off,cap,(c.toList.drop off).take (n * sz'),rfl,by simp;omega,fun j u hj=>?_,RAs.of_get? (by simp;omega) fun j x hx=>?_⟩
            · rw [List.getElem?_take] at hj
              split at hj
              · rw [List.getElem?_drop] at hj
                rw [cell_of_row w blk _ c e (0,0) hcc];simpa using hj
              · cases hj
            · rw [List.getElem?_take] at hx
              split at hx
              · rename_i hjl
                rw [List.getElem?_drop] at hx
                obtain ⟨h1,rfl⟩:=List.getElem?_eq_some_iff.1 hx
                have h2:=hra (off + j) h1
                rw [Array.getD_eq_getD_getElem?,Array.getElem?_eq_getElem (by omega)] at h2
                refine ⟨c[off + j],?_,h2⟩
                have h3 : off + j < c.size:=by omega
                simp [List.getElem?_take,List.getElem?_drop,hjl,h3]
              · cases hx
      · cases h1
    · cases hs
  · cases hs

section append
variable {t tx e e2 : TypeId} {i : TypeInfo} {z : Value} {ty : TypeId}

theorem run_app_zero (w : World) (ht : P.underlying t=some (.slice e)) (hi : P.info? e=some i) (htx : P.underlying tx=some (.slice e2)) (b : Option Addr) (n cap : Nat) (hle : n≤cap) (a : Option Addr) (c : Nat) :
    (Builtin.append_ #[t,tx] ty #[.slice b n cap,.slice a 0 c]).run P w=.ok (.slice b n cap) w:=by
  have hf : (Builtin.firstCells i.size 0 (.slice a 0 c)).run P w=.ok #[] w:=by
    cases a with
    | none=>simp [Builtin.firstCells]
    | some a=>simp [Builtin.firstCells,loadCells,loadCellsFrom]
  have hz : (match (TypeDesc.slice e2 : TypeDesc) with | .int _=>true | _=>false)=false:=rfl
  cases b with
  | none=>simp [Builtin.append_,run_underlying ht,run_underlying htx,sizeOf,typeInfo,hi,Builtin.lenOf,hle,hf]
  | some b=>simp [Builtin.append_,run_underlying ht,run_underlying htx,sizeOf,typeInfo,hi,Builtin.lenOf,hle,hf,storeCells]

theorem run_app_room (w : World) (ht : P.underlying t=some (.slice e)) (hi : P.info? e=some i) (htx : P.underlying tx=some (.slice e2))
    (g sLen sCap : Nat) (cur : Array Value) (e' : TypeId) (hg : w.heap[g]?=some (.cells cur e' (0,0)))
    (a : Addr) (m c : Nat) (news : List Value) (hl : news.length=m * i.size) (hnews : ∀ (j : Nat) u,news[j]?=some u→w.cell? (a.add j)=some u) (h1 : ∀ u ∈ news,u.oneCell'=true)
    (hroom : sLen + m≤sCap) (hfit : sLen * i.size + news.length≤cur.size) :
    (Builtin.append_ #[t,tx] ty #[.slice (some ⟨g,0,none⟩) sLen sCap,.slice (some a) m c]).run P w =
      .ok (.slice (some ⟨g,0,none⟩) (sLen + m) sCap) (w.setRow g (Sv.splice cur.toList (sLen * i.size) news).toArray):=by
  have hf:=run_firstCells_some (P:=P) w i.size m a m c news hl hnews
  have hst:=run_storeCells_at P g (sLen * i.size) e' news 0 cur w hg (by simpa using hfit) h1
  simp only [Nat.add_zero] at hst
  simp [Builtin.append_,run_underlying ht,run_underlying htx,sizeOf,typeInfo,hi,Builtin.lenOf,hroom,hf,Addr.add_lit,hst,Sv.splice]

theorem run_app_grow (w : World) (ht : P.underlying t=some (.slice e)) (hi : P.info? e=some i) (hz : i.zero=some z) (htx : P.underlying tx=some (.slice e2))
    (b : Option Addr) (sLen sCap : Nat) (olds : List Value) (hfo : (Builtin.firstCells i.size sLen (.slice b sLen sCap)).run P w.drew=.ok olds.toArray w.drew)
    (a : Addr) (n c : Nat) (news : List Value) (hl : news.length=n * i.size) (hnews : ∀ (j : Nat) v,news[j]?=some v→w.cell? (a.add j)=some v)
    (hg : sCap < sLen + n) (h63 : ((sLen + n : Nat) : Int)≤9223372036854775807) (hfit : Builtin.nextslicecap (sLen + n) sCap * i.bytes≤281474976710656) :
    (Builtin.append_ #[t,tx] ty #[.slice b sLen sCap,.slice (some a) n c]).run P w =
      .ok (.slice (some ⟨w.heap.size,0,none⟩) (sLen + n) (grownCap w (sLen + n) sCap e))
        (w.drew.alloc (.cells (olds.toArray++news.toArray++Builtin.zeroCells z.cells (grownCap w (sLen + n) sCap e - (sLen + n))) e)):=by
  have hn : ¬ (sLen + n≤sCap):=by omega
  have h63' : ¬ (9223372036854775807 < ((sLen : Int) + (n : Int))):=by omega
  have h48' : ¬ (281474976710656 < Builtin.nextslicecap (sLen + n) sCap * i.bytes):=by omega
  have hf:=run_firstCells_some (P:=P) w.drew i.size n a n c news hl (by simpa using hnews)
  simp [Builtin.append_,run_underlying ht,run_underlying htx,sizeOf,typeInfo,zeroValue,hi,hz,Builtin.lenOf,hn,h63',h48',Question.forced,hf,hfo,newRow,grownCap]
  congr 2
  apply Array.ext'
  simp
end append
end
end Go.Sv
namespace Go.Sv
open Go
set_option linter.unusedSimpArgs false
set_option linter.unusedVariables false

theorem RAs.of_row {w : World} {A : Nat→Prop} {μ : Nat→Option Nat} {U : Nat→Prop} {c : Array Value} {r : List AV} (hl : r.length≤c.size)
    (hr : ∀ j (h : j < r.length),RA w A μ U (c.getD j undef) (r[j])) (m : Nat) (hm : m≤r.length) : RAs w A μ U (c.toList.take m).toArray (r.take m):=by
  refine RAs.of_get? (by simp;omega) fun j x hx=>?_
  rw [List.getElem?_take] at hx
  split at hx
  · rename_i hj
    obtain ⟨h1,rfl⟩:=List.getElem?_eq_some_iff.1 hx
    have h2:=hr j h1
    rw [Array.getD_eq_getD_getElem?,Array.getElem?_eq_getElem (by omega)] at h2
    exact ⟨c[j],by simp [List.getElem?_take,hj,show j < c.size by omega],h2⟩
  · cases hx

theorem RAs.mono {w w' : World} {A A' : Nat→Prop} {μ μ' : Nat→Option Nat} {U U' : Nat→Prop} (h : ∀ v x,RA w A μ U v x→RA w' A' μ' U' v x) {vs : Array Value} {cs : List AV}
    (hr : RAs w A μ U vs cs) : RAs w' A' μ' U' vs cs:=⟨hr.1,fun j hj=>h _ _ (hr.2 j hj)⟩

theorem RAs.front {w : World} {A : Nat→Prop} {μ : Nat→Option Nat} {U : Nat→Prop} {vs c : Array Value} {cs : List AV} (hr : RAs w A μ U vs cs) (hc : ∀ (j : Nat) v,vs[j]?=some v→c[j]?=some v) :
    ∀ j (h : j < cs.length),RA w A μ U (c.getD j undef) (cs[j]):=by
  intro j hj
  obtain ⟨hv,h2⟩:=hr.get hj
  rw [Array.getD_eq_getD_getElem?,hc j _ (Array.getElem?_eq_getElem hv)]
  exact h2

section
variable {P : Program} {o : Oper}

theorem impl_app {x y : Operand} {x' y' : X} {t tx e e2 : TypeId} {i : TypeInfo} {z : Value} (ho : o.op=.call { callee:=.builtin .append,args:=#[x,y],argTypes:=#[t,tx] })
    (ht : P.underlying t=some (.slice e)) (hi : P.info? e=some i) (hz : i.zero=some z) (htx : P.underlying tx=some (.slice e2)) (hsz : i.size=z.cells.size) (hby : i.bytes ≠ 0)
    (hx : xo x=some x') (hy : xo y=some y') : Impl P o (.app z.cells.toList i.bytes x' y'):=by
  intro w0 S Wr μ U C Z w a fr id v C' Z' hS hH hf hid hxs K Q hK
  obtain ⟨h1,rfl⟩:=hxs.toXi rfl
  have h2 : xw fr C Z' id (.app z.cells.toList i.bytes x' y')=some (v,C'):=h1
  simp only [xw,Array.length_toList] at h2
  have hxa:=xo_sound hf hx
  have hya:=xo_sound hf hy
  obtain ⟨⟨src,n⟩,hsrc,h3⟩:=Option.bind_eq_some_iff.1 h2
  simp only at h3
  split at h3
  case isFalse=>cases h3
  rename_i hone
  have hss:=src_sound hH hya hsrc
  have fin : ∀ cv w',(Builtin.append_ #[t,tx] o.type #[a.eval x,a.eval y]).run P w=.ok cv w'→K (a.put o.dst cv) w'→o.wp P a w K Q:=by
    intro cv w' hr hk
    unfold Oper.wp
    simp only [execOp,ho,resolve,invoke,builtin,List.map_toArray,List.map_cons,List.map_nil,Sem.run_bind,Sem.run_pure,Result.andThen_ok,hr]
    exact hk
  have grow : ∀ (b : Option Addr) (sLen sCap : Nat) (olds : List Value) (old : List AV) (blk b0 cap : Nat) (news : List Value),a.eval x=.slice b sLen sCap →
      (Builtin.firstCells i.size sLen (.slice b sLen sCap)).run P w.drew=.ok olds.toArray w.drew→olds.length=sLen * i.size→RAs w (Av S C Z' μ) μ U olds.toArray old →
      a.eval y=.slice (some ⟨blk,b0,none⟩) n cap→news.length=n * i.size→(∀ (j : Nat) u,news[j]?=some u→w.cell? ⟨blk,b0 + j,none⟩=some u)→RAs w (Av S C Z' μ) μ U news.toArray src →
      sCap < sLen + n→(sLen + n) * i.bytes≤140737488355328 →
      ∃ cv w' μ' U',(Builtin.append_ #[t,tx] o.type #[a.eval x,a.eval y]).run P w=.ok cv w'∧HOK w0 S Wr μ' U' (C.put id (old++src)) Z' w' ∧
        Step S w C Z' μ U w' (C.put id (old++src)) Z' μ' U'∧RA w' (Av S (C.put id (old++src)) Z' μ') μ' U' cv (.slL id 0 (sLen + n) i.size)∧(∀ b,U' b→U b ∨ b=id):=by
    intro b sLen sCap olds old blk b0 cap news hb hfo holl hold hyb hnl hnc hns hcap hbytes
    have h63 : ((sLen + n : Nat) : Int)≤9223372036854775807:=by
      have : sLen + n≤(sLen + n) * i.bytes:=Nat.le_mul_of_pos_right _ (by omega)
      omega
    have hrun:=run_app_grow (P:=P) (ty:=o.type) (z:=z) w ht hi hz htx b sLen sCap olds hfo ⟨blk,b0,none⟩ n cap news hnl (fun j u hj=>by rw [add_lit'];exact hnc j u hj) hcap h63 (growslice_fits hcap hbytes)
    obtain ⟨k1,k2⟩:=hH.same (w':=w.drew) rfl rfl rfl rfl
    have hall:=(hold.append hns).mono k2.ra
    have hlen : (old++src).length=(sLen + n) * i.size:=by
      have e1:=hold.1;have e2:=hns.1
      simp at e1 e2
      rw [List.length_append,← e1,← e2,holl,hnl,← Nat.add_mul]
    have hge:=grownCap_ge w (sLen + n) sCap e
    have hcsize : (olds.toArray++news.toArray++Builtin.zeroCells z.cells (grownCap w (sLen + n) sCap e - (sLen + n))).size=grownCap w (sLen + n) sCap e * i.size:=by
      simp only [Array.size_append,List.size_toArray,size_zeroCells,holl,hnl,← hsz,← Nat.add_mul]
      congr 1;omega
    obtain ⟨g1,g2⟩:=k1.alloc hid (olds.toArray++news.toArray++Builtin.zeroCells z.cells (grownCap w (sLen + n) sCap e - (sLen + n))) e (old++src)
      (by rw [hcsize,hlen];exact Nat.mul_le_mul_right _ hge)
      (hall.front fun j v hv=>by
        rw [Array.getElem?_append_left]
        · exact hv
        · exact (Array.getElem?_eq_some_iff.1 hv).1)
      (w':=w.drew.alloc (.cells (olds.toArray++news.toArray++Builtin.zeroCells z.cells (grownCap w (sLen + n) sCap e - (sLen + n))) e)) rfl rfl rfl rfl
    refine ⟨_,_,_,_,by rw [hb,hyb];exact hrun,g1,k2.trans g2,?_,fun b hb=>hb⟩
    refine .slL id 0 _ _ w.heap.size (grownCap w (sLen + n) sCap e) (grownCap w (sLen + n) sCap e * i.size) e (.inr rfl) (if_pos rfl) hge ?_ (Nat.le_of_eq ?_)

    · unfold World.shape?
      have : (w.drew.alloc (.cells (olds.toArray++news.toArray++Builtin.zeroCells z.cells (grownCap w (sLen + n) sCap e - (sLen + n))) e)).heap[w.heap.size]?=some (.cells (olds.toArray++news.toArray++Builtin.zeroCells z.cells (grownCap w (sLen + n) sCap e - (sLen + n))) e):=heap_alloc_new w.drew _
      rw [this]
      simp only [hcsize]
    · simp
  split at h3
  · -- nil
    rename_i he
    rw [he] at hxa
    have e1:=hxa.val_eq
    split at h3
    case isFalse=>cases h3
    rename_i hb
    cases h3
    by_cases hn : n=0
    · subst hn
      have hyb : ∃ ay cy,a.eval y=.slice ay 0 cy∧src=[]:=by
        rcases hss with ⟨_,h5,ay,cy,h6⟩ | ⟨blk,b0,cap,news,h6,h7,_,h8⟩
        · exact ⟨ay,cy,h6,h5⟩
        · refine ⟨_,_,h6,List.eq_nil_of_length_eq_zero ?_⟩
          have:=h8.1;simp [h7] at this;omega
      obtain ⟨ay,cy,h6,h5⟩:=hyb
      subst h5
      obtain ⟨g1,g2⟩:=hH.virt hid
      refine fin _ _ (by rw [e1,h6];exact run_app_zero w ht hi htx none 0 0 (Nat.le_refl _) ay cy) (hK _ _ _ _ g1 g2 ?_ (fun b hb=>hb))
      exact .slN id _ (.inr rfl) (if_pos rfl)
    · rcases hss with ⟨h5,_⟩ | ⟨blk,b0,cap,news,h6,h7,h8,h9⟩
      · exact absurd h5 hn
      · obtain ⟨cv,w',μ',U',g1,g2,g3,g4,g5⟩:=grow none 0 0 [] [] blk b0 cap news e1 (by simp [Builtin.firstCells]) (by simp) (RAs.of_get? rfl fun j x hx=>by simp at hx) h6 (by rw [h7,hsz]) h8 h9 (by omega) (by simpa using hb)
        simp only [List.nil_append,Nat.zero_add] at g2 g3 g4
        refine fin _ _ g1 (hK _ _ _ _ g2 g3 ?_ g5)
        rw [hsz] at g4;exact g4
  · rename_i b len sz he
    rw [he] at hxa
    obtain ⟨r,hb,h4⟩:=Option.bind_eq_some_iff.1 h3
    split at h4
    case isFalse=>cases h4
    rename_i hc
    obtain ⟨rfl,hzb,hlr,hbytes⟩:=hc
    cases h4
    have hbid : b ≠ id:=fun e=>hid (e ▸ hH.used b r hb)
    have dropb : ∀ r',(C.put id r').del b=(C.del b).put id r':=fun r'=>by
      funext k
      simp only [Heap.put,Heap.del]
      by_cases e1 : b=k
      · subst e1
        have : ¬ id=b:=fun e=>hbid e.symm
        simp [this]
      · simp [e1]
    rcases hxa.slL_inv with ⟨_,rfl,e1,hU,hm⟩ | ⟨blk0,cap0,m0,e0,e1,hU,hm,hlc,hsh,hcap⟩
    · -- it is nil
      have hr0 : r=[]:=by
        rcases hH.row b r hb with ⟨h,_⟩ | ⟨_,_,_,h,_⟩
        · exact h
        · rw [hm] at h;cases h
      subst hr0
      by_cases hn : n=0
      · subst hn
        have hyb : ∃ ay cy,a.eval y=.slice ay 0 cy∧src=[]:=by
          rcases hss with ⟨_,h5,ay,cy,h6⟩ | ⟨blk,b0,cap,news,h6,h7,_,h8⟩
          · exact ⟨ay,cy,h6,h5⟩
          · refine ⟨_,_,h6,List.eq_nil_of_length_eq_zero ?_⟩
            have:=h8.1;simp [h7] at this;omega
        obtain ⟨ay,cy,h6,h5⟩:=hyb
        subst h5
        obtain ⟨g1,g2⟩:=hH.rename hb hzb hid
        refine fin _ _ (by rw [e1,h6];exact run_app_zero w ht hi htx none 0 0 (Nat.le_refl _) ay cy) (hK _ _ _ _ (by simpa using g1) (by simpa using g2) ?_ (fun b hb=>hb))
        exact .slN id _ (.inr rfl) ((if_pos rfl).trans hm)
      · rcases hss with ⟨h5,_⟩ | ⟨blk,b0,cap,news,h6,h7,h8,h9⟩
        · exact absurd h5 hn
        · obtain ⟨cv,w',μ',U',g1,g2,g3,g4,g5⟩:=grow none 0 0 [] [] blk b0 cap news e1 (by simp [Builtin.firstCells]) (by simp) (RAs.of_get? rfl fun j x hx=>by simp at hx) h6 (by rw [h7,hsz]) h8 h9 (by omega) (by simpa using hbytes)
          obtain ⟨k1,k2⟩:=g2.less (C':=(C.put id ([]++src)).del b) (Z':=Z') (fun k r' hk=>by simp only [Heap.del] at hk;split at hk;cases hk;exact hk) (fun _ h=>h)
          rw [dropb] at k1 k2
          refine fin _ _ g1 (hK _ _ _ _ (by simpa using k1) (by simpa using g3.trans k2) ?_ g5)
          have:=k2.ra _ _ g4
          simpa [hsz] using this
    · rcases hH.row b r hb with ⟨_,hn0⟩ | ⟨blk',c,e',hm',hcc,hl,hra⟩
      · rw [hm] at hn0;cases hn0
      rw [hm] at hm';cases hm'
      have hcsz : cap0 * z.cells.size≤c.size:=by
        unfold World.shape? at hsh
        rw [hcc] at hsh
        simp at hsh
        omega
      have hold:=RAs.of_row hl hra (len * z.cells.size) hlr
      by_cases hn : n=0
      · subst hn
        have hyb : ∃ ay cy,a.eval y=.slice ay 0 cy∧src=[]:=by
          rcases hss with ⟨_,h5,ay,cy,h6⟩ | ⟨blk,b0,cap,news,h6,h7,_,h8⟩
          · exact ⟨ay,cy,h6,h5⟩
          · refine ⟨_,_,h6,List.eq_nil_of_length_eq_zero ?_⟩
            have:=h8.1;simp [h7] at this;omega
        obtain ⟨ay,cy,h6,h5⟩:=hyb
        subst h5
        obtain ⟨k1,k2⟩:=hH.write (r:=r.take (len * z.cells.size)) hb hzb hm hcc rfl (by simp;omega) (fun j hj=>by
          have hj' : j < r.length:=by simp at hj;omega
          simpa using hra j hj') hcc (fun _ _=>rfl) rfl rfl rfl rfl
        obtain ⟨g1,g2⟩:=k1.rename (b:=b) (id:=id) (r:=r.take (len * z.cells.size)) (by simp [Heap.put]) hzb hid
        have e3 : ((C.put b (r.take (len * z.cells.size))).del b).put id (r.take (len * z.cells.size))=(C.del b).put id (r.take (len * z.cells.size)++[]):=by
          rw [List.append_nil];funext k;simp only [Heap.put,Heap.del]
          by_cases e : b=k<;>simp [e]
        rw [e3] at g1 g2
        refine fin _ _ (by rw [e1,h6];exact run_app_zero w ht hi htx _ len cap0 hlc ay cy) (hK _ _ _ _ g1 (k2.trans g2) ?_ (fun b hb=>hb))
        simp only [Nat.add_zero]
        exact .slL id 0 len _ blk0 cap0 m0 e0 (.inr rfl) ((if_pos rfl).trans hm) hlc hsh hcap
      · rcases hss with ⟨h5,_⟩ | ⟨blk,b0,cap,news,h6,h7,h8,h9⟩
        · exact absurd h5 hn
        have hsl : src.length=n * z.cells.size:=by have:=h9.1;simp [h7] at this;exact this.symm
        by_cases hroom : len + n≤cap0
        · have hfit : len * z.cells.size + news.length≤c.size:=by
            rw [h7,← Nat.add_mul];exact Nat.le_trans (Nat.mul_le_mul_right _ hroom) hcsz
          have hrun:=run_app_room (P:=P) (ty:=o.type) w ht hi htx blk0 len cap0 c e' hcc ⟨blk,b0,none⟩ n cap news (by rw [h7,hsz]) (fun j u hj=>by rw [add_lit'];exact h8 j u hj) (h9.one hone) hroom (by rw [hsz];exact hfit)
          have hsp : (Sv.splice c.toList (len * i.size) news).toArray.size=c.size:=by
            rw [List.size_toArray,splice_length _ _ _ (by rw [hsz];simpa using hfit)];simp
          have hall:=hold.append h9
          obtain ⟨k1,k2⟩:=hH.write (r:=r.take (len * z.cells.size)++src) hb hzb hm hcc hsp (by rw [hsp];simp;omega) (hall.front fun j v hv=>by
              rw [hsz]
              have hlt : len * z.cells.size≤c.toList.length:=by simp;omega
              have : (Sv.splice c.toList (len * z.cells.size) news).toArray=(c.toList.take (len * z.cells.size)++news).toArray++(c.toList.drop (len * z.cells.size + news.length)).toArray:=by simp [Sv.splice]
              rw [this,Array.getElem?_append_left]
              · simpa using hv
              · have:=(Array.getElem?_eq_some_iff.1 hv).1;simpa using this)
            (setRow_heap w blk0 c _ e' _ hcc) (fun k hk=>setRow_other w blk0 k _ hk) (by simp) rfl rfl rfl
          obtain ⟨g1,g2⟩:=k1.rename (b:=b) (id:=id) (r:=r.take (len * z.cells.size)++src) (by simp [Heap.put]) hzb hid
          have e3 : ((C.put b (r.take (len * z.cells.size)++src)).del b).put id (r.take (len * z.cells.size)++src)=(C.del b).put id (r.take (len * z.cells.size)++src):=by
            funext k;simp only [Heap.put,Heap.del]
            by_cases e : b=k<;>simp [e]
          rw [e3] at g1 g2
          refine fin _ _ (by rw [e1,h6];exact hrun) (hK _ _ _ _ g1 (k2.trans g2) ?_ (fun b hb=>hb))
          refine .slL id 0 _ _ blk0 cap0 c.size e' (.inr rfl) ((if_pos rfl).trans hm) hroom ?_ (by omega)
          unfold World.shape?
          rw [setRow_heap w blk0 c _ e' _ hcc]
          simp only [hsp]
        · have hfo : (Builtin.firstCells i.size len (.slice (some ⟨blk0,0,none⟩) len cap0)).run P w.drew=.ok (c.toList.take (len * z.cells.size)).toArray w.drew:=by
            refine run_firstCells_some w.drew i.size len ⟨blk0,0,none⟩ len cap0 _ (by rw [hsz];simp;omega) (fun j u hj=>?_)
            rw [add_lit',Nat.zero_add]
            rw [List.getElem?_take] at hj
            split at hj
            · rw [World.cell?_drew,cell_of_row w blk0 j c e' (0,0) hcc];simpa using hj
            · cases hj
          obtain ⟨cv,w',μ',U',g1,g2,g3,g4,g5⟩:=grow (some ⟨blk0,0,none⟩) len cap0 (c.toList.take (len * z.cells.size)) (r.take (len * z.cells.size)) blk b0 cap news e1 hfo
            (by rw [hsz];simp;omega) hold h6 (by rw [h7,hsz]) h8 h9 (by omega) hbytes
          obtain ⟨k1,k2⟩:=g2.less (C':=(C.put id (r.take (len * z.cells.size)++src)).del b) (Z':=Z') (fun k r' hk=>by simp only [Heap.del] at hk;split at hk;cases hk;exact hk) (fun _ h=>h)
          rw [dropb] at k1 k2
          refine fin _ _ g1 (hK _ _ _ _ k1 (g3.trans k2) ?_ g5)
          have:=k2.ra _ _ g4
          simpa [hsz] using this
  · cases h3
end
end Go.Sv
namespace Go.Sv
open Go
set_option linter.unusedSimpArgs false
set_option linter.unusedVariables false

theorem HOK.putSame {w0 : World} {S Wr : Nat→Prop} {μ : Nat→Option Nat} {U : Nat→Prop} {C : Heap} {Z : Frz} {w : World} (h : HOK w0 S Wr μ U C Z w) {b : Nat} {r : List AV} (hb : C b=some r) :
    C.put b r=C:=by
  funext k;simp only [Heap.put];split
  · rename_i e;subst e;exact hb.symm
  · rfl

section
variable {P : Program} {o : Oper}

theorem impl_cpy {x y : Operand} {x' y' : X} {t tx e : TypeId} {sz : Nat} (ho : o.op=.call { callee:=.builtin .copy,args:=#[x,y],argTypes:=#[t,tx] })
    (ht : P.underlying t=some (.slice e)) (hsz : szOf P e=some sz) (hx : xo x=some x') (hy : xo y=some y') : Impl P o (.cpy sz x' y'):=by
  intro w0 S Wr μ U C Z w a fr id v C' Z' hS hH hf hid hxs K Q hK
  obtain ⟨h1,rfl⟩:=hxs.toXi rfl
  have h2 : xw fr C Z' id (.cpy sz x' y')=some (v,C'):=h1
  simp only [xw] at h2
  have hxa:=xo_sound hf hx
  have hya:=xo_sound hf hy
  obtain ⟨⟨src,n⟩,hsrc,h3⟩:=Option.bind_eq_some_iff.1 h2
  simp only at h3
  have hss:=src_sound hH hya hsrc
  have hsl : src.length=n * sz:=by
    rcases hss with ⟨h5,h6,_⟩ | ⟨blk,b0,cap,news,h6,h7,_,h8⟩
    · subst h5;subst h6;simp
    · have:=h8.1;simp [h7] at this;exact this.symm
  have fin : ∀ cv w',(Builtin.copy_ #[t,tx] o.type #[a.eval x,a.eval y]).run P w=.ok cv w'→K (a.put o.dst cv) w'→o.wp P a w K Q:=by
    intro cv w' hr hk
    unfold Oper.wp
    simp only [execOp,ho,resolve,invoke,builtin,List.map_toArray,List.map_cons,List.map_nil,Sem.run_bind,Sem.run_pure,Result.andThen_ok,hr]
    exact hk
  split at h3
  · rename_i b off len sz' he
    rw [he] at hxa
    obtain ⟨r,hb,h4⟩:=Option.bind_eq_some_iff.1 h3
    split at h4
    case isFalse=>cases h4
    rename_i hc
    obtain ⟨rfl,hzb,hlr,hone⟩:=hc
    cases h4
    have hlen : (Builtin.lenOf (a.eval y)).run P w=.ok n w:=by
      rcases hss with ⟨rfl,_,ay,cy,h6⟩ | ⟨blk,b0,cap,news,h6,_⟩
      · rw [h6];rfl
      · rw [h6];rfl
    by_cases hm0 : Nat.min n len=0
    · -- nothing is copied
      have hf0 : (Builtin.firstCells sz' 0 (a.eval y)).run P w=.ok #[] w:=by
        rcases hss with ⟨rfl,_,ay,cy,h6⟩ | ⟨blk,b0,cap,news,h6,_⟩
        · rw [h6];cases ay<;>simp [Builtin.firstCells,loadCells,loadCellsFrom]
        · rw [h6];simp [Builtin.firstCells,loadCells,loadCellsFrom]
      have hrun : (Builtin.copy_ #[t,tx] o.type #[a.eval x,a.eval y]).run P w=.ok (.int .i64 (Nat.min n len : Nat)) w:=by
        rcases hxa.slL_inv with ⟨_,rfl,e1,_,_⟩ | ⟨blk0,cap0,m0,e0,e1,_⟩
        · rw [e1]
          simp [Builtin.copy_,run_underlying ht,hlen,hm0,run_szOf hsz,hf0,goInt]
        · rw [e1]
          simp [Builtin.copy_,run_underlying ht,hlen,hm0,run_szOf hsz,hf0,goInt,storeCells]
      have e5 : Sv.splice r off (src.take (Nat.min n len * sz'))=r:=by
        rw [hm0];simp [Sv.splice]
      rw [e5,hH.putSame hb] at hK
      exact fin _ _ hrun (hK _ _ μ U hH Step.refl (.d _ _ (.val _ rfl)) (fun b hb=>.inl hb))
    · rcases hss with ⟨rfl,_⟩ | ⟨blk,b0,cap,news,h6,h7,h8,h9⟩
      · exact absurd (Nat.zero_min len) hm0
      rcases hxa.slL_inv with ⟨_,rfl,e1,_,_⟩ | ⟨blk0,cap0,m0,e0,e1,hU,hm,hlc,hsh,hcap⟩
      · exact absurd (Nat.min_zero n) hm0
      rcases hH.row b r hb with ⟨_,hn0⟩ | ⟨blk',c,e',hm',hcc,hl,hra⟩
      · rw [hm] at hn0;cases hn0
      rw [hm] at hm';cases hm'
      have hmn : Nat.min n len≤n:=Nat.min_le_left _ _
      have hml : Nat.min n len≤len:=Nat.min_le_right _ _
      generalize hk : Nat.min n len=k at hmn hml hm0 hK
      have hk1 : k * sz'≤n * sz':=Nat.mul_le_mul_right _ hmn
      have hk2 : k * sz'≤len * sz':=Nat.mul_le_mul_right _ hml
      have hfc:=run_firstCells_some (P:=P) w sz' k ⟨blk,b0,none⟩ n cap (news.take (k * sz')) (by simp;omega) (fun j u hj=>by
        rw [add_lit']
        rw [List.getElem?_take] at hj
        split at hj
        · exact h8 j u hj
        · cases hj)
      have hns : RAs w (Av S C Z' μ) μ U (news.take (k * sz')).toArray (src.take (k * sz')):=by
        have:=h9.extract 0 (k * sz') (by omega)
        simpa using this
      obtain ⟨k1,k2⟩:=RAs.splice (c:=c) (r:=r) (off:=off) hra hl hns (by simp;omega)
      have hone' : ∀ v ∈ news.take (k * sz'),v.oneCell'=true:=fun v hv=>h9.one hone v (List.mem_of_mem_take hv)
      have hst:=run_storeCells_at P blk0 off e' (news.take (k * sz')) 0 c w hcc (by simp;omega) hone'
      have hst' : (storeCells ⟨blk0,off,none⟩ (news.take (k * sz'))).run P w=.ok () (w.setRow blk0 (Sv.splice c.toList off (news.take (k * sz'))).toArray):=by
        simpa [Sv.splice] using hst
      have hrun : (Builtin.copy_ #[t,tx] o.type #[a.eval x,a.eval y]).run P w=.ok (.int .i64 (k : Nat)) (w.setRow blk0 (Sv.splice c.toList off (news.take (k * sz'))).toArray):=by
        rw [e1]
        rw [h6] at hlen ⊢
        simp [Builtin.copy_,run_underlying ht,hlen,hk,run_szOf hsz,hfc,goInt,hst']
      obtain ⟨g1,g2⟩:=hH.write hb hzb hm hcc k1 (by rw [k1,splice_length _ _ _ (by simp;omega)];exact hl) k2 (setRow_heap w blk0 c _ e' _ hcc)
        (fun k hk=>setRow_other w blk0 k _ hk) (by simp) rfl rfl rfl
      exact fin _ _ hrun (hK _ _ μ U g1 g2 (.d _ _ (.val _ rfl)) (fun b hb=>.inl hb))
  · cases h3

theorem impl_clr {x : Operand} {x' : X} {t e : TypeId} {i : TypeInfo} {z : Value} (ho : o.op=.call { callee:=.builtin .clear,args:=#[x],argTypes:=#[t] })
    (ht : P.underlying t=some (.slice e)) (hi : P.info? e=some i) (hz : i.zero=some z) (hzs : z.cells.toList.all (·.oneCell')=true) (hx : xo x=some x') : Impl P o (.clr z.cells.toList x'):=by
  intro w0 S Wr μ U C Z w a fr id v C' Z' hS hH hf hid hxs K Q hK
  obtain ⟨h1,rfl⟩:=hxs.toXi rfl
  have h2 : xw fr C Z' id (.clr z.cells.toList x')=some (v,C'):=h1
  simp only [xw,Array.length_toList] at h2
  have hxa:=xo_sound hf hx
  have fin : ∀ cv w',(Builtin.clear_ #[t] o.type #[a.eval x]).run P w=.ok cv w'→K (a.put o.dst cv) w'→o.wp P a w K Q:=by
    intro cv w' hr hk
    unfold Oper.wp
    simp only [execOp,ho,resolve,invoke,builtin,List.map_toArray,List.map_cons,List.map_nil,Sem.run_bind,Sem.run_pure,Result.andThen_ok,hr]
    exact hk
  have tup0 : ∀ (w : World) (A : Nat→Prop) (μ : Nat→Option Nat) (U : Nat→Prop),RA w A μ U (.tuple #[]) (.tup []):=fun w A μ U=>.tup #[] [] rfl (fun j hj=>absurd hj (by simp))
  have none0 : ∀ (ad : Option Addr) (cap : Nat),(Builtin.clear_ #[t] o.type #[.slice ad 0 cap]).run P w=.ok (.tuple #[]) w:=by
    intro ad cap
    cases ad<;>simp [Builtin.clear_,run_underlying ht]
  split at h2
  · rename_i he
    cases h2
    rw [he] at hxa
    have e1:=hxa.val_eq
    refine fin _ _ ?_ (hK _ _ μ U hH Step.refl (tup0 _ _ _ _) (fun b hb=>.inl hb))
    rw [e1];exact none0 none 0
  · rename_i he
    cases h2
    rw [he] at hxa
    rcases hxa.slD_inv with ⟨_,_,ad,cap,e1⟩ | ⟨blk,b0,cap,g,e1,_⟩
    · refine fin _ _ ?_ (hK _ _ μ U hH Step.refl (tup0 _ _ _ _) (fun b hb=>.inl hb))
      rw [e1];exact none0 ad cap
    · refine fin _ _ ?_ (hK _ _ μ U hH Step.refl (tup0 _ _ _ _) (fun b hb=>.inl hb))
      rw [e1];exact none0 _ cap
  · rename_i b off len sz he
    rw [he] at hxa
    obtain ⟨r,hb,h4⟩:=Option.bind_eq_some_iff.1 h2
    split at h4
    case isFalse=>cases h4
    rename_i hc
    obtain ⟨rfl,hzb,hlr,hone⟩:=hc
    cases h4
    rcases Nat.eq_zero_or_pos len with h0 | h0
    · subst h0
      have e5 : Sv.splice r off (repl (zeroA z.cells.toList) 0)=r:=by simp [Sv.splice,repl]
      rw [e5,hH.putSame hb] at hK
      rcases hxa.slL_inv with ⟨_,_,e1,_,_⟩ | ⟨blk0,cap0,m0,e0,e1,_⟩
      · refine fin _ _ ?_ (hK _ _ μ U hH Step.refl (tup0 _ _ _ _) (fun b hb=>.inl hb))
        rw [e1];exact none0 none 0
      · refine fin _ _ ?_ (hK _ _ μ U hH Step.refl (tup0 _ _ _ _) (fun b hb=>.inl hb))
        rw [e1];exact none0 _ cap0
    · rcases hxa.slL_inv with ⟨_,e1,_⟩ | ⟨blk0,cap0,m0,e0,e1,hU,hm,hlc,hsh,hcap⟩
      · omega
      rcases hH.row b r hb with ⟨_,hn0⟩ | ⟨blk',c,e',hm',hcc,hl,hra⟩
      · rw [hm] at hn0;cases hn0
      rw [hm] at hm';cases hm'
      have hns : RAs w (Av S C Z' μ) μ U (Builtin.zeroCells z.cells len).toList.toArray (repl (zeroA z.cells.toList) len):=by
        have:=repl_sound (w:=w) (A:=Av S C Z' μ) (μ:=μ) (U:=U) z.cells hzs len
        rw [Array.toArray_toList];exact this
      have hnl : (repl (zeroA z.cells.toList) len).length=len * z.cells.size:=by
        have:=hns.1
        rw [Array.toArray_toList,size_zeroCells] at this
        omega
      obtain ⟨k1,k2⟩:=RAs.splice (c:=c) (r:=r) (off:=off) hra hl hns (by omega)
      have hone' : ∀ v ∈ (Builtin.zeroCells z.cells len).toList,v.oneCell'=true:=by
        intro v hv
        have hall:=List.all_eq_true.1 hzs
        rw [Array.mem_toList_iff] at hv
        simp only [Builtin.zeroCells,Array.mem_map,Array.mem_range] at hv
        obtain ⟨j,hj,rfl⟩:=hv
        have hpos : 0 < z.cells.size:=by
          rcases Nat.eq_zero_or_pos z.cells.size with h | h
          · rw [h] at hj;simp at hj
          · exact h
        have hlt:=Nat.mod_lt j hpos
        rw [getElem!_pos z.cells _ hlt]
        exact hall _ (by simp)
      have hst:=run_storeCells_at P blk0 off e' (Builtin.zeroCells z.cells len).toList 0 c w hcc (by simp [size_zeroCells];omega) hone'
      have hst' : (storeCells ⟨blk0,off,none⟩ (Builtin.zeroCells z.cells len).toList).run P w=.ok () (w.setRow blk0 (Sv.splice c.toList off (Builtin.zeroCells z.cells len).toList).toArray):=by
        simpa [Sv.splice] using hst
      have hrun : (Builtin.clear_ #[t] o.type #[a.eval x]).run P w=.ok (.tuple #[]) (w.setRow blk0 (Sv.splice c.toList off (Builtin.zeroCells z.cells len).toList).toArray):=by
        rw [e1]
        obtain ⟨m,rfl⟩ : ∃ m,len=m + 1:=⟨len - 1,by omega⟩
        simp [Builtin.clear_,run_underlying ht,zeroValue,typeInfo,hi,hz,hst']
      obtain ⟨g1,g2⟩:=hH.write hb hzb hm hcc k1 (by rw [k1,splice_length _ _ _ (by omega)];exact hl) k2 (setRow_heap w blk0 c _ e' _ hcc)
        (fun k hk=>setRow_other w blk0 k _ hk) (by simp) rfl rfl rfl
      exact fin _ _ hrun (hK _ _ μ U g1 g2 (tup0 _ _ _ _) (fun b hb=>.inl hb))
  · cases h2
end
end Go.Sv
