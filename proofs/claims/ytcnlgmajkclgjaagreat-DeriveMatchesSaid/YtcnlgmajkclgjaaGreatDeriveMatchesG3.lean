/- A part of the proof of the law DeriveMatches: that it answers true for every input, and that the input reads behind the call as before (no condition). -/
import Derived.Test.YtcnlgmajkclgjaaGreatDeriveMatchesG2
set_option linter.all false
set_option linter.unusedSectionVars false
set_option linter.unusedVariables false
set_option linter.unusedSimpArgs false
namespace Go.Sv
open Go
set_option linter.unusedVariables false

def frOf : List (Nat × AV)→Fr
  | []=>Fr.nil
  | (k,v) :: l=>(frOf l).put k v
def heapOf : List (Nat × List AV)→Heap
  | []=>Heap.nil
  | (k,r) :: l=>(heapOf l).put k r
def zOf (l : List Nat) : Frz:=fun k=>l.contains k

structure LS where
  fr : List (Nat × AV)
  C : List (Nat × List AV)
  Z : List Nat
  nx : Nat
def LS.st (s : LS) : St:=⟨frOf s.fr,heapOf s.C,zOf s.Z,s.nx⟩

def tabH (C : Heap) : List Nat→List (Nat × List AV)
  | []=>[]
  | k :: ks=>match C k with
    | some r=>(k,r) :: tabH C ks
    | none=>tabH C ks

theorem heapOf_tab (C : Heap) : ∀ (ks : List Nat) (b : Nat),heapOf (tabH C ks) b=if b ∈ ks then C b else none
  | [],b=>by simp [tabH,heapOf,Heap.nil]
  | k :: ks,b=>by
    have ih:=heapOf_tab C ks b
    simp only [tabH]
    split
    · rename_i r hr
      simp only [heapOf,Heap.put,ih]
      by_cases h : k=b
      · subst h;simp [hr]
      · simp [h,Ne.symm h]
    · rename_i hr
      rw [ih]
      by_cases h : b=k
      · subst h;simp [hr]
      · simp [h]
theorem heapOf_tab_eq {C : Heap} {ks : List Nat} (h : ∀ b,b ∉ ks→C b=none) : heapOf (tabH C ks)=C:=by
  funext b
  rw [heapOf_tab]
  split
  · rfl
  · rename_i hb;exact (h b hb).symm
theorem heapOf_none : ∀ {l : List (Nat × List AV)} {b : Nat},b ∉ l.map (·.1)→heapOf l b=none
  | [],b,_=>rfl
  | (k,r) :: l,b,h=>by
    simp only [List.map_cons,List.mem_cons,not_or] at h
    simp only [heapOf,Heap.put]
    rw [if_neg (Ne.symm h.1)]
    exact heapOf_none h.2
theorem zOf_add (l us : List Nat) : (zOf l).add us=zOf (l++us):=by
  funext k;simp [zOf,Frz.add]

abbrev CallF:=FuncId→List AV→Option (List DV)→Option (AV × Option (List DV) × Option (List DV))

def unD : List AV→Option (List DV)
  | []=>some []
  | .d x :: l=>(unD l).map fun r=>x :: r
  | _=>none
theorem unD_eq : ∀ {l : List AV} {ds : List DV},unD l=some ds→l=ds.map AV.d
  | [],ds,h=>by simp [unD] at h;subst h;rfl
  | .d x :: l,ds,h=>by
    simp only [unD] at h
    obtain ⟨r,h1,rfl⟩:=Option.map_eq_some_iff.1 h
    rw [unD_eq h1];rfl
  | .agg _ :: l,ds,h=>by simp [unD] at h
  | .tup _ :: l,ds,h=>by simp [unD] at h
  | .ptrL _ _ :: l,ds,h=>by simp [unD] at h
  | .slL _ _ _ _ :: l,ds,h=>by simp [unD] at h
  | .fnL _ _ :: l,ds,h=>by simp [unD] at h
  | .dead :: l,ds,h=>by simp [unD] at h

def evCall (cf : CallF) (C : Heap) (Z : Frz) (id : Nat) (f : FuncId) (as : List AV) (lp : Option Nat) (nw : Bool) (kp : Option Nat:=none) : Option (AV × Heap × List Nat) :=
  match lp with
  | none=>match convAs C (fun _=>false) as with
    | none=>none
    | some (bs,us)=>match cf f (keepN kp as bs) none with
      | some (r,none,nr)=>if nr.isSome=nw∧(nw=true→r.flat=true) then some (if nw then r.ren 0 id else r,putO C id nr,if r.scalar && scalO nr then [] else us) else none
      | _=>none
  | some j=>match (as[j]?).bind liveB with
    | none=>none
    | some b=>match (C b).bind unD with
      | none=>none
      | some ds=>if Z b=false then
        match convAsL C b j as with
        | none=>none
        | some (bs,us)=>match cf f bs (some ds) with
          | none=>none
          | some (r,row',nr)=>if nr.isSome=nw∧r.flat=true then some (r.ren b id,putO (setO C b row') id nr,if r.scalar && scalO row' && scalO nr then [] else us) else none
        else none

theorem evCall_sound {P : Program} {cf : CallF} (hcf : ∀ f as row r row' nw,cf f as row=some (r,row',nw)→Good P f as row r row' nw) {C : Heap} {Z : Frz} {id : Nat} {f : FuncId} {as : List AV} {lp : Option Nat} {nw : Bool} {kp : Option Nat} {v : AV} {C' : Heap} {us : List Nat}
    (h : evCall cf C Z id f as lp nw kp=some (v,C',us)) : XCall P C Z id f as lp nw v C' (Z.add us):=by
  unfold evCall at h
  split at h
  · split at h
    · cases h
    rename_i bs us' h1
    split at h
    · rename_i r nr h2
      split at h
      · rename_i hc
        cases h
        exact ⟨bs,us',r,nr,kp,h1,hcf _ _ _ _ _ _ h2,hc.1,hc.2,rfl,rfl,rfl⟩
      · cases h
    · cases h
  · rename_i j
    split at h
    · cases h
    rename_i b h0
    split at h
    · cases h
    rename_i ds h1
    split at h
    case isFalse=>cases h
    rename_i hz
    split at h
    · cases h
    rename_i bs us' h2
    split at h
    · cases h
    rename_i r row' nr h3
    split at h
    · rename_i hc
      cases h
      obtain ⟨cells,h4,h5⟩:=Option.bind_eq_some_iff.1 h1
      exact ⟨b,ds,bs,us',r,row',nr,h0,by rw [h4,unD_eq h5],hz,h2,hcf _ _ _ _ _ _ h3,hc.1,hc.2,rfl,rfl,rfl⟩
    · cases h

def lpOf (as : List AV) : Option Nat→Option Nat
  | none=>none
  | some j=>if ((as[j]?).bind liveB).isSome then some j else none
theorem lpOf_or {as : List AV} {lp : Option Nat} : lpOf as lp=lp ∨ lpOf as lp=none:=by
  cases lp with
  | none=>exact .inl rfl
  | some j =>
    by_cases h : ((as[j]?).bind liveB).isSome=true
    · exact .inl (by simp only [lpOf];rw [if_pos h])
    · exact .inr (by simp only [lpOf];rw [if_neg h])
def evStep (cf : CallF) (fr : Fr) (C : Heap) (Z : Frz) (id : Nat) (i : XI) : Option (AV × Heap × List Nat) :=
  match i with
  | .call f args lp nw=>evCall cf C Z id f (args.map (X.ev fr)) (lpOf (args.map (X.ev fr)) lp) nw lp
  | .callv g args=>match g.ev fr with
    | .fnL f caps=>evCall cf C Z id f (args.map (X.ev fr)++caps) none false
    | .d (.fn f ds)=>evCall cf C Z id f (args.map (X.ev fr)++ds.map AV.d) none false
    | _=>none
  | .storeA n a x av=>if av.all (fun s=>sepL (a.ev fr) (fr s))=true then (xi fr C Z id (.store n a x)).map fun p=>(p.1,p.2,[]) else none
  | .callA f args j av=>if av.all (fun s=>sepO (args.map (X.ev fr))[j]? (fr s))=true then evCall cf C Z id f (args.map (X.ev fr)) (some j) false else none
  | i=>(xi fr C Z id i).map fun p=>(p.1,p.2,[])
theorem evStep_sound {P : Program} {cf : CallF} (hcf : ∀ f as row r row' nw,cf f as row=some (r,row',nw)→Good P f as row r row' nw) {fr : Fr} {C : Heap} {Z : Frz} {id : Nat} {i : XI} {v : AV} {C' : Heap} {us : List Nat}
    (h : evStep cf fr C Z id i=some (v,C',us)) : XStep P fr C Z id i v C' (Z.add us):=by
  cases i with
  | call f args lp nw=>exact ⟨_,lpOf_or,evCall_sound hcf h⟩
  | callv g args =>
    simp only [evStep] at h
    split at h
    · rename_i f caps hg
      exact ⟨f,caps,.inl hg,evCall_sound hcf h⟩
    · rename_i f ds hg
      exact ⟨f,_,.inr ⟨ds,hg,rfl⟩,evCall_sound hcf h⟩
    · cases h
  | storeA n a x av =>
    simp only [evStep] at h
    split at h
    · rename_i hav
      obtain ⟨p,h1,h2⟩:=Option.map_eq_some_iff.1 h
      cases h2
      exact ⟨hav,h1,Frz.add_nil _⟩
    · cases h
  | callA f args j av =>
    simp only [evStep] at h
    split at h
    · rename_i hav
      exact ⟨hav,evCall_sound hcf h⟩
    · cases h
  | _ =>
    simp only [evStep] at h
    obtain ⟨p,h1,h2⟩:=Option.map_eq_some_iff.1 h
    cases h2
    exact ⟨h1,Frz.add_nil _⟩

def evOps (cf : CallF) : List (Nat × XO)→Nat→LS→Option LS
  | [],_,s=>some s
  | (i,o) :: l,base,s =>
    match wantB (frOf s.fr) o.guard with
    | some true=>match evStep cf (frOf s.fr) (heapOf s.C) (zOf s.Z) (base + i) o.i with
      | some (v,C',us)=>evOps cf l base ⟨match o.dst with | some d=>(d,v) :: s.fr | none=>s.fr,tabH C' ((base + i) :: s.C.map (·.1)),s.Z++us,s.nx⟩
      | none=>none
    | some false=>evOps cf l base ⟨match o.dst with | some d=>(d,.tup []) :: s.fr | none=>s.fr,s.C,s.Z,s.nx⟩
    | none=>none

theorem frOf_putO (fr : List (Nat × AV)) (d : Option Nat) (v : AV) : frOf (match d with | some d=>(d,v) :: fr | none=>fr)=Fr.putO (frOf fr) d v:=by
  cases d<;>rfl
theorem evOps_sound {P : Program} {cf : CallF} (hcf : ∀ f as row r row' nw,cf f as row=some (r,row',nw)→Good P f as row r row' nw) {K : Fr→Heap→Frz→Prop} : ∀ {l : List (Nat × XO)} {base : Nat} {s s' : LS},evOps cf l base s=some s' →
    K (frOf s'.fr) (heapOf s'.C) (zOf s'.Z)→aRun P l base K (frOf s.fr) (heapOf s.C) (zOf s.Z)
  | [],base,s,s',h,hK=>by simp [evOps] at h;subst h;exact hK
  | (i,o) :: l,base,s,s',h,hK=>by
    simp only [evOps] at h
    split at h
    · rename_i hw
      split at h
      · rename_i v C' us hs
        have ih:=evOps_sound hcf h hK
        have hx:=evStep_sound hcf hs
        have e : heapOf (tabH C' ((base + i) :: s.C.map (·.1)))=C':=heapOf_tab_eq fun b hb=>by
          simp only [List.mem_cons,not_or] at hb
          exact XStep_free hx (heapOf_none hb.2) hb.1
        rw [e,frOf_putO,← zOf_add] at ih
        exact ⟨v,C',_,.inl ⟨hw,hx⟩,ih⟩
      · cases h
    · rename_i hw
      have ih:=evOps_sound hcf h hK
      rw [frOf_putO] at ih
      exact ⟨_,_,_,.inr ⟨hw,rfl,rfl,rfl⟩,ih⟩
    · cases h

def okA (n : Nat) : Nat→AV→Bool
  | _,.d _=>true
  | _,.dead=>true
  | _,.ptrL b _=>Nat.blt b n
  | _,.slL b _ _ _=>Nat.blt b n
  | k + 1,.agg cs=>cs.all (okA n k)
  | k + 1,.tup cs=>cs.all (okA n k)
  | k + 1,.fnL _ cs=>cs.all (okA n k)
  | 0,_=>false
theorem okA_wk {n : Nat} : ∀ (k : Nat) (v : AV),okA n k v=true→AWk (fun b=>b) (fun _=>false) n v v
  | k,.d x,_=>.d x
  | k,.dead,_=>.dead _
  | k,.ptrL b off,h=>.ptrL b b off rfl (by simpa [okA] using h) rfl
  | k,.slL b off len sz,h=>.slL b b off len sz rfl (by simpa [okA] using h) rfl
  | k + 1,.agg cs,h=>.agg cs cs rfl fun j h1 _=>okA_wk k _ (List.all_eq_true.1 (show cs.all (okA n k)=true from h) _ (List.getElem_mem h1))
  | k + 1,.tup cs,h=>.tup cs cs rfl fun j h1 _=>okA_wk k _ (List.all_eq_true.1 (show cs.all (okA n k)=true from h) _ (List.getElem_mem h1))
  | k + 1,.fnL f cs,h=>.fnL f cs cs rfl fun j h1 _=>okA_wk k _ (List.all_eq_true.1 (show cs.all (okA n k)=true from h) _ (List.getElem_mem h1))
  | 0,.agg cs,h=>by simp [okA] at h
  | 0,.tup cs,h=>by simp [okA] at h
  | 0,.fnL f cs,h=>by simp [okA] at h
def okLS (s : LS) : Bool:=Nat.blt 0 s.nx && s.fr.all (fun p=>okA s.nx 4 p.2) && s.C.all (fun p=>Nat.blt p.1 s.nx && p.2.all (okA s.nx 4))
theorem frOf_all {p : AV→Prop} (hd : p .dead) : ∀ (l : List (Nat × AV)),(∀ x ∈ l,p x.2)→∀ s,p (frOf l s)
  | [],_,s=>hd
  | (k,v) :: l,h,s=>by
    simp only [frOf,Fr.put]
    split
    · exact h (k,v) (by simp)
    · exact frOf_all hd l (fun x hx=>h x (by simp [hx])) s
theorem heapOf_mem : ∀ {l : List (Nat × List AV)} {b : Nat} {r : List AV},heapOf l b=some r→(b,r) ∈ l
  | [],b,r,h=>by simp [heapOf,Heap.nil] at h
  | (k,x) :: l,b,r,h=>by
    simp only [heapOf,Heap.put] at h
    split at h
    · rename_i e;cases h;subst e;simp
    · exact List.mem_cons_of_mem _ (heapOf_mem h)
theorem okLS_wk {s : LS} (h : okLS s=true) : Wk s.st s.st:=by
  simp only [okLS,Bool.and_eq_true] at h
  obtain ⟨⟨h1,h2⟩,h3⟩:=h
  refine ⟨fun b=>b,fun _=>false,⟨rfl,rfl,show 0 < s.nx by simpa using h1⟩,fun k=>?_,fun b r hb=>?_,fun b b' r r' _ _ _ _ e=>e,fun b hb=>hb⟩
  · exact frOf_all (p:=fun v=>AWk (fun b=>b) (fun _=>false) s.st.nx v v) (.dead _) s.fr (fun x hx=>okA_wk 4 _ (List.all_eq_true.1 h2 x hx)) k
  · have hm:=List.all_eq_true.1 h3 _ (heapOf_mem hb)
    simp only [Bool.and_eq_true] at hm
    exact ⟨show b < s.nx by simpa using hm.1,.inr ⟨rfl,r,hb,rfl,fun j g1 _=>okA_wk 4 _ (List.all_eq_true.1 hm.2 _ (List.getElem_mem g1)),fun e=>e⟩⟩

def AV.now {α : Type} (v : AV) (k : AV→α) : α :=
  match v with
  | .d x=>match x with
    | .val u=>match u with
      | .int kd n=>match n with
        | .ofNat m=>k (.d (.val (.int kd (.ofNat m))))
        | .negSucc m=>k (.d (.val (.int kd (.negSucc m))))
      | .bool b=>match b with
        | true=>k (.d (.val (.bool true)))
        | false=>k (.d (.val (.bool false)))
      | u=>k (.d (.val u))
    | x=>k (.d x)
  | v=>k v
theorem AV.now_eq {α : Type} (v : AV) (k : AV→α) : v.now k=k v:=by
  unfold AV.now
  repeat' split
  all_goals rfl
def keepLs : List Nat→List (Nat × AV)→List (Nat × AV)→List (Nat × AV)
  | [],acc,_=>acc
  | k :: ks,acc,fr=>(frOf fr k).now fun v=>keepLs ks ((k,v) :: acc) fr
theorem keepLs_eq : ∀ (ks : List Nat) (acc fr : List (Nat × AV)),frOf (keepLs ks acc fr)=Fr.keepL ks (frOf acc) (frOf fr)
  | [],acc,fr=>rfl
  | k :: ks,acc,fr=>by simp only [keepLs,AV.now_eq];rw [keepLs_eq ks];rfl
def keepOs : Option (List Nat)→List (Nat × AV)→List (Nat × AV)
  | none,fr=>fr
  | some l,fr=>keepLs l [] fr
theorem keepOs_eq (kp : Option (List Nat)) (fr : List (Nat × AV)) : frOf (keepOs kp fr)=Fr.keepO kp (frOf fr):=by
  cases kp with
  | none=>rfl
  | some l=>exact keepLs_eq l [] fr

def loopE (body : LS→Option (Exit × LS)) : Nat→LS→Option (Exit × LS)
  | 0,_=>none
  | n + 1,s=>if okLS s=true then
      match body s with
      | some (.normal,s')=>loopE body n s'
      | r=>r
    else none

def evC (cf : CallF) (n : Nat) : XC→LS→Option (Exit × LS)
  | .skip,s=>some (.normal,s)
  | .ops m l kp,s=>match evOps cf l s.nx s with
    | some s'=>some (.normal,⟨keepOs kp s'.fr,s'.C,s'.Z,s.nx + m⟩)
    | none=>none
  | .seq a b,s=>match evC cf n a s with
    | some (.normal,s')=>evC cf n b s'
    | r=>r
  | .cond c a b,s=>match c.ev (frOf s.fr) with
    | .d (.val (.bool true))=>evC cf n a s
    | .d (.val (.bool false))=>evC cf n b s
    | _=>none
  | .block id c,s=>match evC cf n c s with
    | some (.exit i,s')=>if i=id then some (.normal,s') else some (.exit i,s')
    | r=>r
  | .loop c,s=>loopE (evC cf n c) n s
  | .exit id,s=>some (.exit id,s)
  | .ret,s=>some (.ret,s)

theorem loopE_sound {P : Program} {c : XC} {body : LS→Option (Exit × LS)} (hb : ∀ s e s',body s=some (e,s')→∀ Q : Cont,Q e s'.st→xwp P c Q s.st) : ∀ (n : Nat) (s : LS) (e : Exit) (s' : LS),loopE body n s=some (e,s')→∀ Q : Cont,Q e s'.st→xloop (xwp P c) Q n s.st
  | 0,s,e,s',h=>by simp [loopE] at h
  | n + 1,s,e,s',h=>by
    intro Q hQ
    simp only [loopE] at h
    split at h
    case isFalse=>cases h
    rename_i hok
    refine ⟨s.st,(okLS_wk hok).f,?_⟩
    split at h
    · rename_i s1 h1
      exact hb _ _ _ h1 _ (loopE_sound hb n s1 e s' h Q hQ)
    · rename_i r hne
      refine hb _ _ _ h _ ?_
      cases e with
      | normal=>exact absurd h (hne s')
      | _=>exact hQ
theorem evC_sound {P : Program} {cf : CallF} (hcf : ∀ f as row r row' nw,cf f as row=some (r,row',nw)→Good P f as row r row' nw) (n : Nat) : ∀ (c : XC) (s : LS) (e : Exit) (s' : LS),evC cf n c s=some (e,s')→∀ Q : Cont,Q e s'.st→xwp P c Q s.st:=by
  intro c
  induction c with
  | skip=>intro s e s' h Q hQ;simp [evC] at h;obtain ⟨rfl,rfl⟩:=h;exact hQ
  | ops m l kp =>
    intro s e s' h Q hQ
    simp only [evC] at h
    split at h
    · rename_i s1 h1
      cases h
      refine evOps_sound hcf h1 (K:=opsK kp Q (s.nx + m)) ?_
      show Q .normal ⟨Fr.keepO kp (frOf s1.fr),heapOf s1.C,zOf s1.Z,s.nx + m⟩
      rw [← keepOs_eq];exact hQ
    · cases h
  | seq a b iha ihb =>
    intro s e s' h Q hQ
    simp only [evC] at h
    split at h
    · rename_i s1 h1
      exact iha _ _ _ h1 _ (ihb _ _ _ h Q hQ)
    · rename_i r hne
      refine iha _ _ _ h _ ?_
      cases e with
      | normal=>exact absurd h (hne s')
      | _=>exact hQ
  | cond c a b iha ihb =>
    intro s e s' h Q hQ
    simp only [evC] at h
    split at h
    · rename_i hc;exact ⟨true,hc,iha _ _ _ h Q hQ⟩
    · rename_i hc;exact ⟨false,hc,ihb _ _ _ h Q hQ⟩
    · cases h
  | block id c ih =>
    intro s e s' h Q hQ
    simp only [evC] at h
    split at h
    · rename_i i s1 h1
      refine ih _ _ _ h1 _ ?_
      split at h
      · rename_i hi;cases h;show (if i=id then _ else _);rw [if_pos hi];exact hQ
      · rename_i hi;cases h;show (if i=id then _ else _);rw [if_neg hi];exact hQ
    · rename_i r hne
      refine ih _ _ _ h _ ?_
      cases e with
      | exit i=>exact absurd h (hne i s')
      | _=>exact hQ
  | loop c ih =>
    intro s e s' h Q hQ
    exact ⟨n,loopE_sound ih n s e s' h Q hQ⟩
  | exit id=>intro s e s' h Q hQ;simp [evC] at h;obtain ⟨rfl,rfl⟩:=h;exact hQ
  | ret=>intro s e s' h Q hQ;simp [evC] at h;obtain ⟨rfl,rfl⟩:=h;exact hQ

structure FT where
  x : XC
  rs : List XRes
  np : Nat
  nw : Bool
  nsz : Nat
abbrev Tab:=FuncId→Option FT
def initL (as : List AV) : Nat→List (Nat × AV)
  | n=>match as with
    | []=>[]
    | v :: l=>(n,v) :: initL l (n + 1)
theorem initL_get : ∀ (as : List AV) (n s : Nat),frOf (initL as n) s=if n≤s then as.getD (s - n) .dead else .dead
  | [],n,s=>by simp [initL,frOf,Fr.nil]
  | v :: l,n,s=>by
    simp only [initL,frOf,Fr.put]
    split
    · rename_i e;subst e;simp
    · rename_i e
      rw [initL_get l (n + 1) s]
      by_cases h : n≤s
      · rw [if_pos h,if_pos (by omega),show s - n=(s - (n + 1)) + 1 by omega];rfl
      · rw [if_neg h,if_neg (by omega)]
theorem initL_eq (as : List AV) : frOf (initL as 0)=Fr.init as:=by
  funext s;rw [initL_get];simp [Fr.init]
def initH : Option (List DV)→List (Nat × List AV)
  | none=>[]
  | some ds=>[(0,ds.map AV.d)]
def LS.init (as : List AV) (row : Option (List DV)) : LS:=⟨initL as 0,initH row,[],1⟩
theorem LS.init_eq (as : List AV) (row : Option (List DV)) : (LS.init as row).st=St.init as row:=by
  simp only [LS.init,LS.st,St.init,initL_eq]
  cases row<;>rfl
def evRet (C : Heap) (Z : Frz) (v : AV) (live nw : Bool) (nsz : Nat:=8) : Option (AV × Option (List DV) × Option (List DV)) :=
  if nw then
    match v with
    | .slL b off len sz=>match (C b).bind unD with
      | some ds=>if Z b=false then some (.slL 1 off len sz,none,some ds) else none
      | none=>none
    | .ptrL b off=>match (C b).bind unD with
      | some ds=>if Z b=false then some (.ptrL 1 off,none,some ds) else none
      | none=>none
    | .d (.val (.slice none 0 0))=>some (.slL 1 0 0 nsz,none,some [])
    | _=>none
  else if live then
    match (C 0).bind unD with
    | some ds=>if Z 0=false then (match v with
      | .slL 0 off len sz=>some (.slL 0 off len sz,some ds,none)
      | v=>(convT C (fun b=>b == 0) v).map fun r=>(r,some ds,none)) else none
    | none=>none
  else (convT C (fun _=>false) v).map fun r=>(r,none,none)
theorem evRet_sound {C : Heap} {Z : Frz} {v : AV} {live nw : Bool} {nsz : Nat} {r : AV} {row' nr : Option (List DV)} (h : evRet C Z v live nw nsz=some (r,row',nr)) : RetOK C Z v live r row' nr:=by
  have hu : ∀ {b ds},(C b).bind unD=some ds→C b=some (ds.map AV.d):=by
    intro b ds h
    obtain ⟨cells,h4,h5⟩:=Option.bind_eq_some_iff.1 h
    rw [h4,unD_eq h5]
  unfold evRet at h
  split at h
  · split at h
    · split at h
      · rename_i ds h1
        split at h
        · rename_i hz;cases h;exact .new _ _ _ _ _ rfl (hu h1) hz
        · cases h
      · cases h
    · split at h
      · rename_i ds h1
        split at h
        · rename_i hz;cases h;exact .newP _ _ _ rfl (hu h1) hz
        · cases h
      · cases h
    · cases h;exact .newN _ rfl
    · cases h
  · split at h
    · rename_i hl
      split at h
      · rename_i ds h1
        split at h
        · rename_i hz
          split at h
          · cases h;exact .own _ _ _ _ hl rfl (hu h1) hz
          · obtain ⟨r',h2,h3⟩:=Option.map_eq_some_iff.1 h
            cases h3
            exact .dataL _ _ hl h2 (hu h1) hz
        · cases h
      · cases h
    · obtain ⟨r',h2,h3⟩:=Option.map_eq_some_iff.1 h
      cases h3
      exact .data _ h2
def evB (cf : CallF) (n : Nat) (t : FT) (as : List AV) (row : Option (List DV)) : Option (AV × Option (List DV) × Option (List DV)) :=
  if Nat.ble as.length t.np=true then
    match evC cf n t.x (LS.init as row) with
    | some (.normal,s)=>(resVals (frOf s.fr) (heapOf s.C) t.rs).bind fun vs=>evRet (heapOf s.C) (zOf s.Z) (tupOf vs) row.isSome t.nw t.nsz
    | some (.ret,s)=>(resVals (frOf s.fr) (heapOf s.C) t.rs).bind fun vs=>evRet (heapOf s.C) (zOf s.Z) (tupOf vs) row.isSome t.nw t.nsz
    | _=>none
  else none
def TabOK (P : Program) (tab : Tab) : Prop:=∀ f t,tab f=some t→∀ (as : List AV) (row : Option (List DV)) (r : AV) (row' nw : Option (List DV)),as.length≤t.np→(row'.isSome=true→row.isSome=true)→xwp P t.x (retK t.rs row.isSome r row' nw) (St.init as row)→Good P f as row r row' nw
def evF (tab : Tab) (sp : CallF→CallF) (n : Nat) : Nat→CallF
  | 0=>fun _ _ _=>none
  | k + 1=>fun f as row=>match tab f with
    | some t=>evB (evF tab sp n k) n t as row
    | none=>sp (evF tab sp n k) f as row
theorem evF_sound {P : Program} {tab : Tab} {sp : CallF→CallF} {n : Nat} (ht : TabOK P tab)
    (hs : ∀ cf : CallF,(∀ f as row r row' nw,cf f as row=some (r,row',nw)→Good P f as row r row' nw)→∀ f as row r row' nw,sp cf f as row=some (r,row',nw)→Good P f as row r row' nw) :
    ∀ (k : Nat) f as row r row' nw,evF tab sp n k f as row=some (r,row',nw)→Good P f as row r row' nw
  | 0,f,as,row,r,row',nw,h=>by simp [evF] at h
  | k + 1,f,as,row,r,row',nw,h=>by
    have ih:=evF_sound (sp:=sp) (n:=n) ht hs k
    simp only [evF] at h
    split at h
    · rename_i t hf
      unfold evB at h
      split at h
      case isFalse=>cases h
      rename_i hal
      have hl : row'.isSome=true→row.isSome=true:=by
        intro hr
        split at h
        case h_3=>cases h
        all_goals
          obtain ⟨vs,_,h2⟩:=Option.bind_eq_some_iff.1 h
          have:=evRet_sound h2
          cases this with
          | dataL=>assumption
          | own=>assumption
          | _=>cases hr
      split at h
      · rename_i s h1
        obtain ⟨vs,h2,h3⟩:=Option.bind_eq_some_iff.1 h
        refine ht f t hf as row r row' nw (by simpa using hal) hl ?_
        rw [← LS.init_eq]
        exact evC_sound ih n _ _ _ _ h1 _ ⟨vs,h2,evRet_sound h3⟩
      · rename_i s h1
        obtain ⟨vs,h2,h3⟩:=Option.bind_eq_some_iff.1 h
        refine ht f t hf as row r row' nw (by simpa using hal) hl ?_
        rw [← LS.init_eq]
        exact evC_sound ih n _ _ _ _ h1 _ ⟨vs,h2,evRet_sound h3⟩
      · cases h
    · exact hs _ ih _ _ _ _ _ _ h
end Go.Sv
namespace Go.Sv
open Go
set_option linter.unusedVariables false
section
variable {P : Program} {Q : Cont} {fr : Fr} {C : Heap} {Z : Frz} {nx : Nat} {base n d : Nat} {l : List (Nat × XO)} {kp : Option (List Nat)} {x i y s : X}
theorem awk_isD {ρ : Nat→Nat} {vt : Nat→Bool} {nx : Nat} {r : List AV} (hd : r.all AV.isD=true) : ∀ (j : Nat) (h1 : j < r.length) (h2 : j < r.length),AWk ρ vt nx r[j] r[j]:=by
  intro j h1 h2
  have:=List.all_eq_true.1 hd _ (List.getElem_mem h1)
  revert this
  generalize r[j]=v
  intro h
  cases v with
  | d x=>exact .d x
  | _=>cases h
theorem wkR {C : Heap} {Z : Frz} {nx nx' a : Nat} {fr fr' : Fr} {ra : List AV} (ha : a < nx') (hra : C a=some ra) (hda : ra.all AV.isD=true) (hf : FWk (rho nx') (fun _=>false) nx' fr fr') (hN : Z 1000000=false:=by rfl) :
    Wk ⟨fr,C,Z,nx⟩ ⟨fr',Heap.nil.put a ra,Frz.lo nx',nx'⟩:=by
  have one : ∀ k s,Heap.put Heap.nil a ra k=some s→k=a∧s=ra:=by
    intro k s h
    simp only [Heap.put,Heap.nil] at h
    split at h
    · rename_i e;cases h;exact ⟨e.symm,rfl⟩
    · cases h
  refine ⟨rho nx',fun _=>false,⟨rho_lt (by omega),rfl,(show 0 < nx' by omega)⟩,hf,fun e s h=>?_,fun e e' r1 r2 h h' _ _ _=>?_,fun e hc=>?_⟩
  · obtain ⟨rfl,rfl⟩:=one e s h
    refine ⟨ha,.inr ⟨rfl,s,by rw [rho_lt ha];exact hra,rfl,awk_isD hda,fun hz'=>?_⟩⟩
    have : Frz.lo nx' e=true:=lo_lt ha
    simp only at hz'
    rw [this] at hz';cases hz'
  · exact (one e r1 h).1.trans (one e' r2 h').1.symm
  · by_cases h : e < nx'
    · exact lo_lt h
    · simp only [rho_ge h,hN] at hc;cases hc
theorem fzB {k b m : Nat} {p : List Bool} (hx : X.ev fr (.t k)=.slL b 0 m 1) (hC : C b=some ((encB p).map AV.d)) (hm : p.length=m) (h0 : 0 < m) {st' : St} (hw : Wk ⟨fr.put k (.d (.sl (encB p) m)),C,Z.add [b],nx⟩ st') : Wkf ⟨fr,C,Z,nx⟩ st':=by
  refine fz1 (k:=k) (v:=.d (.sl (encB p) m)) (u:=[b]) ?_ hw
  rw [hx]
  simp only [convA,conv_slB (ex:=fun _=>false) rfl hC hm h0,Option.map_some]
def rowsOf : List (Nat × List AV)→Heap
  | []=>Heap.nil
  | (k,r) :: l=>(rowsOf l).put k r
theorem rowsOf_mem : ∀ {l : List (Nat × List AV)} {b : Nat} {r : List AV},rowsOf l b=some r→(b,r) ∈ l
  | [],b,r,h=>by simp [rowsOf,Heap.nil] at h
  | (k,x) :: l,b,r,h=>by
    simp only [rowsOf,Heap.put] at h
    split at h
    · rename_i e;cases h;subst e;simp
    · exact List.mem_cons_of_mem _ (rowsOf_mem h)
theorem wkRs {C : Heap} {Z : Frz} {nx nx' : Nat} {fr fr' : Fr} {rows : List (Nat × List AV)} (hn : 0 < nx') (h : ∀ p ∈ rows,p.1 < nx'∧C p.1=some p.2∧p.2.all AV.isD=true) (hf : FWk (rho nx') (fun _=>false) nx' fr fr') (hN : Z 1000000=false:=by rfl) :
    Wk ⟨fr,C,Z,nx⟩ ⟨fr',rowsOf rows,Frz.lo nx',nx'⟩:=by
  refine ⟨rho nx',fun _=>false,⟨rho_lt (by omega),rfl,hn⟩,hf,fun e s he=>?_,fun e e' r1 r2 h1 h2 _ _ hee=>?_,fun e hc=>?_⟩
  · obtain ⟨g1,g2,g3⟩:=h _ (rowsOf_mem he)
    refine ⟨g1,.inr ⟨rfl,s,by rw [rho_lt g1];exact g2,rfl,awk_isD g3,fun hz'=>?_⟩⟩
    have : Frz.lo nx' e=true:=lo_lt g1
    simp only at hz'
    rw [this] at hz';cases hz'
  · have k1:=(h _ (rowsOf_mem h1)).1
    have k2:=(h _ (rowsOf_mem h2)).1
    rwa [rho_lt k1,rho_lt k2] at hee
  · by_cases h : e < nx'
    · exact lo_lt h
    · simp only [rho_ge h,hN] at hc;cases hc
end
end Go.Sv
namespace Go.Sv
open Go
def Frz.buts (n : Nat) (hot : List Nat) : Frz:=fun k=>Nat.blt k n && !(hot.any (Nat.beq k))
theorem buts_lt {n k : Nat} {hot : List Nat} (h : k < n) (hb : ¬ k ∈ hot) : Frz.buts n hot k=true:=by
  have h1 : Nat.blt k n=true:=(Eq.mpr Nat.blt_eq h)
  have h2 : hot.any (Nat.beq k)=false:=by
    rw [List.any_eq_false]
    intro x hx e
    exact hb (Nat.eq_of_beq_eq_true e ▸ hx)
  simp [Frz.buts,h1,h2]
end Go.Sv
namespace Go.Sv
open Go
inductive LWk (ρ : Nat→Nat) (vt : Nat→Bool) (nx : Nat) : List AV→List AV→Prop
  | nil : LWk ρ vt nx [] []
  | cons {x y : AV} {l r : List AV} (h : AWk ρ vt nx x y) (k : LWk ρ vt nx l r) : LWk ρ vt nx (x :: l) (y :: r)
theorem LWk.len {ρ : Nat→Nat} {vt : Nat→Bool} {nx : Nat} {l r : List AV} (h : LWk ρ vt nx l r) : l.length=r.length:=by
  induction h with
  | nil=>rfl
  | cons _ _ ih=>simp [ih]
theorem LWk.get {ρ : Nat→Nat} {vt : Nat→Bool} {nx : Nat} {l r : List AV} (h : LWk ρ vt nx l r) : ∀ (j : Nat) (h1 : j < l.length) (h2 : j < r.length),AWk ρ vt nx l[j] r[j]:=by
  induction h with
  | nil=>intro j h1;simp at h1
  | cons h _ ih =>
    intro j h1 h2
    cases j with
    | zero=>exact h
    | succ j=>exact ih j (by simpa using h1) (by simpa using h2)
theorem LWk.data {ρ : Nat→Nat} {vt : Nat→Bool} {nx : Nat} : ∀ {l : List AV},l.all AV.isD=true→LWk ρ vt nx l l
  | [],_=>.nil
  | x :: l,h=>by
    rw [List.all_cons,Bool.and_eq_true] at h
    refine .cons ?_ (LWk.data h.2)
    cases x with
    | d x=>exact .d x
    | _=>exact absurd h.1 (by simp [AV.isD])
end Go.Sv
