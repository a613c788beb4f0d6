/- A part of the proof of the law ExpandFirst: that it answers true for every input, and that the input reads behind the call as before (no condition). -/
import Derived.Test.YtcnlgmajkclgjaaExpandFirstG6
set_option linter.all false
set_option linter.unusedSectionVars false
set_option linter.unusedVariables false
set_option linter.unusedSimpArgs false
namespace Go.Sv
open Go Go.Proofs
def x50 : XC:=(.seq (.ops 2 [ (0,⟨some 1,none,.box (.t 0)⟩),(1,⟨some 2,none,.alloc [(.int .u64 0),(.int .u64 0),(.int .u64 0),(.int .u64 0)]⟩)] (some [1,2])) (.seq (.ops 1 [ (0,⟨some 3,none,.mv (.k (.d (.val (.slice none 0 0))))⟩)] (some [1,2,3])) (.seq (.seq (.ops 2 [ (0,⟨some 6,none,.load (some 8) (.t 1)⟩),(1,⟨some 7,none,.call 51 [(.t 6)] none false⟩)] (some [1,2,3,7])) (.cond (.t 7) (.seq (.ops 2 [ (0,⟨some 8,none,.build [(.int .u64 0),(.int .u64 0),(.int .u64 0),(.int .u64 0)] []⟩),(1,⟨none,none,.store 4 (.t 2) (.t 8)⟩)] (some [2])) .ret) .skip)) (.seq (.seq (.ops 2 [ (0,⟨some 9,none,.fadd 0 (.t 1)⟩),(1,⟨some 10,none,.load none (.t 9)⟩)] (some [1,2,3,10])) (.block 0 (.seq (.ops 2 [ (0,⟨some 12,none,.arith .eql (.t 10) (.k (.d (.val (.int .i64 2))))⟩),(1,⟨some 11,none,.mv (.t 12)⟩)] (some [1,2,3,10,11])) (.cond (.t 11) (.seq (.ops 3 [ (0,⟨some 13,none,.fadd 1 (.t 1)⟩),(1,⟨some 14,none,.load (some 4) (.t 13)⟩),(2,⟨none,none,.store 4 (.t 2) (.t 14)⟩)] (some [2])) .ret) (.seq (.ops 2 [ (0,⟨some 16,none,.arith .eql (.t 10) (.k (.d (.val (.int .i64 3))))⟩),(1,⟨some 15,none,.mv (.t 16)⟩)] (some [1,2,3,10,15])) (.cond (.t 15) (.seq (.ops 1 [ (0,⟨some 4,none,.mv (.k (.d (.val (.int .i64 0))))⟩)] (some [1,2,3,4])) (.block 1 (.loop (.seq (.seq (.ops 5 [ (0,⟨some 17,none,.mv (.t 4)⟩),(1,⟨some 18,none,.fadd 7 (.t 1)⟩),(2,⟨some 19,none,.load none (.t 18)⟩),(3,⟨some 20,none,.lenS (.t 19)⟩),(4,⟨some 21,none,.arith .lss (.t 17) (.t 20)⟩)] (some [1,2,3,4,21])) (.cond (.t 21) .skip (.exit 1))) (.seq (.block 2 (.seq (.ops 10 [ (0,⟨some 24,none,.mv (.t 3)⟩),(1,⟨some 25,none,.fadd 7 (.t 1)⟩),(2,⟨some 26,none,.load none (.t 25)⟩),(3,⟨some 27,none,.mv (.t 4)⟩),(4,⟨some 28,none,.idxS 8 (.t 26) (.t 27)⟩),(5,⟨some 29,none,.load (some 8) (.t 28)⟩),(6,⟨some 30,none,.call 50 [(.t 29)] none false⟩),(7,⟨some 31,none,.call 74 [(.t 30)] none false⟩),(8,⟨some 32,none,.app [(.int .i64 0)] 8 (.t 24) (.t 31)⟩),(9,⟨some 3,none,.mv (.t 32)⟩)] (some [1,2,3,4])) (.seq (.ops 7 [ (0,⟨some 33,none,.fadd 7 (.t 1)⟩),(1,⟨some 34,none,.load none (.t 33)⟩),(2,⟨some 35,none,.mv (.t 4)⟩),(3,⟨some 36,none,.idxS 8 (.t 34) (.t 35)⟩),(4,⟨some 37,none,.load (some 8) (.t 36)⟩),(5,⟨some 38,none,.call 72 [(.t 37)] none false⟩),(6,⟨some 39,none,.un .not (.t 38)⟩)] (some [1,2,3,4,39])) (.cond (.t 39) (.exit 1) .skip)))) (.ops 3 [ (0,⟨some 22,none,.mv (.t 4)⟩),(1,⟨some 23,none,.arith .add (.t 22) (.k (.d (.val (.int .i64 1))))⟩),(2,⟨some 4,none,.mv (.t 23)⟩)] (some [1,2,3,4]))))))) (.seq (.ops 2 [ (0,⟨some 41,none,.arith .eql (.t 10) (.k (.d (.val (.int .i64 4))))⟩),(1,⟨some 40,none,.mv (.t 41)⟩)] (some [1,2,3,10,40])) (.cond (.t 40) (.seq (.ops 1 [ (0,⟨some 5,none,.mv (.k (.d (.val (.int .i64 0))))⟩)] (some [1,2,3,5])) (.block 3 (.loop (.seq (.seq (.ops 5 [ (0,⟨some 42,none,.mv (.t 5)⟩),(1,⟨some 43,none,.fadd 7 (.t 1)⟩),(2,⟨some 44,none,.load none (.t 43)⟩),(3,⟨some 45,none,.lenS (.t 44)⟩),(4,⟨some 46,none,.arith .lss (.t 42) (.t 45)⟩)] (some [1,2,3,5,46])) (.cond (.t 46) .skip (.exit 3))) (.seq (.block 4 (.ops 10 [ (0,⟨some 49,none,.mv (.t 3)⟩),(1,⟨some 50,none,.fadd 7 (.t 1)⟩),(2,⟨some 51,none,.load none (.t 50)⟩),(3,⟨some 52,none,.mv (.t 5)⟩),(4,⟨some 53,none,.idxS 8 (.t 51) (.t 52)⟩),(5,⟨some 54,none,.load (some 8) (.t 53)⟩),(6,⟨some 55,none,.call 50 [(.t 54)] none false⟩),(7,⟨some 56,none,.call 74 [(.t 55)] none false⟩),(8,⟨some 57,none,.app [(.int .i64 0)] 8 (.t 49) (.t 56)⟩),(9,⟨some 3,none,.mv (.t 57)⟩)] (some [1,2,3,5]))) (.ops 3 [ (0,⟨some 47,none,.mv (.t 5)⟩),(1,⟨some 48,none,.arith .add (.t 47) (.k (.d (.val (.int .i64 1))))⟩),(2,⟨some 5,none,.mv (.t 48)⟩)] (some [1,2,3,5]))))))) (.seq (.ops 2 [ (0,⟨some 59,none,.arith .eql (.t 10) (.k (.d (.val (.int .i64 5))))⟩),(1,⟨some 58,none,.mv (.t 59)⟩)] (some [1,2,3,58])) (.cond (.t 58) (.seq (.ops 3 [ (0,⟨some 60,none,.fadd 6 (.t 1)⟩),(1,⟨some 61,none,.load none (.t 60)⟩),(2,⟨some 62,none,.arith .neq (.t 61) (.k (.d (.val (.int .i64 0))))⟩)] (some [1,2,3,62])) (.cond (.t 62) (.seq (.ops 6 [ (0,⟨some 63,none,.fadd 7 (.t 1)⟩),(1,⟨some 64,none,.load none (.t 63)⟩),(2,⟨some 65,none,.idxS 8 (.t 64) (.k (.d (.val (.int .i64 0))))⟩),(3,⟨some 66,none,.load (some 8) (.t 65)⟩),(4,⟨some 67,none,.call 50 [(.t 66)] none false⟩),(5,⟨none,none,.store 4 (.t 2) (.t 67)⟩)] (some [2])) .ret) .skip)) .skip)))))))))) (.seq (.ops 3 [ (0,⟨some 68,none,.mv (.t 3)⟩),(1,⟨some 69,none,.call 99 [(.t 68)] none false⟩),(2,⟨none,none,.store 4 (.t 2) (.t 69)⟩)] (some [2])) .ret)))))
def md50 : FuncId→Option Nat × Bool
  | _=>(none,false)
def od50 : Nat→List (List Nat) × List Nat × Option (List Nat)
  | 0=>([],[],some [1,2])
  | 1=>([],[],some [1,2,3])
  | 2=>([],[],some [1,2,3,7])
  | 3=>([],[],some [2])
  | 4=>([],[],some [1,2,3,10])
  | 5=>([],[],some [1,2,3,10,11])
  | 6=>([],[],some [2])
  | 7=>([],[],some [1,2,3,10,15])
  | 8=>([],[],some [1,2,3,4])
  | 9=>([],[],some [1,2,3,4,21])
  | 10=>([],[],some [1,2,3,4])
  | 11=>([],[],some [1,2,3,4])
  | 12=>([],[],some [1,2,3,4,39])
  | 13=>([],[],some [1,2,3,10,40])
  | 14=>([],[],some [1,2,3,5])
  | 15=>([],[],some [1,2,3,5,46])
  | 16=>([],[],some [1,2,3,5])
  | 17=>([],[],some [1,2,3,5])
  | 18=>([],[],some [1,2,3,58])
  | 19=>([],[],some [1,2,3,62])
  | 20=>([],[],some [2])
  | 21=>([],[],some [2])
  | _=>([],[],none)
theorem b50 {ags : List AV} {row : Option (List DV)} {r : AV} {row' nw : Option (List DV)} (hal : ags.length≤70) (hrow : row'.isSome=true→row.isSome=true) (h : xwp Try.prog x50 (retK [.cell 2 (some 4)] row.isSome r row' nw) (St.init ags row)) : Good Try.prog 50 ags row r row' nw :=
  good_of_body' (md:=md50) (od:=od50) Try.f50 (by kernel_rfl) (by kernel_rfl) (by kernel_rfl) (by kernel_rfl) (by kernel_rfl) hal hrow h

noncomputable def firstW (t : T) : List Int:=setWs (firstL (L t))
theorem firstW_ok (t : T) : okWs (firstW t)∧∀ y,y < 256→(inWs (firstW t) y=true↔∃ w,L t (y :: w)):=by
  obtain ⟨h1,h2⟩:=setWs_ok (firstL_lt (L t))
  refine ⟨h1,fun y hy=>?_⟩
  unfold firstW
  rw [h2 y hy,mem_firstL]
  exact ⟨fun h=>h.2,fun h=>⟨hy,h⟩⟩
theorem words4 {ws : List Int} (h : okWs ws) : ∃ w0 w1 w2 w3,ws=[w0,w1,w2,w3]∧okW w0∧okW w1∧okW w2∧okW w3:=by
  match ws,h.1,h.2 with
  | [w0,w1,w2,w3],_,h2=>exact ⟨w0,w1,w2,w3,rfl,h2 w0 (by simp),h2 w1 (by simp),h2 w2 (by simp),h2 w3 (by simp)⟩
set_option maxRecDepth 100000
set_option maxHeartbeats 4000000
attribute [local irreducible] W E R KP thenK blockK retK Good xwp aRun
theorem first50_good : ∀ (n : Nat) (t : T),t.cnt≤n→n≤300000→okT t→Good Try.prog 50 [nodeA t] none (.agg (encW (firstW t))) none none:=by
  intro n
  induction n with
  | zero=>intro t ht;have:=cnt_pos t;omega
  | succ n ih =>
  intro t ht hc hok
  have hnn:=none51_good 300000 t (by omega) (by omega) hok
  have hnL:=nnT_L t hok
  have hS:=okT_S hok
  have hfw:=firstW_ok t
  have hdef : firstW t=setWs (firstL (L t)):=rfl
  obtain ⟨k,a,b,c,d,mn,mx,subs⟩:=t
  have hR:=okT_R hok
  have hoks:=okT_subs hok
  have hpl:=okT_plain hok
  have hcs : ∀ i (h : i < subs.length),subs[i].cnt≤n:=fun i h=>by
    have:=cntL_get subs i h
    simp only [T.cnt] at ht
    omega
  have ih' : ∀ i (h : i < subs.length),Good Try.prog 50 [nodeA subs[i]] none (.agg (encW (firstW subs[i]))) none none:=fun i h=>ih _ (hcs i h) (by omega) (okL_get subs i h hoks)
  have hnu : ∀ i (h : i < subs.length),Good Try.prog 72 [nodeA subs[i]] none (.b (nullS subs[i])) none none:=fun i h=>null72_good _ (by have:=hcs i h;omega) (okL_get subs i h hoks)
  have hlen : subs.length≤300000:=by
    have:=cntL_len subs
    simp only [T.cnt] at ht
    omega
  have e0 : nodeA (.node k a b c d mn mx subs)=.agg [.i k,.d (.val (.int .u64 a)),.d (.val (.int .u64 b)),.d (.val (.int .u64 c)),.d (.val (.int .u64 d)),.i mn,.i mx,.d (.sl (encL subs) subs.length)]:=rfl
  have hkind:=(plainT_kind hpl).1
  have hk5 : k=5→∃ u,subs=[u]:=fun h5=>by subst h5;exact plainT_5 hpl
  rw [e0] at hnn
  rw [e0]
  rcases Bool.eq_false_or_eq_true (nnT (.node k a b c d mn mx subs)) with hq | hq
  · rw [hq] at hnn
    have e : firstW (.node k a b c d mn mx subs)=[0,0,0,0]:=by
      rw [hdef,firstL_none (hnL.1 hq)];rfl
    rw [e]
    refine b50 (by simp) (by simp) (w_init ?_)
    unfold x50
    repeat' (first|(apply r_mvV;rfl)|(apply r_ldL (v:=.agg [.i k,.d (.val (.int .u64 a)),.d (.val (.int .u64 b)),.d (.val (.int .u64 c)),.d (.val (.int .u64 d)),.i mn,.i mx,.d (.sl (encL subs) subs.length)]);rfl;rfl;rfl)|(apply r_callA;rfl;rfl;exact hnn)|(apply r_p (v:=.agg [.d (.val (.int .u64 0)),.d (.val (.int .u64 0)),.d (.val (.int .u64 0)),.d (.val (.int .u64 0))]);rfl)|(apply r_alloc;((conv=>lhs;simp only [Nat.reduceAdd])<;>rfl);rfl)|(apply r_box;((conv=>lhs;simp only [Nat.reduceAdd])<;>rfl);rfl;rfl;rfl)|(apply r_stL;rfl;rfl;rfl;rfl;(first|rfl|(simp only [z_nil,z_add]<;>rfl));rfl;rfl)|(apply r_nilK)|(apply k_V;rfl)|(apply k_PL;rfl)|(apply k_nil)|(apply e_ret;rfl)|(apply w_seq)|(apply w_ops;((conv=>lhs;simp only [Nat.reduceAdd])<;>rfl))|(apply w_condT;rfl)|(apply e_thenN)|(apply e_thenR)|(apply w_ret))
    exact .data _ rfl
  rw [hq] at hnn
  have hsome : ¬ ∀ w,¬ L (.node k a b c d mn mx subs) w:=fun h=>by rw [hnL.2 h] at hq;cases hq
  by_cases h2 : k=2
  · have e : firstW (.node k a b c d mn mx subs)=[a,b,c,d]:=by
      refine words_ext hfw.1 ⟨rfl,fun w hw=>?_⟩ fun y hy=>?_
      · simp only [List.mem_cons,List.not_mem_nil,or_false] at hw
        rcases hw with rfl | rfl | rfl | rfl
        · exact hS.1
        · exact hS.2.1
        · exact hS.2.2.1
        · exact hS.2.2.2
      · rw [Bool.eq_iff_iff,hfw.2 y hy]
        subst h2
        constructor
        · rintro ⟨w,hw⟩
          rw [L_k2] at hw
          obtain ⟨x,e,hx⟩:=hw
          simp only [List.cons.injEq] at e
          obtain ⟨rfl,rfl⟩:=e
          exact hx
        · intro hx;exact ⟨[],L_k2.2 ⟨y,rfl,hx⟩⟩
    rw [e]
    refine b50 (by simp) (by simp) (w_init ?_)
    unfold x50
    repeat' (first|(apply r_mvV;rfl)|(apply r_faddL;rfl)|(apply r_ldL (v:=.agg [.i k,.d (.val (.int .u64 a)),.d (.val (.int .u64 b)),.d (.val (.int .u64 c)),.d (.val (.int .u64 d)),.i mn,.i mx,.d (.sl (encL subs) subs.length)]);rfl;rfl;rfl)|(apply r_callA;rfl;rfl;exact hnn)|(apply r_ldL (v:=.agg [.d (.val (.int .u64 a)),.d (.val (.int .u64 b)),.d (.val (.int .u64 c)),.d (.val (.int .u64 d))]);rfl;rfl;rfl)|(apply r_ldL;rfl;rfl;rfl)|(apply r_eql;rfl;rfl;(first|(apply dT;omega)|(apply dF;omega)|rfl))|(apply r_alloc;((conv=>lhs;simp only [Nat.reduceAdd])<;>rfl);rfl)|(apply r_box;((conv=>lhs;simp only [Nat.reduceAdd])<;>rfl);rfl;rfl;rfl)|(apply r_stL;rfl;rfl;rfl;rfl;(first|rfl|(simp only [z_nil,z_add]<;>rfl));rfl;rfl)|(apply r_nilK)|(apply k_V;rfl)|(apply k_PL;rfl)|(apply k_nil)|(apply e_ret;rfl)|(apply w_seq)|(apply w_ops;((conv=>lhs;simp only [Nat.reduceAdd])<;>rfl))|(apply w_condT;rfl)|(apply w_condF;rfl)|(apply e_thenN)|(apply w_block)|(apply e_thenR)|(apply e_blkR)|(apply w_ret)|(apply w_skip))
    exact .data _ rfl
  by_cases h3 : k=3
  · have hall : ∀ j (h : j < subs.length),∃ w,L subs[j] w:=by
      intro j hj
      refine Classical.byContradiction fun hcn=>?_
      refine hsome fun w hw=>?_
      subst h3
      rw [L_k3] at hw
      have key : ∀ (l : List T) (w : List Nat),catL l w→∀ j (h : j < l.length),∃ w,L l[j] w:=by
        intro l
        induction l with
        | nil=>intro w _ j h;simp at h
        | cons t l ih =>
          rintro w ⟨u,v,_,hu,hv⟩ j h
          cases j with
          | zero=>exact ⟨u,hu⟩
          | succ j=>exact ih v hv j (by simpa using h)
      exact hcn (key subs w hw j hj)
    have hcf:=catL_first subs hall
    have hend : ∀ (i : Nat) (bytes : List Nat),(∀ x ∈ bytes,x < 256)→bytes.length≤256 * (i + 1)→i≤subs.length→(∀ j (h : j < subs.length),j < i→L subs[j] [])→(∀ y,y < 256→(y ∈ bytes↔∃ j,∃ h : j < subs.length,j≤i∧∃ w,L subs[j] (y :: w)))→(∀ h : i < subs.length,¬ L subs[i] [])→setWs bytes=firstW (.node k a b c d mn mx subs):=by
      intro i bytes hb _ hi hnul hmem hlast
      rw [hdef]
      refine first_eq hb fun y hy=>?_
      rw [hmem y hy]
      subst h3
      simp only [L_k3]
      rw [hcf y]
      constructor
      · rintro ⟨j,hj,hji,hw⟩
        exact ⟨j,hj,fun i' hi' hlt=>hnul i' hi' (by omega),hw⟩
      · rintro ⟨j,hj,hall2,hw⟩
        refine ⟨j,hj,?_,hw⟩
        rcases Nat.lt_or_ge i j with h | h
        · exact absurd (hall2 i (by omega) h) (hlast (by omega))
        · exact h
    clear hsome hcf hdef ih ht hok hoks hpl hR hS hnL
    generalize firstW (.node k a b c d mn mx subs)=fw at hfw hend ⊢
    obtain ⟨w0,w1,w2,w3,rfl,_⟩:=words4 hfw.1
    clear hfw
    refine b50 (by simp) (by simp) (w_init ?_)
    unfold x50
    repeat' (first|(apply r_mvV;rfl)|(apply r_faddL;rfl)|(apply r_ldL (v:=.agg [.i k,.d (.val (.int .u64 a)),.d (.val (.int .u64 b)),.d (.val (.int .u64 c)),.d (.val (.int .u64 d)),.i mn,.i mx,.d (.sl (encL subs) subs.length)]);rfl;rfl;rfl)|(apply r_callA;rfl;rfl;exact hnn)|(apply r_ldL;rfl;rfl;rfl)|(apply r_eql;rfl;rfl;(first|(apply dT;omega)|(apply dF;omega)|rfl))|(apply r_alloc;((conv=>lhs;simp only [Nat.reduceAdd])<;>rfl);rfl)|(apply r_box;((conv=>lhs;simp only [Nat.reduceAdd])<;>rfl);rfl;rfl;rfl)|(apply r_nilK)|(apply k_V;rfl)|(apply k_PL;rfl)|(apply k_nil)|(apply w_seq)|(apply w_ops;((conv=>lhs;simp only [Nat.reduceAdd])<;>rfl))|(apply w_condT;rfl)|(apply w_condF;rfl)|(apply e_thenN)|(apply w_block)|(apply w_skip))
    apply w_loopI (ι:=Nat × List Nat) (S:=fun z=>⟨(((Fr.nil.put 1 (.ptrL 1 0)).put 2 (.ptrL 2 0)).put 3 (.slL 50 0 z.2.length 1)).put 4 (.i z.1),rowsOf [(1,[.i k,.d (.val (.int .u64 a)),.d (.val (.int .u64 b)),.d (.val (.int .u64 c)),.d (.val (.int .u64 d)),.i mn,.i mx,.d (.sl (encL subs) subs.length)]),(2,[.d (.val (.int .u64 0)),.d (.val (.int .u64 0)),.d (.val (.int .u64 0)),.d (.val (.int .u64 0))]),(50,(encI (encJ z.2)).map AV.d)],Frz.buts 100 [2,50],100⟩) (m:=fun z=>subs.length - z.1) (I:=fun z=>z.1≤subs.length∧(∀ x ∈ z.2,x < 256)∧z.2.length≤256 * z.1∧(∀ j (h : j < subs.length),j < z.1→L subs[j] [])∧∀ y,y < 256→(y ∈ z.2↔∃ j,∃ h : j < subs.length,j < z.1∧∃ w,L subs[j] (y :: w))) (i0:=(0,[]))
    · exact ⟨Nat.zero_le _,by simp,by simp,fun j _ h=>by omega,fun y _=>⟨fun h=>by simp at h,fun ⟨j,_,h,_⟩=>by omega⟩⟩
    · refine wkM [(50,1000000)] [50] rfl ?_ ?_ rfl ?_
      · intro p hp
        simp only [List.mem_cons,List.not_mem_nil,or_false] at hp
        rcases hp with rfl | rfl | rfl
        · exact ⟨by omega,.inr ⟨rfl,_,rfl,.data rfl⟩⟩
        · exact ⟨by omega,.inr ⟨rfl,_,rfl,.data rfl⟩⟩
        · exact ⟨by omega,.inl ⟨rfl,rfl⟩⟩
      · intro q hq;simp only [List.mem_cons,List.not_mem_nil,or_false] at hq;rcases hq with rfl | rfl<;>rfl
      · dsimp only
        repeat' (first|exact FWk.nil|(apply FWk.i;rfl;(first|rfl|omega|(simp;done)))|(apply FWk.ptr;rfl;rfl;rfl;omega;rfl)|(apply FWk.slN;rfl;omega;rfl))
    rintro ⟨i,bytes⟩ K ⟨hi,hb,hbl,hnul,hmem⟩ hK
    dsimp only at hi hb hbl hnul hmem hK ⊢
    rcases Nat.lt_or_ge i subs.length with hlt | hge
    · have hs:=NodeAt.sub hlt
      have hg:=ih' i hlt
      have hn:=hnu i hlt
      have hok2:=firstW_ok subs[i]
      have hna : [nodeA subs[i]].all AV.nrm=true:=by rw [List.all_cons,nodeA_nrm];rfl
      have hnb : nullS subs[i]=true↔L subs[i] []:=by simp only [nullS,decide_eq_true_eq]
      obtain ⟨v0,v1,v2,v3,hv,g0,g1,g2,g3⟩:=words4 hok2.1
      rw [hv] at hg hok2
      have h74:=list74_good g0 g1 g2 g3
      unfold setA at h74
      have hm2 : ∀ y,y < 256→(y ∈ bytes++listTo v0 v1 v2 v3 256↔∃ j,∃ h : j < subs.length,j < i + 1∧∃ w,L subs[j] (y :: w)):=by
        intro y hy
        rw [List.mem_append,hmem y hy,mem_listTo]
        have h1 : inG v0 v1 v2 v3 y=true↔∃ w,L subs[i] (y :: w):=hok2.2 y hy
        rw [h1]
        constructor
        · rintro (⟨j,hj,hji,hw⟩ | ⟨_,hw⟩)
          · exact ⟨j,hj,by omega,hw⟩
          · exact ⟨i,hlt,by omega,hw⟩
        · rintro ⟨j,hj,hji,hw⟩
          by_cases e : j=i
          · subst e;exact .inr ⟨hy,hw⟩
          · exact .inl ⟨j,hj,by omega,hw⟩
      have hb2 : ∀ x ∈ bytes++listTo v0 v1 v2 v3 256,x < 256:=by
        intro x hx
        rcases List.mem_append.1 hx with hx | hx
        · exact hb x hx
        · exact ((mem_listTo _ _ _ _ x 256).1 hx).1
      have hll:=listTo_len v0 v1 v2 v3 256
      have hbl2 : (bytes++listTo v0 v1 v2 v3 256).length≤256 * (i + 1):=by rw [List.length_append];omega
      have hjl : (encJ bytes++encJ (listTo v0 v1 v2 v3 256)).length=bytes.length + (listTo v0 v1 v2 v3 256).length:=by rw [List.length_append,encJ_len,encJ_len]
      clear hok2 hv g0 g1 g2 g3 ih' hnu
      rcases Bool.eq_false_or_eq_true (nullS subs[i]) with hnq | hnq
      · rw [hnq] at hn hnb
        repeat' (first|(apply r_mvV;rfl)|(apply r_mvSL;rfl)|(apply r_faddL;rfl)|(apply r_l;apply ld_node';assumption;rfl)|(apply r_p;apply ix_sub;rfl;rfl;omega)|(apply r_callA (f:=50) (ags:=[nodeA subs[i]]);rfl;exact hna;exact hg)|(apply r_callA (f:=74);rfl;rfl;exact h74)|(apply r_appI (b:=50) (id:=113) (K:=encJ bytes) (L:=encJ (listTo v0 v1 v2 v3 256));rfl;rfl;rfl;rfl;rfl;exact encJ_len _;exact encJ_len _;omega)|(apply r_callA (f:=72) (ags:=[nodeA subs[i]]);rfl;exact hna;exact hn)|(apply r_ldL;rfl;rfl;rfl)|(apply r_lss;rfl;rfl;(first|(apply dT;omega)|(apply dF;omega)|rfl))|(apply r_add;rfl;rfl;rfl;omega)|(apply r_not;rfl;rfl)|(apply r_lenD;rfl)|(apply r_nilK)|(apply k_V;rfl)|(apply k_PL;rfl)|(apply k_SL;rfl)|(apply k_nil)|(apply w_seq)|(apply w_ops;((conv=>lhs;simp only [Nat.reduceAdd])<;>rfl))|(apply w_condT;rfl)|(apply w_condF;rfl)|(apply e_thenN)|(apply w_block)|(apply e_blkN)|(apply w_skip))
        apply e_thenK
        apply hK (i + 1,bytes++listTo v0 v1 v2 v3 256)
        · refine ⟨by dsimp only;omega,hb2,hbl2,fun j hj hji=>?_,hm2⟩
          by_cases e : j=i
          · subst e;exact hnb.1 rfl
          · exact hnul j hj (by dsimp only at hji;omega)
        · dsimp only;omega
        · dsimp only
          rw [encJ_app]
          refine wkM [(50,113)] [] rfl ?_ ?_ rfl ?_
          · intro p hp;simp only [List.mem_cons,List.not_mem_nil,or_false] at hp;rcases hp with rfl | rfl | rfl<;>first | exact ⟨by omega,.inr ⟨rfl,_,rfl,.data rfl⟩⟩ | exact ⟨by omega,.inr ⟨rfl,_,rfl,.data encI_isD⟩⟩
          · intro q hq;simp only [List.mem_cons,List.not_mem_nil,or_false] at hq;rcases hq with rfl | rfl<;>rfl
          · rw [List.length_append]
            repeat' (first|exact FWk.nil|(apply FWk.i;rfl;(first|rfl|omega|(simp;done)))|(apply FWk.sl;rfl;rfl;rfl;rfl;omega;rfl)|(apply FWk.ptr;rfl;rfl;rfl;omega;rfl))
      · rw [hnq] at hn hnb
        have hfin:=hend i _ hb2 hbl2 hi (fun j hj hji=>hnul j hj hji) (fun y hy=>by rw [hm2 y hy];exact ⟨fun ⟨j,hj,h,hw⟩=>⟨j,hj,by omega,hw⟩,fun ⟨j,hj,h,hw⟩=>⟨j,hj,by omega,hw⟩⟩) (fun _ h=>by have:=hnb.2 h;cases this)
        have h99:=set99_good _ hb2 (by omega)
        rw [hfin] at h99
        rw [encJ_app,List.length_append] at h99
        repeat' (first|(apply r_mvV;rfl)|(apply r_mvSL;rfl)|(apply r_faddL;rfl)|(apply r_l;apply ld_node';assumption;rfl)|(apply r_p;apply ix_sub;rfl;rfl;omega)|(apply r_callA (f:=50) (ags:=[nodeA subs[i]]);rfl;exact hna;exact hg)|(apply r_callA (f:=74);rfl;rfl;exact h74)|(apply r_appI (b:=50) (id:=113) (K:=encJ bytes) (L:=encJ (listTo v0 v1 v2 v3 256));rfl;rfl;rfl;rfl;rfl;exact encJ_len _;exact encJ_len _;omega)|(apply r_callA (f:=72) (ags:=[nodeA subs[i]]);rfl;exact hna;exact hn)|(apply r_callLI (b:=113) (L:=encJ bytes++encJ (listTo v0 v1 v2 v3 256)) (us:=[]);rfl;rfl;exact hjl;exact h99;rfl)|(apply r_ldL;rfl;rfl;rfl)|(apply r_lss;rfl;rfl;(first|(apply dT;omega)|(apply dF;omega)|rfl))|(apply r_not;rfl;rfl)|(apply r_lenD;rfl)|(apply r_stL;rfl;rfl;rfl;rfl;(first|rfl|(simp only [z_nil,z_add]<;>rfl));rfl;rfl)|(apply r_nilK)|(apply k_V;rfl)|(apply k_PL;rfl)|(apply k_SL;rfl)|(apply k_nil)|(apply e_ret;rfl)|(apply w_seq)|(apply w_ops;((conv=>lhs;simp only [Nat.reduceAdd])<;>rfl))|(apply w_condT;rfl)|(apply e_thenN)|(apply w_block)|(apply e_thenX)|(apply e_blkN)|(apply e_blkE)|(apply w_exit)|(apply w_ret)|(apply w_skip)|(apply e_blkE';rfl))
        exact .data _ rfl
    · have ei : i=subs.length:=by omega
      subst ei
      have hfin:=hend subs.length bytes hb (by omega) (Nat.le_refl _) hnul (fun y hy=>by rw [hmem y hy];exact ⟨fun ⟨j,hj,h,hw⟩=>⟨j,hj,by omega,hw⟩,fun ⟨j,hj,h,hw⟩=>⟨j,hj,by omega,hw⟩⟩) (fun h=>by omega)
      have h99:=set99_good bytes hb (by omega)
      rw [hfin] at h99
      repeat' (first|(apply r_mvV;rfl)|(apply r_mvSL;rfl)|(apply r_faddL;rfl)|(apply r_callLI (b:=50) (L:=encJ bytes) (us:=[]);rfl;rfl;exact encJ_len _;exact h99;rfl)|(apply r_ldL;rfl;rfl;rfl)|(apply r_lss;rfl;rfl;(first|(apply dT;omega)|(apply dF;omega)|rfl))|(apply r_lenD;rfl)|(apply r_stL;rfl;rfl;rfl;rfl;(first|rfl|(simp only [z_nil,z_add]<;>rfl));rfl;rfl)|(apply r_nilK)|(apply k_V;rfl)|(apply k_PL;rfl)|(apply k_SL;rfl)|(apply k_nil)|(apply e_ret;rfl)|(apply w_seq)|(apply w_ops;((conv=>lhs;simp only [Nat.reduceAdd])<;>rfl))|(apply w_condF;rfl)|(apply e_thenN)|(apply e_thenX)|(apply e_blkN)|(apply e_blkE)|(apply w_exit)|(apply w_ret))
      exact .data _ rfl
  by_cases h4 : k=4
  · have hend : ∀ (bytes : List Nat),(∀ x ∈ bytes,x < 256)→(∀ y,y < 256→(y ∈ bytes↔∃ j,∃ h : j < subs.length,j < subs.length∧∃ w,L subs[j] (y :: w)))→setWs bytes=firstW (.node k a b c d mn mx subs):=by
      intro bytes hb hmem
      rw [hdef]
      refine first_eq hb fun y hy=>?_
      rw [hmem y hy]
      subst h4
      simp only [L_k4]
      rw [altL_first]
      exact ⟨fun ⟨j,hj,_,hw⟩=>⟨j,hj,hw⟩,fun ⟨j,hj,hw⟩=>⟨j,hj,hj,hw⟩⟩
    clear hsome hdef ih ht hok hoks hpl hR hS hnL hnu
    generalize firstW (.node k a b c d mn mx subs)=fw at hfw hend ⊢
    obtain ⟨w0,w1,w2,w3,rfl,_⟩:=words4 hfw.1
    clear hfw
    refine b50 (by simp) (by simp) (w_init ?_)
    unfold x50
    repeat' (first|(apply r_mvV;rfl)|(apply r_faddL;rfl)|(apply r_ldL (v:=.agg [.i k,.d (.val (.int .u64 a)),.d (.val (.int .u64 b)),.d (.val (.int .u64 c)),.d (.val (.int .u64 d)),.i mn,.i mx,.d (.sl (encL subs) subs.length)]);rfl;rfl;rfl)|(apply r_callA;rfl;rfl;exact hnn)|(apply r_ldL;rfl;rfl;rfl)|(apply r_eql;rfl;rfl;(first|(apply dT;omega)|(apply dF;omega)|rfl))|(apply r_alloc;((conv=>lhs;simp only [Nat.reduceAdd])<;>rfl);rfl)|(apply r_box;((conv=>lhs;simp only [Nat.reduceAdd])<;>rfl);rfl;rfl;rfl)|(apply r_nilK)|(apply k_V;rfl)|(apply k_PL;rfl)|(apply k_nil)|(apply w_seq)|(apply w_ops;((conv=>lhs;simp only [Nat.reduceAdd])<;>rfl))|(apply w_condT;rfl)|(apply w_condF;rfl)|(apply e_thenN)|(apply w_block)|(apply w_skip))
    apply w_loopI (ι:=Nat × List Nat) (S:=fun z=>⟨(((Fr.nil.put 1 (.ptrL 1 0)).put 2 (.ptrL 2 0)).put 3 (.slL 50 0 z.2.length 1)).put 5 (.i z.1),rowsOf [(1,[.i k,.d (.val (.int .u64 a)),.d (.val (.int .u64 b)),.d (.val (.int .u64 c)),.d (.val (.int .u64 d)),.i mn,.i mx,.d (.sl (encL subs) subs.length)]),(2,[.d (.val (.int .u64 0)),.d (.val (.int .u64 0)),.d (.val (.int .u64 0)),.d (.val (.int .u64 0))]),(50,(encI (encJ z.2)).map AV.d)],Frz.buts 100 [2,50],100⟩) (m:=fun z=>subs.length - z.1) (I:=fun z=>z.1≤subs.length∧(∀ x ∈ z.2,x < 256)∧z.2.length≤256 * z.1∧∀ y,y < 256→(y ∈ z.2↔∃ j,∃ h : j < subs.length,j < z.1∧∃ w,L subs[j] (y :: w))) (i0:=(0,[]))
    · exact ⟨Nat.zero_le _,by simp,by simp,fun y _=>⟨fun h=>by simp at h,fun ⟨j,_,h,_⟩=>by omega⟩⟩
    · refine wkM [(50,1000000)] [50] rfl ?_ ?_ rfl ?_
      · intro p hp
        simp only [List.mem_cons,List.not_mem_nil,or_false] at hp
        rcases hp with rfl | rfl | rfl
        · exact ⟨by omega,.inr ⟨rfl,_,rfl,.data rfl⟩⟩
        · exact ⟨by omega,.inr ⟨rfl,_,rfl,.data rfl⟩⟩
        · exact ⟨by omega,.inl ⟨rfl,rfl⟩⟩
      · intro q hq;simp only [List.mem_cons,List.not_mem_nil,or_false] at hq;rcases hq with rfl | rfl<;>rfl
      · dsimp only
        repeat' (first|exact FWk.nil|(apply FWk.i;rfl;(first|rfl|omega|(simp;done)))|(apply FWk.ptr;rfl;rfl;rfl;omega;rfl)|(apply FWk.slN;rfl;omega;rfl))
    rintro ⟨i,bytes⟩ K ⟨hi,hb,hbl,hmem⟩ hK
    dsimp only at hi hb hbl hmem hK ⊢
    rcases Nat.lt_or_ge i subs.length with hlt | hge
    · have hs:=NodeAt.sub hlt
      have hg:=ih' i hlt
      have hok2:=firstW_ok subs[i]
      have hna : [nodeA subs[i]].all AV.nrm=true:=by rw [List.all_cons,nodeA_nrm];rfl
      obtain ⟨v0,v1,v2,v3,hv,g0,g1,g2,g3⟩:=words4 hok2.1
      rw [hv] at hg hok2
      have h74:=list74_good g0 g1 g2 g3
      unfold setA at h74
      have hm2 : ∀ y,y < 256→(y ∈ bytes++listTo v0 v1 v2 v3 256↔∃ j,∃ h : j < subs.length,j < i + 1∧∃ w,L subs[j] (y :: w)):=by
        intro y hy
        rw [List.mem_append,hmem y hy,mem_listTo]
        have h1 : inG v0 v1 v2 v3 y=true↔∃ w,L subs[i] (y :: w):=hok2.2 y hy
        rw [h1]
        constructor
        · rintro (⟨j,hj,hji,hw⟩ | ⟨_,hw⟩)
          · exact ⟨j,hj,by omega,hw⟩
          · exact ⟨i,hlt,by omega,hw⟩
        · rintro ⟨j,hj,hji,hw⟩
          by_cases e : j=i
          · subst e;exact .inr ⟨hy,hw⟩
          · exact .inl ⟨j,hj,by omega,hw⟩
      have hb2 : ∀ x ∈ bytes++listTo v0 v1 v2 v3 256,x < 256:=by
        intro x hx
        rcases List.mem_append.1 hx with hx | hx
        · exact hb x hx
        · exact ((mem_listTo _ _ _ _ x 256).1 hx).1
      have hll:=listTo_len v0 v1 v2 v3 256
      have hbl2 : (bytes++listTo v0 v1 v2 v3 256).length≤256 * (i + 1):=by rw [List.length_append];omega
      clear hok2 hv g0 g1 g2 g3 ih'
      repeat' (first|(apply r_mvV;rfl)|(apply r_mvSL;rfl)|(apply r_faddL;rfl)|(apply r_l;apply ld_node';assumption;rfl)|(apply r_p;apply ix_sub;rfl;rfl;omega)|(apply r_callA (f:=50) (ags:=[nodeA subs[i]]);rfl;exact hna;exact hg)|(apply r_callA (f:=74);rfl;rfl;exact h74)|(apply r_appI (b:=50) (id:=113) (K:=encJ bytes) (L:=encJ (listTo v0 v1 v2 v3 256));rfl;rfl;rfl;rfl;rfl;exact encJ_len _;exact encJ_len _;omega)|(apply r_ldL;rfl;rfl;rfl)|(apply r_lss;rfl;rfl;(first|(apply dT;omega)|(apply dF;omega)|rfl))|(apply r_add;rfl;rfl;rfl;omega)|(apply r_lenD;rfl)|(apply r_nilK)|(apply k_V;rfl)|(apply k_PL;rfl)|(apply k_SL;rfl)|(apply k_nil)|(apply w_seq)|(apply w_ops;((conv=>lhs;simp only [Nat.reduceAdd])<;>rfl))|(apply w_condT;rfl)|(apply e_thenN)|(apply w_block)|(apply e_blkN)|(apply w_skip))
      apply e_thenK
      apply hK (i + 1,bytes++listTo v0 v1 v2 v3 256)
      · exact ⟨by dsimp only;omega,hb2,hbl2,hm2⟩
      · dsimp only;omega
      · dsimp only
        rw [encJ_app]
        refine wkM [(50,113)] [] rfl ?_ ?_ rfl ?_
        · intro p hp;simp only [List.mem_cons,List.not_mem_nil,or_false] at hp;rcases hp with rfl | rfl | rfl<;>first | exact ⟨by omega,.inr ⟨rfl,_,rfl,.data rfl⟩⟩ | exact ⟨by omega,.inr ⟨rfl,_,rfl,.data encI_isD⟩⟩
        · intro q hq;simp only [List.mem_cons,List.not_mem_nil,or_false] at hq;rcases hq with rfl | rfl<;>rfl
        · rw [List.length_append]
          repeat' (first|exact FWk.nil|(apply FWk.i;rfl;(first|rfl|omega|(simp;done)))|(apply FWk.sl;rfl;rfl;rfl;rfl;omega;rfl)|(apply FWk.ptr;rfl;rfl;rfl;omega;rfl))
    · have ei : i=subs.length:=by omega
      subst ei
      have hfin:=hend bytes hb hmem
      have h99:=set99_good bytes hb (by omega)
      rw [hfin] at h99
      repeat' (first|(apply r_mvV;rfl)|(apply r_mvSL;rfl)|(apply r_faddL;rfl)|(apply r_callLI (b:=50) (L:=encJ bytes) (us:=[]);rfl;rfl;exact encJ_len _;exact h99;rfl)|(apply r_ldL;rfl;rfl;rfl)|(apply r_lss;rfl;rfl;(first|(apply dT;omega)|(apply dF;omega)|rfl))|(apply r_lenD;rfl)|(apply r_stL;rfl;rfl;rfl;rfl;(first|rfl|(simp only [z_nil,z_add]<;>rfl));rfl;rfl)|(apply r_nilK)|(apply k_V;rfl)|(apply k_PL;rfl)|(apply k_SL;rfl)|(apply k_nil)|(apply e_ret;rfl)|(apply w_seq)|(apply w_ops;((conv=>lhs;simp only [Nat.reduceAdd])<;>rfl))|(apply w_condF;rfl)|(apply e_thenN)|(apply e_thenX)|(apply e_blkN)|(apply e_blkE)|(apply w_exit)|(apply w_ret))
      exact .data _ rfl
  have h990:=set99_good [] (by simp) (by simp)
  by_cases h5 : k=5∧mx ≠ 0
  · obtain ⟨h5,hx⟩:=h5
    obtain ⟨u,hu⟩:=hk5 h5
    have hl1 : 0 < subs.length:=by rw [hu];simp
    have hg:=ih' 0 hl1
    have hs:=NodeAt.sub hl1
    have hu0 : subs[0]=u:=by simp [hu]
    rw [hu0] at hg hs
    have hr5:=hR h5
    have e : firstW (.node k a b c d mn mx subs)=firstW u:=by
      rw [hdef]
      refine (setWs_same (firstL_lt _) (firstL_lt _) fun y hy=>?_)
      rw [mem_firstL,mem_firstL]
      refine and_congr Iff.rfl ?_
      subst h5
      simp only [L_k5]
      rw [hu]
      have : ∀ w,fstL [u] w↔L u w:=fun w=>by rw [fstL]
      simp only [powL_congr this]
      exact rep_first hr5.1.1 (by omega) hx y
    rw [e]
    have hok2:=firstW_ok u
    obtain ⟨w0,w1,w2,w3,hv,_⟩:=words4 hok2.1
    rw [hv] at hg ⊢
    have hna : [nodeA u].all AV.nrm=true:=by rw [List.all_cons,nodeA_nrm];rfl
    clear hu0 hu hk5 ih' hnu hsome hdef ih ht hok hoks hpl hR hS hnL e hok2 hv hfw
    refine b50 (by simp) (by simp) (w_init ?_)
    unfold x50
    repeat' (first|(apply r_mvV;rfl)|(apply r_faddL;rfl)|(apply r_l;apply ld_node';assumption;rfl)|(apply r_ldL (v:=.agg [.i k,.d (.val (.int .u64 a)),.d (.val (.int .u64 b)),.d (.val (.int .u64 c)),.d (.val (.int .u64 d)),.i mn,.i mx,.d (.sl (encL subs) subs.length)]);rfl;rfl;rfl)|(apply r_callA (f:=51);rfl;rfl;exact hnn)|(apply r_p (v:=.d (.ptr (encL subs) 0));exact ix_sub0 rfl rfl hl1)|(apply r_callA (ags:=[nodeA u]);rfl;exact hna;exact hg)|(apply r_ldL;rfl;rfl;rfl)|(apply r_eql;rfl;rfl;(first|(apply dT;omega)|(apply dF;omega)|rfl))|(apply r_neq;rfl;rfl;(first|(apply dT;omega)|(apply dF;omega)|rfl))|(apply r_alloc;((conv=>lhs;simp only [Nat.reduceAdd])<;>rfl);rfl)|(apply r_box;((conv=>lhs;simp only [Nat.reduceAdd])<;>rfl);rfl;rfl;rfl)|(apply r_stL;rfl;rfl;rfl;rfl;(first|rfl|(simp only [z_nil,z_add]<;>rfl));rfl;rfl)|(apply r_nilK)|(apply k_V;rfl)|(apply k_PL;rfl)|(apply k_nil)|(apply e_ret;rfl)|(apply w_seq)|(apply w_ops;((conv=>lhs;simp only [Nat.reduceAdd])<;>rfl))|(apply w_condT;rfl)|(apply w_condF;rfl)|(apply e_thenN)|(apply w_block)|(apply e_thenR)|(apply e_blkR)|(apply w_ret)|(apply w_skip))
    exact .data _ rfl
  · have e : firstW (.node k a b c d mn mx subs)=[0,0,0,0]:=by
      have e2 : setWs []=firstW (.node k a b c d mn mx subs):=by
        rw [hdef]
        refine first_eq (by simp) fun y hy=>⟨fun h=>by simp at h,?_⟩
        rintro ⟨w,hw⟩
        exfalso
        rcases (show k=1 ∨ k=5 by omega) with rfl | rfl
        · rw [L_k1] at hw;cases hw
        · have hx : mx=0:=by
            rcases Int.lt_trichotomy mx 0 with h | h | h
            · exact absurd ⟨rfl,by omega⟩ h5
            · exact h
            · exact absurd ⟨rfl,by omega⟩ h5
          rw [L_k5] at hw
          obtain ⟨r,_,h2,h3⟩:=hw
          have : r=0:=by omega
          subst this
          simp [powL] at h3
      rw [← e2];rfl
    rw [e]
    have e2 : setWs []=[0,0,0,0]:=rfl
    rw [e2] at h990
    clear ih' hnu hsome hdef ih ht hok hoks hpl hR hS hnL e hfw hk5
    refine b50 (by simp) (by simp) (w_init ?_)
    unfold x50
    repeat' (first|(apply r_mvV;rfl)|(apply r_faddL;rfl)|(apply r_ldL (v:=.agg [.i k,.d (.val (.int .u64 a)),.d (.val (.int .u64 b)),.d (.val (.int .u64 c)),.d (.val (.int .u64 d)),.i mn,.i mx,.d (.sl (encL subs) subs.length)]);rfl;rfl;rfl)|(apply r_callA (f:=51);rfl;rfl;exact hnn)|(apply r_call (bs:=[.d (.sl [] 0)]) (us:=[]);rfl;rfl;exact h990;rfl)|(apply r_ldL;rfl;rfl;rfl)|(apply r_eql;rfl;rfl;(first|(apply dT;omega)|(apply dF;omega)|rfl))|(apply r_neq;rfl;rfl;(first|(apply dT;omega)|(apply dF;omega)|rfl))|(apply r_alloc;((conv=>lhs;simp only [Nat.reduceAdd])<;>rfl);rfl)|(apply r_box;((conv=>lhs;simp only [Nat.reduceAdd])<;>rfl);rfl;rfl;rfl)|(apply r_stL;rfl;rfl;rfl;rfl;(first|rfl|(simp only [z_nil,z_add]<;>rfl));rfl;rfl)|(apply r_nilK)|(apply k_V;rfl)|(apply k_PL;rfl)|(apply k_nil)|(apply e_ret;rfl)|(apply w_seq)|(apply w_ops;((conv=>lhs;simp only [Nat.reduceAdd])<;>rfl))|(apply w_condF;rfl)|((apply w_condS;rfl)<;>(intro h;try simp only [decide_eq_true_eq,decide_eq_false_iff_not,Bool.not_eq_true,Bool.not_eq_false] at h))|(apply e_thenN)|(apply w_block)|(apply e_blkN)|(apply w_ret)|(apply w_skip))
    all_goals exact .data _ rfl
end Go.Sv
namespace Go.Sv
open Go
set_option linter.unusedVariables false
structure FOf (P : List Nat→Prop) (f : Fa) : Prop where
  no : f.no=true→∀ w,¬ P w
  lo : f.no=false→(∃ w,P w∧(w.length : Int)=f.lo)∧∀ w,P w→f.lo≤w.length
  hi : f.no=false→0≤f.hi→∀ w,P w→(w.length : Int)≤f.hi
  fi : ∀ y,y < 256→(inG f.a f.b f.c f.d y=true↔∃ w,P (y :: w))
theorem inG_zero (y : Nat) : inG 0 0 0 0 y=false:=by
  cases h : inG 0 0 0 0 y with
  | false=>rfl
  | true =>
    have h1:=inG_lt h
    have h2:=(zero_iff (a:=0) (b:=0) (c:=0) (d:=0) (by unfold okW;omega) (by unfold okW;omega) (by unfold okW;omega) (by unfold okW;omega)).1 (by decide) y h1
    rw [h] at h2;exact h2
theorem FOf.congr {P Q : List Nat→Prop} {f : Fa} (h : FOf P f) (e : ∀ w,Q w↔P w) : FOf Q f:=by
  have : Q=P:=funext fun w=>propext (e w)
  rw [this];exact h
theorem fof_no {P : List Nat→Prop} (h : ∀ w,¬ P w) : FOf P faNo :=
  ⟨fun _=>h,fun h=>by simp [faNo] at h,fun h=>by simp [faNo] at h,fun y hy=>by
    simp only [faNo,inG_zero]
    exact ⟨fun h=>by simp at h,fun ⟨w,hw⟩=>absurd hw (h _)⟩⟩
theorem fof_E {P : List Nat→Prop} (h : ∀ w,P w↔w=[]) : FOf P faE :=
  ⟨fun h=>by simp [faE] at h,fun _=>⟨⟨[],(h []).2 rfl,rfl⟩,fun w _=>by simp [faE]⟩,fun _ _ w hw=>by rw [(h w).1 hw];simp [faE],fun y hy=>by
    simp only [faE,inG_zero]
    exact ⟨fun h=>by simp at h,fun ⟨w,hw⟩=>by have:=(h _).1 hw;simp at this⟩⟩
def cat2 (P Q : List Nat→Prop) (w : List Nat) : Prop:=∃ u v,w=u++v∧P u∧Q v
theorem FOf.some {P : List Nat→Prop} {f : Fa} (h : FOf P f) (hn : f.no=false) : ∃ w,P w:=by
  obtain ⟨w,hw,_⟩:=(h.lo hn).1
  exact ⟨w,hw⟩
theorem FOf.nil {P : List Nat→Prop} {f : Fa} (h : FOf P f) (hn : f.no=false) (ho : 0≤f.lo) : f.lo=0↔P []:=by
  obtain ⟨⟨w,hw,hl⟩,h2⟩:=h.lo hn
  constructor
  · intro e
    have : w=[]:=List.length_eq_zero_iff.1 (by omega)
    rwa [this] at hw
  · intro hp
    have:=h2 [] hp
    simp at this
    omega
theorem fof_then {P Q : List Nat→Prop} {f g : Fa} {X Y : Int} (hf : FOf P f) (hg : FOf Q g) (of : okF f X) (og : okF g Y) : FOf (cat2 P Q) (faThen f g):=by
  obtain ⟨⟨fa,fb,fc,fd⟩,f1,f2,_,_⟩:=of
  obtain ⟨⟨ga,gb,gc,gd⟩,g1,g2,_,_⟩:=og
  unfold faThen
  split
  · rename_i h
    refine fof_no ?_
    rintro w ⟨u,v,_,h1,h2⟩
    rcases h with h | h
    · exact hf.no h u h1
    · exact hg.no h v h2
  · rename_i h
    have hfn : f.no=false:=by cases e : f.no<;>simp_all
    have hgn : g.no=false:=by cases e : g.no<;>simp_all
    have b1:=f2 hfn
    have b2:=g2 hgn
    have hlo : (∃ w,cat2 P Q w∧(w.length : Int)=f.lo + g.lo)∧∀ w,cat2 P Q w→f.lo + g.lo≤w.length:=by
      obtain ⟨⟨u,hu,lu⟩,mu⟩:=hf.lo hfn
      obtain ⟨⟨v,hv,lv⟩,mv⟩:=hg.lo hgn
      refine ⟨⟨u++v,⟨u,v,rfl,hu,hv⟩,by rw [List.length_append];omega⟩,?_⟩
      rintro w ⟨a,b,rfl,ha,hb⟩
      have:=mu a ha
      have:=mv b hb
      rw [List.length_append];omega
    have hhi : 0≤plusH f.hi g.hi→∀ w,cat2 P Q w→(w.length : Int)≤plusH f.hi g.hi:=by
      intro h0
      unfold plusH at h0 ⊢
      split at h0
      · omega
      · rename_i hne
        rw [if_neg hne]
        rintro w ⟨a,b,rfl,ha,hb⟩
        have:=hf.hi hfn (by omega) a ha
        have:=hg.hi hgn (by omega) b hb
        rw [List.length_append];omega
    split
    · rename_i h0
      refine ⟨fun h=>by simp at h,fun _=>hlo,fun _=>hhi,fun y hy=>?_⟩
      dsimp only
      rw [inG_or fa fb fc fd ga gb gc gd,Bool.or_eq_true,hf.fi y hy,hg.fi y hy]
      have hn:=(hf.nil hfn b1.1).1 h0
      obtain ⟨v0,hv0⟩:=hg.some hgn
      constructor
      · rintro (⟨w,hw⟩ | ⟨w,hw⟩)
        · exact ⟨w++v0,y :: w,v0,rfl,hw,hv0⟩
        · exact ⟨w,[],y :: w,rfl,hn,hw⟩
      · rintro ⟨w,u,v,e,hu,hv⟩
        cases u with
        | nil=>exact .inr ⟨w,by rw [e];exact hv⟩
        | cons z u =>
          simp only [List.cons_append,List.cons.injEq] at e
          obtain ⟨rfl,_⟩:=e
          exact .inl ⟨u,hu⟩
    · rename_i h0
      refine ⟨fun h=>by simp at h,fun _=>hlo,fun _=>hhi,fun y hy=>?_⟩
      dsimp only
      rw [hf.fi y hy]
      have hn : ¬ P []:=fun h=>h0 ((hf.nil hfn b1.1).2 h)
      obtain ⟨v0,hv0⟩:=hg.some hgn
      constructor
      · rintro ⟨w,hw⟩
        exact ⟨w++v0,y :: w,v0,rfl,hw,hv0⟩
      · rintro ⟨w,u,v,e,hu,hv⟩
        cases u with
        | nil=>exact absurd hu hn
        | cons z u =>
          simp only [List.cons_append,List.cons.injEq] at e
          obtain ⟨rfl,_⟩:=e
          exact ⟨u,hu⟩
theorem fof_or {P Q : List Nat→Prop} {f g : Fa} {X Y : Int} (hf : FOf P f) (hg : FOf Q g) (of : okF f X) (og : okF g Y) : FOf (fun w=>P w ∨ Q w) (faOr f g):=by
  obtain ⟨⟨fa,fb,fc,fd⟩,f1,f2,_,_⟩:=of
  obtain ⟨⟨ga,gb,gc,gd⟩,g1,g2,_,_⟩:=og
  unfold faOr
  split
  · rename_i h
    exact hg.congr fun w=>⟨fun h2=>h2.resolve_left (hf.no h w),.inr⟩
  · rename_i h
    have hfn : f.no=false:=by simpa using h
    split
    · rename_i h2
      exact hf.congr fun w=>⟨fun h3=>h3.resolve_right (hg.no h2 w),.inl⟩
    · rename_i h2
      have hgn : g.no=false:=by simpa using h2
      have b1:=f2 hfn
      have b2:=g2 hgn
      obtain ⟨⟨u,hu,lu⟩,mu⟩:=hf.lo hfn
      obtain ⟨⟨v,hv,lv⟩,mv⟩:=hg.lo hgn
      refine ⟨fun h=>by simp at h,fun _=>⟨?_,?_⟩,fun _ h0=>?_,fun y hy=>?_⟩
      · dsimp only
        rcases Int.le_total f.lo g.lo with h3 | h3
        · exact ⟨u,.inl hu,by omega⟩
        · exact ⟨v,.inr hv,by omega⟩
      · dsimp only
        rintro w (h | h)
        · have:=mu w h;omega
        · have:=mv w h;omega
      · dsimp only at h0 ⊢
        split at h0
        · omega
        · rename_i hne
          rw [if_neg hne]
          rintro w (h | h)
          · have:=hf.hi hfn (by omega) w h;omega
          · have:=hg.hi hgn (by omega) w h;omega
      · dsimp only
        rw [inG_or fa fb fc fd ga gb gc gd,Bool.or_eq_true,hf.fi y hy,hg.fi y hy]
        constructor
        · rintro (⟨w,hw⟩ | ⟨w,hw⟩)
          · exact ⟨w,.inl hw⟩
          · exact ⟨w,.inr hw⟩
        · rintro ⟨w,hw | hw⟩
          · exact .inl ⟨w,hw⟩
          · exact .inr ⟨w,hw⟩
theorem pow_lo {P : List Nat→Prop} {lo : Int} (h : ∀ w,P w→lo≤w.length) : ∀ (r : Nat) (w : List Nat),powL P r w→r * lo≤w.length
  | 0,w,_=>by simp
  | r + 1,w,⟨u,v,e,h1,h2⟩=>by
    have a1:=h u h1
    have a2:=pow_lo h r v h2
    rw [e,List.length_append]
    have : ((r + 1 : Nat) : Int) * lo=r * lo + lo:=by rw [Int.natCast_add,Int.add_mul];simp
    omega
theorem pow_hi {P : List Nat→Prop} {hi : Int} (h : ∀ w,P w→(w.length : Int)≤hi) : ∀ (r : Nat) (w : List Nat),powL P r w→(w.length : Int)≤r * hi
  | 0,w,h0=>by have h0 : w=[]:=h0;subst h0;simp
  | r + 1,w,⟨u,v,e,h1,h2⟩=>by
    have a1:=h u h1
    have a2:=pow_hi h r v h2
    rw [e,List.length_append]
    have : ((r + 1 : Nat) : Int) * hi=r * hi + hi:=by rw [Int.natCast_add,Int.add_mul];simp
    omega
theorem pow_len {P : List Nat→Prop} {u : List Nat} (h : P u) : ∀ r : Nat,∃ w,powL P r w∧w.length=r * u.length
  | 0=>⟨[],rfl,by simp⟩
  | r + 1=>by
    obtain ⟨w,hw,hl⟩:=pow_len h r
    exact ⟨u++w,⟨u,w,rfl,h,hw⟩,by rw [List.length_append,hl,Nat.succ_mul];omega⟩
theorem fof_times {P : List Nat→Prop} {f : Fa} {X mn mx : Int} (hf : FOf P f) (of : okF f X) (h1 : 0≤mn∧mn≤20) (h2 : mx=-1 ∨ (mn≤mx∧mx≤20)) :
    FOf (fun w=>∃ r : Nat,mn≤r∧(mx < 0 ∨ (r : Int)≤mx)∧powL P r w) (faTimes f mn mx):=by
  obtain ⟨⟨fa,fb,fc,fd⟩,f1,f2,_,_⟩:=of
  unfold faTimes
  split
  · rename_i h
    refine fof_E fun w=>?_
    constructor
    · rintro ⟨r,a,b,hp⟩
      rcases h with h | ⟨h,h0⟩
      · have : r=0:=by omega
        subst this;exact hp
      · cases r with
        | zero=>exact hp
        | succ r=>obtain ⟨u,v,_,hu,_⟩:=hp;exact absurd hu (hf.no h u)
    · rintro rfl
      refine ⟨0,?_,?_,rfl⟩
      · rcases h with h | ⟨h,h0⟩<;>omega
      · rcases h with h | ⟨h,h0⟩<;>omega
  · rename_i h
    split
    · rename_i hno
      refine fof_no ?_
      rintro w ⟨r,a,b,hp⟩
      cases r with
      | zero=>simp [hno] at h;omega
      | succ r=>obtain ⟨u,v,_,hu,_⟩:=hp;exact absurd hu (hf.no hno u)
    · rename_i hno
      have hfn : f.no=false:=by simpa using hno
      have b1:=f2 hfn
      have hx : mx ≠ 0:=fun e=>h (.inl e)
      obtain ⟨⟨u,hu,lu⟩,mu⟩:=hf.lo hfn
      obtain ⟨m,rfl⟩:=Int.eq_ofNat_of_zero_le h1.1
      refine ⟨fun h=>by simp at h,fun _=>⟨?_,?_⟩,fun _ h0=>?_,fun y hy=>?_⟩
      · obtain ⟨w,hw,hl⟩:=pow_len hu m
        refine ⟨w,⟨m,by omega,by omega,hw⟩,?_⟩
        dsimp only
        rw [hl,Int.natCast_mul,lu,Int.mul_comm]
      · dsimp only
        rintro w ⟨r,a,b,hp⟩
        have:=pow_lo mu r w hp
        have : f.lo * (m : Int)≤f.lo * r:=Int.mul_le_mul_of_nonneg_left a b1.1
        rw [Int.mul_comm (r : Int)] at *
        omega
      · dsimp only at h0 ⊢
        rintro w ⟨r,a,b,hp⟩
        split at h0
        · rename_i hz
          rw [if_pos hz]
          have h3:=hf.hi hfn (by omega)
          have:=pow_hi h3 r w hp
          rw [hz] at this;simpa using this
        · rename_i hz
          rw [if_neg hz]
          split at h0
          · omega
          · rename_i hne
            rw [if_neg hne]
            have h3:=hf.hi hfn (by omega)
            have h4:=pow_hi h3 r w hp
            have h5 : f.hi * (r : Int)≤f.hi * mx:=Int.mul_le_mul_of_nonneg_left (by omega) (by omega)
            rw [Int.mul_comm (r : Int)] at h4
            omega
      · dsimp only
        rw [hf.fi y hy]
        exact (rep_first (P:=P) h1.1 (by omega) hx y).symm
theorem knC_of : ∀ (l : List T) (f : Fa) (P : List Nat→Prop) (X : Int) (o : Nat),0≤X→FOf P f→okF f X→(∀ u ∈ l,okF (knT u) ((u.cnt : Nat) * pw o)∧FOf (L u) (knT u))→FOf (cat2 P (catL l)) (knC l f)
  | [],f,P,X,o,hX,hf,of,_=>by
    rw [knC]
    refine hf.congr fun w=>?_
    constructor
    · rintro ⟨u,v,rfl,hu,hv⟩
      have hv : v=[]:=hv
      rw [hv,List.append_nil];exact hu
    · intro h;exact ⟨w,[],by simp,h,rfl⟩
  | t :: l,f,P,X,o,hX,hf,of,h=>by
    have hp:=pw_pos o
    have h1:=h t (by simp)
    have h0 : 0≤((t.cnt : Nat) : Int) * pw o:=Int.mul_nonneg (by omega) (by omega)
    have:=knC_of l (faThen f (knT t)) (cat2 P (L t)) _ o (by omega) (fof_then hf h1.2 of h1.1) (okF_then of h1.1 hX h0) (fun u hu=>h u (by simp [hu]))
    rw [knC]
    refine this.congr fun w=>?_
    constructor
    · rintro ⟨a,b,rfl,ha,c,d,rfl,hc,hd⟩
      exact ⟨a++c,d,by simp,⟨a,c,rfl,ha,hc⟩,hd⟩
    · rintro ⟨a,b,rfl,⟨c,d,rfl,hc,hd⟩,hb⟩
      exact ⟨c,d++b,by simp,hc,d,b,rfl,hd,hb⟩
theorem knO_of : ∀ (l : List T) (f : Fa) (P : List Nat→Prop) (X : Int) (o : Nat),0≤X→FOf P f→okF f X→(∀ u ∈ l,okF (knT u) ((u.cnt : Nat) * pw o)∧FOf (L u) (knT u))→FOf (fun w=>P w ∨ altL l w) (knO l f)
  | [],f,P,X,o,hX,hf,of,_=>by
    rw [knO]
    exact hf.congr fun w=>⟨fun h=>h.resolve_right fun h=>h.elim,.inl⟩
  | t :: l,f,P,X,o,hX,hf,of,h=>by
    have hp:=pw_pos o
    have h1:=h t (by simp)
    have h0 : 0≤((t.cnt : Nat) : Int) * pw o:=Int.mul_nonneg (by omega) (by omega)
    have:=knO_of l (faOr f (knT t)) (fun w=>P w ∨ L t w) _ o (by omega) (fof_or hf h1.2 of h1.1) (okF_or of h1.1 hX h0) (fun u hu=>h u (by simp [hu]))
    rw [knO]
    refine this.congr fun w=>?_
    simp only [altL,or_assoc]
mutual
theorem kn_of : ∀ t : T,okT t→FOf (L t) (knT t)
  | .node k a b c d mn mx subs,ho=>by
    have hsub:=knL_of subs (okT_subs ho)
    have hS:=okT_S ho
    obtain ⟨ha,hb,hc,hd⟩:=hS
    have hop:=open_nonneg _ ho
    have hsub' : ∀ u ∈ subs,okF (knT u) ((u.cnt : Nat) * pw (openT (.node k a b c d mn mx subs)).toNat)∧FOf (L u) (knT u):=fun u hu=>by
      refine ⟨okF_mono (kn_ok u ((okL_iff _).1 (okT_subs ho) u hu)) ?_,hsub u hu⟩
      have h1:=sub_open (u:=u) ho hu
      exact bT_le (Nat.le_refl _) (by omega)
    have hk:=(plainT_kind (okT_plain ho)).1
    rw [knT]
    rcases hk with rfl | rfl | rfl | rfl | rfl
    · exact fof_E fun w=>L_k1
    · rw [if_pos rfl]
      split
      · rename_i hz
        refine fof_no fun w hw=>?_
        obtain ⟨x,rfl,hx⟩:=L_k2.1 hw
        have:=(zero_iff ha hb hc hd).1 hz x (inG_lt hx)
        rw [this] at hx;cases hx
      · rename_i hz
        have hne : ∃ x,inG a b c d x=true:=Classical.byContradiction fun hn=>hz ((zero_iff ha hb hc hd).2 fun x _=>by
          cases e : inG a b c d x with
          | false=>rfl
          | true=>exact absurd ⟨x,e⟩ hn)
        obtain ⟨x,hx⟩:=hne
        refine ⟨fun h=>by simp at h,fun _=>⟨⟨[x],L_k2.2 ⟨x,rfl,hx⟩,rfl⟩,fun w hw=>?_⟩,fun _ _ w hw=>?_,fun y hy=>?_⟩
        · obtain ⟨z,rfl,_⟩:=L_k2.1 hw;simp
        · obtain ⟨z,rfl,_⟩:=L_k2.1 hw;simp
        · dsimp only
          constructor
          · intro h;exact ⟨[],L_k2.2 ⟨y,rfl,h⟩⟩
          · rintro ⟨w,hw⟩
            obtain ⟨z,e,hz⟩:=L_k2.1 hw
            simp only [List.cons.injEq] at e
            obtain ⟨rfl,_⟩:=e
            exact hz
    · rw [if_neg (by omega),if_pos rfl]
      refine (knC_of subs faE (fun w=>w=[]) 0 _ (Int.le_refl _) (fof_E fun w=>Iff.rfl) (okF_E (Int.le_refl _)) hsub').congr fun w=>?_
      rw [L_k3]
      constructor
      · intro h;exact ⟨[],w,rfl,rfl,h⟩
      · rintro ⟨u,v,rfl,rfl,h⟩;exact h
    · rw [if_neg (by omega),if_neg (by omega),if_pos rfl]
      refine (knO_of subs faNo (fun w=>False) 0 _ (Int.le_refl _) (fof_no fun w h=>h) (okF_no (Int.le_refl _)) hsub').congr fun w=>?_
      rw [L_k4]
      exact ⟨.inr,fun h=>h.resolve_left id⟩
    · rw [if_neg (by omega),if_neg (by omega),if_neg (by omega),if_pos rfl]
      obtain ⟨u,rfl⟩:=plainT_5 (okT_plain ho)
      have hR:=okT_R ho rfl
      rw [knR]
      refine (fof_times (hsub u (by simp)) (hsub' u (by simp)).1 hR.1 hR.2).congr fun w=>?_
      rw [L_k5];rfl
theorem knL_of : ∀ l : List T,okL l→∀ u ∈ l,FOf (L u) (knT u)
  | [],_=>by simp
  | t :: l,h=>by
    simp only [okL] at h
    intro u hu
    rcases List.mem_cons.1 hu with e | hu
    · rw [e];exact kn_of t h.1
    · exact knL_of l h.2 u hu
end
end Go.Sv
namespace Go.Sv
open Go
set_option linter.unusedVariables false
theorem faThen_no {f g : Fa} (h : (faThen f g).no=false) : f.no=false∧g.no=false:=by
  unfold faThen at h
  split at h
  · simp [faNo] at h
  · rename_i h2
    constructor
    · cases e : f.no<;>simp_all
    · cases e : g.no<;>simp_all
theorem knC_no : ∀ (l : List T) (f : Fa),(knC l f).no=false→f.no=false∧∀ u ∈ l,(knT u).no=false
  | [],f,h=>⟨h,by simp⟩
  | t :: l,f,h=>by
    rw [knC] at h
    obtain ⟨h1,h2⟩:=knC_no l _ h
    obtain ⟨h3,h4⟩:=faThen_no h1
    refine ⟨h3,fun u hu=>?_⟩
    rcases List.mem_cons.1 hu with e | hu
    · rw [e];exact h4
    · exact h2 u hu
theorem faThen_val {f g : Fa} (h1 : f.no=false) (h2 : g.no=false) : (faThen f g).lo=f.lo + g.lo∧(faThen f g).hi=plusH f.hi g.hi∧(faThen f g).no=false:=by
  unfold faThen
  rw [if_neg (by simp [h1,h2])]
  split<;>exact ⟨rfl,rfl,rfl⟩
theorem knC_end : ∀ (l : List T) (f : Fa),(knC l f).no=false→f.hi=-1→(knC l f).hi=-1
  | [],f,_,h=>h
  | t :: l,f,h,h1=>by
    rw [knC] at h ⊢
    obtain ⟨h2,_⟩:=knC_no l _ h
    obtain ⟨h3,h4⟩:=faThen_no h2
    refine knC_end l _ h ?_
    rw [(faThen_val h3 h4).2.1]
    simp [plusH,h1]
theorem faOr_end {f g : Fa} (h1 : f.no=false) (h2 : f.hi=-1) : (faOr f g).no=false∧(faOr f g).hi=-1:=by
  unfold faOr
  rw [if_neg (by simp [h1])]
  split
  · exact ⟨h1,h2⟩
  · exact ⟨rfl,by simp [h2]⟩
theorem knO_end : ∀ (l : List T) (f : Fa),f.no=false→f.hi=-1→(knO l f).hi=-1
  | [],f,_,h=>h
  | t :: l,f,h1,h2=>by
    rw [knO]
    obtain ⟨h3,h4⟩:=faOr_end (g:=knT t) h1 h2
    exact knO_end l _ h3 h4
theorem nn_kn {t : T} (hok : okT t) : nnT t=(knT t).no:=by
  have h:=kn_of t hok
  cases hn : (knT t).no with
  | true=>exact (nnT_L t hok).2 (h.no hn)
  | false =>
    obtain ⟨w,hw⟩:=h.some hn
    cases e : nnT t with
    | false=>rfl
    | true=>exact absurd hw ((nnT_L t hok).1 e w)
end Go.Sv
namespace Go.Sv
open Go Go.Proofs
def x62 : XC:=(.seq (.ops 2 [ (0,⟨some 1,none,.box (.t 0)⟩),(1,⟨some 2,none,.mv (.k (.d (.val (.int .i64 0))))⟩)] (some [1])) (.seq (.seq (.ops 2 [ (0,⟨some 8,none,.load (some 8) (.t 1)⟩),(1,⟨some 9,none,.call 51 [(.t 8)] none false⟩)] (some [1,9])) (.cond (.t 9) (.seq (.ops 1 [ (0,⟨some 2,none,.mv (.k (.d (.val (.int .i64 (-1)))))⟩)] (some [2])) .ret) .skip)) (.seq (.seq (.ops 2 [ (0,⟨some 10,none,.fadd 0 (.t 1)⟩),(1,⟨some 11,none,.load none (.t 10)⟩)] (some [1,11])) (.block 0 (.seq (.ops 2 [ (0,⟨some 13,none,.arith .eql (.t 11) (.k (.d (.val (.int .i64 2))))⟩),(1,⟨some 12,none,.mv (.t 13)⟩)] (some [1,11,12])) (.cond (.t 12) (.seq (.ops 1 [ (0,⟨some 2,none,.mv (.k (.d (.val (.int .i64 1))))⟩)] (some [2])) .ret) (.seq (.ops 2 [ (0,⟨some 15,none,.arith .eql (.t 11) (.k (.d (.val (.int .i64 3))))⟩),(1,⟨some 14,none,.mv (.t 15)⟩)] (some [1,11,14])) (.cond (.t 14) (.seq (.ops 1 [ (0,⟨some 3,none,.mv (.k (.d (.val (.int .i64 0))))⟩)] (some [1,3])) (.seq (.seq (.ops 1 [ (0,⟨some 4,none,.mv (.k (.d (.val (.int .i64 0))))⟩)] (some [1,3,4])) (.block 1 (.loop (.seq (.seq (.ops 5 [ (0,⟨some 16,none,.mv (.t 4)⟩),(1,⟨some 17,none,.fadd 7 (.t 1)⟩),(2,⟨some 18,none,.load none (.t 17)⟩),(3,⟨some 19,none,.lenS (.t 18)⟩),(4,⟨some 20,none,.arith .lss (.t 16) (.t 19)⟩)] (some [1,3,4,20])) (.cond (.t 20) .skip (.exit 1))) (.seq (.block 2 (.ops 9 [ (0,⟨some 23,none,.mv (.t 3)⟩),(1,⟨some 24,none,.fadd 7 (.t 1)⟩),(2,⟨some 25,none,.load none (.t 24)⟩),(3,⟨some 26,none,.mv (.t 4)⟩),(4,⟨some 27,none,.idxS 8 (.t 25) (.t 26)⟩),(5,⟨some 28,none,.load (some 8) (.t 27)⟩),(6,⟨some 29,none,.call 62 [(.t 28)] none false⟩),(7,⟨some 30,none,.arith .add (.t 23) (.t 29)⟩),(8,⟨some 3,none,.mv (.t 30)⟩)] (some [1,3,4]))) (.ops 3 [ (0,⟨some 21,none,.mv (.t 4)⟩),(1,⟨some 22,none,.arith .add (.t 21) (.k (.d (.val (.int .i64 1))))⟩),(2,⟨some 4,none,.mv (.t 22)⟩)] (some [1,3,4]))))))) (.seq (.ops 2 [ (0,⟨some 31,none,.mv (.t 3)⟩),(1,⟨some 2,none,.mv (.t 31)⟩)] (some [2])) .ret))) (.seq (.ops 2 [ (0,⟨some 33,none,.arith .eql (.t 11) (.k (.d (.val (.int .i64 4))))⟩),(1,⟨some 32,none,.mv (.t 33)⟩)] (some [1,11,32])) (.cond (.t 32) (.seq (.ops 1 [ (0,⟨some 5,none,.mv (.k (.d (.val (.int .i64 (-1)))))⟩)] (some [1,5])) (.seq (.seq (.ops 1 [ (0,⟨some 6,none,.mv (.k (.d (.val (.int .i64 0))))⟩)] (some [1,5,6])) (.block 3 (.loop (.seq (.seq (.ops 5 [ (0,⟨some 34,none,.mv (.t 6)⟩),(1,⟨some 35,none,.fadd 7 (.t 1)⟩),(2,⟨some 36,none,.load none (.t 35)⟩),(3,⟨some 37,none,.lenS (.t 36)⟩),(4,⟨some 38,none,.arith .lss (.t 34) (.t 37)⟩)] (some [1,5,6,38])) (.cond (.t 38) .skip (.exit 3))) (.seq (.block 4 (.seq (.ops 7 [ (0,⟨some 41,none,.fadd 7 (.t 1)⟩),(1,⟨some 42,none,.load none (.t 41)⟩),(2,⟨some 43,none,.mv (.t 6)⟩),(3,⟨some 44,none,.idxS 8 (.t 42) (.t 43)⟩),(4,⟨some 45,none,.load (some 8) (.t 44)⟩),(5,⟨some 46,none,.call 62 [(.t 45)] none false⟩),(6,⟨some 7,none,.mv (.t 46)⟩)] (some [1,5,6,7])) (.seq (.ops 11 [ (0,⟨some 47,none,.mv (.t 7)⟩),(1,⟨some 48,none,.arith .geq (.t 47) (.k (.d (.val (.int .i64 0))))⟩),(2,⟨some 49,none,.mv (.t 48)⟩),(3,⟨some 50,(some (49,true)),.mv (.t 5)⟩),(4,⟨some 51,(some (49,true)),.arith .lss (.t 50) (.k (.d (.val (.int .i64 0))))⟩),(5,⟨some 52,(some (49,true)),.mv (.t 51)⟩),(6,⟨some 53,(some (52,false)),.mv (.t 7)⟩),(7,⟨some 54,(some (52,false)),.mv (.t 5)⟩),(8,⟨some 55,(some (52,false)),.arith .lss (.t 53) (.t 54)⟩),(9,⟨some 56,(some (49,true)),.pick (.t 52) (.k (.d (.val (.bool true)))) (.t 55)⟩),(10,⟨some 57,none,.pick (.t 49) (.t 56) (.k (.d (.val (.bool false))))⟩)] (some [1,5,6,7,57])) (.cond (.t 57) (.ops 2 [ (0,⟨some 58,none,.mv (.t 7)⟩),(1,⟨some 5,none,.mv (.t 58)⟩)] (some [1,5,6])) .skip)))) (.ops 3 [ (0,⟨some 39,none,.mv (.t 6)⟩),(1,⟨some 40,none,.arith .add (.t 39) (.k (.d (.val (.int .i64 1))))⟩),(2,⟨some 6,none,.mv (.t 40)⟩)] (some [1,5,6]))))))) (.seq (.ops 2 [ (0,⟨some 59,none,.mv (.t 5)⟩),(1,⟨some 2,none,.mv (.t 59)⟩)] (some [2])) .ret))) (.seq (.ops 2 [ (0,⟨some 61,none,.arith .eql (.t 11) (.k (.d (.val (.int .i64 5))))⟩),(1,⟨some 60,none,.mv (.t 61)⟩)] (some [1,60])) (.cond (.t 60) (.seq (.ops 3 [ (0,⟨some 62,none,.fadd 5 (.t 1)⟩),(1,⟨some 63,none,.load none (.t 62)⟩),(2,⟨some 64,none,.arith .gtr (.t 63) (.k (.d (.val (.int .i64 0))))⟩)] (some [1,64])) (.cond (.t 64) (.seq (.ops 9 [ (0,⟨some 65,none,.fadd 5 (.t 1)⟩),(1,⟨some 66,none,.load none (.t 65)⟩),(2,⟨some 67,none,.fadd 7 (.t 1)⟩),(3,⟨some 68,none,.load none (.t 67)⟩),(4,⟨some 69,none,.idxS 8 (.t 68) (.k (.d (.val (.int .i64 0))))⟩),(5,⟨some 70,none,.load (some 8) (.t 69)⟩),(6,⟨some 71,none,.call 62 [(.t 70)] none false⟩),(7,⟨some 72,none,.arith .mul (.t 66) (.t 71)⟩),(8,⟨some 2,none,.mv (.t 72)⟩)] (some [2])) .ret) .skip)) .skip)))))))))) (.seq (.ops 1 [ (0,⟨some 2,none,.mv (.k (.d (.val (.int .i64 0))))⟩)] (some [2])) .ret))))
def md62 : FuncId→Option Nat × Bool
  | _=>(none,false)
def od62 : Nat→List (List Nat) × List Nat × Option (List Nat)
  | 0=>([],[],some [1])
  | 1=>([],[],some [1,9])
  | 2=>([],[],some [2])
  | 3=>([],[],some [1,11])
  | 4=>([],[],some [1,11,12])
  | 5=>([],[],some [2])
  | 6=>([],[],some [1,11,14])
  | 7=>([],[],some [1,3])
  | 8=>([],[],some [1,3,4])
  | 9=>([],[],some [1,3,4,20])
  | 10=>([],[],some [1,3,4])
  | 11=>([],[],some [1,3,4])
  | 12=>([],[],some [2])
  | 13=>([],[],some [1,11,32])
  | 14=>([],[],some [1,5])
  | 15=>([],[],some [1,5,6])
  | 16=>([],[],some [1,5,6,38])
  | 17=>([],[],some [1,5,6])
  | 18=>([],[],some [1,5,6,7])
  | 19=>([],[],some [1,5,6,7,57])
  | 20=>([],[],some [1,5,6])
  | 21=>([],[],some [2])
  | 22=>([],[],some [1,60])
  | 23=>([],[],some [1,64])
  | 24=>([[],[0],[],[2],[2,3],[2,3,4],[2,3,4,5],[0,1,2,3,4,5,6],[0,1,2,3,4,5,6,7]],[0,1,2,3,4,5,6,7,8],some [2])
  | 25=>([],[],some [2])
  | _=>([],[],none)
theorem b62 {ags : List AV} {row : Option (List DV)} {r : AV} {row' nw : Option (List DV)} (hal : ags.length≤73) (hrow : row'.isSome=true→row.isSome=true) (h : xwp Try.prog x62 (retK [.tmp 2] row.isSome r row' nw) (St.init ags row)) : Good Try.prog 62 ags row r row' nw :=
  good_of_body' (md:=md62) (od:=od62) Try.f62 (by kernel_rfl) (by kernel_rfl) (by kernel_rfl) (by kernel_rfl) (by kernel_rfl) hal hrow h

def x63 : XC:=(.seq (.ops 2 [ (0,⟨some 1,none,.box (.t 0)⟩),(1,⟨some 2,none,.mv (.k (.d (.val (.int .i64 0))))⟩)] (some [1])) (.seq (.seq (.ops 2 [ (0,⟨some 7,none,.load (some 8) (.t 1)⟩),(1,⟨some 8,none,.call 51 [(.t 7)] none false⟩)] (some [1,8])) (.cond (.t 8) (.seq (.ops 1 [ (0,⟨some 2,none,.mv (.k (.d (.val (.int .i64 (-1)))))⟩)] (some [2])) .ret) .skip)) (.seq (.ops 1 [ (0,⟨some 3,none,.mv (.k (.d (.val (.int .i64 0))))⟩)] (some [1,3])) (.seq (.seq (.ops 2 [ (0,⟨some 9,none,.fadd 0 (.t 1)⟩),(1,⟨some 10,none,.load none (.t 9)⟩)] (some [1,3,10])) (.block 0 (.seq (.ops 2 [ (0,⟨some 12,none,.arith .eql (.t 10) (.k (.d (.val (.int .i64 2))))⟩),(1,⟨some 11,none,.mv (.t 12)⟩)] (some [1,3,10,11])) (.cond (.t 11) (.seq (.ops 1 [ (0,⟨some 2,none,.mv (.k (.d (.val (.int .i64 1))))⟩)] (some [2])) .ret) (.seq (.seq (.ops 2 [ (0,⟨some 14,none,.arith .eql (.t 10) (.k (.d (.val (.int .i64 3))))⟩),(1,⟨some 13,none,.mv (.t 14)⟩)] (some [1,3,10,13])) (.cond (.t 13) .skip (.ops 2 [ (0,⟨some 15,none,.arith .eql (.t 10) (.k (.d (.val (.int .i64 4))))⟩),(1,⟨some 13,none,.mv (.t 15)⟩)] (some [1,3,10,13])))) (.cond (.t 13) (.seq (.ops 1 [ (0,⟨some 4,none,.mv (.k (.d (.val (.int .i64 0))))⟩)] (some [1,3,4])) (.block 1 (.loop (.seq (.seq (.ops 5 [ (0,⟨some 16,none,.mv (.t 4)⟩),(1,⟨some 17,none,.fadd 7 (.t 1)⟩),(2,⟨some 18,none,.load none (.t 17)⟩),(3,⟨some 19,none,.lenS (.t 18)⟩),(4,⟨some 20,none,.arith .lss (.t 16) (.t 19)⟩)] (some [1,3,4,20])) (.cond (.t 20) .skip (.exit 1))) (.seq (.block 2 (.seq (.seq (.ops 6 [ (0,⟨some 23,none,.fadd 7 (.t 1)⟩),(1,⟨some 24,none,.load none (.t 23)⟩),(2,⟨some 25,none,.mv (.t 4)⟩),(3,⟨some 26,none,.idxS 8 (.t 24) (.t 25)⟩),(4,⟨some 27,none,.load (some 8) (.t 26)⟩),(5,⟨some 28,none,.call 51 [(.t 27)] none false⟩)] (some [1,3,4,28])) (.cond (.t 28) (.exit 2) .skip)) (.seq (.ops 7 [ (0,⟨some 29,none,.fadd 7 (.t 1)⟩),(1,⟨some 30,none,.load none (.t 29)⟩),(2,⟨some 31,none,.mv (.t 4)⟩),(3,⟨some 32,none,.idxS 8 (.t 30) (.t 31)⟩),(4,⟨some 33,none,.load (some 8) (.t 32)⟩),(5,⟨some 34,none,.call 63 [(.t 33)] none false⟩),(6,⟨some 5,none,.mv (.t 34)⟩)] (some [1,3,4,5])) (.seq (.seq (.ops 2 [ (0,⟨some 35,none,.mv (.t 5)⟩),(1,⟨some 36,none,.arith .lss (.t 35) (.k (.d (.val (.int .i64 0))))⟩)] (some [1,3,4,5,36])) (.cond (.t 36) (.seq (.ops 1 [ (0,⟨some 2,none,.mv (.k (.d (.val (.int .i64 (-1)))))⟩)] (some [2])) .ret) .skip)) (.seq (.ops 3 [ (0,⟨some 37,none,.fadd 0 (.t 1)⟩),(1,⟨some 38,none,.load none (.t 37)⟩),(2,⟨some 39,none,.arith .eql (.t 38) (.k (.d (.val (.int .i64 3))))⟩)] (some [1,3,4,5,39])) (.cond (.t 39) (.ops 4 [ (0,⟨some 40,none,.mv (.t 3)⟩),(1,⟨some 41,none,.mv (.t 5)⟩),(2,⟨some 42,none,.arith .add (.t 40) (.t 41)⟩),(3,⟨some 3,none,.mv (.t 42)⟩)] (some [1,3,4])) (.ops 4 [ (0,⟨some 43,none,.mv (.t 3)⟩),(1,⟨some 44,none,.mv (.t 5)⟩),(2,⟨some 45,none,.max [(.t 43),(.t 44)]⟩),(3,⟨some 3,none,.mv (.t 45)⟩)] (some [1,3,4])))))))) (.ops 3 [ (0,⟨some 21,none,.mv (.t 4)⟩),(1,⟨some 22,none,.arith .add (.t 21) (.k (.d (.val (.int .i64 1))))⟩),(2,⟨some 4,none,.mv (.t 22)⟩)] (some [1,3,4]))))))) (.seq (.ops 2 [ (0,⟨some 47,none,.arith .eql (.t 10) (.k (.d (.val (.int .i64 5))))⟩),(1,⟨some 46,none,.mv (.t 47)⟩)] (some [1,3,46])) (.cond (.t 46) (.seq (.seq (.ops 10 [ (0,⟨some 48,none,.fadd 7 (.t 1)⟩),(1,⟨some 49,none,.load none (.t 48)⟩),(2,⟨some 50,none,.idxS 8 (.t 49) (.k (.d (.val (.int .i64 0))))⟩),(3,⟨some 51,none,.load (some 8) (.t 50)⟩),(4,⟨some 52,none,.call 51 [(.t 51)] none false⟩),(5,⟨some 53,none,.mv (.t 52)⟩),(6,⟨some 54,(some (53,false)),.fadd 6 (.t 1)⟩),(7,⟨some 55,(some (53,false)),.load none (.t 54)⟩),(8,⟨some 56,(some (53,false)),.arith .eql (.t 55) (.k (.d (.val (.int .i64 0))))⟩),(9,⟨some 57,none,.pick (.t 53) (.k (.d (.val (.bool true)))) (.t 56)⟩)] (some [1,57])) (.cond (.t 57) (.seq (.ops 1 [ (0,⟨some 2,none,.mv (.k (.d (.val (.int .i64 0))))⟩)] (some [2])) .ret) .skip)) (.seq (.ops 6 [ (0,⟨some 58,none,.fadd 7 (.t 1)⟩),(1,⟨some 59,none,.load none (.t 58)⟩),(2,⟨some 60,none,.idxS 8 (.t 59) (.k (.d (.val (.int .i64 0))))⟩),(3,⟨some 61,none,.load (some 8) (.t 60)⟩),(4,⟨some 62,none,.call 63 [(.t 61)] none false⟩),(5,⟨some 6,none,.mv (.t 62)⟩)] (some [1,6])) (.seq (.seq (.ops 2 [ (0,⟨some 63,none,.mv (.t 6)⟩),(1,⟨some 64,none,.arith .eql (.t 63) (.k (.d (.val (.int .i64 0))))⟩)] (some [1,6,64])) (.cond (.t 64) (.seq (.ops 1 [ (0,⟨some 2,none,.mv (.k (.d (.val (.int .i64 0))))⟩)] (some [2])) .ret) .skip)) (.seq (.seq (.ops 7 [ (0,⟨some 65,none,.mv (.t 6)⟩),(1,⟨some 66,none,.arith .lss (.t 65) (.k (.d (.val (.int .i64 0))))⟩),(2,⟨some 67,none,.mv (.t 66)⟩),(3,⟨some 68,(some (67,false)),.fadd 6 (.t 1)⟩),(4,⟨some 69,(some (67,false)),.load none (.t 68)⟩),(5,⟨some 70,(some (67,false)),.arith .lss (.t 69) (.k (.d (.val (.int .i64 0))))⟩),(6,⟨some 71,none,.pick (.t 67) (.k (.d (.val (.bool true)))) (.t 70)⟩)] (some [1,6,71])) (.cond (.t 71) (.seq (.ops 1 [ (0,⟨some 2,none,.mv (.k (.d (.val (.int .i64 (-1)))))⟩)] (some [2])) .ret) .skip)) (.seq (.ops 5 [ (0,⟨some 72,none,.mv (.t 6)⟩),(1,⟨some 73,none,.fadd 6 (.t 1)⟩),(2,⟨some 74,none,.load none (.t 73)⟩),(3,⟨some 75,none,.arith .mul (.t 72) (.t 74)⟩),(4,⟨some 2,none,.mv (.t 75)⟩)] (some [2])) .ret))))) .skip)))))))) (.seq (.ops 2 [ (0,⟨some 76,none,.mv (.t 3)⟩),(1,⟨some 2,none,.mv (.t 76)⟩)] (some [2])) .ret)))))
def md63 : FuncId→Option Nat × Bool
  | _=>(none,false)
def od63 : Nat→List (List Nat) × List Nat × Option (List Nat)
  | 0=>([],[],some [1])
  | 1=>([],[],some [1,8])
  | 2=>([],[],some [2])
  | 3=>([],[],some [1,3])
  | 4=>([],[],some [1,3,10])
  | 5=>([],[],some [1,3,10,11])
  | 6=>([],[],some [2])
  | 7=>([],[],some [1,3,10,13])
  | 8=>([],[],some [1,3,10,13])
  | 9=>([],[],some [1,3,4])
  | 10=>([],[],some [1,3,4,20])
  | 11=>([],[],some [1,3,4])
  | 12=>([],[],some [1,3,4,28])
  | 13=>([],[],some [1,3,4,5])
  | 14=>([],[],some [1,3,4,5,36])
  | 15=>([],[],some [2])
  | 16=>([],[],some [1,3,4,5,39])
  | 17=>([],[],some [1,3,4])
  | 18=>([],[],some [1,3,4])
  | 19=>([],[],some [1,3,46])
  | 20=>([],[],some [1,57])
  | 21=>([],[],some [2])
  | 22=>([],[],some [1,6])
  | 23=>([],[],some [1,6,64])
  | 24=>([],[],some [2])
  | 25=>([],[],some [1,6,71])
  | 26=>([],[],some [2])
  | 27=>([],[],some [2])
  | 28=>([],[],some [2])
  | _=>([],[],none)
theorem b63 {ags : List AV} {row : Option (List DV)} {r : AV} {row' nw : Option (List DV)} (hal : ags.length≤77) (hrow : row'.isSome=true→row.isSome=true) (h : xwp Try.prog x63 (retK [.tmp 2] row.isSome r row' nw) (St.init ags row)) : Good Try.prog 63 ags row r row' nw :=
  good_of_body' (md:=md63) (od:=od63) Try.f63 (by kernel_rfl) (by kernel_rfl) (by kernel_rfl) (by kernel_rfl) (by kernel_rfl) hal hrow h

set_option maxRecDepth 100000
set_option maxHeartbeats 4000000
attribute [local irreducible] W E R KP thenK blockK retK Good xwp aRun
theorem least62_good : ∀ (n : Nat) (t : T),t.cnt≤n→n≤1000000→okT t→bT t≤16384000000000000000→Good Try.prog 62 [nodeA t] none (.i (knT t).lo) none none:=by
  intro n
  induction n with
  | zero=>intro t ht;have:=cnt_pos t;omega
  | succ n ih =>
  intro t ht hc hok hbt
  have hnn:=none51_good 1000000 t (by omega) (by omega) hok
  rw [nn_kn hok] at hnn
  have hkt:=kn_ok t hok
  obtain ⟨k,a,b,c,d,mn,mx,subs⟩:=t
  have e0 : nodeA (T.node k a b c d mn mx subs)=.agg [.i k,.d (.val (.int .u64 a)),.d (.val (.int .u64 b)),.d (.val (.int .u64 c)),.d (.val (.int .u64 d)),.i mn,.i mx,.d (.sl (encL subs) subs.length)]:=rfl
  have hoks:=okT_subs hok
  have hR:=okT_R hok
  have ih' : ∀ i (h : i < subs.length),Good Try.prog 62 [nodeA subs[i]] none (.i (knT subs[i]).lo) none none:=by
    intro i h
    refine ih _ ?_ (by omega) (okL_get subs i h hoks) ?_
    · have:=cntL_get subs i h
      simp only [T.cnt] at ht
      omega
    · have:=bT_sub (u:=subs[i]) hok (List.getElem_mem h)
      omega
  have hksub : ∀ i (h : i < subs.length),okF (knT subs[i]) (bT subs[i]):=fun i h=>kn_ok _ (okL_get subs i h hoks)
  have hpl:=okT_plain hok
  have hlen : subs.length≤1000000:=by
    have:=cntL_len subs
    simp only [T.cnt] at ht
    omega
  rw [e0] at hnn ⊢
  cases hno : (knT (T.node k a b c d mn mx subs)).no with
  | true =>
    have e : (knT (T.node k a b c d mn mx subs)).lo=-1:=by rw [hkt.2.1 hno];rfl
    rw [e]
    rw [hno] at hnn
    clear ih ih' hksub hkt hok hoks hbt ht hR hpl hno e
    refine b62 (by simp) (by simp) (w_init ?_)
    unfold x62
    repeat' (first
    | (apply r_mvV;rfl)
    | (apply r_mvP;rfl)
    | (apply r_mvPL;rfl)
    | (apply r_mvS;rfl)
    | (apply r_mvSL;rfl)
    | (apply r_mvA;rfl)
    | (apply r_mvT;rfl)
    | (apply r_mvF;rfl)
    | (apply r_mvD;rfl)
    | (apply r_faddD;rfl)
    | (apply r_faddL;rfl)
    | (apply r_l;apply ld_kind;assumption;rfl)
    | (apply r_l;apply ld_mn;assumption;rfl)
    | (apply r_l;apply ld_mx;assumption;rfl)
    | (apply r_l;apply ld_subs;assumption;rfl)
    | (apply r_l;apply ld_set;assumption;rfl)
    | (apply r_l;apply ld_node;assumption;rfl)
    | (apply r_l;apply ld_kind';assumption;rfl)
    | (apply r_l;apply ld_mn';assumption;rfl)
    | (apply r_l;apply ld_mx';assumption;rfl)
    | (apply r_l;apply ld_subs';assumption;rfl)
    | (apply r_l;apply ld_node';assumption;rfl)
    | (apply r_callA (f:=51);rfl;rfl;exact hnn)
    | (apply r_ldL;rfl;rfl;rfl)
    | (apply r_eql;rfl;rfl;(first | (apply dT;omega) | (apply dF;omega) | rfl))
    | (apply r_lss;rfl;rfl;(first | (apply dT;omega) | (apply dF;omega) | rfl))
    | (apply r_gtr;rfl;rfl;(first | (apply dT;omega) | (apply dF;omega) | rfl))
    | (apply r_geq;rfl;rfl;(first | (apply dT;omega) | (apply dF;omega) | rfl))
    | (apply r_add;rfl;rfl;rfl;omega)
    | (apply r_pickT;rfl)
    | (apply r_pickF;rfl)
    | (apply r_lenD;rfl)
    | (apply r_lenL;rfl)
    | (apply r_len0;rfl)
    | (apply r_gT;rfl)
    | (apply r_gF';rfl;rfl)
    | (apply r_gN';rfl)
    | ((apply r_gS (o:=default);rfl)<;>(intro h;try simp only [decide_eq_true_eq,decide_eq_false_iff_not,Bool.not_eq_true,Bool.not_eq_false] at h))
    | (apply r_box;((conv=>lhs;simp only [Nat.reduceAdd])<;>rfl);rfl;rfl;rfl)
    | (apply r_p;rfl)
    | (apply r_nilK)
    | (apply r_nil)
    | (apply k_V;rfl)
    | (apply k_P;rfl)
    | (apply k_PL;rfl)
    | (apply k_S;rfl)
    | (apply k_SL;rfl)
    | (apply k_A;rfl)
    | (apply k_T;rfl)
    | (apply k_F;rfl)
    | (apply k_D;rfl;rotate_left;rfl)
    | (apply k_nil)
    | (apply e_ret (vs:=[.d (.val _)]);rfl)
    | (apply e_ret;rfl)
    | (apply e_ret' (vs:=[.d (.val _)]);rfl)
    | (apply e_ret';rfl)
    | (apply w_seq)
    | (apply w_ops;((conv=>lhs;simp only [Nat.reduceAdd])<;>rfl))
    | (apply w_condT;rfl)
    | (apply w_condF;rfl)
    | ((apply w_condS;rfl)<;>(intro h;try simp only [decide_eq_true_eq,decide_eq_false_iff_not,Bool.not_eq_true,Bool.not_eq_false] at h))
    | (apply e_thenN)
    | (apply w_block)
    | (apply e_thenR)
    | (apply e_thenX)
    | (apply e_blkN)
    | (apply e_blkR)
    | (apply e_blkE)
    | (apply w_exit)
    | (apply w_ret)
    | (apply w_skip)
    | (apply e_blkE';rfl))
    exact retI rfl
  | false =>
  rw [hno] at hnn
  by_cases h2 : k=2
  · have e : (knT (T.node k a b c d mn mx subs)).lo=1:=by
      rw [knT,if_pos h2] at hno ⊢
      split
      · rename_i hz;rw [if_pos hz] at hno;simp [faNo] at hno
      · rfl
    rw [e]
    clear ih ih' hksub hkt hok hoks hbt ht hR hpl hno e
    refine b62 (by simp) (by simp) (w_init ?_)
    unfold x62
    repeat' (first
    | (apply r_mvV;rfl)
    | (apply r_mvP;rfl)
    | (apply r_mvPL;rfl)
    | (apply r_mvS;rfl)
    | (apply r_mvSL;rfl)
    | (apply r_mvA;rfl)
    | (apply r_mvT;rfl)
    | (apply r_mvF;rfl)
    | (apply r_mvD;rfl)
    | (apply r_faddD;rfl)
    | (apply r_faddL;rfl)
    | (apply r_l;apply ld_kind;assumption;rfl)
    | (apply r_l;apply ld_mn;assumption;rfl)
    | (apply r_l;apply ld_mx;assumption;rfl)
    | (apply r_l;apply ld_subs;assumption;rfl)
    | (apply r_l;apply ld_set;assumption;rfl)
    | (apply r_l;apply ld_node;assumption;rfl)
    | (apply r_l;apply ld_kind';assumption;rfl)
    | (apply r_l;apply ld_mn';assumption;rfl)
    | (apply r_l;apply ld_mx';assumption;rfl)
    | (apply r_l;apply ld_subs';assumption;rfl)
    | (apply r_l;apply ld_node';assumption;rfl)
    | (apply r_callA (f:=51);rfl;rfl;exact hnn)
    | (apply r_ldL;rfl;rfl;rfl)
    | (apply r_eql;rfl;rfl;(first | (apply dT;omega) | (apply dF;omega) | rfl))
    | (apply r_lss;rfl;rfl;(first | (apply dT;omega) | (apply dF;omega) | rfl))
    | (apply r_gtr;rfl;rfl;(first | (apply dT;omega) | (apply dF;omega) | rfl))
    | (apply r_geq;rfl;rfl;(first | (apply dT;omega) | (apply dF;omega) | rfl))
    | (apply r_add;rfl;rfl;rfl;omega)
    | (apply r_pickT;rfl)
    | (apply r_pickF;rfl)
    | (apply r_lenD;rfl)
    | (apply r_lenL;rfl)
    | (apply r_len0;rfl)
    | (apply r_gT;rfl)
    | (apply r_gF';rfl;rfl)
    | (apply r_gN';rfl)
    | ((apply r_gS (o:=default);rfl)<;>(intro h;try simp only [decide_eq_true_eq,decide_eq_false_iff_not,Bool.not_eq_true,Bool.not_eq_false] at h))
    | (apply r_box;((conv=>lhs;simp only [Nat.reduceAdd])<;>rfl);rfl;rfl;rfl)
    | (apply r_p;rfl)
    | (apply r_nilK)
    | (apply r_nil)
    | (apply k_V;rfl)
    | (apply k_P;rfl)
    | (apply k_PL;rfl)
    | (apply k_S;rfl)
    | (apply k_SL;rfl)
    | (apply k_A;rfl)
    | (apply k_T;rfl)
    | (apply k_F;rfl)
    | (apply k_D;rfl;rotate_left;rfl)
    | (apply k_nil)
    | (apply e_ret (vs:=[.d (.val _)]);rfl)
    | (apply e_ret;rfl)
    | (apply e_ret' (vs:=[.d (.val _)]);rfl)
    | (apply e_ret';rfl)
    | (apply w_seq)
    | (apply w_ops;((conv=>lhs;simp only [Nat.reduceAdd])<;>rfl))
    | (apply w_condT;rfl)
    | (apply w_condF;rfl)
    | ((apply w_condS;rfl)<;>(intro h;try simp only [decide_eq_true_eq,decide_eq_false_iff_not,Bool.not_eq_true,Bool.not_eq_false] at h))
    | (apply e_thenN)
    | (apply w_block)
    | (apply e_thenR)
    | (apply e_thenX)
    | (apply e_blkN)
    | (apply e_blkR)
    | (apply e_blkE)
    | (apply w_exit)
    | (apply w_ret)
    | (apply w_skip)
    | (apply e_blkE';rfl))
    exact retI rfl
  have hpw:=pw_pos (openT (T.node k a b c d mn mx subs)).toNat
  have hsub' : ∀ u ∈ subs,okF (knT u) ((u.cnt : Nat) * pw (openT (T.node k a b c d mn mx subs)).toNat):=fun u hu=>by
    refine okF_mono (kn_ok u ((okL_iff _).1 hoks u hu)) ?_
    have h1:=sub_open (u:=u) hok hu
    exact bT_le (Nat.le_refl _) (by have:=open_nonneg _ hok;omega)
  have hpb : ∀ i,((cntL (subs.take i) : Nat) : Int) * pw (openT (T.node k a b c d mn mx subs)).toNat≤16384000000000000000:=by
    intro i
    have h1:=cntL_take_le subs i
    have h2 : ((cntL (subs.take i) : Nat) : Int) * pw (openT (T.node k a b c d mn mx subs)).toNat≤bT (T.node k a b c d mn mx subs):=by
      unfold bT
      exact Int.mul_le_mul_of_nonneg_right (by simp only [T.cnt];omega) (by omega)
    omega
  by_cases h3 : k=3
  · have e : knT (T.node k a b c d mn mx subs)=knC subs faE:=by rw [knT,if_neg h2,if_pos h3]
    rw [e] at hno ⊢
    obtain ⟨_,hall⟩:=knC_no subs faE hno
    have hacc : ∀ i,i≤subs.length→(knC (subs.take i) faE).no=false∧0≤(knC (subs.take i) faE).lo∧2 * (knC (subs.take i) faE).lo≤16384000000000000000:=by
      intro i hi
      have h1:=knC_ok (openT (T.node k a b c d mn mx subs)).toNat (subs.take i) faE 0 (Int.le_refl _) (okF_E (Int.le_refl _)) (fun u hu=>hsub' u (List.mem_of_mem_take hu))
      have h4 : (knC (subs.take i) faE).no=false:=by
        have : knC subs faE=knC (subs.drop i) (knC (subs.take i) faE):=by rw [← knC_app,List.take_append_drop]
        rw [this] at hno
        exact (knC_no _ _ hno).1
      refine ⟨h4,(h1.2.2.1 h4).1,?_⟩
      have:=hpb i
      have:=h1.2.2.2.1
      omega
    have hstep : ∀ i (h : i < subs.length),(knC (subs.take (i + 1)) faE).lo=(knC (subs.take i) faE).lo + (knT subs[i]).lo:=fun i h=>by
      rw [knC_step subs i h]
      exact (faThen_val (hacc i (by omega)).1 (hall _ (List.getElem_mem h))).1
    have hlos : ∀ i (h : i < subs.length),0≤(knT subs[i]).lo:=fun i h=>((hksub i h).2.2.1 (hall _ (List.getElem_mem h))).1
    clear ih hkt hok hbt ht hR hpl hsub' hpb hall e hksub hoks
    refine b62 (by simp) (by simp) (w_init ?_)
    unfold x62
    repeat' (first
    | (apply r_mvV;rfl)
    | (apply r_mvP;rfl)
    | (apply r_mvPL;rfl)
    | (apply r_mvS;rfl)
    | (apply r_mvSL;rfl)
    | (apply r_mvA;rfl)
    | (apply r_mvT;rfl)
    | (apply r_mvF;rfl)
    | (apply r_mvD;rfl)
    | (apply r_faddD;rfl)
    | (apply r_faddL;rfl)
    | (apply r_l;apply ld_kind;assumption;rfl)
    | (apply r_l;apply ld_mn;assumption;rfl)
    | (apply r_l;apply ld_mx;assumption;rfl)
    | (apply r_l;apply ld_subs;assumption;rfl)
    | (apply r_l;apply ld_set;assumption;rfl)
    | (apply r_l;apply ld_node;assumption;rfl)
    | (apply r_l;apply ld_kind';assumption;rfl)
    | (apply r_l;apply ld_mn';assumption;rfl)
    | (apply r_l;apply ld_mx';assumption;rfl)
    | (apply r_l;apply ld_subs';assumption;rfl)
    | (apply r_l;apply ld_node';assumption;rfl)
    | (apply r_callA (f:=51);rfl;rfl;exact hnn)
    | (apply r_ldL;rfl;rfl;rfl)
    | (apply r_eql;rfl;rfl;(first | (apply dT;omega) | (apply dF;omega) | rfl))
    | (apply r_lss;rfl;rfl;(first | (apply dT;omega) | (apply dF;omega) | rfl))
    | (apply r_gtr;rfl;rfl;(first | (apply dT;omega) | (apply dF;omega) | rfl))
    | (apply r_geq;rfl;rfl;(first | (apply dT;omega) | (apply dF;omega) | rfl))
    | (apply r_add;rfl;rfl;rfl;omega)
    | (apply r_pickT;rfl)
    | (apply r_pickF;rfl)
    | (apply r_lenD;rfl)
    | (apply r_lenL;rfl)
    | (apply r_len0;rfl)
    | (apply r_gT;rfl)
    | (apply r_gF';rfl;rfl)
    | (apply r_gN';rfl)
    | ((apply r_gS (o:=default);rfl)<;>(intro h;try simp only [decide_eq_true_eq,decide_eq_false_iff_not,Bool.not_eq_true,Bool.not_eq_false] at h))
    | (apply r_box;((conv=>lhs;simp only [Nat.reduceAdd])<;>rfl);rfl;rfl;rfl)
    | (apply r_p;rfl)
    | (apply r_nilK)
    | (apply r_nil)
    | (apply k_V;rfl)
    | (apply k_P;rfl)
    | (apply k_PL;rfl)
    | (apply k_S;rfl)
    | (apply k_SL;rfl)
    | (apply k_A;rfl)
    | (apply k_T;rfl)
    | (apply k_F;rfl)
    | (apply k_D;rfl;rotate_left;rfl)
    | (apply k_nil)
    | (apply e_ret (vs:=[.d (.val _)]);rfl)
    | (apply e_ret;rfl)
    | (apply e_ret' (vs:=[.d (.val _)]);rfl)
    | (apply e_ret';rfl)
    | (apply w_seq)
    | (apply w_ops;((conv=>lhs;simp only [Nat.reduceAdd])<;>rfl))
    | (apply w_condT;rfl)
    | (apply w_condF;rfl)
    | ((apply w_condS;rfl)<;>(intro h;try simp only [decide_eq_true_eq,decide_eq_false_iff_not,Bool.not_eq_true,Bool.not_eq_false] at h))
    | (apply e_thenN)
    | (apply w_block)
    | (apply e_thenR)
    | (apply e_thenX)
    | (apply e_blkN)
    | (apply e_blkR)
    | (apply e_blkE)
    | (apply w_exit)
    | (apply w_ret)
    | (apply w_skip)
    | (apply e_blkE';rfl))
    apply w_loopI (S:=fun i : Nat=>⟨(((Fr.nil.put 1 (.ptrL 1 0)).put 3 (.i (knC (subs.take i) faE).lo))).put 4 (.i i),rowsOf [(1,[.i k,.d (.val (.int .u64 a)),.d (.val (.int .u64 b)),.d (.val (.int .u64 c)),.d (.val (.int .u64 d)),.i mn,.i mx,.d (.sl (encL subs) subs.length)])],Frz.lo 100,100⟩) (m:=fun i=>subs.length - i) (I:=fun i=>i≤subs.length) (i0:=0)
    · exact Nat.zero_le _
    · refine wkRs (by omega) ?_ ?_
      · intro p hp;simp only [List.mem_cons,List.not_mem_nil,or_false] at hp;rcases hp with rfl<;>exact ⟨by omega,rfl,rfl⟩
      · repeat' (first
    | exact FWk.nil
    | (apply FWk.i;rfl;(first | rfl | omega | (simp;done)))
    | (apply FWk.sl;rfl;rfl;rfl;rfl;omega;rfl)
    | (apply FWk.ptr;rfl;rfl;rfl;omega;rfl)
    | (apply FWk.d;rfl;rfl)
    | (apply FWk.a;rfl;rfl;rfl)
    | (apply FWk.slN;rfl;omega;rfl))
    intro i K hi hK
    dsimp only
    rcases Nat.lt_or_ge i subs.length with hlt | hge
    · have hsu:=NodeAt.sub hlt
      have hg:=ih' i hlt
      have hs1:=hstep i hlt
      have hb1:=hacc i (by omega)
      have hb2:=hacc (i + 1) (by omega)
      have hl:=hlos i hlt
      have hnu:=nodeA_nrm subs[i]
      have hna : [nodeA subs[i]].all AV.nrm=true:=by rw [List.all_cons,hnu];rfl
      have fin : ∀ fr C Z nx,Wk ⟨fr,C,Z,nx⟩ ⟨(((Fr.nil.put 1 (.ptrL 1 0)).put 3 (.i ((knC (subs.take i) faE).lo + (knT subs[i]).lo)))).put 4 (.i ((i + 1 : Nat) : Int)),rowsOf [(1,[.i k,.d (.val (.int .u64 a)),.d (.val (.int .u64 b)),.d (.val (.int .u64 c)),.d (.val (.int .u64 d)),.i mn,.i mx,.d (.sl (encL subs) subs.length)])],Frz.lo 100,100⟩→K ⟨fr,C,Z,nx⟩:=fun fr C Z nx hw=>hK (i + 1) fr C Z nx (by omega) (by omega) (by rw [hs1];exact hw)
      rw [hs1] at hb2
      generalize (knC (subs.take i) faE).lo=f1 at *
      generalize (knT subs[i]).lo=g1 at *
      generalize subs[i]=u at hsu hg hna
      clear hacc hstep hlos ih'
      repeat' (first
    | (apply r_mvV;rfl)
    | (apply r_mvP;rfl)
    | (apply r_mvPL;rfl)
    | (apply r_mvS;rfl)
    | (apply r_mvSL;rfl)
    | (apply r_mvA;rfl)
    | (apply r_mvT;rfl)
    | (apply r_mvF;rfl)
    | (apply r_mvD;rfl)
    | (apply r_faddD;rfl)
    | (apply r_faddL;rfl)
    | (apply r_l;apply ld_kind;assumption;rfl)
    | (apply r_l;apply ld_mn;assumption;rfl)
    | (apply r_l;apply ld_mx;assumption;rfl)
    | (apply r_l;apply ld_subs;assumption;rfl)
    | (apply r_l;apply ld_set;assumption;rfl)
    | (apply r_l;apply ld_node;assumption;rfl)
    | (apply r_l;apply ld_kind';assumption;rfl)
    | (apply r_l;apply ld_mn';assumption;rfl)
    | (apply r_l;apply ld_mx';assumption;rfl)
    | (apply r_l;apply ld_subs';assumption;rfl)
    | (apply r_l;apply ld_node';assumption;rfl)
    | (apply r_p;apply ix_sub;rfl;rfl;omega)
    | (apply r_l;apply ld_node';exact hsu;rfl)
    | (apply r_callA (f:=62) (ags:=[nodeA u]);rfl;exact hna;exact hg)
    | (apply r_ldL;rfl;rfl;rfl)
    | (apply r_eql;rfl;rfl;(first | (apply dT;omega) | (apply dF;omega) | rfl))
    | (apply r_lss;rfl;rfl;(first | (apply dT;omega) | (apply dF;omega) | rfl))
    | (apply r_gtr;rfl;rfl;(first | (apply dT;omega) | (apply dF;omega) | rfl))
    | (apply r_geq;rfl;rfl;(first | (apply dT;omega) | (apply dF;omega) | rfl))
    | (apply r_add;rfl;rfl;rfl;omega)
    | (apply r_pickT;rfl)
    | (apply r_pickF;rfl)
    | (apply r_lenD;rfl)
    | (apply r_lenL;rfl)
    | (apply r_len0;rfl)
    | (apply r_gT;rfl)
    | (apply r_gF';rfl;rfl)
    | (apply r_gN';rfl)
    | ((apply r_gS (o:=default);rfl)<;>(intro h;try simp only [decide_eq_true_eq,decide_eq_false_iff_not,Bool.not_eq_true,Bool.not_eq_false] at h))
    | (apply r_box;((conv=>lhs;simp only [Nat.reduceAdd])<;>rfl);rfl;rfl;rfl)
    | (apply r_p;rfl)
    | (apply r_nilK)
    | (apply r_nil)
    | (apply k_V;rfl)
    | (apply k_P;rfl)
    | (apply k_PL;rfl)
    | (apply k_S;rfl)
    | (apply k_SL;rfl)
    | (apply k_A;rfl)
    | (apply k_T;rfl)
    | (apply k_F;rfl)
    | (apply k_D;rfl;rotate_left;rfl)
    | (apply k_nil)
    | (apply e_ret (vs:=[.d (.val _)]);rfl)
    | (apply e_ret;rfl)
    | (apply e_ret' (vs:=[.d (.val _)]);rfl)
    | (apply e_ret';rfl)
    | (apply w_seq)
    | (apply w_ops;((conv=>lhs;simp only [Nat.reduceAdd])<;>rfl))
    | (apply w_condT;rfl)
    | (apply w_condF;rfl)
    | ((apply w_condS;rfl)<;>(intro h;try simp only [decide_eq_true_eq,decide_eq_false_iff_not,Bool.not_eq_true,Bool.not_eq_false] at h))
    | (apply e_thenN)
    | (apply w_block)
    | (apply e_thenR)
    | (apply e_thenX)
    | (apply e_blkN)
    | (apply e_blkR)
    | (apply e_blkE)
    | (apply w_exit)
    | (apply w_ret)
    | (apply w_skip)
    | (apply e_blkE';rfl))
      apply e_thenK
      apply fin
      refine wkRs (by omega) ?_ ?_
      · intro p hp;simp only [List.mem_cons,List.not_mem_nil,or_false] at hp;rcases hp with rfl<;>exact ⟨by omega,rfl,rfl⟩
      · repeat' (first
    | exact FWk.nil
    | (apply FWk.i;rfl;(first | rfl | omega | (simp;done)))
    | (apply FWk.sl;rfl;rfl;rfl;rfl;omega;rfl)
    | (apply FWk.ptr;rfl;rfl;rfl;omega;rfl)
    | (apply FWk.d;rfl;rfl)
    | (apply FWk.a;rfl;rfl;rfl)
    | (apply FWk.slN;rfl;omega;rfl))
    · rw [List.take_of_length_le hge]
      generalize (knC subs faE).lo=f1
      repeat' (first
    | (apply r_mvV;rfl)
    | (apply r_mvP;rfl)
    | (apply r_mvPL;rfl)
    | (apply r_mvS;rfl)
    | (apply r_mvSL;rfl)
    | (apply r_mvA;rfl)
    | (apply r_mvT;rfl)
    | (apply r_mvF;rfl)
    | (apply r_mvD;rfl)
    | (apply r_faddD;rfl)
    | (apply r_faddL;rfl)
    | (apply r_l;apply ld_kind;assumption;rfl)
    | (apply r_l;apply ld_mn;assumption;rfl)
    | (apply r_l;apply ld_mx;assumption;rfl)
    | (apply r_l;apply ld_subs;assumption;rfl)
    | (apply r_l;apply ld_set;assumption;rfl)
    | (apply r_l;apply ld_node;assumption;rfl)
    | (apply r_l;apply ld_kind';assumption;rfl)
    | (apply r_l;apply ld_mn';assumption;rfl)
    | (apply r_l;apply ld_mx';assumption;rfl)
    | (apply r_l;apply ld_subs';assumption;rfl)
    | (apply r_l;apply ld_node';assumption;rfl)
    | (apply r_ldL;rfl;rfl;rfl)
    | (apply r_eql;rfl;rfl;(first | (apply dT;omega) | (apply dF;omega) | rfl))
    | (apply r_lss;rfl;rfl;(first | (apply dT;omega) | (apply dF;omega) | rfl))
    | (apply r_gtr;rfl;rfl;(first | (apply dT;omega) | (apply dF;omega) | rfl))
    | (apply r_geq;rfl;rfl;(first | (apply dT;omega) | (apply dF;omega) | rfl))
    | (apply r_add;rfl;rfl;rfl;omega)
    | (apply r_pickT;rfl)
    | (apply r_pickF;rfl)
    | (apply r_lenD;rfl)
    | (apply r_lenL;rfl)
    | (apply r_len0;rfl)
    | (apply r_gT;rfl)
    | (apply r_gF';rfl;rfl)
    | (apply r_gN';rfl)
    | ((apply r_gS (o:=default);rfl)<;>(intro h;try simp only [decide_eq_true_eq,decide_eq_false_iff_not,Bool.not_eq_true,Bool.not_eq_false] at h))
    | (apply r_box;((conv=>lhs;simp only [Nat.reduceAdd])<;>rfl);rfl;rfl;rfl)
    | (apply r_p;rfl)
    | (apply r_nilK)
    | (apply r_nil)
    | (apply k_V;rfl)
    | (apply k_P;rfl)
    | (apply k_PL;rfl)
    | (apply k_S;rfl)
    | (apply k_SL;rfl)
    | (apply k_A;rfl)
    | (apply k_T;rfl)
    | (apply k_F;rfl)
    | (apply k_D;rfl;rotate_left;rfl)
    | (apply k_nil)
    | (apply e_ret (vs:=[.d (.val _)]);rfl)
    | (apply e_ret;rfl)
    | (apply e_ret' (vs:=[.d (.val _)]);rfl)
    | (apply e_ret';rfl)
    | (apply w_seq)
    | (apply w_ops;((conv=>lhs;simp only [Nat.reduceAdd])<;>rfl))
    | (apply w_condT;rfl)
    | (apply w_condF;rfl)
    | ((apply w_condS;rfl)<;>(intro h;try simp only [decide_eq_true_eq,decide_eq_false_iff_not,Bool.not_eq_true,Bool.not_eq_false] at h))
    | (apply e_thenN)
    | (apply w_block)
    | (apply e_thenR)
    | (apply e_thenX)
    | (apply e_blkN)
    | (apply e_blkR)
    | (apply e_blkE)
    | (apply w_exit)
    | (apply w_ret)
    | (apply w_skip)
    | (apply e_blkE';rfl))
      exact retI rfl
  by_cases h4 : k=4
  · have e : knT (T.node k a b c d mn mx subs)=knO subs faNo:=by rw [knT,if_neg h2,if_neg h3,if_pos h4]
    rw [e] at hno ⊢
    have hacc : ∀ i,(((knO (subs.take i) faNo).no=true∧(knO (subs.take i) faNo).lo=-1) ∨ ((knO (subs.take i) faNo).no=false∧0≤(knO (subs.take i) faNo).lo))∧(knO (subs.take i) faNo).lo < 9223372036854775808:=by
      intro i
      have h1:=knO_ok (openT (T.node k a b c d mn mx subs)).toNat (subs.take i) faNo 0 (Int.le_refl _) (okF_no (Int.le_refl _)) (fun u hu=>hsub' u (List.mem_of_mem_take hu))
      have h5:=hpb i
      have h6:=h1.2.2.2.1
      refine ⟨?_,by omega⟩
      cases h4 : (knO (subs.take i) faNo).no with
      | true=>exact .inl ⟨rfl,by rw [h1.2.1 h4];rfl⟩
      | false=>exact .inr ⟨rfl,(h1.2.2.1 h4).1⟩
    have hlos : ∀ i (h : i < subs.length),((knT subs[i]).no=true∧(knT subs[i]).lo=-1) ∨ ((knT subs[i]).no=false∧0≤(knT subs[i]).lo):=fun i h=>by
      cases h4 : (knT subs[i]).no with
      | true=>exact .inl ⟨rfl,by rw [(hksub i h).2.1 h4];rfl⟩
      | false=>exact .inr ⟨rfl,((hksub i h).2.2.1 h4).1⟩
    have hstep : ∀ i (h : i < subs.length),(knO (subs.take (i + 1)) faNo).lo=if 0≤(knT subs[i]).lo∧((knO (subs.take i) faNo).lo < 0 ∨ (knT subs[i]).lo < (knO (subs.take i) faNo).lo) then (knT subs[i]).lo else (knO (subs.take i) faNo).lo:=fun i h=>by
      rw [knO_step subs i h]
      have h1:=(hacc i).1
      have h2:=hlos i h
      generalize knO (subs.take i) faNo=f at h1 ⊢
      generalize knT subs[i]=g at h2 ⊢
      rcases h1 with ⟨a1,b1⟩ | ⟨a1,b1⟩
      · rw [faOr,if_pos a1]
        rcases h2 with ⟨a2,b2⟩ | ⟨a2,b2⟩<;>(split<;>omega)
      · rw [faOr,if_neg (by simp [a1])]
        rcases h2 with ⟨a2,b2⟩ | ⟨a2,b2⟩
        · rw [if_pos a2];split<;>omega
        · rw [if_neg (by simp [a2])]
          simp only
          split<;>omega
    clear ih hkt hok hbt ht hR hpl hsub' hpb e hksub hoks hno
    refine b62 (by simp) (by simp) (w_init ?_)
    unfold x62
    repeat' (first
    | (apply r_mvV;rfl)
    | (apply r_mvP;rfl)
    | (apply r_mvPL;rfl)
    | (apply r_mvS;rfl)
    | (apply r_mvSL;rfl)
    | (apply r_mvA;rfl)
    | (apply r_mvT;rfl)
    | (apply r_mvF;rfl)
    | (apply r_mvD;rfl)
    | (apply r_faddD;rfl)
    | (apply r_faddL;rfl)
    | (apply r_l;apply ld_kind;assumption;rfl)
    | (apply r_l;apply ld_mn;assumption;rfl)
    | (apply r_l;apply ld_mx;assumption;rfl)
    | (apply r_l;apply ld_subs;assumption;rfl)
    | (apply r_l;apply ld_set;assumption;rfl)
    | (apply r_l;apply ld_node;assumption;rfl)
    | (apply r_l;apply ld_kind';assumption;rfl)
    | (apply r_l;apply ld_mn';assumption;rfl)
    | (apply r_l;apply ld_mx';assumption;rfl)
    | (apply r_l;apply ld_subs';assumption;rfl)
    | (apply r_l;apply ld_node';assumption;rfl)
    | (apply r_callA (f:=51);rfl;rfl;exact hnn)
    | (apply r_ldL;rfl;rfl;rfl)
    | (apply r_eql;rfl;rfl;(first | (apply dT;omega) | (apply dF;omega) | rfl))
    | (apply r_lss;rfl;rfl;(first | (apply dT;omega) | (apply dF;omega) | rfl))
    | (apply r_gtr;rfl;rfl;(first | (apply dT;omega) | (apply dF;omega) | rfl))
    | (apply r_geq;rfl;rfl;(first | (apply dT;omega) | (apply dF;omega) | rfl))
    | (apply r_add;rfl;rfl;rfl;omega)
    | (apply r_pickT;rfl)
    | (apply r_pickF;rfl)
    | (apply r_lenD;rfl)
    | (apply r_lenL;rfl)
    | (apply r_len0;rfl)
    | (apply r_gT;rfl)
    | (apply r_gF';rfl;rfl)
    | (apply r_gN';rfl)
    | ((apply r_gS (o:=default);rfl)<;>(intro h;try simp only [decide_eq_true_eq,decide_eq_false_iff_not,Bool.not_eq_true,Bool.not_eq_false] at h))
    | (apply r_box;((conv=>lhs;simp only [Nat.reduceAdd])<;>rfl);rfl;rfl;rfl)
    | (apply r_p;rfl)
    | (apply r_nilK)
    | (apply r_nil)
    | (apply k_V;rfl)
    | (apply k_P;rfl)
    | (apply k_PL;rfl)
    | (apply k_S;rfl)
    | (apply k_SL;rfl)
    | (apply k_A;rfl)
    | (apply k_T;rfl)
    | (apply k_F;rfl)
    | (apply k_D;rfl;rotate_left;rfl)
    | (apply k_nil)
    | (apply e_ret (vs:=[.d (.val _)]);rfl)
    | (apply e_ret;rfl)
    | (apply e_ret' (vs:=[.d (.val _)]);rfl)
    | (apply e_ret';rfl)
    | (apply w_seq)
    | (apply w_ops;((conv=>lhs;simp only [Nat.reduceAdd])<;>rfl))
    | (apply w_condT;rfl)
    | (apply w_condF;rfl)
    | ((apply w_condS;rfl)<;>(intro h;try simp only [decide_eq_true_eq,decide_eq_false_iff_not,Bool.not_eq_true,Bool.not_eq_false] at h))
    | (apply e_thenN)
    | (apply w_block)
    | (apply e_thenR)
    | (apply e_thenX)
    | (apply e_blkN)
    | (apply e_blkR)
    | (apply e_blkE)
    | (apply w_exit)
    | (apply w_ret)
    | (apply w_skip)
    | (apply e_blkE';rfl))
    apply w_loopI (S:=fun i : Nat=>⟨(((Fr.nil.put 1 (.ptrL 1 0)).put 5 (.i (knO (subs.take i) faNo).lo))).put 6 (.i i),rowsOf [(1,[.i k,.d (.val (.int .u64 a)),.d (.val (.int .u64 b)),.d (.val (.int .u64 c)),.d (.val (.int .u64 d)),.i mn,.i mx,.d (.sl (encL subs) subs.length)])],Frz.lo 100,100⟩) (m:=fun i=>subs.length - i) (I:=fun i=>i≤subs.length) (i0:=0)
    · exact Nat.zero_le _
    · refine wkRs (by omega) ?_ ?_
      · intro p hp;simp only [List.mem_cons,List.not_mem_nil,or_false] at hp;rcases hp with rfl<;>exact ⟨by omega,rfl,rfl⟩
      · repeat' (first
    | exact FWk.nil
    | (apply FWk.i;rfl;(first | rfl | omega | (simp;done)))
    | (apply FWk.sl;rfl;rfl;rfl;rfl;omega;rfl)
    | (apply FWk.ptr;rfl;rfl;rfl;omega;rfl)
    | (apply FWk.d;rfl;rfl)
    | (apply FWk.a;rfl;rfl;rfl)
    | (apply FWk.slN;rfl;omega;rfl))
    intro i K hi hK
    dsimp only
    rcases Nat.lt_or_ge i subs.length with hlt | hge
    · have hsu:=NodeAt.sub hlt
      have hg:=ih' i hlt
      have hs1:=hstep i hlt
      have hb1:=(hacc i).2
      have hnu:=nodeA_nrm subs[i]
      have hna : [nodeA subs[i]].all AV.nrm=true:=by rw [List.all_cons,hnu];rfl
      have fin : ∀ fr C Z nx,Wk ⟨fr,C,Z,nx⟩ ⟨(((Fr.nil.put 1 (.ptrL 1 0)).put 5 (.i (if 0≤(knT subs[i]).lo∧((knO (subs.take i) faNo).lo < 0 ∨ (knT subs[i]).lo < (knO (subs.take i) faNo).lo) then (knT subs[i]).lo else (knO (subs.take i) faNo).lo)))).put 6 (.i ((i + 1 : Nat) : Int)),rowsOf [(1,[.i k,.d (.val (.int .u64 a)),.d (.val (.int .u64 b)),.d (.val (.int .u64 c)),.d (.val (.int .u64 d)),.i mn,.i mx,.d (.sl (encL subs) subs.length)])],Frz.lo 100,100⟩→K ⟨fr,C,Z,nx⟩:=fun fr C Z nx hw=>hK (i + 1) fr C Z nx (by omega) (by omega) (by rw [hs1];exact hw)
      clear hs1
      generalize (knO (subs.take i) faNo).lo=f1 at *
      generalize (knT subs[i]).lo=g1 at *
      generalize subs[i]=u at hsu hg hna
      clear hacc hstep hlos ih'
      by_cases c1 : 0≤g1
      · by_cases c2 : f1 < 0
        · rw [if_pos ⟨c1,.inl c2⟩] at fin
          repeat' (first
    | (apply r_mvV;rfl)
    | (apply r_mvP;rfl)
    | (apply r_mvPL;rfl)
    | (apply r_mvS;rfl)
    | (apply r_mvSL;rfl)
    | (apply r_mvA;rfl)
    | (apply r_mvT;rfl)
    | (apply r_mvF;rfl)
    | (apply r_mvD;rfl)
    | (apply r_faddD;rfl)
    | (apply r_faddL;rfl)
    | (apply r_l;apply ld_kind;assumption;rfl)
    | (apply r_l;apply ld_mn;assumption;rfl)
    | (apply r_l;apply ld_mx;assumption;rfl)
    | (apply r_l;apply ld_subs;assumption;rfl)
    | (apply r_l;apply ld_set;assumption;rfl)
    | (apply r_l;apply ld_node;assumption;rfl)
    | (apply r_l;apply ld_kind';assumption;rfl)
    | (apply r_l;apply ld_mn';assumption;rfl)
    | (apply r_l;apply ld_mx';assumption;rfl)
    | (apply r_l;apply ld_subs';assumption;rfl)
    | (apply r_l;apply ld_node';assumption;rfl)
    | (apply r_p;apply ix_sub;rfl;rfl;omega)
    | (apply r_l;apply ld_node';exact hsu;rfl)
    | (apply r_callA (f:=62) (ags:=[nodeA u]);rfl;exact hna;exact hg)
    | (apply r_ldL;rfl;rfl;rfl)
    | (apply r_eql;rfl;rfl;(first | (apply dT;omega) | (apply dF;omega) | rfl))
    | (apply r_lss;rfl;rfl;(first | (apply dT;omega) | (apply dF;omega) | rfl))
    | (apply r_gtr;rfl;rfl;(first | (apply dT;omega) | (apply dF;omega) | rfl))
    | (apply r_geq;rfl;rfl;(first | (apply dT;omega) | (apply dF;omega) | rfl))
    | (apply r_add;rfl;rfl;rfl;omega)
    | (apply r_pickT;rfl)
    | (apply r_pickF;rfl)
    | (apply r_lenD;rfl)
    | (apply r_lenL;rfl)
    | (apply r_len0;rfl)
    | (apply r_gT;rfl)
    | (apply r_gF';rfl;rfl)
    | (apply r_gN';rfl)
    | ((apply r_gS (o:=default);rfl)<;>(intro h;try simp only [decide_eq_true_eq,decide_eq_false_iff_not,Bool.not_eq_true,Bool.not_eq_false] at h))
    | (apply r_box;((conv=>lhs;simp only [Nat.reduceAdd])<;>rfl);rfl;rfl;rfl)
    | (apply r_p;rfl)
    | (apply r_nilK)
    | (apply r_nil)
    | (apply k_V;rfl)
    | (apply k_P;rfl)
    | (apply k_PL;rfl)
    | (apply k_S;rfl)
    | (apply k_SL;rfl)
    | (apply k_A;rfl)
    | (apply k_T;rfl)
    | (apply k_F;rfl)
    | (apply k_D;rfl;rotate_left;rfl)
    | (apply k_nil)
    | (apply e_ret (vs:=[.d (.val _)]);rfl)
    | (apply e_ret;rfl)
    | (apply e_ret' (vs:=[.d (.val _)]);rfl)
    | (apply e_ret';rfl)
    | (apply w_seq)
    | (apply w_ops;((conv=>lhs;simp only [Nat.reduceAdd])<;>rfl))
    | (apply w_condT;rfl)
    | (apply w_condF;rfl)
    | ((apply w_condS;rfl)<;>(intro h;try simp only [decide_eq_true_eq,decide_eq_false_iff_not,Bool.not_eq_true,Bool.not_eq_false] at h))
    | (apply e_thenN)
    | (apply w_block)
    | (apply e_thenR)
    | (apply e_thenX)
    | (apply e_blkN)
    | (apply e_blkR)
    | (apply e_blkE)
    | (apply w_exit)
    | (apply w_ret)
    | (apply w_skip)
    | (apply e_blkE';rfl))
          apply e_thenK
          apply fin
          refine wkRs (by omega) ?_ ?_
          · intro p hp;simp only [List.mem_cons,List.not_mem_nil,or_false] at hp;rcases hp with rfl<;>exact ⟨by omega,rfl,rfl⟩
          · repeat' (first
    | exact FWk.nil
    | (apply FWk.i;rfl;(first | rfl | omega | (simp;done)))
    | (apply FWk.sl;rfl;rfl;rfl;rfl;omega;rfl)
    | (apply FWk.ptr;rfl;rfl;rfl;omega;rfl)
    | (apply FWk.d;rfl;rfl)
    | (apply FWk.a;rfl;rfl;rfl)
    | (apply FWk.slN;rfl;omega;rfl))
        · by_cases c3 : g1 < f1
          · rw [if_pos ⟨c1,.inr c3⟩] at fin
            repeat' (first
    | (apply r_mvV;rfl)
    | (apply r_mvP;rfl)
    | (apply r_mvPL;rfl)
    | (apply r_mvS;rfl)
    | (apply r_mvSL;rfl)
    | (apply r_mvA;rfl)
    | (apply r_mvT;rfl)
    | (apply r_mvF;rfl)
    | (apply r_mvD;rfl)
    | (apply r_faddD;rfl)
    | (apply r_faddL;rfl)
    | (apply r_l;apply ld_kind;assumption;rfl)
    | (apply r_l;apply ld_mn;assumption;rfl)
    | (apply r_l;apply ld_mx;assumption;rfl)
    | (apply r_l;apply ld_subs;assumption;rfl)
    | (apply r_l;apply ld_set;assumption;rfl)
    | (apply r_l;apply ld_node;assumption;rfl)
    | (apply r_l;apply ld_kind';assumption;rfl)
    | (apply r_l;apply ld_mn';assumption;rfl)
    | (apply r_l;apply ld_mx';assumption;rfl)
    | (apply r_l;apply ld_subs';assumption;rfl)
    | (apply r_l;apply ld_node';assumption;rfl)
    | (apply r_p;apply ix_sub;rfl;rfl;omega)
    | (apply r_l;apply ld_node';exact hsu;rfl)
    | (apply r_callA (f:=62) (ags:=[nodeA u]);rfl;exact hna;exact hg)
    | (apply r_ldL;rfl;rfl;rfl)
    | (apply r_eql;rfl;rfl;(first | (apply dT;omega) | (apply dF;omega) | rfl))
    | (apply r_lss;rfl;rfl;(first | (apply dT;omega) | (apply dF;omega) | rfl))
    | (apply r_gtr;rfl;rfl;(first | (apply dT;omega) | (apply dF;omega) | rfl))
    | (apply r_geq;rfl;rfl;(first | (apply dT;omega) | (apply dF;omega) | rfl))
    | (apply r_add;rfl;rfl;rfl;omega)
    | (apply r_pickT;rfl)
    | (apply r_pickF;rfl)
    | (apply r_lenD;rfl)
    | (apply r_lenL;rfl)
    | (apply r_len0;rfl)
    | (apply r_gT;rfl)
    | (apply r_gF';rfl;rfl)
    | (apply r_gN';rfl)
    | ((apply r_gS (o:=default);rfl)<;>(intro h;try simp only [decide_eq_true_eq,decide_eq_false_iff_not,Bool.not_eq_true,Bool.not_eq_false] at h))
    | (apply r_box;((conv=>lhs;simp only [Nat.reduceAdd])<;>rfl);rfl;rfl;rfl)
    | (apply r_p;rfl)
    | (apply r_nilK)
    | (apply r_nil)
    | (apply k_V;rfl)
    | (apply k_P;rfl)
    | (apply k_PL;rfl)
    | (apply k_S;rfl)
    | (apply k_SL;rfl)
    | (apply k_A;rfl)
    | (apply k_T;rfl)
    | (apply k_F;rfl)
    | (apply k_D;rfl;rotate_left;rfl)
    | (apply k_nil)
    | (apply e_ret (vs:=[.d (.val _)]);rfl)
    | (apply e_ret;rfl)
    | (apply e_ret' (vs:=[.d (.val _)]);rfl)
    | (apply e_ret';rfl)
    | (apply w_seq)
    | (apply w_ops;((conv=>lhs;simp only [Nat.reduceAdd])<;>rfl))
    | (apply w_condT;rfl)
    | (apply w_condF;rfl)
    | ((apply w_condS;rfl)<;>(intro h;try simp only [decide_eq_true_eq,decide_eq_false_iff_not,Bool.not_eq_true,Bool.not_eq_false] at h))
    | (apply e_thenN)
    | (apply w_block)
    | (apply e_thenR)
    | (apply e_thenX)
    | (apply e_blkN)
    | (apply e_blkR)
    | (apply e_blkE)
    | (apply w_exit)
    | (apply w_ret)
    | (apply w_skip)
    | (apply e_blkE';rfl))
            apply e_thenK
            apply fin
            refine wkRs (by omega) ?_ ?_
            · intro p hp;simp only [List.mem_cons,List.not_mem_nil,or_false] at hp;rcases hp with rfl<;>exact ⟨by omega,rfl,rfl⟩
            · repeat' (first
    | exact FWk.nil
    | (apply FWk.i;rfl;(first | rfl | omega | (simp;done)))
    | (apply FWk.sl;rfl;rfl;rfl;rfl;omega;rfl)
    | (apply FWk.ptr;rfl;rfl;rfl;omega;rfl)
    | (apply FWk.d;rfl;rfl)
    | (apply FWk.a;rfl;rfl;rfl)
    | (apply FWk.slN;rfl;omega;rfl))
          · rw [if_neg (by omega)] at fin
            repeat' (first
    | (apply r_mvV;rfl)
    | (apply r_mvP;rfl)
    | (apply r_mvPL;rfl)
    | (apply r_mvS;rfl)
    | (apply r_mvSL;rfl)
    | (apply r_mvA;rfl)
    | (apply r_mvT;rfl)
    | (apply r_mvF;rfl)
    | (apply r_mvD;rfl)
    | (apply r_faddD;rfl)
    | (apply r_faddL;rfl)
    | (apply r_l;apply ld_kind;assumption;rfl)
    | (apply r_l;apply ld_mn;assumption;rfl)
    | (apply r_l;apply ld_mx;assumption;rfl)
    | (apply r_l;apply ld_subs;assumption;rfl)
    | (apply r_l;apply ld_set;assumption;rfl)
    | (apply r_l;apply ld_node;assumption;rfl)
    | (apply r_l;apply ld_kind';assumption;rfl)
    | (apply r_l;apply ld_mn';assumption;rfl)
    | (apply r_l;apply ld_mx';assumption;rfl)
    | (apply r_l;apply ld_subs';assumption;rfl)
    | (apply r_l;apply ld_node';assumption;rfl)
    | (apply r_p;apply ix_sub;rfl;rfl;omega)
    | (apply r_l;apply ld_node';exact hsu;rfl)
    | (apply r_callA (f:=62) (ags:=[nodeA u]);rfl;exact hna;exact hg)
    | (apply r_ldL;rfl;rfl;rfl)
    | (apply r_eql;rfl;rfl;(first | (apply dT;omega) | (apply dF;omega) | rfl))
    | (apply r_lss;rfl;rfl;(first | (apply dT;omega) | (apply dF;omega) | rfl))
    | (apply r_gtr;rfl;rfl;(first | (apply dT;omega) | (apply dF;omega) | rfl))
    | (apply r_geq;rfl;rfl;(first | (apply dT;omega) | (apply dF;omega) | rfl))
    | (apply r_add;rfl;rfl;rfl;omega)
    | (apply r_pickT;rfl)
    | (apply r_pickF;rfl)
    | (apply r_lenD;rfl)
    | (apply r_lenL;rfl)
    | (apply r_len0;rfl)
    | (apply r_gT;rfl)
    | (apply r_gF';rfl;rfl)
    | (apply r_gN';rfl)
    | ((apply r_gS (o:=default);rfl)<;>(intro h;try simp only [decide_eq_true_eq,decide_eq_false_iff_not,Bool.not_eq_true,Bool.not_eq_false] at h))
    | (apply r_box;((conv=>lhs;simp only [Nat.reduceAdd])<;>rfl);rfl;rfl;rfl)
    | (apply r_p;rfl)
    | (apply r_nilK)
    | (apply r_nil)
    | (apply k_V;rfl)
    | (apply k_P;rfl)
    | (apply k_PL;rfl)
    | (apply k_S;rfl)
    | (apply k_SL;rfl)
    | (apply k_A;rfl)
    | (apply k_T;rfl)
    | (apply k_F;rfl)
    | (apply k_D;rfl;rotate_left;rfl)
    | (apply k_nil)
    | (apply e_ret (vs:=[.d (.val _)]);rfl)
    | (apply e_ret;rfl)
    | (apply e_ret' (vs:=[.d (.val _)]);rfl)
    | (apply e_ret';rfl)
    | (apply w_seq)
    | (apply w_ops;((conv=>lhs;simp only [Nat.reduceAdd])<;>rfl))
    | (apply w_condT;rfl)
    | (apply w_condF;rfl)
    | ((apply w_condS;rfl)<;>(intro h;try simp only [decide_eq_true_eq,decide_eq_false_iff_not,Bool.not_eq_true,Bool.not_eq_false] at h))
    | (apply e_thenN)
    | (apply w_block)
    | (apply e_thenR)
    | (apply e_thenX)
    | (apply e_blkN)
    | (apply e_blkR)
    | (apply e_blkE)
    | (apply w_exit)
    | (apply w_ret)
    | (apply w_skip)
    | (apply e_blkE';rfl))
            apply e_thenK
            apply fin
            refine wkRs (by omega) ?_ ?_
            · intro p hp;simp only [List.mem_cons,List.not_mem_nil,or_false] at hp;rcases hp with rfl<;>exact ⟨by omega,rfl,rfl⟩
            · repeat' (first
    | exact FWk.nil
    | (apply FWk.i;rfl;(first | rfl | omega | (simp;done)))
    | (apply FWk.sl;rfl;rfl;rfl;rfl;omega;rfl)
    | (apply FWk.ptr;rfl;rfl;rfl;omega;rfl)
    | (apply FWk.d;rfl;rfl)
    | (apply FWk.a;rfl;rfl;rfl)
    | (apply FWk.slN;rfl;omega;rfl))
      · rw [if_neg (by omega)] at fin
        repeat' (first
    | (apply r_mvV;rfl)
    | (apply r_mvP;rfl)
    | (apply r_mvPL;rfl)
    | (apply r_mvS;rfl)
    | (apply r_mvSL;rfl)
    | (apply r_mvA;rfl)
    | (apply r_mvT;rfl)
    | (apply r_mvF;rfl)
    | (apply r_mvD;rfl)
    | (apply r_faddD;rfl)
    | (apply r_faddL;rfl)
    | (apply r_l;apply ld_kind;assumption;rfl)
    | (apply r_l;apply ld_mn;assumption;rfl)
    | (apply r_l;apply ld_mx;assumption;rfl)
    | (apply r_l;apply ld_subs;assumption;rfl)
    | (apply r_l;apply ld_set;assumption;rfl)
    | (apply r_l;apply ld_node;assumption;rfl)
    | (apply r_l;apply ld_kind';assumption;rfl)
    | (apply r_l;apply ld_mn';assumption;rfl)
    | (apply r_l;apply ld_mx';assumption;rfl)
    | (apply r_l;apply ld_subs';assumption;rfl)
    | (apply r_l;apply ld_node';assumption;rfl)
    | (apply r_p;apply ix_sub;rfl;rfl;omega)
    | (apply r_l;apply ld_node';exact hsu;rfl)
    | (apply r_callA (f:=62) (ags:=[nodeA u]);rfl;exact hna;exact hg)
    | (apply r_ldL;rfl;rfl;rfl)
    | (apply r_eql;rfl;rfl;(first | (apply dT;omega) | (apply dF;omega) | rfl))
    | (apply r_lss;rfl;rfl;(first | (apply dT;omega) | (apply dF;omega) | rfl))
    | (apply r_gtr;rfl;rfl;(first | (apply dT;omega) | (apply dF;omega) | rfl))
    | (apply r_geq;rfl;rfl;(first | (apply dT;omega) | (apply dF;omega) | rfl))
    | (apply r_add;rfl;rfl;rfl;omega)
    | (apply r_pickT;rfl)
    | (apply r_pickF;rfl)
    | (apply r_lenD;rfl)
    | (apply r_lenL;rfl)
    | (apply r_len0;rfl)
    | (apply r_gT;rfl)
    | (apply r_gF';rfl;rfl)
    | (apply r_gN';rfl)
    | ((apply r_gS (o:=default);rfl)<;>(intro h;try simp only [decide_eq_true_eq,decide_eq_false_iff_not,Bool.not_eq_true,Bool.not_eq_false] at h))
    | (apply r_box;((conv=>lhs;simp only [Nat.reduceAdd])<;>rfl);rfl;rfl;rfl)
    | (apply r_p;rfl)
    | (apply r_nilK)
    | (apply r_nil)
    | (apply k_V;rfl)
    | (apply k_P;rfl)
    | (apply k_PL;rfl)
    | (apply k_S;rfl)
    | (apply k_SL;rfl)
    | (apply k_A;rfl)
    | (apply k_T;rfl)
    | (apply k_F;rfl)
    | (apply k_D;rfl;rotate_left;rfl)
    | (apply k_nil)
    | (apply e_ret (vs:=[.d (.val _)]);rfl)
    | (apply e_ret;rfl)
    | (apply e_ret' (vs:=[.d (.val _)]);rfl)
    | (apply e_ret';rfl)
    | (apply w_seq)
    | (apply w_ops;((conv=>lhs;simp only [Nat.reduceAdd])<;>rfl))
    | (apply w_condT;rfl)
    | (apply w_condF;rfl)
    | ((apply w_condS;rfl)<;>(intro h;try simp only [decide_eq_true_eq,decide_eq_false_iff_not,Bool.not_eq_true,Bool.not_eq_false] at h))
    | (apply e_thenN)
    | (apply w_block)
    | (apply e_thenR)
    | (apply e_thenX)
    | (apply e_blkN)
    | (apply e_blkR)
    | (apply e_blkE)
    | (apply w_exit)
    | (apply w_ret)
    | (apply w_skip)
    | (apply e_blkE';rfl))
        apply e_thenK
        apply fin
        refine wkRs (by omega) ?_ ?_
        · intro p hp;simp only [List.mem_cons,List.not_mem_nil,or_false] at hp;rcases hp with rfl<;>exact ⟨by omega,rfl,rfl⟩
        · repeat' (first
    | exact FWk.nil
    | (apply FWk.i;rfl;(first | rfl | omega | (simp;done)))
    | (apply FWk.sl;rfl;rfl;rfl;rfl;omega;rfl)
    | (apply FWk.ptr;rfl;rfl;rfl;omega;rfl)
    | (apply FWk.d;rfl;rfl)
    | (apply FWk.a;rfl;rfl;rfl)
    | (apply FWk.slN;rfl;omega;rfl))
    · rw [List.take_of_length_le hge]
      generalize (knO subs faNo).lo=f1
      repeat' (first
    | (apply r_mvV;rfl)
    | (apply r_mvP;rfl)
    | (apply r_mvPL;rfl)
    | (apply r_mvS;rfl)
    | (apply r_mvSL;rfl)
    | (apply r_mvA;rfl)
    | (apply r_mvT;rfl)
    | (apply r_mvF;rfl)
    | (apply r_mvD;rfl)
    | (apply r_faddD;rfl)
    | (apply r_faddL;rfl)
    | (apply r_l;apply ld_kind;assumption;rfl)
    | (apply r_l;apply ld_mn;assumption;rfl)
    | (apply r_l;apply ld_mx;assumption;rfl)
    | (apply r_l;apply ld_subs;assumption;rfl)
    | (apply r_l;apply ld_set;assumption;rfl)
    | (apply r_l;apply ld_node;assumption;rfl)
    | (apply r_l;apply ld_kind';assumption;rfl)
    | (apply r_l;apply ld_mn';assumption;rfl)
    | (apply r_l;apply ld_mx';assumption;rfl)
    | (apply r_l;apply ld_subs';assumption;rfl)
    | (apply r_l;apply ld_node';assumption;rfl)
    | (apply r_ldL;rfl;rfl;rfl)
    | (apply r_eql;rfl;rfl;(first | (apply dT;omega) | (apply dF;omega) | rfl))
    | (apply r_lss;rfl;rfl;(first | (apply dT;omega) | (apply dF;omega) | rfl))
    | (apply r_gtr;rfl;rfl;(first | (apply dT;omega) | (apply dF;omega) | rfl))
    | (apply r_geq;rfl;rfl;(first | (apply dT;omega) | (apply dF;omega) | rfl))
    | (apply r_add;rfl;rfl;rfl;omega)
    | (apply r_pickT;rfl)
    | (apply r_pickF;rfl)
    | (apply r_lenD;rfl)
    | (apply r_lenL;rfl)
    | (apply r_len0;rfl)
    | (apply r_gT;rfl)
    | (apply r_gF';rfl;rfl)
    | (apply r_gN';rfl)
    | ((apply r_gS (o:=default);rfl)<;>(intro h;try simp only [decide_eq_true_eq,decide_eq_false_iff_not,Bool.not_eq_true,Bool.not_eq_false] at h))
    | (apply r_box;((conv=>lhs;simp only [Nat.reduceAdd])<;>rfl);rfl;rfl;rfl)
    | (apply r_p;rfl)
    | (apply r_nilK)
    | (apply r_nil)
    | (apply k_V;rfl)
    | (apply k_P;rfl)
    | (apply k_PL;rfl)
    | (apply k_S;rfl)
    | (apply k_SL;rfl)
    | (apply k_A;rfl)
    | (apply k_T;rfl)
    | (apply k_F;rfl)
    | (apply k_D;rfl;rotate_left;rfl)
    | (apply k_nil)
    | (apply e_ret (vs:=[.d (.val _)]);rfl)
    | (apply e_ret;rfl)
    | (apply e_ret' (vs:=[.d (.val _)]);rfl)
    | (apply e_ret';rfl)
    | (apply w_seq)
    | (apply w_ops;((conv=>lhs;simp only [Nat.reduceAdd])<;>rfl))
    | (apply w_condT;rfl)
    | (apply w_condF;rfl)
    | ((apply w_condS;rfl)<;>(intro h;try simp only [decide_eq_true_eq,decide_eq_false_iff_not,Bool.not_eq_true,Bool.not_eq_false] at h))
    | (apply e_thenN)
    | (apply w_block)
    | (apply e_thenR)
    | (apply e_thenX)
    | (apply e_blkN)
    | (apply e_blkR)
    | (apply e_blkE)
    | (apply w_exit)
    | (apply w_ret)
    | (apply w_skip)
    | (apply e_blkE';rfl))
      exact retI rfl
  by_cases h5 : k=5
  · obtain ⟨u,rfl⟩ : ∃ u,subs=[u]:=by
      subst h5;exact plainT_5 hpl
    have e : knT (.node k a b c d mn mx [u])=faTimes (knT u) mn mx:=by rw [knT,if_neg h2,if_neg h3,if_neg h4,if_pos h5,knR]
    have hr:=hR h5
    have hg:=ih' 0 (by simp)
    simp only [List.getElem_cons_zero] at hg
    have hs:=NodeAt.sub (l:=[u]) (i:=0) (by simp)
    simp only [List.getElem_cons_zero,Nat.zero_mul] at hs
    have h22:=hkt.2.2.2.1
    have hku:=hksub 0 (by simp)
    simp only [List.getElem_cons_zero] at hku
    rw [e] at hno h22 ⊢
    have hnu:=nodeA_nrm u
    have hna : [nodeA u].all AV.nrm=true:=by rw [List.all_cons,hnu];rfl
    clear ih ih' hksub hkt hok hoks ht hsub' hpb e hR hpl
    by_cases c1 : 0 < mn
    · have hlo : (faTimes (knT u) mn mx).lo=mn * (knT u).lo:=by
        unfold faTimes at hno ⊢
        rw [if_neg (by omega)] at hno ⊢
        split
        · rename_i hf;rw [if_pos hf] at hno;simp [faNo] at hno
        · exact Int.mul_comm _ _
      have hge0 : -9223372036854775808≤mn * (knT u).lo:=by
        have : (knT u).no=false:=by
          cases hx : (knT u).no with
          | false=>rfl
          | true =>
            unfold faTimes at hno
            rw [if_neg (by omega),if_pos hx] at hno
            simp [faNo] at hno
        have h0 : -1≤(knT u).lo:=by
          have:=(hku.2.2.1 this).1
          omega
        have : mn * (-1)≤mn * (knT u).lo:=Int.mul_le_mul_of_nonneg_left h0 (by omega)
        omega
      rw [hlo] at h22 ⊢
      have hrange : -9223372036854775808≤mn * (knT u).lo∧mn * (knT u).lo < 9223372036854775808:=by omega
      generalize (knT u).lo=g1 at *
      refine b62 (by simp) (by simp) (w_init ?_)
      unfold x62
      repeat' (first
    | (apply r_mvV;rfl)
    | (apply r_mvP;rfl)
    | (apply r_mvPL;rfl)
    | (apply r_mvS;rfl)
    | (apply r_mvSL;rfl)
    | (apply r_mvA;rfl)
    | (apply r_mvT;rfl)
    | (apply r_mvF;rfl)
    | (apply r_mvD;rfl)
    | (apply r_faddD;rfl)
    | (apply r_faddL;rfl)
    | (apply r_l;apply ld_kind;assumption;rfl)
    | (apply r_l;apply ld_mn;assumption;rfl)
    | (apply r_l;apply ld_mx;assumption;rfl)
    | (apply r_l;apply ld_subs;assumption;rfl)
    | (apply r_l;apply ld_set;assumption;rfl)
    | (apply r_l;apply ld_node;assumption;rfl)
    | (apply r_l;apply ld_kind';assumption;rfl)
    | (apply r_l;apply ld_mn';assumption;rfl)
    | (apply r_l;apply ld_mx';assumption;rfl)
    | (apply r_l;apply ld_subs';assumption;rfl)
    | (apply r_l;apply ld_node';assumption;rfl)
    | (apply r_callA (f:=51);rfl;rfl;exact hnn)
    | (apply r_p;apply ix_sub0;rfl;rfl;simp)
    | (apply r_l;apply ld_node';exact hs;rfl)
    | (apply r_callA (f:=62) (ags:=[nodeA u]);rfl;exact hna;exact hg)
    | (apply r_mul;rfl;rfl;rfl;exact hrange)
    | (apply r_ldL;rfl;rfl;rfl)
    | (apply r_eql;rfl;rfl;(first | (apply dT;omega) | (apply dF;omega) | rfl))
    | (apply r_lss;rfl;rfl;(first | (apply dT;omega) | (apply dF;omega) | rfl))
    | (apply r_gtr;rfl;rfl;(first | (apply dT;omega) | (apply dF;omega) | rfl))
    | (apply r_geq;rfl;rfl;(first | (apply dT;omega) | (apply dF;omega) | rfl))
    | (apply r_add;rfl;rfl;rfl;omega)
    | (apply r_pickT;rfl)
    | (apply r_pickF;rfl)
    | (apply r_lenD;rfl)
    | (apply r_lenL;rfl)
    | (apply r_len0;rfl)
    | (apply r_gT;rfl)
    | (apply r_gF';rfl;rfl)
    | (apply r_gN';rfl)
    | ((apply r_gS (o:=default);rfl)<;>(intro h;try simp only [decide_eq_true_eq,decide_eq_false_iff_not,Bool.not_eq_true,Bool.not_eq_false] at h))
    | (apply r_box;((conv=>lhs;simp only [Nat.reduceAdd])<;>rfl);rfl;rfl;rfl)
    | (apply r_p;rfl)
    | (apply r_nilK)
    | (apply r_nil)
    | (apply k_V;rfl)
    | (apply k_P;rfl)
    | (apply k_PL;rfl)
    | (apply k_S;rfl)
    | (apply k_SL;rfl)
    | (apply k_A;rfl)
    | (apply k_T;rfl)
    | (apply k_F;rfl)
    | (apply k_D;rfl;rotate_left;rfl)
    | (apply k_nil)
    | (apply e_ret (vs:=[.d (.val _)]);rfl)
    | (apply e_ret;rfl)
    | (apply e_ret' (vs:=[.d (.val _)]);rfl)
    | (apply e_ret';rfl)
    | (apply w_seq)
    | (apply w_ops;((conv=>lhs;simp only [Nat.reduceAdd])<;>rfl))
    | (apply w_condT;rfl)
    | (apply w_condF;rfl)
    | ((apply w_condS;rfl)<;>(intro h;try simp only [decide_eq_true_eq,decide_eq_false_iff_not,Bool.not_eq_true,Bool.not_eq_false] at h))
    | (apply e_thenN)
    | (apply w_block)
    | (apply e_thenR)
    | (apply e_thenX)
    | (apply e_blkN)
    | (apply e_blkR)
    | (apply e_blkE)
    | (apply w_exit)
    | (apply w_ret)
    | (apply w_skip)
    | (apply e_blkE';rfl))
      exact retI rfl
    · have hlo : (faTimes (knT u) mn mx).lo=0:=by
        have : mn=0:=by omega
        subst this
        unfold faTimes at hno ⊢
        split
        · rfl
        · split
          · rename_i h1 h2;simp [h2] at h1
          · simp
      rw [hlo]
      refine b62 (by simp) (by simp) (w_init ?_)
      unfold x62
      repeat' (first
    | (apply r_mvV;rfl)
    | (apply r_mvP;rfl)
    | (apply r_mvPL;rfl)
    | (apply r_mvS;rfl)
    | (apply r_mvSL;rfl)
    | (apply r_mvA;rfl)
    | (apply r_mvT;rfl)
    | (apply r_mvF;rfl)
    | (apply r_mvD;rfl)
    | (apply r_faddD;rfl)
    | (apply r_faddL;rfl)
    | (apply r_l;apply ld_kind;assumption;rfl)
    | (apply r_l;apply ld_mn;assumption;rfl)
    | (apply r_l;apply ld_mx;assumption;rfl)
    | (apply r_l;apply ld_subs;assumption;rfl)
    | (apply r_l;apply ld_set;assumption;rfl)
    | (apply r_l;apply ld_node;assumption;rfl)
    | (apply r_l;apply ld_kind';assumption;rfl)
    | (apply r_l;apply ld_mn';assumption;rfl)
    | (apply r_l;apply ld_mx';assumption;rfl)
    | (apply r_l;apply ld_subs';assumption;rfl)
    | (apply r_l;apply ld_node';assumption;rfl)
    | (apply r_callA (f:=51);rfl;rfl;exact hnn)
    | (apply r_ldL;rfl;rfl;rfl)
    | (apply r_eql;rfl;rfl;(first | (apply dT;omega) | (apply dF;omega) | rfl))
    | (apply r_lss;rfl;rfl;(first | (apply dT;omega) | (apply dF;omega) | rfl))
    | (apply r_gtr;rfl;rfl;(first | (apply dT;omega) | (apply dF;omega) | rfl))
    | (apply r_geq;rfl;rfl;(first | (apply dT;omega) | (apply dF;omega) | rfl))
    | (apply r_add;rfl;rfl;rfl;omega)
    | (apply r_pickT;rfl)
    | (apply r_pickF;rfl)
    | (apply r_lenD;rfl)
    | (apply r_lenL;rfl)
    | (apply r_len0;rfl)
    | (apply r_gT;rfl)
    | (apply r_gF';rfl;rfl)
    | (apply r_gN';rfl)
    | ((apply r_gS (o:=default);rfl)<;>(intro h;try simp only [decide_eq_true_eq,decide_eq_false_iff_not,Bool.not_eq_true,Bool.not_eq_false] at h))
    | (apply r_box;((conv=>lhs;simp only [Nat.reduceAdd])<;>rfl);rfl;rfl;rfl)
    | (apply r_p;rfl)
    | (apply r_nilK)
    | (apply r_nil)
    | (apply k_V;rfl)
    | (apply k_P;rfl)
    | (apply k_PL;rfl)
    | (apply k_S;rfl)
    | (apply k_SL;rfl)
    | (apply k_A;rfl)
    | (apply k_T;rfl)
    | (apply k_F;rfl)
    | (apply k_D;rfl;rotate_left;rfl)
    | (apply k_nil)
    | (apply e_ret (vs:=[.d (.val _)]);rfl)
    | (apply e_ret;rfl)
    | (apply e_ret' (vs:=[.d (.val _)]);rfl)
    | (apply e_ret';rfl)
    | (apply w_seq)
    | (apply w_ops;((conv=>lhs;simp only [Nat.reduceAdd])<;>rfl))
    | (apply w_condT;rfl)
    | (apply w_condF;rfl)
    | ((apply w_condS;rfl)<;>(intro h;try simp only [decide_eq_true_eq,decide_eq_false_iff_not,Bool.not_eq_true,Bool.not_eq_false] at h))
    | (apply e_thenN)
    | (apply w_block)
    | (apply e_thenR)
    | (apply e_thenX)
    | (apply e_blkN)
    | (apply e_blkR)
    | (apply e_blkE)
    | (apply w_exit)
    | (apply w_ret)
    | (apply w_skip)
    | (apply e_blkE';rfl))
      exact retI rfl
  · have e : (knT (T.node k a b c d mn mx subs)).lo=0:=by rw [knT,if_neg h2,if_neg h3,if_neg h4,if_neg h5];rfl
    rw [e]
    clear ih ih' hksub hkt hok hoks hbt ht hsub' hpb hR hpl hno e
    refine b62 (by simp) (by simp) (w_init ?_)
    unfold x62
    repeat' (first
    | (apply r_mvV;rfl)
    | (apply r_mvP;rfl)
    | (apply r_mvPL;rfl)
    | (apply r_mvS;rfl)
    | (apply r_mvSL;rfl)
    | (apply r_mvA;rfl)
    | (apply r_mvT;rfl)
    | (apply r_mvF;rfl)
    | (apply r_mvD;rfl)
    | (apply r_faddD;rfl)
    | (apply r_faddL;rfl)
    | (apply r_l;apply ld_kind;assumption;rfl)
    | (apply r_l;apply ld_mn;assumption;rfl)
    | (apply r_l;apply ld_mx;assumption;rfl)
    | (apply r_l;apply ld_subs;assumption;rfl)
    | (apply r_l;apply ld_set;assumption;rfl)
    | (apply r_l;apply ld_node;assumption;rfl)
    | (apply r_l;apply ld_kind';assumption;rfl)
    | (apply r_l;apply ld_mn';assumption;rfl)
    | (apply r_l;apply ld_mx';assumption;rfl)
    | (apply r_l;apply ld_subs';assumption;rfl)
    | (apply r_l;apply ld_node';assumption;rfl)
    | (apply r_callA (f:=51);rfl;rfl;exact hnn)
    | (apply r_ldL;rfl;rfl;rfl)
    | (apply r_eql;rfl;rfl;(first | (apply dT;omega) | (apply dF;omega) | rfl))
    | (apply r_lss;rfl;rfl;(first | (apply dT;omega) | (apply dF;omega) | rfl))
    | (apply r_gtr;rfl;rfl;(first | (apply dT;omega) | (apply dF;omega) | rfl))
    | (apply r_geq;rfl;rfl;(first | (apply dT;omega) | (apply dF;omega) | rfl))
    | (apply r_add;rfl;rfl;rfl;omega)
    | (apply r_pickT;rfl)
    | (apply r_pickF;rfl)
    | (apply r_lenD;rfl)
    | (apply r_lenL;rfl)
    | (apply r_len0;rfl)
    | (apply r_gT;rfl)
    | (apply r_gF';rfl;rfl)
    | (apply r_gN';rfl)
    | ((apply r_gS (o:=default);rfl)<;>(intro h;try simp only [decide_eq_true_eq,decide_eq_false_iff_not,Bool.not_eq_true,Bool.not_eq_false] at h))
    | (apply r_box;((conv=>lhs;simp only [Nat.reduceAdd])<;>rfl);rfl;rfl;rfl)
    | (apply r_p;rfl)
    | (apply r_nilK)
    | (apply r_nil)
    | (apply k_V;rfl)
    | (apply k_P;rfl)
    | (apply k_PL;rfl)
    | (apply k_S;rfl)
    | (apply k_SL;rfl)
    | (apply k_A;rfl)
    | (apply k_T;rfl)
    | (apply k_F;rfl)
    | (apply k_D;rfl;rotate_left;rfl)
    | (apply k_nil)
    | (apply e_ret (vs:=[.d (.val _)]);rfl)
    | (apply e_ret;rfl)
    | (apply e_ret' (vs:=[.d (.val _)]);rfl)
    | (apply e_ret';rfl)
    | (apply w_seq)
    | (apply w_ops;((conv=>lhs;simp only [Nat.reduceAdd])<;>rfl))
    | (apply w_condT;rfl)
    | (apply w_condF;rfl)
    | ((apply w_condS;rfl)<;>(intro h;try simp only [decide_eq_true_eq,decide_eq_false_iff_not,Bool.not_eq_true,Bool.not_eq_false] at h))
    | (apply e_thenN)
    | (apply w_block)
    | (apply e_thenR)
    | (apply e_thenX)
    | (apply e_blkN)
    | (apply e_blkR)
    | (apply e_blkE)
    | (apply w_exit)
    | (apply w_ret)
    | (apply w_skip)
    | (apply e_blkE';rfl))
    exact retI rfl
end Go.Sv
namespace Go.Sv
open Go Go.Proofs

set_option maxRecDepth 100000
set_option maxHeartbeats 4000000
attribute [local irreducible] W E R KP thenK blockK retK Good xwp aRun
def hiA (f : Fa) : Int:=if f.no=true then 0 else f.hi
theorem most_loop {k a b c d mn mx : Int} {subs : List T} (hk : k=3 ∨ k=4) (F : Nat→Int) (r : Int) (hnn : Good Try.prog 51 [.agg [.i k,.d (.val (.int .u64 a)),.d (.val (.int .u64 b)),.d (.val (.int .u64 c)),.d (.val (.int .u64 d)),.i mn,.i mx,.d (.sl (encL subs) subs.length)]] none (.b false) none none) (hlen : subs.length≤1000000)
    (ih' : ∀ i (h : i < subs.length),Good Try.prog 63 [nodeA subs[i]] none (.i (knT subs[i]).hi) none none)
    (hns : ∀ i (h : i < subs.length),Good Try.prog 51 [nodeA subs[i]] none (.b (knT subs[i]).no) none none)
    (F0 : F 0=0) (hpos : ∀ i,i≤subs.length→(∀ j (h : j < subs.length),j < i→(knT subs[j]).no=true ∨ 0≤(knT subs[j]).hi)→0≤F i∧F i < 9223372036854775808)
    (hstep : ∀ i (h : i < subs.length),(∀ j (h : j < subs.length),j < i→(knT subs[j]).no=true ∨ 0≤(knT subs[j]).hi)→(knT subs[i]).no=false→0≤(knT subs[i]).hi→F (i + 1)=if k=3 then F i + (knT subs[i]).hi else max (F i) (knT subs[i]).hi)
    (hskip : ∀ i (h : i < subs.length),(knT subs[i]).no=true→F (i + 1)=F i)
    (hend : ∀ i (h : i < subs.length),(knT subs[i]).no=false→(knT subs[i]).hi < 0→r=-1)
    (hfin : (∀ j (h : j < subs.length),(knT subs[j]).no=true ∨ 0≤(knT subs[j]).hi)→F subs.length=r) : Good Try.prog 63 [.agg [.i k,.d (.val (.int .u64 a)),.d (.val (.int .u64 b)),.d (.val (.int .u64 c)),.d (.val (.int .u64 d)),.i mn,.i mx,.d (.sl (encL subs) subs.length)]] none (.i r) none none:=by
  refine b63 (by simp) (by simp) (w_init ?_)
  unfold x63
  rcases hk with hk | hk
  all_goals
    repeat' (first
    | (apply r_mvV;rfl)
    | (apply r_mvP;rfl)
    | (apply r_mvPL;rfl)
    | (apply r_mvS;rfl)
    | (apply r_mvSL;rfl)
    | (apply r_mvA;rfl)
    | (apply r_mvT;rfl)
    | (apply r_mvF;rfl)
    | (apply r_mvD;rfl)
    | (apply r_faddD;rfl)
    | (apply r_faddL;rfl)
    | (apply r_l;apply ld_kind;assumption;rfl)
    | (apply r_l;apply ld_mn;assumption;rfl)
    | (apply r_l;apply ld_mx;assumption;rfl)
    | (apply r_l;apply ld_subs;assumption;rfl)
    | (apply r_l;apply ld_set;assumption;rfl)
    | (apply r_l;apply ld_node;assumption;rfl)
    | (apply r_l;apply ld_kind';assumption;rfl)
    | (apply r_l;apply ld_mn';assumption;rfl)
    | (apply r_l;apply ld_mx';assumption;rfl)
    | (apply r_l;apply ld_subs';assumption;rfl)
    | (apply r_l;apply ld_node';assumption;rfl)
    | (apply r_callA (f:=51);rfl;rfl;exact hnn)
    | (apply r_ldL;rfl;rfl;rfl)
    | (apply r_eql;rfl;rfl;(first | (apply dT;omega) | (apply dF;omega) | rfl))
    | (apply r_lss;rfl;rfl;(first | (apply dT;omega) | (apply dF;omega) | rfl))
    | (apply r_add;rfl;rfl;rfl;omega)
    | (apply r_max2;rfl;rfl;rfl)
    | (apply r_pickT;rfl)
    | (apply r_pickF;rfl)
    | (apply r_lenD;rfl)
    | (apply r_lenL;rfl)
    | (apply r_len0;rfl)
    | (apply r_gT;rfl)
    | (apply r_gF';rfl;rfl)
    | (apply r_gN';rfl)
    | ((apply r_gS (o:=default);rfl)<;>(intro h;try simp only [decide_eq_true_eq,decide_eq_false_iff_not,Bool.not_eq_true,Bool.not_eq_false] at h))
    | (apply r_box;((conv=>lhs;simp only [Nat.reduceAdd])<;>rfl);rfl;rfl;rfl)
    | (apply r_p;rfl)
    | (apply r_nilK)
    | (apply r_nil)
    | (apply k_V;rfl)
    | (apply k_P;rfl)
    | (apply k_PL;rfl)
    | (apply k_S;rfl)
    | (apply k_SL;rfl)
    | (apply k_A;rfl)
    | (apply k_T;rfl)
    | (apply k_F;rfl)
    | (apply k_D;rfl;rotate_left;rfl)
    | (apply k_nil)
    | (apply e_ret (vs:=[.d (.val _)]);rfl)
    | (apply e_ret;rfl)
    | (apply e_ret' (vs:=[.d (.val _)]);rfl)
    | (apply e_ret';rfl)
    | (apply w_seq)
    | (apply w_ops;((conv=>lhs;simp only [Nat.reduceAdd])<;>rfl))
    | (apply w_condT;rfl)
    | (apply w_condF;rfl)
    | ((apply w_condS;rfl)<;>(intro h;try simp only [decide_eq_true_eq,decide_eq_false_iff_not,Bool.not_eq_true,Bool.not_eq_false] at h))
    | (apply e_thenN)
    | (apply w_block)
    | (apply e_thenR)
    | (apply e_thenX)
    | (apply e_blkN)
    | (apply e_blkR)
    | (apply e_blkE)
    | (apply w_exit)
    | (apply w_ret)
    | (apply w_skip)
    | (apply e_blkE';rfl))
    apply w_loopI (S:=fun i : Nat=>⟨((Fr.nil.put 1 (.ptrL 1 0)).put 3 (.i (F i))).put 4 (.i i),rowsOf [(1,[.i k,.d (.val (.int .u64 a)),.d (.val (.int .u64 b)),.d (.val (.int .u64 c)),.d (.val (.int .u64 d)),.i mn,.i mx,.d (.sl (encL subs) subs.length)])],Frz.lo 100,100⟩) (m:=fun i=>subs.length - i) (I:=fun i=>i≤subs.length∧∀ j (h : j < subs.length),j < i→(knT subs[j]).no=true ∨ 0≤(knT subs[j]).hi) (i0:=0)
    · exact ⟨Nat.zero_le _,fun j h hj=>by omega⟩
    · rw [F0]
      refine wkRs (by omega) ?_ ?_
      · intro p hp;simp only [List.mem_cons,List.not_mem_nil,or_false] at hp;rcases hp with rfl<;>exact ⟨by omega,rfl,rfl⟩
      · repeat' (first
    | exact FWk.nil
    | (apply FWk.i;rfl;(first | rfl | omega | (simp;done)))
    | (apply FWk.sl;rfl;rfl;rfl;rfl;omega;rfl)
    | (apply FWk.ptr;rfl;rfl;rfl;omega;rfl)
    | (apply FWk.d;rfl;rfl)
    | (apply FWk.a;rfl;rfl;rfl)
    | (apply FWk.slN;rfl;omega;rfl))
    rintro i K ⟨hi,hall⟩ hK
    try dsimp only
    rcases Nat.lt_or_ge i subs.length with hlt | hge
    · have hsu:=NodeAt.sub hlt
      have hg:=ih' i hlt
      have hgn:=hns i hlt
      have hp1:=hpos i (by omega) hall
      have hnu:=nodeA_nrm subs[i]
      have hna : [nodeA subs[i]].all AV.nrm=true:=by rw [List.all_cons,hnu];rfl
      cases hq : (knT subs[i]).no with
      | true =>
        have hs1:=hskip i hlt hq
        rw [hq] at hgn
        have fin : ∀ fr C Z nx,Wk ⟨fr,C,Z,nx⟩ ⟨((Fr.nil.put 1 (.ptrL 1 0)).put 3 (.i (F i))).put 4 (.i ((i + 1 : Nat) : Int)),rowsOf [(1,[.i k,.d (.val (.int .u64 a)),.d (.val (.int .u64 b)),.d (.val (.int .u64 c)),.d (.val (.int .u64 d)),.i mn,.i mx,.d (.sl (encL subs) subs.length)])],Frz.lo 100,100⟩→K ⟨fr,C,Z,nx⟩:=fun fr C Z nx hw=>hK (i + 1) fr C Z nx ⟨by omega,fun j h hj=>by
          by_cases e : j=i
          · subst e;exact .inl hq
          · exact hall j h (by omega)⟩ (by omega) (by rw [hs1];exact hw)
        clear hall hpos hstep hskip hend hfin ih' hns hs1
        generalize F i=f1 at *
        generalize subs[i]=u at hsu hg hgn hna
        repeat' (first
    | (apply r_mvV;rfl)
    | (apply r_mvP;rfl)
    | (apply r_mvPL;rfl)
    | (apply r_mvS;rfl)
    | (apply r_mvSL;rfl)
    | (apply r_mvA;rfl)
    | (apply r_mvT;rfl)
    | (apply r_mvF;rfl)
    | (apply r_mvD;rfl)
    | (apply r_faddD;rfl)
    | (apply r_faddL;rfl)
    | (apply r_l;apply ld_kind;assumption;rfl)
    | (apply r_l;apply ld_mn;assumption;rfl)
    | (apply r_l;apply ld_mx;assumption;rfl)
    | (apply r_l;apply ld_subs;assumption;rfl)
    | (apply r_l;apply ld_set;assumption;rfl)
    | (apply r_l;apply ld_node;assumption;rfl)
    | (apply r_l;apply ld_kind';assumption;rfl)
    | (apply r_l;apply ld_mn';assumption;rfl)
    | (apply r_l;apply ld_mx';assumption;rfl)
    | (apply r_l;apply ld_subs';assumption;rfl)
    | (apply r_l;apply ld_node';assumption;rfl)
    | (apply r_p;apply ix_sub;rfl;rfl;omega)
    | (apply r_l;apply ld_node';exact hsu;rfl)
    | (apply r_callA (f:=51) (ags:=[nodeA u]);rfl;exact hna;exact hgn)
    | (apply r_ldL;rfl;rfl;rfl)
    | (apply r_eql;rfl;rfl;(first | (apply dT;omega) | (apply dF;omega) | rfl))
    | (apply r_lss;rfl;rfl;(first | (apply dT;omega) | (apply dF;omega) | rfl))
    | (apply r_add;rfl;rfl;rfl;omega)
    | (apply r_max2;rfl;rfl;rfl)
    | (apply r_pickT;rfl)
    | (apply r_pickF;rfl)
    | (apply r_lenD;rfl)
    | (apply r_lenL;rfl)
    | (apply r_len0;rfl)
    | (apply r_gT;rfl)
    | (apply r_gF';rfl;rfl)
    | (apply r_gN';rfl)
    | ((apply r_gS (o:=default);rfl)<;>(intro h;try simp only [decide_eq_true_eq,decide_eq_false_iff_not,Bool.not_eq_true,Bool.not_eq_false] at h))
    | (apply r_box;((conv=>lhs;simp only [Nat.reduceAdd])<;>rfl);rfl;rfl;rfl)
    | (apply r_p;rfl)
    | (apply r_nilK)
    | (apply r_nil)
    | (apply k_V;rfl)
    | (apply k_P;rfl)
    | (apply k_PL;rfl)
    | (apply k_S;rfl)
    | (apply k_SL;rfl)
    | (apply k_A;rfl)
    | (apply k_T;rfl)
    | (apply k_F;rfl)
    | (apply k_D;rfl;rotate_left;rfl)
    | (apply k_nil)
    | (apply e_ret (vs:=[.d (.val _)]);rfl)
    | (apply e_ret;rfl)
    | (apply e_ret' (vs:=[.d (.val _)]);rfl)
    | (apply e_ret';rfl)
    | (apply w_seq)
    | (apply w_ops;((conv=>lhs;simp only [Nat.reduceAdd])<;>rfl))
    | (apply w_condT;rfl)
    | (apply w_condF;rfl)
    | ((apply w_condS;rfl)<;>(intro h;try simp only [decide_eq_true_eq,decide_eq_false_iff_not,Bool.not_eq_true,Bool.not_eq_false] at h))
    | (apply e_thenN)
    | (apply w_block)
    | (apply e_thenR)
    | (apply e_thenX)
    | (apply e_blkN)
    | (apply e_blkR)
    | (apply e_blkE)
    | (apply w_exit)
    | (apply w_ret)
    | (apply w_skip)
    | (apply e_blkE';rfl))
        apply e_thenK
        apply fin
        refine wkRs (by omega) ?_ ?_
        · intro p hp;simp only [List.mem_cons,List.not_mem_nil,or_false] at hp;rcases hp with rfl<;>exact ⟨by omega,rfl,rfl⟩
        · repeat' (first
    | exact FWk.nil
    | (apply FWk.i;rfl;(first | rfl | omega | (simp;done)))
    | (apply FWk.sl;rfl;rfl;rfl;rfl;omega;rfl)
    | (apply FWk.ptr;rfl;rfl;rfl;omega;rfl)
    | (apply FWk.d;rfl;rfl)
    | (apply FWk.a;rfl;rfl;rfl)
    | (apply FWk.slN;rfl;omega;rfl))
      | false =>
        rw [hq] at hgn
        by_cases hneg : (knT subs[i]).hi < 0
        · have hr1:=hend i hlt hq hneg
          rw [hr1]
          clear hall hpos hstep hskip hend hfin ih' hns hK
          generalize F i=f1 at *
          generalize (knT subs[i]).hi=g1 at *
          generalize subs[i]=u at hsu hg hgn hna
          repeat' (first
    | (apply r_mvV;rfl)
    | (apply r_mvP;rfl)
    | (apply r_mvPL;rfl)
    | (apply r_mvS;rfl)
    | (apply r_mvSL;rfl)
    | (apply r_mvA;rfl)
    | (apply r_mvT;rfl)
    | (apply r_mvF;rfl)
    | (apply r_mvD;rfl)
    | (apply r_faddD;rfl)
    | (apply r_faddL;rfl)
    | (apply r_l;apply ld_kind;assumption;rfl)
    | (apply r_l;apply ld_mn;assumption;rfl)
    | (apply r_l;apply ld_mx;assumption;rfl)
    | (apply r_l;apply ld_subs;assumption;rfl)
    | (apply r_l;apply ld_set;assumption;rfl)
    | (apply r_l;apply ld_node;assumption;rfl)
    | (apply r_l;apply ld_kind';assumption;rfl)
    | (apply r_l;apply ld_mn';assumption;rfl)
    | (apply r_l;apply ld_mx';assumption;rfl)
    | (apply r_l;apply ld_subs';assumption;rfl)
    | (apply r_l;apply ld_node';assumption;rfl)
    | (apply r_p;apply ix_sub;rfl;rfl;omega)
    | (apply r_l;apply ld_node';exact hsu;rfl)
    | (apply r_callA (f:=51) (ags:=[nodeA u]);rfl;exact hna;exact hgn)
    | (apply r_callA (f:=63) (ags:=[nodeA u]);rfl;exact hna;exact hg)
    | (apply r_ldL;rfl;rfl;rfl)
    | (apply r_eql;rfl;rfl;(first | (apply dT;omega) | (apply dF;omega) | rfl))
    | (apply r_lss;rfl;rfl;(first | (apply dT;omega) | (apply dF;omega) | rfl))
    | (apply r_add;rfl;rfl;rfl;omega)
    | (apply r_max2;rfl;rfl;rfl)
    | (apply r_pickT;rfl)
    | (apply r_pickF;rfl)
    | (apply r_lenD;rfl)
    | (apply r_lenL;rfl)
    | (apply r_len0;rfl)
    | (apply r_gT;rfl)
    | (apply r_gF';rfl;rfl)
    | (apply r_gN';rfl)
    | ((apply r_gS (o:=default);rfl)<;>(intro h;try simp only [decide_eq_true_eq,decide_eq_false_iff_not,Bool.not_eq_true,Bool.not_eq_false] at h))
    | (apply r_box;((conv=>lhs;simp only [Nat.reduceAdd])<;>rfl);rfl;rfl;rfl)
    | (apply r_p;rfl)
    | (apply r_nilK)
    | (apply r_nil)
    | (apply k_V;rfl)
    | (apply k_P;rfl)
    | (apply k_PL;rfl)
    | (apply k_S;rfl)
    | (apply k_SL;rfl)
    | (apply k_A;rfl)
    | (apply k_T;rfl)
    | (apply k_F;rfl)
    | (apply k_D;rfl;rotate_left;rfl)
    | (apply k_nil)
    | (apply e_ret (vs:=[.d (.val _)]);rfl)
    | (apply e_ret;rfl)
    | (apply e_ret' (vs:=[.d (.val _)]);rfl)
    | (apply e_ret';rfl)
    | (apply w_seq)
    | (apply w_ops;((conv=>lhs;simp only [Nat.reduceAdd])<;>rfl))
    | (apply w_condT;rfl)
    | (apply w_condF;rfl)
    | ((apply w_condS;rfl)<;>(intro h;try simp only [decide_eq_true_eq,decide_eq_false_iff_not,Bool.not_eq_true,Bool.not_eq_false] at h))
    | (apply e_thenN)
    | (apply w_block)
    | (apply e_thenR)
    | (apply e_thenX)
    | (apply e_blkN)
    | (apply e_blkR)
    | (apply e_blkE)
    | (apply w_exit)
    | (apply w_ret)
    | (apply w_skip)
    | (apply e_blkE';rfl))
          exact retI rfl
        · have hs1:=hstep i hlt hall hq (by omega)
          have hall2 : ∀ j (h : j < subs.length),j < i + 1→(knT subs[j]).no=true ∨ 0≤(knT subs[j]).hi:=fun j h hj=>by
            by_cases e : j=i
            · subst e;exact .inr (by omega)
            · exact hall j h (by omega)
          have hp2:=hpos (i + 1) (by omega) hall2
          simp only [hk,Int.reduceEq,if_true,if_false] at hs1
          rw [hs1] at hp2
          have fin : ∀ fr C Z nx,Wk ⟨fr,C,Z,nx⟩ ⟨((Fr.nil.put 1 (.ptrL 1 0)).put 3 (.i (F (i + 1)))).put 4 (.i ((i + 1 : Nat) : Int)),rowsOf [(1,[.i k,.d (.val (.int .u64 a)),.d (.val (.int .u64 b)),.d (.val (.int .u64 c)),.d (.val (.int .u64 d)),.i mn,.i mx,.d (.sl (encL subs) subs.length)])],Frz.lo 100,100⟩→K ⟨fr,C,Z,nx⟩:=fun fr C Z nx hw=>hK (i + 1) fr C Z nx ⟨by omega,hall2⟩ (by omega) hw
          rw [hs1] at fin
          clear hall hall2 hpos hstep hskip hend hfin ih' hns hs1
          generalize F i=f1 at *
          generalize (knT subs[i]).hi=g1 at *
          generalize subs[i]=u at hsu hg hgn hna
          repeat' (first
    | (apply r_mvV;rfl)
    | (apply r_mvP;rfl)
    | (apply r_mvPL;rfl)
    | (apply r_mvS;rfl)
    | (apply r_mvSL;rfl)
    | (apply r_mvA;rfl)
    | (apply r_mvT;rfl)
    | (apply r_mvF;rfl)
    | (apply r_mvD;rfl)
    | (apply r_faddD;rfl)
    | (apply r_faddL;rfl)
    | (apply r_l;apply ld_kind;assumption;rfl)
    | (apply r_l;apply ld_mn;assumption;rfl)
    | (apply r_l;apply ld_mx;assumption;rfl)
    | (apply r_l;apply ld_subs;assumption;rfl)
    | (apply r_l;apply ld_set;assumption;rfl)
    | (apply r_l;apply ld_node;assumption;rfl)
    | (apply r_l;apply ld_kind';assumption;rfl)
    | (apply r_l;apply ld_mn';assumption;rfl)
    | (apply r_l;apply ld_mx';assumption;rfl)
    | (apply r_l;apply ld_subs';assumption;rfl)
    | (apply r_l;apply ld_node';assumption;rfl)
    | (apply r_p;apply ix_sub;rfl;rfl;omega)
    | (apply r_l;apply ld_node';exact hsu;rfl)
    | (apply r_callA (f:=51) (ags:=[nodeA u]);rfl;exact hna;exact hgn)
    | (apply r_callA (f:=63) (ags:=[nodeA u]);rfl;exact hna;exact hg)
    | (apply r_max2;rfl;rfl;rfl)
    | (apply r_ldL;rfl;rfl;rfl)
    | (apply r_eql;rfl;rfl;(first | (apply dT;omega) | (apply dF;omega) | rfl))
    | (apply r_lss;rfl;rfl;(first | (apply dT;omega) | (apply dF;omega) | rfl))
    | (apply r_add;rfl;rfl;rfl;omega)
    | (apply r_max2;rfl;rfl;rfl)
    | (apply r_pickT;rfl)
    | (apply r_pickF;rfl)
    | (apply r_lenD;rfl)
    | (apply r_lenL;rfl)
    | (apply r_len0;rfl)
    | (apply r_gT;rfl)
    | (apply r_gF';rfl;rfl)
    | (apply r_gN';rfl)
    | ((apply r_gS (o:=default);rfl)<;>(intro h;try simp only [decide_eq_true_eq,decide_eq_false_iff_not,Bool.not_eq_true,Bool.not_eq_false] at h))
    | (apply r_box;((conv=>lhs;simp only [Nat.reduceAdd])<;>rfl);rfl;rfl;rfl)
    | (apply r_p;rfl)
    | (apply r_nilK)
    | (apply r_nil)
    | (apply k_V;rfl)
    | (apply k_P;rfl)
    | (apply k_PL;rfl)
    | (apply k_S;rfl)
    | (apply k_SL;rfl)
    | (apply k_A;rfl)
    | (apply k_T;rfl)
    | (apply k_F;rfl)
    | (apply k_D;rfl;rotate_left;rfl)
    | (apply k_nil)
    | (apply e_ret (vs:=[.d (.val _)]);rfl)
    | (apply e_ret;rfl)
    | (apply e_ret' (vs:=[.d (.val _)]);rfl)
    | (apply e_ret';rfl)
    | (apply w_seq)
    | (apply w_ops;((conv=>lhs;simp only [Nat.reduceAdd])<;>rfl))
    | (apply w_condT;rfl)
    | (apply w_condF;rfl)
    | ((apply w_condS;rfl)<;>(intro h;try simp only [decide_eq_true_eq,decide_eq_false_iff_not,Bool.not_eq_true,Bool.not_eq_false] at h))
    | (apply e_thenN)
    | (apply w_block)
    | (apply e_thenR)
    | (apply e_thenX)
    | (apply e_blkN)
    | (apply e_blkR)
    | (apply e_blkE)
    | (apply w_exit)
    | (apply w_ret)
    | (apply w_skip)
    | (apply e_blkE';rfl))
          apply e_thenK
          apply fin
          refine wkRs (by omega) ?_ ?_
          · intro p hp;simp only [List.mem_cons,List.not_mem_nil,or_false] at hp;rcases hp with rfl<;>exact ⟨by omega,rfl,rfl⟩
          · repeat' (first
    | exact FWk.nil
    | (apply FWk.i;rfl;(first | rfl | omega | (simp;done)))
    | (apply FWk.sl;rfl;rfl;rfl;rfl;omega;rfl)
    | (apply FWk.ptr;rfl;rfl;rfl;omega;rfl)
    | (apply FWk.d;rfl;rfl)
    | (apply FWk.a;rfl;rfl;rfl)
    | (apply FWk.slN;rfl;omega;rfl))
    · have ei : i=subs.length:=by omega
      subst ei
      have hf:=hfin fun j h=>hall j h h
      clear hall hpos hstep hskip hend ih' hns hK
      rw [← hf]
      generalize F subs.length=f1
      repeat' (first
    | (apply r_mvV;rfl)
    | (apply r_mvP;rfl)
    | (apply r_mvPL;rfl)
    | (apply r_mvS;rfl)
    | (apply r_mvSL;rfl)
    | (apply r_mvA;rfl)
    | (apply r_mvT;rfl)
    | (apply r_mvF;rfl)
    | (apply r_mvD;rfl)
    | (apply r_faddD;rfl)
    | (apply r_faddL;rfl)
    | (apply r_l;apply ld_kind;assumption;rfl)
    | (apply r_l;apply ld_mn;assumption;rfl)
    | (apply r_l;apply ld_mx;assumption;rfl)
    | (apply r_l;apply ld_subs;assumption;rfl)
    | (apply r_l;apply ld_set;assumption;rfl)
    | (apply r_l;apply ld_node;assumption;rfl)
    | (apply r_l;apply ld_kind';assumption;rfl)
    | (apply r_l;apply ld_mn';assumption;rfl)
    | (apply r_l;apply ld_mx';assumption;rfl)
    | (apply r_l;apply ld_subs';assumption;rfl)
    | (apply r_l;apply ld_node';assumption;rfl)
    | (apply r_ldL;rfl;rfl;rfl)
    | (apply r_eql;rfl;rfl;(first | (apply dT;omega) | (apply dF;omega) | rfl))
    | (apply r_lss;rfl;rfl;(first | (apply dT;omega) | (apply dF;omega) | rfl))
    | (apply r_add;rfl;rfl;rfl;omega)
    | (apply r_max2;rfl;rfl;rfl)
    | (apply r_pickT;rfl)
    | (apply r_pickF;rfl)
    | (apply r_lenD;rfl)
    | (apply r_lenL;rfl)
    | (apply r_len0;rfl)
    | (apply r_gT;rfl)
    | (apply r_gF';rfl;rfl)
    | (apply r_gN';rfl)
    | ((apply r_gS (o:=default);rfl)<;>(intro h;try simp only [decide_eq_true_eq,decide_eq_false_iff_not,Bool.not_eq_true,Bool.not_eq_false] at h))
    | (apply r_box;((conv=>lhs;simp only [Nat.reduceAdd])<;>rfl);rfl;rfl;rfl)
    | (apply r_p;rfl)
    | (apply r_nilK)
    | (apply r_nil)
    | (apply k_V;rfl)
    | (apply k_P;rfl)
    | (apply k_PL;rfl)
    | (apply k_S;rfl)
    | (apply k_SL;rfl)
    | (apply k_A;rfl)
    | (apply k_T;rfl)
    | (apply k_F;rfl)
    | (apply k_D;rfl;rotate_left;rfl)
    | (apply k_nil)
    | (apply e_ret (vs:=[.d (.val _)]);rfl)
    | (apply e_ret;rfl)
    | (apply e_ret' (vs:=[.d (.val _)]);rfl)
    | (apply e_ret';rfl)
    | (apply w_seq)
    | (apply w_ops;((conv=>lhs;simp only [Nat.reduceAdd])<;>rfl))
    | (apply w_condT;rfl)
    | (apply w_condF;rfl)
    | ((apply w_condS;rfl)<;>(intro h;try simp only [decide_eq_true_eq,decide_eq_false_iff_not,Bool.not_eq_true,Bool.not_eq_false] at h))
    | (apply e_thenN)
    | (apply w_block)
    | (apply e_thenR)
    | (apply e_thenX)
    | (apply e_blkN)
    | (apply e_blkR)
    | (apply e_blkE)
    | (apply w_exit)
    | (apply w_ret)
    | (apply w_skip)
    | (apply e_blkE';rfl))
      exact retI rfl
theorem most63_good : ∀ (n : Nat) (t : T),t.cnt≤n→n≤1000000→okT t→bT t≤16384000000000000000→Good Try.prog 63 [nodeA t] none (.i (knT t).hi) none none:=by
  intro n
  induction n with
  | zero=>intro t ht;have:=cnt_pos t;omega
  | succ n ih =>
  intro t ht hc hok hbt
  have hnn:=none51_good 1000000 t (by omega) (by omega) hok
  rw [nn_kn hok] at hnn
  have hkt:=kn_ok t hok
  obtain ⟨k,a,b,c,d,mn,mx,subs⟩:=t
  have e0 : nodeA (T.node k a b c d mn mx subs)=.agg [.i k,.d (.val (.int .u64 a)),.d (.val (.int .u64 b)),.d (.val (.int .u64 c)),.d (.val (.int .u64 d)),.i mn,.i mx,.d (.sl (encL subs) subs.length)]:=rfl
  have hoks:=okT_subs hok
  have hR:=okT_R hok
  have ih' : ∀ i (h : i < subs.length),Good Try.prog 63 [nodeA subs[i]] none (.i (knT subs[i]).hi) none none:=by
    intro i h
    refine ih _ ?_ (by omega) (okL_get subs i h hoks) ?_
    · have:=cntL_get subs i h
      simp only [T.cnt] at ht
      omega
    · have:=bT_sub (u:=subs[i]) hok (List.getElem_mem h)
      omega
  have hns : ∀ i (h : i < subs.length),Good Try.prog 51 [nodeA subs[i]] none (.b (knT subs[i]).no) none none:=by
    intro i h
    have h1:=none51_good 1000000 subs[i] (by
      have:=cntL_get subs i h
      simp only [T.cnt] at ht
      omega) (by omega) (okL_get subs i h hoks)
    rw [nn_kn (okL_get subs i h hoks)] at h1
    exact h1
  have hksub : ∀ i (h : i < subs.length),okF (knT subs[i]) (bT subs[i]):=fun i h=>kn_ok _ (okL_get subs i h hoks)
  have hpl:=okT_plain hok
  have hlen : subs.length≤1000000:=by
    have:=cntL_len subs
    simp only [T.cnt] at ht
    omega
  rw [e0] at hnn ⊢
  cases hno : (knT (T.node k a b c d mn mx subs)).no with
  | true =>
    have e : (knT (T.node k a b c d mn mx subs)).hi=-1:=by rw [hkt.2.1 hno];rfl
    rw [e]
    rw [hno] at hnn
    clear ih ih' hns hksub hkt hok hoks hbt ht hR hpl hno e
    refine b63 (by simp) (by simp) (w_init ?_)
    unfold x63
    repeat' (first
    | (apply r_mvV;rfl)
    | (apply r_mvP;rfl)
    | (apply r_mvPL;rfl)
    | (apply r_mvS;rfl)
    | (apply r_mvSL;rfl)
    | (apply r_mvA;rfl)
    | (apply r_mvT;rfl)
    | (apply r_mvF;rfl)
    | (apply r_mvD;rfl)
    | (apply r_faddD;rfl)
    | (apply r_faddL;rfl)
    | (apply r_l;apply ld_kind;assumption;rfl)
    | (apply r_l;apply ld_mn;assumption;rfl)
    | (apply r_l;apply ld_mx;assumption;rfl)
    | (apply r_l;apply ld_subs;assumption;rfl)
    | (apply r_l;apply ld_set;assumption;rfl)
    | (apply r_l;apply ld_node;assumption;rfl)
    | (apply r_l;apply ld_kind';assumption;rfl)
    | (apply r_l;apply ld_mn';assumption;rfl)
    | (apply r_l;apply ld_mx';assumption;rfl)
    | (apply r_l;apply ld_subs';assumption;rfl)
    | (apply r_l;apply ld_node';assumption;rfl)
    | (apply r_callA (f:=51);rfl;rfl;exact hnn)
    | (apply r_ldL;rfl;rfl;rfl)
    | (apply r_eql;rfl;rfl;(first | (apply dT;omega) | (apply dF;omega) | rfl))
    | (apply r_lss;rfl;rfl;(first | (apply dT;omega) | (apply dF;omega) | rfl))
    | (apply r_add;rfl;rfl;rfl;omega)
    | (apply r_max2;rfl;rfl;rfl)
    | (apply r_pickT;rfl)
    | (apply r_pickF;rfl)
    | (apply r_lenD;rfl)
    | (apply r_lenL;rfl)
    | (apply r_len0;rfl)
    | (apply r_gT;rfl)
    | (apply r_gF';rfl;rfl)
    | (apply r_gN';rfl)
    | ((apply r_gS (o:=default);rfl)<;>(intro h;try simp only [decide_eq_true_eq,decide_eq_false_iff_not,Bool.not_eq_true,Bool.not_eq_false] at h))
    | (apply r_box;((conv=>lhs;simp only [Nat.reduceAdd])<;>rfl);rfl;rfl;rfl)
    | (apply r_p;rfl)
    | (apply r_nilK)
    | (apply r_nil)
    | (apply k_V;rfl)
    | (apply k_P;rfl)
    | (apply k_PL;rfl)
    | (apply k_S;rfl)
    | (apply k_SL;rfl)
    | (apply k_A;rfl)
    | (apply k_T;rfl)
    | (apply k_F;rfl)
    | (apply k_D;rfl;rotate_left;rfl)
    | (apply k_nil)
    | (apply e_ret (vs:=[.d (.val _)]);rfl)
    | (apply e_ret;rfl)
    | (apply e_ret' (vs:=[.d (.val _)]);rfl)
    | (apply e_ret';rfl)
    | (apply w_seq)
    | (apply w_ops;((conv=>lhs;simp only [Nat.reduceAdd])<;>rfl))
    | (apply w_condT;rfl)
    | (apply w_condF;rfl)
    | ((apply w_condS;rfl)<;>(intro h;try simp only [decide_eq_true_eq,decide_eq_false_iff_not,Bool.not_eq_true,Bool.not_eq_false] at h))
    | (apply e_thenN)
    | (apply w_block)
    | (apply e_thenR)
    | (apply e_thenX)
    | (apply e_blkN)
    | (apply e_blkR)
    | (apply e_blkE)
    | (apply w_exit)
    | (apply w_ret)
    | (apply w_skip)
    | (apply e_blkE';rfl))
    exact retI rfl
  | false =>
  rw [hno] at hnn
  by_cases h2 : k=2
  · have e : (knT (T.node k a b c d mn mx subs)).hi=1:=by
      rw [knT,if_pos h2] at hno ⊢
      split
      · rename_i hz;rw [if_pos hz] at hno;simp [faNo] at hno
      · rfl
    rw [e]
    clear ih ih' hns hksub hkt hok hoks hbt ht hR hpl hno e
    refine b63 (by simp) (by simp) (w_init ?_)
    unfold x63
    repeat' (first
    | (apply r_mvV;rfl)
    | (apply r_mvP;rfl)
    | (apply r_mvPL;rfl)
    | (apply r_mvS;rfl)
    | (apply r_mvSL;rfl)
    | (apply r_mvA;rfl)
    | (apply r_mvT;rfl)
    | (apply r_mvF;rfl)
    | (apply r_mvD;rfl)
    | (apply r_faddD;rfl)
    | (apply r_faddL;rfl)
    | (apply r_l;apply ld_kind;assumption;rfl)
    | (apply r_l;apply ld_mn;assumption;rfl)
    | (apply r_l;apply ld_mx;assumption;rfl)
    | (apply r_l;apply ld_subs;assumption;rfl)
    | (apply r_l;apply ld_set;assumption;rfl)
    | (apply r_l;apply ld_node;assumption;rfl)
    | (apply r_l;apply ld_kind';assumption;rfl)
    | (apply r_l;apply ld_mn';assumption;rfl)
    | (apply r_l;apply ld_mx';assumption;rfl)
    | (apply r_l;apply ld_subs';assumption;rfl)
    | (apply r_l;apply ld_node';assumption;rfl)
    | (apply r_callA (f:=51);rfl;rfl;exact hnn)
    | (apply r_ldL;rfl;rfl;rfl)
    | (apply r_eql;rfl;rfl;(first | (apply dT;omega) | (apply dF;omega) | rfl))
    | (apply r_lss;rfl;rfl;(first | (apply dT;omega) | (apply dF;omega) | rfl))
    | (apply r_add;rfl;rfl;rfl;omega)
    | (apply r_max2;rfl;rfl;rfl)
    | (apply r_pickT;rfl)
    | (apply r_pickF;rfl)
    | (apply r_lenD;rfl)
    | (apply r_lenL;rfl)
    | (apply r_len0;rfl)
    | (apply r_gT;rfl)
    | (apply r_gF';rfl;rfl)
    | (apply r_gN';rfl)
    | ((apply r_gS (o:=default);rfl)<;>(intro h;try simp only [decide_eq_true_eq,decide_eq_false_iff_not,Bool.not_eq_true,Bool.not_eq_false] at h))
    | (apply r_box;((conv=>lhs;simp only [Nat.reduceAdd])<;>rfl);rfl;rfl;rfl)
    | (apply r_p;rfl)
    | (apply r_nilK)
    | (apply r_nil)
    | (apply k_V;rfl)
    | (apply k_P;rfl)
    | (apply k_PL;rfl)
    | (apply k_S;rfl)
    | (apply k_SL;rfl)
    | (apply k_A;rfl)
    | (apply k_T;rfl)
    | (apply k_F;rfl)
    | (apply k_D;rfl;rotate_left;rfl)
    | (apply k_nil)
    | (apply e_ret (vs:=[.d (.val _)]);rfl)
    | (apply e_ret;rfl)
    | (apply e_ret' (vs:=[.d (.val _)]);rfl)
    | (apply e_ret';rfl)
    | (apply w_seq)
    | (apply w_ops;((conv=>lhs;simp only [Nat.reduceAdd])<;>rfl))
    | (apply w_condT;rfl)
    | (apply w_condF;rfl)
    | ((apply w_condS;rfl)<;>(intro h;try simp only [decide_eq_true_eq,decide_eq_false_iff_not,Bool.not_eq_true,Bool.not_eq_false] at h))
    | (apply e_thenN)
    | (apply w_block)
    | (apply e_thenR)
    | (apply e_thenX)
    | (apply e_blkN)
    | (apply e_blkR)
    | (apply e_blkE)
    | (apply w_exit)
    | (apply w_ret)
    | (apply w_skip)
    | (apply e_blkE';rfl))
    exact retI rfl
  have hpw:=pw_pos (openT (T.node k a b c d mn mx subs)).toNat
  have hsub' : ∀ u ∈ subs,okF (knT u) ((u.cnt : Nat) * pw (openT (T.node k a b c d mn mx subs)).toNat):=fun u hu=>by
    refine okF_mono (kn_ok u ((okL_iff _).1 hoks u hu)) ?_
    have h1:=sub_open (u:=u) hok hu
    exact bT_le (Nat.le_refl _) (by have:=open_nonneg _ hok;omega)
  have hpb : ∀ i,((cntL (subs.take i) : Nat) : Int) * pw (openT (T.node k a b c d mn mx subs)).toNat≤16384000000000000000:=by
    intro i
    have h1:=cntL_take_le subs i
    have h2 : ((cntL (subs.take i) : Nat) : Int) * pw (openT (T.node k a b c d mn mx subs)).toNat≤bT (T.node k a b c d mn mx subs):=by
      unfold bT
      exact Int.mul_le_mul_of_nonneg_right (by simp only [T.cnt];omega) (by omega)
    omega
  by_cases h3 : k=3
  · have e : knT (T.node k a b c d mn mx subs)=knC subs faE:=by rw [knT,if_neg h2,if_pos h3]
    rw [e] at hno ⊢
    obtain ⟨_,hall⟩:=knC_no subs faE hno
    have hpre : ∀ i,(knC (subs.take i) faE).no=false∧2 * (knC (subs.take i) faE).hi≤16384000000000000000∧-1≤(knC (subs.take i) faE).hi:=by
      intro i
      have h1:=knC_ok (openT (T.node k a b c d mn mx subs)).toNat (subs.take i) faE 0 (Int.le_refl _) (okF_E (Int.le_refl _)) (fun u hu=>hsub' u (List.mem_of_mem_take hu))
      have h4 : (knC (subs.take i) faE).no=false:=by
        have : knC subs faE=knC (subs.drop i) (knC (subs.take i) faE):=by rw [← knC_app,List.take_append_drop]
        rw [this] at hno
        exact (knC_no _ _ hno).1
      have:=hpb i
      have:=h1.2.2.2.2
      exact ⟨h4,by omega,(h1.2.2.1 h4).2⟩
    have hhs : ∀ i (h : i < subs.length),(knC (subs.take (i + 1)) faE).hi=plusH (knC (subs.take i) faE).hi (knT subs[i]).hi:=fun i h=>by
      rw [knC_step subs i h]
      exact (faThen_val (hpre i).1 (hall _ (List.getElem_mem h))).2.1
    have hnn3 : ∀ i,i≤subs.length→(∀ j (h : j < subs.length),j < i→(knT subs[j]).no=true ∨ 0≤(knT subs[j]).hi)→0≤(knC (subs.take i) faE).hi:=by
      intro i
      induction i with
      | zero=>intro _ _;simp [knC,faE]
      | succ i ih2 =>
        intro hi hj
        have h1:=ih2 (by omega) fun j h hj'=>hj j h (by omega)
        have h2:=hj i (by omega) (by omega)
        have h3:=hall subs[i] (List.getElem_mem (by omega))
        rw [h3] at h2
        have h2 : 0≤(knT subs[i]).hi:=by simpa using h2
        rw [hhs i (by omega),plusH,if_neg (by omega)]
        omega
    refine most_loop (.inl h3) (fun i=>(knC (subs.take i) faE).hi) _ hnn hlen ih' hns rfl ?_ ?_ ?_ ?_ ?_
    · intro i hi hj
      have:=(hpre i).2.1
      exact ⟨hnn3 i hi hj,by omega⟩
    · intro i h hj hn hp
      have:=hnn3 i (by omega) hj
      try dsimp only
      rw [if_pos h3,hhs i h,plusH,if_neg (by omega)]
    · intro i h hn
      rw [hall _ (List.getElem_mem h)] at hn;cases hn
    · intro i h hn hneg
      have h1:=((hksub i h).2.2.1 hn).2
      have e2 : knC subs faE=knC (subs.drop (i + 1)) (knC (subs.take (i + 1)) faE):=by rw [← knC_app,List.take_append_drop]
      rw [e2] at hno ⊢
      refine knC_end _ _ hno ?_
      rw [hhs i h,plusH,if_pos (by omega)]
    · intro _
      try dsimp only
      rw [List.take_length]
  by_cases h4 : k=4
  · have e : knT (T.node k a b c d mn mx subs)=knO subs faNo:=by rw [knT,if_neg h2,if_neg h3,if_pos h4]
    rw [e] at hno ⊢
    have hpre : ∀ i,2 * (knO (subs.take i) faNo).hi≤16384000000000000000:=by
      intro i
      have h1:=knO_ok (openT (T.node k a b c d mn mx subs)).toNat (subs.take i) faNo 0 (Int.le_refl _) (okF_no (Int.le_refl _)) (fun u hu=>hsub' u (List.mem_of_mem_take hu))
      have:=hpb i
      have:=h1.2.2.2.2
      omega
    have hval : ∀ f g : Fa,(g.no=true→hiA (faOr f g)=hiA f)∧(g.no=false→0≤g.hi→0≤hiA f→hiA (faOr f g)=max (hiA f) g.hi):=by
      intro f g
      unfold faOr hiA
      constructor
      · intro hg
        cases hf : f.no<;>simp [hf,hg]
      · intro hg h1 h2
        cases hf : f.no with
        | true=>simp [hg];omega
        | false =>
          simp only [hf,hg,if_false,Bool.false_eq_true] at h2 ⊢
          rw [if_neg (by omega)]
    have hnn4 : ∀ i,i≤subs.length→(∀ j (h : j < subs.length),j < i→(knT subs[j]).no=true ∨ 0≤(knT subs[j]).hi)→0≤hiA (knO (subs.take i) faNo):=by
      intro i
      induction i with
      | zero=>intro _ _;simp [knO,faNo,hiA]
      | succ i ih2 =>
        intro hi hj
        have h1:=ih2 (by omega) fun j h hj'=>hj j h (by omega)
        have h2:=hj i (by omega) (by omega)
        have h3:=hval (knO (subs.take i) faNo) (knT subs[i])
        rw [knO_step subs i (by omega)]
        cases hg : (knT subs[i]).no with
        | true=>rw [h3.1 hg];exact h1
        | false =>
          rw [hg] at h2
          have h2 : 0≤(knT subs[i]).hi:=by simpa using h2
          rw [h3.2 hg h2 h1];omega
    refine most_loop (.inr h4) (fun i=>hiA (knO (subs.take i) faNo)) _ hnn hlen ih' hns rfl ?_ ?_ ?_ ?_ ?_
    · intro i hi hj
      have:=hpre i
      refine ⟨hnn4 i hi hj,?_⟩
      try dsimp only
      unfold hiA
      split<;>omega
    · intro i h hj hn hp
      try dsimp only
      rw [if_neg h3,knO_step subs i h]
      exact (hval _ _).2 hn hp (hnn4 i (by omega) hj)
    · intro i h hn
      try dsimp only
      rw [knO_step subs i h]
      exact (hval _ _).1 hn
    · intro i h hn hneg
      have h1:=((hksub i h).2.2.1 hn).2
      have e2 : knO subs faNo=knO (subs.drop (i + 1)) (knO (subs.take (i + 1)) faNo):=by rw [← knO_app,List.take_append_drop]
      rw [e2]
      have h6 : (faOr (knO (subs.take i) faNo) (knT subs[i])).no=false∧(faOr (knO (subs.take i) faNo) (knT subs[i])).hi=-1:=by
        unfold faOr
        split
        · exact ⟨hn,by omega⟩
        · rw [if_neg (by simp [hn])]
          exact ⟨rfl,by simp;omega⟩
      rw [knO_step subs i h]
      exact knO_end _ _ h6.1 h6.2
    · intro _
      try dsimp only
      rw [List.take_length]
      unfold hiA
      rw [if_neg (by simp [hno])]
  by_cases h5 : k=5
  · obtain ⟨u,rfl⟩ : ∃ u,subs=[u]:=by
      subst h5;exact plainT_5 hpl
    have e : knT (.node k a b c d mn mx [u])=faTimes (knT u) mn mx:=by rw [knT,if_neg h2,if_neg h3,if_neg h4,if_pos h5,knR]
    have hr:=hR h5
    have hg:=ih' 0 (by simp)
    have hgn:=hns 0 (by simp)
    have hku:=hksub 0 (by simp)
    simp only [List.getElem_cons_zero] at hg hgn hku
    have hs:=NodeAt.sub (l:=[u]) (i:=0) (by simp)
    simp only [List.getElem_cons_zero,Nat.zero_mul] at hs
    have h22:=hkt.2.2.2.2
    rw [e] at hno h22 ⊢
    have hnu:=nodeA_nrm u
    have hna : [nodeA u].all AV.nrm=true:=by rw [List.all_cons,hnu];rfl
    clear ih ih' hns hksub hkt hok hoks ht hsub' hpb e hR hpl
    have e1:=hku.2.1
    have e2:=hku.2.2.1
    generalize knT u=f at *
    by_cases c0 : f.no=true
    · have e3 : (faTimes f mn mx).hi=0:=by
        unfold faTimes at hno ⊢
        split
        · rfl
        · rename_i h1
          rw [if_neg h1,if_pos c0] at hno
          simp [faNo] at hno
      rw [e3]
      rw [c0] at hgn
      refine b63 (by simp) (by simp) (w_init ?_)
      unfold x63
      repeat' (first
    | (apply r_mvV;rfl)
    | (apply r_mvP;rfl)
    | (apply r_mvPL;rfl)
    | (apply r_mvS;rfl)
    | (apply r_mvSL;rfl)
    | (apply r_mvA;rfl)
    | (apply r_mvT;rfl)
    | (apply r_mvF;rfl)
    | (apply r_mvD;rfl)
    | (apply r_faddD;rfl)
    | (apply r_faddL;rfl)
    | (apply r_l;apply ld_kind;assumption;rfl)
    | (apply r_l;apply ld_mn;assumption;rfl)
    | (apply r_l;apply ld_mx;assumption;rfl)
    | (apply r_l;apply ld_subs;assumption;rfl)
    | (apply r_l;apply ld_set;assumption;rfl)
    | (apply r_l;apply ld_node;assumption;rfl)
    | (apply r_l;apply ld_kind';assumption;rfl)
    | (apply r_l;apply ld_mn';assumption;rfl)
    | (apply r_l;apply ld_mx';assumption;rfl)
    | (apply r_l;apply ld_subs';assumption;rfl)
    | (apply r_l;apply ld_node';assumption;rfl)
    | (apply r_p;apply ix_sub0;rfl;rfl;simp)
    | (apply r_l;apply ld_node';exact hs;rfl)
    | (apply r_callA (f:=51) (ags:=[nodeA u]);rfl;exact hna;exact hgn)
    | (apply r_callA (f:=51);rfl;rfl;exact hnn)
    | (apply r_ldL;rfl;rfl;rfl)
    | (apply r_eql;rfl;rfl;(first | (apply dT;omega) | (apply dF;omega) | rfl))
    | (apply r_lss;rfl;rfl;(first | (apply dT;omega) | (apply dF;omega) | rfl))
    | (apply r_add;rfl;rfl;rfl;omega)
    | (apply r_max2;rfl;rfl;rfl)
    | (apply r_pickT;rfl)
    | (apply r_pickF;rfl)
    | (apply r_lenD;rfl)
    | (apply r_lenL;rfl)
    | (apply r_len0;rfl)
    | (apply r_gT;rfl)
    | (apply r_gF';rfl;rfl)
    | (apply r_gN';rfl)
    | ((apply r_gS (o:=default);rfl)<;>(intro h;try simp only [decide_eq_true_eq,decide_eq_false_iff_not,Bool.not_eq_true,Bool.not_eq_false] at h))
    | (apply r_box;((conv=>lhs;simp only [Nat.reduceAdd])<;>rfl);rfl;rfl;rfl)
    | (apply r_p;rfl)
    | (apply r_nilK)
    | (apply r_nil)
    | (apply k_V;rfl)
    | (apply k_P;rfl)
    | (apply k_PL;rfl)
    | (apply k_S;rfl)
    | (apply k_SL;rfl)
    | (apply k_A;rfl)
    | (apply k_T;rfl)
    | (apply k_F;rfl)
    | (apply k_D;rfl;rotate_left;rfl)
    | (apply k_nil)
    | (apply e_ret (vs:=[.d (.val _)]);rfl)
    | (apply e_ret;rfl)
    | (apply e_ret' (vs:=[.d (.val _)]);rfl)
    | (apply e_ret';rfl)
    | (apply w_seq)
    | (apply w_ops;((conv=>lhs;simp only [Nat.reduceAdd])<;>rfl))
    | (apply w_condT;rfl)
    | (apply w_condF;rfl)
    | ((apply w_condS;rfl)<;>(intro h;try simp only [decide_eq_true_eq,decide_eq_false_iff_not,Bool.not_eq_true,Bool.not_eq_false] at h))
    | (apply e_thenN)
    | (apply w_block)
    | (apply e_thenR)
    | (apply e_thenX)
    | (apply e_blkN)
    | (apply e_blkR)
    | (apply e_blkE)
    | (apply w_exit)
    | (apply w_ret)
    | (apply w_skip)
    | (apply e_blkE';rfl))
      exact retI rfl
    have c0 : f.no=false:=by simpa using c0
    rw [c0] at hgn
    have e2:=e2 c0
    by_cases c1 : mx=0
    · have e3 : (faTimes f mn mx).hi=0:=by unfold faTimes;rw [if_pos (.inl c1)];rfl
      rw [e3]
      refine b63 (by simp) (by simp) (w_init ?_)
      unfold x63
      repeat' (first
    | (apply r_mvV;rfl)
    | (apply r_mvP;rfl)
    | (apply r_mvPL;rfl)
    | (apply r_mvS;rfl)
    | (apply r_mvSL;rfl)
    | (apply r_mvA;rfl)
    | (apply r_mvT;rfl)
    | (apply r_mvF;rfl)
    | (apply r_mvD;rfl)
    | (apply r_faddD;rfl)
    | (apply r_faddL;rfl)
    | (apply r_l;apply ld_kind;assumption;rfl)
    | (apply r_l;apply ld_mn;assumption;rfl)
    | (apply r_l;apply ld_mx;assumption;rfl)
    | (apply r_l;apply ld_subs;assumption;rfl)
    | (apply r_l;apply ld_set;assumption;rfl)
    | (apply r_l;apply ld_node;assumption;rfl)
    | (apply r_l;apply ld_kind';assumption;rfl)
    | (apply r_l;apply ld_mn';assumption;rfl)
    | (apply r_l;apply ld_mx';assumption;rfl)
    | (apply r_l;apply ld_subs';assumption;rfl)
    | (apply r_l;apply ld_node';assumption;rfl)
    | (apply r_p;apply ix_sub0;rfl;rfl;simp)
    | (apply r_l;apply ld_node';exact hs;rfl)
    | (apply r_callA (f:=51) (ags:=[nodeA u]);rfl;exact hna;exact hgn)
    | (apply r_callA (f:=51);rfl;rfl;exact hnn)
    | (apply r_ldL;rfl;rfl;rfl)
    | (apply r_eql;rfl;rfl;(first | (apply dT;omega) | (apply dF;omega) | rfl))
    | (apply r_lss;rfl;rfl;(first | (apply dT;omega) | (apply dF;omega) | rfl))
    | (apply r_add;rfl;rfl;rfl;omega)
    | (apply r_max2;rfl;rfl;rfl)
    | (apply r_pickT;rfl)
    | (apply r_pickF;rfl)
    | (apply r_lenD;rfl)
    | (apply r_lenL;rfl)
    | (apply r_len0;rfl)
    | (apply r_gT;rfl)
    | (apply r_gF';rfl;rfl)
    | (apply r_gN';rfl)
    | ((apply r_gS (o:=default);rfl)<;>(intro h;try simp only [decide_eq_true_eq,decide_eq_false_iff_not,Bool.not_eq_true,Bool.not_eq_false] at h))
    | (apply r_box;((conv=>lhs;simp only [Nat.reduceAdd])<;>rfl);rfl;rfl;rfl)
    | (apply r_p;rfl)
    | (apply r_nilK)
    | (apply r_nil)
    | (apply k_V;rfl)
    | (apply k_P;rfl)
    | (apply k_PL;rfl)
    | (apply k_S;rfl)
    | (apply k_SL;rfl)
    | (apply k_A;rfl)
    | (apply k_T;rfl)
    | (apply k_F;rfl)
    | (apply k_D;rfl;rotate_left;rfl)
    | (apply k_nil)
    | (apply e_ret (vs:=[.d (.val _)]);rfl)
    | (apply e_ret;rfl)
    | (apply e_ret' (vs:=[.d (.val _)]);rfl)
    | (apply e_ret';rfl)
    | (apply w_seq)
    | (apply w_ops;((conv=>lhs;simp only [Nat.reduceAdd])<;>rfl))
    | (apply w_condT;rfl)
    | (apply w_condF;rfl)
    | ((apply w_condS;rfl)<;>(intro h;try simp only [decide_eq_true_eq,decide_eq_false_iff_not,Bool.not_eq_true,Bool.not_eq_false] at h))
    | (apply e_thenN)
    | (apply w_block)
    | (apply e_thenR)
    | (apply e_thenX)
    | (apply e_blkN)
    | (apply e_blkR)
    | (apply e_blkE)
    | (apply w_exit)
    | (apply w_ret)
    | (apply w_skip)
    | (apply e_blkE';rfl))
      exact retI rfl
    have e3 : (faTimes f mn mx).hi=if f.hi=0 then 0 else if f.hi=-1 ∨ mx=-1 then -1 else f.hi * mx:=by
      unfold faTimes;rw [if_neg (by simp [c1,c0]),if_neg (by simp [c0])]
    rw [e3] at h22 ⊢
    generalize f.hi=fh at *
    by_cases c2 : fh=0
    · rw [if_pos c2]
      refine b63 (by simp) (by simp) (w_init ?_)
      unfold x63
      repeat' (first
    | (apply r_mvV;rfl)
    | (apply r_mvP;rfl)
    | (apply r_mvPL;rfl)
    | (apply r_mvS;rfl)
    | (apply r_mvSL;rfl)
    | (apply r_mvA;rfl)
    | (apply r_mvT;rfl)
    | (apply r_mvF;rfl)
    | (apply r_mvD;rfl)
    | (apply r_faddD;rfl)
    | (apply r_faddL;rfl)
    | (apply r_l;apply ld_kind;assumption;rfl)
    | (apply r_l;apply ld_mn;assumption;rfl)
    | (apply r_l;apply ld_mx;assumption;rfl)
    | (apply r_l;apply ld_subs;assumption;rfl)
    | (apply r_l;apply ld_set;assumption;rfl)
    | (apply r_l;apply ld_node;assumption;rfl)
    | (apply r_l;apply ld_kind';assumption;rfl)
    | (apply r_l;apply ld_mn';assumption;rfl)
    | (apply r_l;apply ld_mx';assumption;rfl)
    | (apply r_l;apply ld_subs';assumption;rfl)
    | (apply r_l;apply ld_node';assumption;rfl)
    | (apply r_p;apply ix_sub0;rfl;rfl;simp)
    | (apply r_l;apply ld_node';exact hs;rfl)
    | (apply r_callA (f:=51) (ags:=[nodeA u]);rfl;exact hna;exact hgn)
    | (apply r_callA (f:=51);rfl;rfl;exact hnn)
    | (apply r_callA (f:=63) (ags:=[nodeA u]);rfl;exact hna;exact hg)
    | (apply r_ldL;rfl;rfl;rfl)
    | (apply r_eql;rfl;rfl;(first | (apply dT;omega) | (apply dF;omega) | rfl))
    | (apply r_lss;rfl;rfl;(first | (apply dT;omega) | (apply dF;omega) | rfl))
    | (apply r_add;rfl;rfl;rfl;omega)
    | (apply r_max2;rfl;rfl;rfl)
    | (apply r_pickT;rfl)
    | (apply r_pickF;rfl)
    | (apply r_lenD;rfl)
    | (apply r_lenL;rfl)
    | (apply r_len0;rfl)
    | (apply r_gT;rfl)
    | (apply r_gF';rfl;rfl)
    | (apply r_gN';rfl)
    | ((apply r_gS (o:=default);rfl)<;>(intro h;try simp only [decide_eq_true_eq,decide_eq_false_iff_not,Bool.not_eq_true,Bool.not_eq_false] at h))
    | (apply r_box;((conv=>lhs;simp only [Nat.reduceAdd])<;>rfl);rfl;rfl;rfl)
    | (apply r_p;rfl)
    | (apply r_nilK)
    | (apply r_nil)
    | (apply k_V;rfl)
    | (apply k_P;rfl)
    | (apply k_PL;rfl)
    | (apply k_S;rfl)
    | (apply k_SL;rfl)
    | (apply k_A;rfl)
    | (apply k_T;rfl)
    | (apply k_F;rfl)
    | (apply k_D;rfl;rotate_left;rfl)
    | (apply k_nil)
    | (apply e_ret (vs:=[.d (.val _)]);rfl)
    | (apply e_ret;rfl)
    | (apply e_ret' (vs:=[.d (.val _)]);rfl)
    | (apply e_ret';rfl)
    | (apply w_seq)
    | (apply w_ops;((conv=>lhs;simp only [Nat.reduceAdd])<;>rfl))
    | (apply w_condT;rfl)
    | (apply w_condF;rfl)
    | ((apply w_condS;rfl)<;>(intro h;try simp only [decide_eq_true_eq,decide_eq_false_iff_not,Bool.not_eq_true,Bool.not_eq_false] at h))
    | (apply e_thenN)
    | (apply w_block)
    | (apply e_thenR)
    | (apply e_thenX)
    | (apply e_blkN)
    | (apply e_blkR)
    | (apply e_blkE)
    | (apply w_exit)
    | (apply w_ret)
    | (apply w_skip)
    | (apply e_blkE';rfl))
      exact retI rfl
    rw [if_neg c2] at h22 ⊢
    by_cases c3 : fh=-1 ∨ mx=-1
    · rw [if_pos c3]
      rcases c3 with c3 | c3
      all_goals
        refine b63 (by simp) (by simp) (w_init ?_)
        unfold x63
        repeat' (first
    | (apply r_mvV;rfl)
    | (apply r_mvP;rfl)
    | (apply r_mvPL;rfl)
    | (apply r_mvS;rfl)
    | (apply r_mvSL;rfl)
    | (apply r_mvA;rfl)
    | (apply r_mvT;rfl)
    | (apply r_mvF;rfl)
    | (apply r_mvD;rfl)
    | (apply r_faddD;rfl)
    | (apply r_faddL;rfl)
    | (apply r_l;apply ld_kind;assumption;rfl)
    | (apply r_l;apply ld_mn;assumption;rfl)
    | (apply r_l;apply ld_mx;assumption;rfl)
    | (apply r_l;apply ld_subs;assumption;rfl)
    | (apply r_l;apply ld_set;assumption;rfl)
    | (apply r_l;apply ld_node;assumption;rfl)
    | (apply r_l;apply ld_kind';assumption;rfl)
    | (apply r_l;apply ld_mn';assumption;rfl)
    | (apply r_l;apply ld_mx';assumption;rfl)
    | (apply r_l;apply ld_subs';assumption;rfl)
    | (apply r_l;apply ld_node';assumption;rfl)
    | (apply r_p;apply ix_sub0;rfl;rfl;simp)
    | (apply r_l;apply ld_node';exact hs;rfl)
    | (apply r_callA (f:=51) (ags:=[nodeA u]);rfl;exact hna;exact hgn)
    | (apply r_callA (f:=51);rfl;rfl;exact hnn)
    | (apply r_callA (f:=63) (ags:=[nodeA u]);rfl;exact hna;exact hg)
    | (apply r_ldL;rfl;rfl;rfl)
    | (apply r_eql;rfl;rfl;(first | (apply dT;omega) | (apply dF;omega) | rfl))
    | (apply r_lss;rfl;rfl;(first | (apply dT;omega) | (apply dF;omega) | rfl))
    | (apply r_add;rfl;rfl;rfl;omega)
    | (apply r_max2;rfl;rfl;rfl)
    | (apply r_pickT;rfl)
    | (apply r_pickF;rfl)
    | (apply r_lenD;rfl)
    | (apply r_lenL;rfl)
    | (apply r_len0;rfl)
    | (apply r_gT;rfl)
    | (apply r_gF';rfl;rfl)
    | (apply r_gN';rfl)
    | ((apply r_gS (o:=default);rfl)<;>(intro h;try simp only [decide_eq_true_eq,decide_eq_false_iff_not,Bool.not_eq_true,Bool.not_eq_false] at h))
    | (apply r_box;((conv=>lhs;simp only [Nat.reduceAdd])<;>rfl);rfl;rfl;rfl)
    | (apply r_p;rfl)
    | (apply r_nilK)
    | (apply r_nil)
    | (apply k_V;rfl)
    | (apply k_P;rfl)
    | (apply k_PL;rfl)
    | (apply k_S;rfl)
    | (apply k_SL;rfl)
    | (apply k_A;rfl)
    | (apply k_T;rfl)
    | (apply k_F;rfl)
    | (apply k_D;rfl;rotate_left;rfl)
    | (apply k_nil)
    | (apply e_ret (vs:=[.d (.val _)]);rfl)
    | (apply e_ret;rfl)
    | (apply e_ret' (vs:=[.d (.val _)]);rfl)
    | (apply e_ret';rfl)
    | (apply w_seq)
    | (apply w_ops;((conv=>lhs;simp only [Nat.reduceAdd])<;>rfl))
    | (apply w_condT;rfl)
    | (apply w_condF;rfl)
    | ((apply w_condS;rfl)<;>(intro h;try simp only [decide_eq_true_eq,decide_eq_false_iff_not,Bool.not_eq_true,Bool.not_eq_false] at h))
    | (apply e_thenN)
    | (apply w_block)
    | (apply e_thenR)
    | (apply e_thenX)
    | (apply e_blkN)
    | (apply e_blkR)
    | (apply e_blkE)
    | (apply w_exit)
    | (apply w_ret)
    | (apply w_skip)
    | (apply e_blkE';rfl))
        all_goals exact retI rfl
    · rw [if_neg c3] at h22 ⊢
      have c4 : 0≤fh∧0≤mx:=by omega
      have hge : 0≤fh * mx:=Int.mul_nonneg c4.1 c4.2
      have hrange : -9223372036854775808≤fh * mx∧fh * mx < 9223372036854775808:=by omega
      refine b63 (by simp) (by simp) (w_init ?_)
      unfold x63
      repeat' (first
    | (apply r_mvV;rfl)
    | (apply r_mvP;rfl)
    | (apply r_mvPL;rfl)
    | (apply r_mvS;rfl)
    | (apply r_mvSL;rfl)
    | (apply r_mvA;rfl)
    | (apply r_mvT;rfl)
    | (apply r_mvF;rfl)
    | (apply r_mvD;rfl)
    | (apply r_faddD;rfl)
    | (apply r_faddL;rfl)
    | (apply r_l;apply ld_kind;assumption;rfl)
    | (apply r_l;apply ld_mn;assumption;rfl)
    | (apply r_l;apply ld_mx;assumption;rfl)
    | (apply r_l;apply ld_subs;assumption;rfl)
    | (apply r_l;apply ld_set;assumption;rfl)
    | (apply r_l;apply ld_node;assumption;rfl)
    | (apply r_l;apply ld_kind';assumption;rfl)
    | (apply r_l;apply ld_mn';assumption;rfl)
    | (apply r_l;apply ld_mx';assumption;rfl)
    | (apply r_l;apply ld_subs';assumption;rfl)
    | (apply r_l;apply ld_node';assumption;rfl)
    | (apply r_p;apply ix_sub0;rfl;rfl;simp)
    | (apply r_l;apply ld_node';exact hs;rfl)
    | (apply r_callA (f:=51) (ags:=[nodeA u]);rfl;exact hna;exact hgn)
    | (apply r_callA (f:=51);rfl;rfl;exact hnn)
    | (apply r_callA (f:=63) (ags:=[nodeA u]);rfl;exact hna;exact hg)
    | (apply r_mul;rfl;rfl;rfl;exact hrange)
    | (apply r_ldL;rfl;rfl;rfl)
    | (apply r_eql;rfl;rfl;(first | (apply dT;omega) | (apply dF;omega) | rfl))
    | (apply r_lss;rfl;rfl;(first | (apply dT;omega) | (apply dF;omega) | rfl))
    | (apply r_add;rfl;rfl;rfl;omega)
    | (apply r_max2;rfl;rfl;rfl)
    | (apply r_pickT;rfl)
    | (apply r_pickF;rfl)
    | (apply r_lenD;rfl)
    | (apply r_lenL;rfl)
    | (apply r_len0;rfl)
    | (apply r_gT;rfl)
    | (apply r_gF';rfl;rfl)
    | (apply r_gN';rfl)
    | ((apply r_gS (o:=default);rfl)<;>(intro h;try simp only [decide_eq_true_eq,decide_eq_false_iff_not,Bool.not_eq_true,Bool.not_eq_false] at h))
    | (apply r_box;((conv=>lhs;simp only [Nat.reduceAdd])<;>rfl);rfl;rfl;rfl)
    | (apply r_p;rfl)
    | (apply r_nilK)
    | (apply r_nil)
    | (apply k_V;rfl)
    | (apply k_P;rfl)
    | (apply k_PL;rfl)
    | (apply k_S;rfl)
    | (apply k_SL;rfl)
    | (apply k_A;rfl)
    | (apply k_T;rfl)
    | (apply k_F;rfl)
    | (apply k_D;rfl;rotate_left;rfl)
    | (apply k_nil)
    | (apply e_ret (vs:=[.d (.val _)]);rfl)
    | (apply e_ret;rfl)
    | (apply e_ret' (vs:=[.d (.val _)]);rfl)
    | (apply e_ret';rfl)
    | (apply w_seq)
    | (apply w_ops;((conv=>lhs;simp only [Nat.reduceAdd])<;>rfl))
    | (apply w_condT;rfl)
    | (apply w_condF;rfl)
    | ((apply w_condS;rfl)<;>(intro h;try simp only [decide_eq_true_eq,decide_eq_false_iff_not,Bool.not_eq_true,Bool.not_eq_false] at h))
    | (apply e_thenN)
    | (apply w_block)
    | (apply e_thenR)
    | (apply e_thenX)
    | (apply e_blkN)
    | (apply e_blkR)
    | (apply e_blkE)
    | (apply w_exit)
    | (apply w_ret)
    | (apply w_skip)
    | (apply e_blkE';rfl))
      exact retI rfl
  · have e : (knT (T.node k a b c d mn mx subs)).hi=0:=by rw [knT,if_neg h2,if_neg h3,if_neg h4,if_neg h5];rfl
    rw [e]
    clear ih ih' hns hksub hkt hok hoks hbt ht hsub' hpb hR hpl hno e
    refine b63 (by simp) (by simp) (w_init ?_)
    unfold x63
    repeat' (first
    | (apply r_mvV;rfl)
    | (apply r_mvP;rfl)
    | (apply r_mvPL;rfl)
    | (apply r_mvS;rfl)
    | (apply r_mvSL;rfl)
    | (apply r_mvA;rfl)
    | (apply r_mvT;rfl)
    | (apply r_mvF;rfl)
    | (apply r_mvD;rfl)
    | (apply r_faddD;rfl)
    | (apply r_faddL;rfl)
    | (apply r_l;apply ld_kind;assumption;rfl)
    | (apply r_l;apply ld_mn;assumption;rfl)
    | (apply r_l;apply ld_mx;assumption;rfl)
    | (apply r_l;apply ld_subs;assumption;rfl)
    | (apply r_l;apply ld_set;assumption;rfl)
    | (apply r_l;apply ld_node;assumption;rfl)
    | (apply r_l;apply ld_kind';assumption;rfl)
    | (apply r_l;apply ld_mn';assumption;rfl)
    | (apply r_l;apply ld_mx';assumption;rfl)
    | (apply r_l;apply ld_subs';assumption;rfl)
    | (apply r_l;apply ld_node';assumption;rfl)
    | (apply r_callA (f:=51);rfl;rfl;exact hnn)
    | (apply r_ldL;rfl;rfl;rfl)
    | (apply r_eql;rfl;rfl;(first | (apply dT;omega) | (apply dF;omega) | rfl))
    | (apply r_lss;rfl;rfl;(first | (apply dT;omega) | (apply dF;omega) | rfl))
    | (apply r_add;rfl;rfl;rfl;omega)
    | (apply r_max2;rfl;rfl;rfl)
    | (apply r_pickT;rfl)
    | (apply r_pickF;rfl)
    | (apply r_lenD;rfl)
    | (apply r_lenL;rfl)
    | (apply r_len0;rfl)
    | (apply r_gT;rfl)
    | (apply r_gF';rfl;rfl)
    | (apply r_gN';rfl)
    | ((apply r_gS (o:=default);rfl)<;>(intro h;try simp only [decide_eq_true_eq,decide_eq_false_iff_not,Bool.not_eq_true,Bool.not_eq_false] at h))
    | (apply r_box;((conv=>lhs;simp only [Nat.reduceAdd])<;>rfl);rfl;rfl;rfl)
    | (apply r_p;rfl)
    | (apply r_nilK)
    | (apply r_nil)
    | (apply k_V;rfl)
    | (apply k_P;rfl)
    | (apply k_PL;rfl)
    | (apply k_S;rfl)
    | (apply k_SL;rfl)
    | (apply k_A;rfl)
    | (apply k_T;rfl)
    | (apply k_F;rfl)
    | (apply k_D;rfl;rotate_left;rfl)
    | (apply k_nil)
    | (apply e_ret (vs:=[.d (.val _)]);rfl)
    | (apply e_ret;rfl)
    | (apply e_ret' (vs:=[.d (.val _)]);rfl)
    | (apply e_ret';rfl)
    | (apply w_seq)
    | (apply w_ops;((conv=>lhs;simp only [Nat.reduceAdd])<;>rfl))
    | (apply w_condT;rfl)
    | (apply w_condF;rfl)
    | ((apply w_condS;rfl)<;>(intro h;try simp only [decide_eq_true_eq,decide_eq_false_iff_not,Bool.not_eq_true,Bool.not_eq_false] at h))
    | (apply e_thenN)
    | (apply w_block)
    | (apply e_thenR)
    | (apply e_thenX)
    | (apply e_blkN)
    | (apply e_blkR)
    | (apply e_blkE)
    | (apply w_exit)
    | (apply w_ret)
    | (apply w_skip)
    | (apply e_blkE';rfl))
    exact retI rfl
end Go.Sv
namespace Go.Sv
open Go
end Go.Sv
namespace Go.Sv
set_option linter.unusedVariables false

end Go.Sv
namespace Go.Sv
set_option linter.unusedVariables false
structure FH (P : List Nat→Prop) (f : Fa) : Prop where
  ex : f.no=false→∃ w,P w
  lb : f.no=false→-1≤f.hi
  top : f.no=false→0≤f.hi→∃ w,P w∧(w.length : Int)=f.hi
  endl : f.no=false→f.hi=-1→∀ n : Nat,∃ w,P w∧n≤w.length
theorem FH.congr {P Q : List Nat→Prop} {f : Fa} (h : FH P f) (e : ∀ w,Q w↔P w) : FH Q f:=by
  have : Q=P:=funext fun w=>propext (e w)
  rw [this];exact h
theorem fh_no (P : List Nat→Prop) : FH P faNo:=⟨fun h=>by simp [faNo] at h,fun h=>by simp [faNo] at h,fun h=>by simp [faNo] at h,fun h=>by simp [faNo] at h⟩
theorem fh_E {P : List Nat→Prop} (h : P []) : FH P faE:=⟨fun _=>⟨[],h⟩,fun _=>by simp [faE],fun _ _=>⟨[],h,by simp [faE]⟩,fun _ h=>by simp [faE] at h⟩
theorem fh_then {P Q : List Nat→Prop} {f g : Fa} (hf : FH P f) (hg : FH Q g) : FH (cat2 P Q) (faThen f g):=by
  by_cases hn : f.no=true ∨ g.no=true
  · have : faThen f g=faNo:=by unfold faThen;rw [if_pos hn]
    rw [this];exact fh_no _
  have e1 : f.no=false:=by cases h : f.no<;>simp_all
  have e2 : g.no=false:=by cases h : g.no<;>simp_all
  have ehi : (faThen f g).hi=plusH f.hi g.hi:=by unfold faThen;rw [if_neg hn];split<;>rfl
  obtain ⟨u0,hu0⟩:=hf.ex e1
  obtain ⟨v0,hv0⟩:=hg.ex e2
  have l1:=hf.lb e1
  have l2:=hg.lb e2
  refine ⟨fun _=>⟨u0++v0,u0,v0,rfl,hu0,hv0⟩,fun _=>?_,fun _ h=>?_,fun _ h n=>?_⟩
  · rw [ehi];unfold plusH;split<;>omega
  · rw [ehi] at h ⊢
    unfold plusH at h ⊢
    split at h
    · omega
    · rename_i hq
      rw [if_neg hq]
      obtain ⟨u,hu,k1⟩:=hf.top e1 (by omega)
      obtain ⟨v,hv,k2⟩:=hg.top e2 (by omega)
      exact ⟨u++v,⟨u,v,rfl,hu,hv⟩,by rw [List.length_append];omega⟩
  · rw [ehi] at h
    unfold plusH at h
    split at h
    · rename_i hq
      rcases hq with hq | hq
      · obtain ⟨u,hu,k1⟩:=hf.endl e1 hq n
        exact ⟨u++v0,⟨u,v0,rfl,hu,hv0⟩,by rw [List.length_append];omega⟩
      · obtain ⟨v,hv,k1⟩:=hg.endl e2 hq n
        exact ⟨u0++v,⟨u0,v,rfl,hu0,hv⟩,by rw [List.length_append];omega⟩
    · omega
theorem fh_or {P Q : List Nat→Prop} {f g : Fa} (hf : FH P f) (hg : FH Q g) : FH (fun w=>P w ∨ Q w) (faOr f g):=by
  unfold faOr
  by_cases h1 : f.no=true
  · rw [if_pos h1]
    exact ⟨fun h=>by obtain ⟨w,hw⟩:=hg.ex h;exact ⟨w,.inr hw⟩,hg.lb,fun h h2=>by obtain ⟨w,hw,k⟩:=hg.top h h2;exact ⟨w,.inr hw,k⟩,fun h h2 n=>by obtain ⟨w,hw,k⟩:=hg.endl h h2 n;exact ⟨w,.inr hw,k⟩⟩
  rw [if_neg h1]
  by_cases h2 : g.no=true
  · rw [if_pos h2]
    exact ⟨fun h=>by obtain ⟨w,hw⟩:=hf.ex h;exact ⟨w,.inl hw⟩,hf.lb,fun h h2=>by obtain ⟨w,hw,k⟩:=hf.top h h2;exact ⟨w,.inl hw,k⟩,fun h h2 n=>by obtain ⟨w,hw,k⟩:=hf.endl h h2 n;exact ⟨w,.inl hw,k⟩⟩
  rw [if_neg h2]
  have e1 : f.no=false:=by simpa using h1
  have e2 : g.no=false:=by simpa using h2
  obtain ⟨u0,hu0⟩:=hf.ex e1
  have l1:=hf.lb e1
  have l2:=hg.lb e2
  refine ⟨fun _=>⟨u0,.inl hu0⟩,fun _=>?_,fun _ h=>?_,fun _ h n=>?_⟩
  · dsimp only;split<;>omega
  · dsimp only at h ⊢
    split at h
    · omega
    · rename_i hq
      rw [if_neg hq]
      rcases Int.le_total f.hi g.hi with hle | hle
      · obtain ⟨v,hv,k2⟩:=hg.top e2 (by omega)
        exact ⟨v,.inr hv,by omega⟩
      · obtain ⟨v,hv,k2⟩:=hf.top e1 (by omega)
        exact ⟨v,.inl hv,by omega⟩
  · dsimp only at h
    split at h
    · rename_i hq
      rcases hq with hq | hq
      · obtain ⟨u,hu,k1⟩:=hf.endl e1 hq n
        exact ⟨u,.inl hu,k1⟩
      · obtain ⟨v,hv,k1⟩:=hg.endl e2 hq n
        exact ⟨v,.inr hv,k1⟩
    · omega
theorem powL_rep {P : List Nat→Prop} {w : List Nat} (h : P w) : ∀ r : Nat,∃ v,powL P r v∧v.length=r * w.length
  | 0=>⟨[],rfl,by simp⟩
  | r + 1=>by
    obtain ⟨v,h1,h2⟩:=powL_rep h r
    exact ⟨w++v,⟨w,v,rfl,h,h1⟩,by rw [List.length_append,h2,Nat.succ_mul];omega⟩
theorem fh_times {P : List Nat→Prop} {f : Fa} {mn mx : Int} (hf : FH P f) (h0 : 0≤mn) (hm : mx=-1 ∨ mn≤mx) : FH (fun w=>∃ r : Nat,mn≤r∧(mx < 0 ∨ (r : Int)≤mx)∧powL P r w) (faTimes f mn mx):=by
  unfold faTimes
  by_cases c1 : mx=0 ∨ (f.no=true∧mn=0)
  · rw [if_pos c1]
    exact fh_E ⟨0,by omega,by omega,rfl⟩
  rw [if_neg c1]
  by_cases c2 : f.no=true
  · rw [if_pos c2];exact fh_no _
  rw [if_neg c2]
  have e1 : f.no=false:=by simpa using c2
  have hx : mx ≠ 0:=fun h=>c1 (.inl h)
  obtain ⟨u0,hu0⟩:=hf.ex e1
  have l1:=hf.lb e1
  refine ⟨fun _=>?_,fun _=>?_,fun _ h=>?_,fun _ h n=>?_⟩
  · obtain ⟨v,hv,_⟩:=powL_rep hu0 mn.toNat
    exact ⟨v,mn.toNat,by omega,by omega,hv⟩
  · dsimp only
    split
    · omega
    split
    · omega
    · rename_i k1 k2
      have : 0≤f.hi * mx:=Int.mul_nonneg (by omega) (by omega)
      omega
  · dsimp only at h ⊢
    by_cases k1 : f.hi=0
    · rw [if_pos k1] at h ⊢
      obtain ⟨w,hw,hl⟩:=hf.top e1 (by omega)
      obtain ⟨v,hv,hl2⟩:=powL_rep hw mn.toNat
      refine ⟨v,⟨mn.toNat,by omega,by omega,hv⟩,?_⟩
      have : w.length=0:=by omega
      rw [hl2,this];simp
    · rw [if_neg k1] at h ⊢
      by_cases k2 : f.hi=-1 ∨ mx=-1
      · rw [if_pos k2] at h;omega
      · rw [if_neg k2] at h ⊢
        obtain ⟨w,hw,hl⟩:=hf.top e1 (by omega)
        obtain ⟨v,hv,hl2⟩:=powL_rep hw mx.toNat
        refine ⟨v,⟨mx.toNat,by omega,by omega,hv⟩,?_⟩
        rw [hl2,← hl,Int.natCast_mul,Int.toNat_of_nonneg (by omega),Int.mul_comm]
  · dsimp only at h
    by_cases k1 : f.hi=0
    · rw [if_pos k1] at h;omega
    rw [if_neg k1] at h
    by_cases k2 : f.hi=-1 ∨ mx=-1
    · by_cases k3 : f.hi=-1
      · obtain ⟨w,hw,hl⟩:=hf.endl e1 k3 n
        obtain ⟨v,hv,hl2⟩:=powL_rep hw (max mn.toNat 1)
        refine ⟨v,⟨max mn.toNat 1,by omega,by omega,hv⟩,?_⟩
        rw [hl2]
        have:=Nat.le_mul_of_pos_left w.length (show 0 < max mn.toNat 1 by omega)
        omega
      · obtain ⟨w,hw,hl⟩:=hf.top e1 (by omega)
        obtain ⟨v,hv,hl2⟩:=powL_rep hw (max mn.toNat n)
        refine ⟨v,⟨max mn.toNat n,by omega,by omega,hv⟩,?_⟩
        rw [hl2]
        have:=Nat.le_mul_of_pos_right (max mn.toNat n) (show 0 < w.length by omega)
        omega
    · rw [if_neg k2] at h
      have : 0≤f.hi * mx:=Int.mul_nonneg (by omega) (by omega)
      omega
theorem knC_fh : ∀ (l : List T) (f : Fa) (P : List Nat→Prop),FH P f→(∀ u ∈ l,FH (L u) (knT u))→FH (cat2 P (catL l)) (knC l f)
  | [],f,P,hf,_=>by
    rw [knC]
    refine hf.congr fun w=>?_
    constructor
    · rintro ⟨u,v,rfl,h,rfl⟩;rw [List.append_nil];exact h
    · intro h;exact ⟨w,[],by simp,h,rfl⟩
  | t :: l,f,P,hf,h=>by
    rw [knC]
    refine (knC_fh l _ _ (fh_then hf (h t (by simp))) (fun u hu=>h u (by simp [hu]))).congr fun w=>?_
    constructor
    · rintro ⟨u,v,rfl,hu,x,y,rfl,hx,hy⟩
      exact ⟨u++x,y,by simp,⟨u,x,rfl,hu,hx⟩,hy⟩
    · rintro ⟨u,v,rfl,⟨x,y,rfl,hx,hy⟩,hv⟩
      exact ⟨x,y++v,by simp,hx,y,v,rfl,hy,hv⟩
theorem knO_fh : ∀ (l : List T) (f : Fa) (P : List Nat→Prop),FH P f→(∀ u ∈ l,FH (L u) (knT u))→FH (fun w=>P w ∨ altL l w) (knO l f)
  | [],f,P,hf,_=>by
    rw [knO]
    exact hf.congr fun w=>by simp [altL]
  | t :: l,f,P,hf,h=>by
    rw [knO]
    refine (knO_fh l _ _ (fh_or hf (h t (by simp))) (fun u hu=>h u (by simp [hu]))).congr fun w=>?_
    simp only [altL,or_assoc]
mutual
theorem kn_fh : ∀ t : T,okT t→FH (L t) (knT t)
  | .node k a b c d mn mx subs,ho=>by
    have hsub:=knL_fh subs (okT_subs ho)
    obtain ⟨ha,hb,hc,hd⟩:=okT_S ho
    have hk:=(plainT_kind (okT_plain ho)).1
    rw [knT]
    rcases hk with rfl | rfl | rfl | rfl | rfl
    · exact fh_E (L_k1.2 rfl)
    · rw [if_pos rfl]
      split
      · exact fh_no _
      · rename_i hz
        have hne : ∃ x,inG a b c d x=true:=Classical.byContradiction fun hn=>hz ((zero_iff ha hb hc hd).2 fun x _=>by
          cases e : inG a b c d x with
          | false=>rfl
          | true=>exact absurd ⟨x,e⟩ hn)
        obtain ⟨x,hx⟩:=hne
        exact ⟨fun _=>⟨[x],L_k2.2 ⟨x,rfl,hx⟩⟩,fun _=>by simp,fun _ _=>⟨[x],L_k2.2 ⟨x,rfl,hx⟩,by simp⟩,fun _ h=>by simp at h⟩
    · rw [if_neg (by omega),if_pos rfl]
      refine (knC_fh subs faE (fun w=>w=[]) (fh_E rfl) hsub).congr fun w=>?_
      rw [L_k3]
      constructor
      · intro h;exact ⟨[],w,rfl,rfl,h⟩
      · rintro ⟨u,v,rfl,rfl,h⟩;exact h
    · rw [if_neg (by omega),if_neg (by omega),if_pos rfl]
      refine (knO_fh subs faNo (fun w=>False) (fh_no _) hsub).congr fun w=>?_
      rw [L_k4]
      exact ⟨.inr,fun h=>h.resolve_left id⟩
    · rw [if_neg (by omega),if_neg (by omega),if_neg (by omega),if_pos rfl]
      obtain ⟨u,rfl⟩:=plainT_5 (okT_plain ho)
      have hR:=okT_R ho rfl
      rw [knR]
      refine (fh_times (hsub u (by simp)) hR.1.1 (by omega)).congr fun w=>?_
      rw [L_k5]
      have : fstL [u]=L u:=by funext w;rw [fstL]
      rw [this]
theorem knL_fh : ∀ l : List T,okL l→∀ u ∈ l,FH (L u) (knT u)
  | [],_,u,hu=>by simp at hu
  | t :: l,h,u,hu=>by
    simp only [okL] at h
    simp only [List.mem_cons] at hu
    rcases hu with rfl | hu
    · exact kn_fh u h.1
    · exact knL_fh l h.2 u hu
end
theorem same_len {t u : T} (ht : okT t) (hu : okT u) (h : ∀ w,L t w↔L u w) : (knT t).lo=(knT u).lo∧(knT t).hi=(knT u).hi:=by
  have f1:=kn_of t ht
  have f2:=(kn_of u hu).congr h
  have g1:=kn_fh t ht
  have g2:=(kn_fh u hu).congr h
  have o1:=kn_ok t ht
  have o2:=kn_ok u hu
  generalize knT t=f at *
  generalize knT u=g at *
  cases h1 : f.no with
  | true =>
    cases h2 : g.no with
    | true=>rw [o1.2.1 h1,o2.2.1 h2];exact ⟨rfl,rfl⟩
    | false =>
      obtain ⟨w,hw⟩:=g2.ex h2
      exact absurd hw (f1.no h1 w)
  | false =>
    cases h2 : g.no with
    | true =>
      obtain ⟨w,hw⟩:=g1.ex h1
      exact absurd hw (f2.no h2 w)
    | false =>
      obtain ⟨⟨w1,k1,k2⟩,k3⟩:=f1.lo h1
      obtain ⟨⟨w2,m1,m2⟩,m3⟩:=f2.lo h2
      have q1:=k3 w2 m1
      have q2:=m3 w1 k1
      refine ⟨by omega,?_⟩
      have l1:=g1.lb h1
      have l2:=g2.lb h2
      by_cases c1 : f.hi=-1
      · by_cases c2 : g.hi=-1
        · omega
        · obtain ⟨w,hw,hl⟩:=g1.endl h1 c1 (g.hi.toNat + 1)
          have:=f2.hi h2 (by omega) w hw
          omega
      · by_cases c2 : g.hi=-1
        · obtain ⟨w,hw,hl⟩:=g2.endl h2 c2 (f.hi.toNat + 1)
          have:=f1.hi h1 (by omega) w hw
          omega
        · obtain ⟨w,hw,hl⟩:=g1.top h1 (by omega)
          obtain ⟨v,hv,hl2⟩:=g2.top h2 (by omega)
          have:=f2.hi h2 (by omega) w hw
          have:=f1.hi h1 (by omega) v hv
          omega
mutual
def allK (m : Nat) : T→Prop
  | .node k a b c d mn mx subs=>okF (knT (.node k a b c d mn mx subs)) ((T.cnt (.node k a b c d mn mx subs) : Nat) * pw m)∧allKL m subs
def allKL (m : Nat) : List T→Prop
  | []=>True
  | t :: l=>allK m t∧allKL m l
end
theorem allK_self {m : Nat} {t : T} (h : allK m t) : okF (knT t) ((t.cnt : Nat) * pw m):=by cases t;exact h.1
theorem allKL_get {m : Nat} : ∀ {l : List T} (h : allKL m l) (i : Nat) (hi : i < l.length),allK m l[i]
  | t :: l,h,0,_=>h.1
  | t :: l,h,i + 1,hi=>allKL_get h.2 i (by simpa using hi)
theorem allKL_mem {m : Nat} : ∀ {l : List T},allKL m l→∀ {u : T},u ∈ l→allK m u
  | t :: l,h,u,hu=>by
    simp only [List.mem_cons] at hu
    rcases hu with rfl | hu
    · exact h.1
    · exact allKL_mem h.2 hu
mutual
theorem plain_allK : ∀ t : T,okT t→isP t=true→allK 0 t
  | .node k a b c d mn mx subs,ho,hp=>by
    rw [isP,Bool.and_eq_true] at hp
    have hsub:=plain_allKL subs (okT_subs ho) hp.1
    refine ⟨?_,hsub⟩
    have hS:=okT_S ho
    have hp0 : pw 0=20:=rfl
    have hc1 : (1 : Int)≤(T.cnt (.node k a b c d mn mx subs) : Nat):=by simp only [T.cnt];omega
    have hb : (20 : Int)≤(T.cnt (.node k a b c d mn mx subs) : Nat) * pw 0:=by rw [hp0];omega
    have hsum : (0 : Int) + (cntL subs : Nat) * pw 0≤(T.cnt (.node k a b c d mn mx subs) : Nat) * pw 0:=by
      rw [hp0];simp only [T.cnt];omega
    have hsub' : ∀ u ∈ subs,okF (knT u) ((u.cnt : Nat) * pw 0):=fun u hu=>allK_self (allKL_mem hsub hu)
    have hk:=(plainT_kind (okT_plain ho)).1
    generalize ((T.cnt (.node k a b c d mn mx subs) : Nat) : Int) * pw 0=X at hb hsum ⊢
    rw [knT]
    rcases hk with rfl | rfl | rfl | rfl | rfl
    · exact okF_E (by omega)
    · rw [if_pos rfl]
      split
      · exact okF_no (by omega)
      · exact ⟨hS,fun h=>by simp at h,fun _=>by constructor<;>simp,by show 2 * (1 : Int)≤_;omega,by show 2 * (1 : Int)≤_;omega⟩
    · rw [if_neg (by omega),if_pos rfl]
      exact okF_mono (knC_ok _ subs faE 0 (Int.le_refl _) (okF_E (Int.le_refl _)) hsub') hsum
    · rw [if_neg (by omega),if_neg (by omega),if_pos rfl]
      exact okF_mono (knO_ok _ subs faNo 0 (Int.le_refl _) (okF_no (Int.le_refl _)) hsub') hsum
    · rw [if_neg (by omega),if_neg (by omega),if_neg (by omega),if_pos rfl]
      obtain ⟨u,rfl⟩:=plainT_5 (okT_plain ho)
      have hb5:=hp.2
      simp [bareT] at hb5
      obtain ⟨_,rfl,rfl⟩:=hb5
      rw [knR]
      have hu:=hsub' u (by simp)
      unfold faTimes
      split
      · exact okF_E (by omega)
      split
      · exact okF_no (by omega)
      · refine ⟨hu.1,fun h=>by simp at h,fun _=>⟨by simp,?_⟩,by simp;omega,?_⟩
        · dsimp only;split
          · omega
          split<;>omega
        · dsimp only
          split
          · omega
          split
          · omega
          · rename_i h;simp at h
theorem plain_allKL : ∀ l : List T,okL l→isPL l=true→allKL 0 l
  | [],_,_=>trivial
  | t :: l,ho,hp=>by
    simp only [okL] at ho
    rw [isPL,Bool.and_eq_true] at hp
    exact ⟨plain_allK t ho.1 hp.1,plain_allKL l ho.2 hp.2⟩
end
theorem sets_rep {u : T} {lo : Nat} {hi : Int} : ∀ q ∈ setsT (repT u lo hi),q ∈ setsT u:=by
  have hrow : ∀ q ∈ setsL (repRow u lo hi),q ∈ setsT u:=by
    have key : ∀ (n : Nat) (t : T),(∀ q ∈ setsT t,q ∈ setsT u)→∀ q ∈ setsL (List.replicate n t),q ∈ setsT u:=by
      intro n t h
      induction n with
      | zero=>intro q hq;simp [setsL] at hq
      | succ n ih =>
        intro q hq
        rw [List.replicate_succ,setsL,List.mem_append] at hq
        rcases hq with hq | hq
        · exact h q hq
        · exact ih q hq
    intro q hq
    rw [repRow,setsL_app,List.mem_append] at hq
    rcases hq with hq | hq
    · exact key _ _ (fun q h=>h) q hq
    · split at hq
      · simpa [setsL,starN,setsT] using hq
      · refine key _ _ (fun q h=>?_) q hq
        simpa [maybeN,setsT,setsL] using h
  intro q hq
  unfold repT at hq
  split at hq
  · simp [setsT,setsL] at hq
  · rename_i v hv
    refine hrow q ?_
    rw [hv,setsL,setsL,List.append_nil];exact hq
  · rename_i l hl1 hl2
    refine hrow q ?_
    simpa [setsT] using hq
mutual
theorem sets_xT : ∀ t : T,okT t→∀ q ∈ setsT (xT t),q ∈ setsT t
  | .node k a b c d mn mx subs,ho,q,hq=>by
    have hsub:=sets_xL subs (okT_subs ho)
    rw [xT] at hq
    split at hq
    · rename_i h5
      subst h5
      obtain ⟨u,rfl⟩:=plainT_5 (okT_plain ho)
      simp only [xL,List.headD_cons] at hq hsub
      have h1:=sets_rep q hq
      rw [setsT,if_neg (by omega)]
      refine hsub q ?_
      rw [setsL,setsL,List.append_nil];exact h1
    · split at hq
      · rename_i h5 h34
        rw [setsT,if_neg (by omega)] at hq
        rw [setsT,if_neg (by omega)]
        exact hsub q hq
      · exact hq
theorem sets_xL : ∀ l : List T,okL l→∀ q ∈ setsL (xL l),q ∈ setsL l
  | [],_,q,hq=>hq
  | t :: l,ho,q,hq=>by
    simp only [okL] at ho
    rw [xL,setsL,List.mem_append] at hq
    rw [setsL,List.mem_append]
    rcases hq with hq | hq
    · exact .inl (sets_xT t ho.1 q hq)
    · exact .inr (sets_xL l ho.2 q hq)
end
end Go.Sv
