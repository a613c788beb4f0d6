/- A part of the proof of the law DeriveFirst: that it answers true for every input, and that the input reads behind the call as before (no condition). -/
import Derived.Test.YtcnlgmajkclgjaaDeriveFirstG5
set_option linter.all false
set_option linter.unusedSectionVars false
set_option linter.unusedVariables false
set_option linter.unusedSimpArgs false
namespace Go.Sv
open Go Go.Proofs
def x54 : XC:=(.seq (.ops 1 [ (0,⟨some 2,none,.alloc [(.int .i64 0),(.int .u64 0),(.int .u64 0),(.int .u64 0),(.int .u64 0),(.int .i64 0),(.int .i64 0),(.slice none 0 0)]⟩)] (some [0,2])) (.seq (.ops 1 [ (0,⟨some 3,none,.mv (.k (.d (.val (.slice none 0 0))))⟩)] (some [0,2,3])) (.seq (.ops 1 [ (0,⟨some 4,none,.mv (.k (.d (.val (.int .i64 (-1)))))⟩)] (some [0,2,3,4])) (.seq (.seq (.ops 4 [ (0,⟨some 7,none,.mv (.t 0)⟩),(1,⟨some 8,none,.call 103 [(.k (.d (.val (.int .i64 4)))),(.t 7)] none true⟩),(2,⟨some 9,none,.lenS (.t 8)⟩),(3,⟨some 10,none,.mv (.k (.d (.val (.int .i64 0))))⟩)] (some [2,3,4,8,9,10])) (.block 0 (.loop (.seq (.ops 1 [ (0,⟨some 11,none,.arith .lss (.t 10) (.t 9)⟩)] (some [2,3,4,8,9,10,11])) (.seq (.cond (.t 11) .skip (.exit 0)) (.seq (.block 1 (.seq (.ops 4 [ (0,⟨some 12,none,.idxS 8 (.t 8) (.t 10)⟩),(1,⟨some 13,none,.load (some 8) (.t 12)⟩),(2,⟨some 6,none,.alloc [(.int .i64 0),(.int .u64 0),(.int .u64 0),(.int .u64 0),(.int .u64 0),(.int .i64 0),(.int .i64 0),(.slice none 0 0)]⟩),(3,⟨none,none,.store 8 (.t 6) (.t 13)⟩)] (some [2,3,4,6,8,9,10])) (.block 2 (.seq (.ops 3 [ (0,⟨some 15,none,.load (some 8) (.t 6)⟩),(1,⟨some 16,none,.call 105 [(.t 15)] none false⟩),(2,⟨some 14,none,.mv (.t 16)⟩)] (some [2,3,4,6,8,9,10,14])) (.cond (.t 14) .skip (.seq (.ops 8 [ (0,⟨some 18,none,.fadd 0 (.t 6)⟩),(1,⟨some 19,none,.load none (.t 18)⟩),(2,⟨some 20,none,.arith .eql (.t 19) (.k (.d (.val (.int .i64 2))))⟩),(3,⟨some 21,none,.mv (.t 20)⟩),(4,⟨some 22,(some (21,true)),.mv (.t 4)⟩),(5,⟨some 23,(some (21,true)),.arith .geq (.t 22) (.k (.d (.val (.int .i64 0))))⟩),(6,⟨some 24,none,.pick (.t 21) (.t 23) (.k (.d (.val (.bool false))))⟩),(7,⟨some 17,none,.mv (.t 24)⟩)] (some [2,3,4,6,8,9,10,17])) (.cond (.t 17) (.ops 13 [ (0,⟨some 25,none,.mv (.t 3)⟩),(1,⟨some 26,none,.mv (.t 4)⟩),(2,⟨some 27,none,.mv (.t 3)⟩),(3,⟨some 28,none,.mv (.t 4)⟩),(4,⟨some 29,none,.idxS 8 (.t 27) (.t 28)⟩),(5,⟨some 30,none,.fadd 1 (.t 29)⟩),(6,⟨some 31,none,.load (some 4) (.t 30)⟩),(7,⟨some 32,none,.fadd 1 (.t 6)⟩),(8,⟨some 33,none,.load (some 4) (.t 32)⟩),(9,⟨some 34,none,.call 73 [(.t 31),(.t 33)] none false⟩),(10,⟨some 35,none,.idxS 8 (.t 25) (.t 26)⟩),(11,⟨some 36,none,.fadd 1 (.t 35)⟩),(12,⟨none,none,.store 4 (.t 36) (.t 34)⟩)] (some [2,3,4,8,9,10])) (.seq (.ops 4 [ (0,⟨some 38,none,.fadd 0 (.t 6)⟩),(1,⟨some 39,none,.load none (.t 38)⟩),(2,⟨some 40,none,.arith .eql (.t 39) (.k (.d (.val (.int .i64 2))))⟩),(3,⟨some 37,none,.mv (.t 40)⟩)] (some [2,3,4,6,8,9,10,37])) (.cond (.t 37) (.seq (.ops 3 [ (0,⟨some 41,none,.mv (.t 3)⟩),(1,⟨some 42,none,.lenS (.t 41)⟩),(2,⟨some 4,none,.mv (.t 42)⟩)] (some [2,3,4,6,8,9,10])) (.ops 7 [ (0,⟨some 43,none,.mv (.t 3)⟩),(1,⟨some 44,none,.fadd 1 (.t 6)⟩),(2,⟨some 45,none,.load (some 4) (.t 44)⟩),(3,⟨some 46,none,.build [(.int .i64 0),(.int .u64 0),(.int .u64 0),(.int .u64 0),(.int .u64 0),(.int .i64 0),(.int .i64 0),(.slice none 0 0)] [(0,1,(.k (.d (.val (.int .i64 2))))),(1,4,(.t 45))]⟩),(4,⟨some 47,none,.mkrow [(.int .i64 0),(.int .u64 0),(.int .u64 0),(.int .u64 0),(.int .u64 0),(.int .i64 0),(.int .i64 0),(.slice none 0 0)] 1 8 [(0,8,(.t 46))]⟩),(5,⟨some 48,none,.app [(.int .i64 0),(.int .u64 0),(.int .u64 0),(.int .u64 0),(.int .u64 0),(.int .i64 0),(.int .i64 0),(.slice none 0 0)] 80 (.t 43) (.t 47)⟩),(6,⟨some 3,none,.mv (.t 48)⟩)] (some [2,3,4,8,9,10]))) (.seq (.ops 5 [ (0,⟨some 50,none,.mv (.t 3)⟩),(1,⟨some 51,none,.mkfn 111 [(.t 6)]⟩),(2,⟨some 52,none,.call 104 [(.t 50),(.t 51)] none false⟩),(3,⟨some 53,none,.un .not (.t 52)⟩),(4,⟨some 49,none,.mv (.t 53)⟩)] (some [2,3,4,6,8,9,10,49])) (.cond (.t 49) (.ops 5 [ (0,⟨some 54,none,.mv (.t 3)⟩),(1,⟨some 55,none,.load (some 8) (.t 6)⟩),(2,⟨some 56,none,.mkrow [(.int .i64 0),(.int .u64 0),(.int .u64 0),(.int .u64 0),(.int .u64 0),(.int .i64 0),(.int .i64 0),(.slice none 0 0)] 1 8 [(0,8,(.t 55))]⟩),(3,⟨some 57,none,.app [(.int .i64 0),(.int .u64 0),(.int .u64 0),(.int .u64 0),(.int .u64 0),(.int .i64 0),(.int .i64 0),(.slice none 0 0)] 80 (.t 54) (.t 56)⟩),(4,⟨some 3,none,.mv (.t 57)⟩)] (some [2,3,4,8,9,10])) .skip))))))))))) (.ops 2 [ (0,⟨some 58,none,.arith .add (.t 10) (.k (.d (.val (.int .i64 1))))⟩),(1,⟨some 10,none,.mv (.t 58)⟩)] (some [2,3,4,8,9,10])))))))) (.seq (.ops 4 [ (0,⟨some 59,none,.mv (.t 3)⟩),(1,⟨some 60,none,.call 106 [] none false⟩),(2,⟨some 61,none,.call 109 [(.k (.d (.val (.int .i64 4)))),(.t 59),(.t 60)] none false⟩),(3,⟨none,none,.store 8 (.t 2) (.t 61)⟩)] (some [2])) .ret)))))
def md54 : FuncId→Option Nat × Bool
  | 103=>(none,true)
  | _=>(none,false)
def od54 : Nat→List (List Nat) × List Nat × Option (List Nat)
  | 0=>([],[],some [0,2])
  | 1=>([],[],some [0,2,3])
  | 2=>([],[],some [0,2,3,4])
  | 3=>([],[],some [2,3,4,8,9,10])
  | 4=>([],[],some [2,3,4,8,9,10,11])
  | 5=>([],[],some [2,3,4,6,8,9,10])
  | 6=>([],[],some [2,3,4,6,8,9,10,14])
  | 7=>([],[],some [2,3,4,6,8,9,10,17])
  | 8=>([[],[],[],[],[2,3],[2,3,4],[2,3,4,5],[],[7],[2,3,4,5,6,7,8],[0,1,2,3,4,5,6,7,8,9],[0,1,2,3,4,5,6,7,8,9,10],[0,1,2,3,4,5,6,7,8,9,10,11]],[0,1,2,3,4,5,6,7,8,9,10,11,12],some [2,3,4,8,9,10])
  | 9=>([],[],some [2,3,4,6,8,9,10,37])
  | 10=>([],[],some [2,3,4,6,8,9,10])
  | 11=>([],[],some [2,3,4,8,9,10])
  | 12=>([],[],some [2,3,4,6,8,9,10,49])
  | 13=>([],[],some [2,3,4,8,9,10])
  | 14=>([],[],some [2,3,4,8,9,10])
  | 15=>([],[],some [2])
  | _=>([],[],none)
theorem b54 {ags : List AV} {row : Option (List DV)} {r : AV} {row' nw : Option (List DV)} (hal : ags.length≤62) (hrow : row'.isSome=true→row.isSome=true) (h : xwp Try.prog x54 (retK [.cell 2 (some 8)] row.isSome r row' nw) (St.init ags row)) : Good Try.prog 54 ags row r row' nw :=
  good_of_body' (md:=md54) (od:=od54) Try.f54 (by kernel_rfl) (by kernel_rfl) (by kernel_rfl) (by kernel_rfl) (by kernel_rfl) hal hrow h

set_option maxRecDepth 100000
set_option maxHeartbeats 4000000
attribute [local irreducible] W E R KP thenK blockK retK Good xwp aRun
theorem encL_end (l : List T) (t : T) : encL (l++[t])=encL l++encN t:=by rw [encL_app,encL,encL,List.append_nil]
theorem altP_cnt : ∀ (l : List T) (s : List T × Option Nat),(∀ u ∈ s.1,u.cnt≤100000000)→(∀ u ∈ l,u.cnt≤100000000)→∀ u ∈ (l.foldl altStep s).1,u.cnt≤100000000
  | [],s,h,_=>h
  | t :: l,s,h,ht=>altP_cnt l _ (altStep_mem (P:=fun u=>u.cnt≤100000000) (fun t _=>by rw [cnt_cls];omega) (fun t u=>by rw [cnt_or];omega) h (ht t (by simp))) fun u hu=>ht u (by simp [hu])
theorem altP_I : ∀ (l : List T) (s : List T × Option Nat),AltI s→(∀ t ∈ l,okS t)→AltI (l.foldl altStep s)
  | [],s,h,_=>h
  | t :: l,s,h,ht=>altP_I l _ (altStep_I h (ht t (by simp))) fun u hu=>ht u (by simp [hu])
theorem altStep_len (s : List T × Option Nat) (t : T) : (altStep s t).1.length≤s.1.length + 1:=by
  unfold altStep
  split
  · omega
  split
  · split
    · simp
    · simp
  · split
    · omega
    · simp
theorem altP_len (l : List T) : ∀ i,i≤l.length→((l.take i).foldl altStep ([],none)).1.length≤i
  | 0,_=>by simp
  | i + 1,h=>by
    have ih:=altP_len l i (by omega)
    have h2:=altStep_len ((l.take i).foldl altStep ([],none)) (l[i]'(by omega))
    rw [List.take_succ_eq_append_getElem (by omega),List.foldl_append]
    simp only [List.foldl_cons,List.foldl_nil]
    omega
theorem alt54_good (l : List T) (hc : cntL l≤50000000) (hok : ∀ t ∈ flatL 4 l,okS t) : Good Try.prog 54 [.d (.sl (encL l) l.length)] none (nodeA (altS l)) none none:=by
  have hll:=cntL_len l
  have hfl:=flatL_len 4 l
  have hfc:=cntL_flat 4 l
  have h103:=flat103_good 4 l hc
  have h106:=no106_good
  have hN : nodeA noneT=.agg [.i 2,.d (.val (.int .u64 0)),.d (.val (.int .u64 0)),.d (.val (.int .u64 0)),.d (.val (.int .u64 0)),.i 0,.i 0,.d (.sl [] 0)]:=rfl
  rw [hN] at h106
  have hcnt : ∀ t ∈ flatL 4 l,t.cnt≤100000000:=fun t ht=>by
    obtain ⟨j,hj,rfl⟩:=List.getElem_of_mem ht
    have:=cntL_get (flatL 4 l) j hj
    omega
  have hfin : altS l=ofT 4 ((flatL 4 l).foldl altStep ([],none)).1 noneT:=rfl
  rw [hfin]
  clear hfin hfc
  generalize flatL 4 l=F at h103 hfl hok hcnt ⊢
  refine b54 (by simp) (by simp) (w_init ?_)
  unfold x54
  repeat' (first|(apply r_mvV;rfl)|(apply r_mvS;rfl)|(apply r_callMN (id:=5) (us:=[]);rfl;rfl;rfl;exact h103;rfl)|(apply r_lenL;rfl)|(apply r_alloc;((conv=>lhs;simp only [Nat.reduceAdd])<;>rfl);rfl)|(apply r_nilK)|(apply k_V;rfl)|(apply k_PL;rfl)|(apply k_S;rfl)|(apply k_SL;rfl)|(apply k_nil)|(apply w_seq)|(apply w_ops;((conv=>lhs;simp only [Nat.reduceAdd])<;>rfl))|(apply e_thenN)|(apply w_block))
  apply w_loopF (ι:=Nat × (List T × Option Nat)) (S:=fun p=>(fun (i : Nat) (s : List T × Option Nat)=>(⟨(((((Fr.nil.put 2 (.ptrL 1 0)).put 3 (.slL 51 0 s.1.length 8)).put 4 (.i (atI s.2))).put 8 (.slL 50 0 F.length 8)).put 9 (.i F.length)).put 10 (.i i),rowsOf [(1,zeroA zsN),(50,(encL F).map AV.d),(51,(encL s.1).map AV.d)],Frz.buts 100 [1,51],100⟩ : St)) p.1 p.2) (m:=fun p=>F.length - p.1) (I:=fun p=>p.1≤F.length∧p.2=(F.take p.1).foldl altStep ([],none)) (i0:=(0,([],none)))
  · exact ⟨Nat.zero_le _,rfl⟩
  · refine Wk.f (wkM [(50,5),(51,1000000)] [51] rfl ?_ ?_ rfl ?_)
    · intro p hp
      simp only [List.mem_cons,List.not_mem_nil,or_false] at hp
      rcases hp with rfl | rfl | rfl
      · exact ⟨by omega,.inr ⟨rfl,_,rfl,.data rfl⟩⟩
      · exact ⟨by omega,.inr ⟨rfl,_,rfl,.data (isD_encL _)⟩⟩
      · exact ⟨by omega,.inl ⟨rfl,rfl⟩⟩
    · intro q hq;simp only [List.mem_cons,List.not_mem_nil,or_false] at hq;rcases hq with rfl | rfl<;>rfl
    · dsimp only
      repeat' (first|exact FWk.nil|(apply FWk.i;rfl;(first|rfl|omega|(simp;done)))|(apply FWk.sl;rfl;rfl;rfl;rfl;omega;rfl)|(apply FWk.ptr;rfl;rfl;rfl;omega;rfl)|(apply FWk.slN;rfl;omega;rfl))
  rintro ⟨i,s⟩ K ⟨hi,hs0⟩ hK
  dsimp only at hi hs0 hK ⊢
  have hlen:=altP_len F i hi
  rw [← hs0] at hlen
  rcases Nat.lt_or_ge i F.length with hlt | hge
  · have hs:=NodeAt.sub hlt
    have hn:=no105_good F[i]
    have hov:=hok F[i] (List.getElem_mem hlt)
    have hI : AltI s:=by rw [hs0];exact altP_I _ _ (fun i hi=>by cases hi) fun t ht=>hok t (List.mem_of_mem_take ht)
    have hcs : ∀ u ∈ s.1,u.cnt≤100000000:=by rw [hs0];exact altP_cnt _ _ (by simp) fun t ht=>hcnt t (List.mem_of_mem_take ht)
    have hstep : (F.take (i + 1)).foldl altStep ([],none)=altStep s F[i]:=by rw [List.take_succ_eq_append_getElem hlt,List.foldl_append,← hs0];rfl
    have fin : ∀ s' fr C Z nx,altStep s F[i]=s'→Wkf ⟨fr,C,Z,nx⟩ ((fun (i : Nat) (s : List T × Option Nat)=>(⟨(((((Fr.nil.put 2 (.ptrL 1 0)).put 3 (.slL 51 0 s.1.length 8)).put 4 (.i (atI s.2))).put 8 (.slL 50 0 F.length 8)).put 9 (.i F.length)).put 10 (.i i),rowsOf [(1,zeroA zsN),(50,(encL F).map AV.d),(51,(encL s.1).map AV.d)],Frz.buts 100 [1,51],100⟩ : St)) (i + 1) s')→K ⟨fr,C,Z,nx⟩:=by
      intro s' fr C Z nx h1 h2
      exact hK (i + 1,s') fr C Z nx ⟨by dsimp only;omega,by rw [hstep,h1]⟩ (by dsimp only;omega) h2
    clear hK hs0 hstep hok hcnt
    generalize F[i]=v at hs hn hov fin
    obtain ⟨k,a,b,c,d,mn,mx,subs⟩:=v
    have e0 : nodeA (T.node k a b c d mn mx subs)=.agg [.i k,.d (.val (.int .u64 a)),.d (.val (.int .u64 b)),.d (.val (.int .u64 c)),.d (.val (.int .u64 d)),.i mn,.i mx,.d (.sl (encL subs) subs.length)]:=rfl
    rw [e0] at hn
    rcases Bool.eq_false_or_eq_true (isNo (T.node k a b c d mn mx subs)) with hq | hq
    · rw [hq] at hn
      have fin:=fun fr C Z nx=>fin s fr C Z nx (by unfold altStep;rw [if_pos hq])
      repeat' (first|(apply r_mvV;rfl)|(apply r_ixN (j:=i) (b:=50);rfl;rfl;rfl;omega)|(apply r_ldN (t:=(T.node k a b c d mn mx subs));rfl;rfl;exact hs)|(apply r_ldL (v:=.agg [.i k,.d (.val (.int .u64 a)),.d (.val (.int .u64 b)),.d (.val (.int .u64 c)),.d (.val (.int .u64 d)),.i mn,.i mx,.d (.sl (encL subs) subs.length)]);rfl;rfl;rfl)|(apply r_callA (ags:=[.agg [.i k,.d (.val (.int .u64 a)),.d (.val (.int .u64 b)),.d (.val (.int .u64 c)),.d (.val (.int .u64 d)),.i mn,.i mx,.d (.sl (encL subs) subs.length)]]);rfl;rfl;exact hn)|(apply r_lss;rfl;rfl;(first|(apply dT;omega)|(apply dF;omega)|rfl))|(apply r_add;rfl;rfl;rfl;omega)|(apply r_alloc;((conv=>lhs;simp only [Nat.reduceAdd])<;>rfl);rfl)|(apply r_stL;rfl;rfl;rfl;rfl;(first|rfl|(simp only [z_nil,z_add]<;>rfl));rfl;rfl)|(apply r_nilK)|(apply k_V;rfl)|(apply k_PL;rfl)|(apply k_SL;rfl)|(apply k_nil)|(apply w_seq)|(apply w_ops;((conv=>lhs;simp only [Nat.reduceAdd])<;>rfl))|(apply w_condT;rfl)|(apply e_thenN)|(apply w_block)|(apply e_blkN)|(apply w_skip))
      apply e_thenK;apply fin
      dsimp only
      refine Wk.f (wkM [] [] rfl ?_ ?_ rfl ?_)
      · intro p hp;simp only [List.mem_cons,List.not_mem_nil,or_false] at hp;rcases hp with rfl | rfl | rfl<;>first | exact ⟨by omega,.inr ⟨rfl,_,rfl,.data rfl⟩⟩ | exact ⟨by omega,.inr ⟨rfl,_,rfl,.data (isD_encL _)⟩⟩
      · intro q hq;simp only [List.mem_cons,List.not_mem_nil,or_false] at hq;rcases hq with rfl | rfl<;>rfl
      · repeat' (first|exact FWk.nil|(apply FWk.i;rfl;(first|rfl|omega|(simp;done)))|(apply FWk.sl;rfl;rfl;rfl;rfl;omega;rfl)|(apply FWk.ptr;rfl;rfl;rfl;omega;rfl))
    rw [hq] at hn
    by_cases hk : k=2
    · obtain ⟨P,at'⟩:=s
      dsimp only at hlen hI hcs fin ⊢
      cases at' with
      | some q =>
        obtain ⟨ac,bc,cc,dc,hP,hac,hbc,hcc,hdc⟩:=hI q rfl
        simp only at hP
        have hql:=(List.getElem?_eq_some_iff.1 hP).1
        have hPd : P.getD q noneT=.node 2 ac bc cc dc 0 0 []:=by rw [List.getD_eq_getElem?_getD,hP];rfl
        have fin:=fun fr C Z nx=>fin (P.set q (.node 2 (orW ac a) (orW bc b) (orW cc c) (orW dc d) 0 0 []),some q) fr C Z nx (by
          unfold altStep
          rw [if_neg (by simp [hq]),if_pos (by simpa [T.kind] using hk)]
          simp only [hPd,orN])
        have hor:=or73_good hac hbc hcc hdc hov.1 hov.2.1 hov.2.2.1 hov.2.2.2
        unfold setA at hor
        have hsq : NodeAt (encL P) (q * 8) (.node 2 ac bc cc dc 0 0 []):=by
          have:=NodeAt.sub hql
          rwa [show P[q]=.node 2 ac bc cc dc 0 0 [] from (List.getElem?_eq_some_iff.1 hP).2] at this
        have hspl:=encL_setW P q ac bc cc dc (orW ac a) (orW bc b) (orW cc c) (orW dc d) hP
        have hst : (([.d (.val (.int .u64 (orW ac a))),.d (.val (.int .u64 (orW bc b))),.d (.val (.int .u64 (orW cc c))),.d (.val (.int .u64 (orW dc d)))] : List AV).length == 4 && Nat.ble (q * 8 + 1 + 4) ((encL P).map AV.d).length && ([.d (.val (.int .u64 (orW ac a))),.d (.val (.int .u64 (orW bc b))),.d (.val (.int .u64 (orW cc c))),.d (.val (.int .u64 (orW dc d)))] : List AV).all AV.one)=true:=by
          have : Nat.ble (q * 8 + 1 + 4) ((encL P).map AV.d).length=true:=by
            rw [List.length_map,encL_length]
            exact Eq.mpr Nat.ble_eq (by omega)
          rw [this];rfl
        simp only [atI]
        repeat' (first|(apply r_mvV;rfl)|(apply r_mvSL;rfl)|(apply r_faddL;rfl)|(apply r_ixN (j:=i) (b:=50);rfl;rfl;rfl;omega)|(apply r_ldN (t:=(T.node k a b c d mn mx subs));rfl;rfl;exact hs)|(apply r_ixN (j:=q) (b:=51);rfl;rfl;rfl;exact hql)|(apply r_ldNw;rfl;rfl;exact hsq)|(apply r_ldL (v:=.agg [.d (.val (.int .u64 a)),.d (.val (.int .u64 b)),.d (.val (.int .u64 c)),.d (.val (.int .u64 d))]);rfl;rfl;rfl)|(apply r_ldL (v:=.agg [.i k,.d (.val (.int .u64 a)),.d (.val (.int .u64 b)),.d (.val (.int .u64 c)),.d (.val (.int .u64 d)),.i mn,.i mx,.d (.sl (encL subs) subs.length)]);rfl;rfl;rfl)|(apply r_callA (ags:=[.agg [.i k,.d (.val (.int .u64 a)),.d (.val (.int .u64 b)),.d (.val (.int .u64 c)),.d (.val (.int .u64 d)),.i mn,.i mx,.d (.sl (encL subs) subs.length)]]);rfl;rfl;exact hn)|(apply r_callA (ags:=[.agg [.d (.val (.int .u64 ac)),.d (.val (.int .u64 bc)),.d (.val (.int .u64 cc)),.d (.val (.int .u64 dc))],.agg [.d (.val (.int .u64 a)),.d (.val (.int .u64 b)),.d (.val (.int .u64 c)),.d (.val (.int .u64 d))]]);rfl;rfl;exact hor)|(apply r_stL (b:=51) (off:=q * 8 + 1) (cs:=[.d (.val (.int .u64 (orW ac a))),.d (.val (.int .u64 (orW bc b))),.d (.val (.int .u64 (orW cc c))),.d (.val (.int .u64 (orW dc d)))]);rfl;rfl;rfl;rfl;rfl;exact hst;exact hspl)|(apply r_ldL;rfl;rfl;rfl)|(apply r_eql;rfl;rfl;(first|(apply dT;omega)|(apply dF;omega)|rfl))|(apply r_lss;rfl;rfl;(first|(apply dT;omega)|(apply dF;omega)|rfl))|(apply r_geq;rfl;rfl;(first|(apply dT;omega)|(apply dF;omega)|rfl))|(apply r_add;rfl;rfl;rfl;omega)|(apply r_pickT;rfl)|(apply r_gT;rfl)|(apply r_alloc;((conv=>lhs;simp only [Nat.reduceAdd])<;>rfl);rfl)|(apply r_stL;rfl;rfl;rfl;rfl;(first|rfl|(simp only [z_nil,z_add]<;>rfl));rfl;rfl)|(apply r_nilK)|(apply k_V;rfl)|(apply k_PL;rfl)|(apply k_SL;rfl)|(apply k_nil)|(apply w_seq)|(apply w_ops;((conv=>lhs;simp only [Nat.reduceAdd])<;>rfl))|(apply w_condT;rfl)|(apply w_condF;rfl)|(apply e_thenN)|(apply w_block)|(apply e_blkN)|(apply w_skip))
        apply e_thenK;apply fin
        dsimp only
        refine Wk.f (wkM [] [] rfl ?_ ?_ rfl ?_)
        · intro p hp;simp only [List.mem_cons,List.not_mem_nil,or_false] at hp;rcases hp with rfl | rfl | rfl<;>first | exact ⟨by omega,.inr ⟨rfl,_,rfl,.data rfl⟩⟩ | exact ⟨by omega,.inr ⟨rfl,_,rfl,.data (isD_encL _)⟩⟩
        · intro q hq;simp only [List.mem_cons,List.not_mem_nil,or_false] at hq;rcases hq with rfl | rfl<;>rfl
        · simp only [List.length_set,atI]
          repeat' (first|exact FWk.nil|(apply FWk.i;rfl;(first|rfl|omega|(simp;done)))|(apply FWk.sl;rfl;rfl;rfl;rfl;omega;rfl)|(apply FWk.ptr;rfl;rfl;rfl;omega;rfl))
      | none =>
        have fin:=fun fr C Z nx=>fin (P++[.node 2 a b c d 0 0 []],some P.length) fr C Z nx (by
          unfold altStep
          rw [if_neg (by simp [hq]),if_pos (by simpa [T.kind] using hk)]
          rfl)
        have hPl : ((encL P).map AV.d).length=P.length * 8:=by rw [List.length_map,encL_length]
        simp only [atI]
        repeat' (first|(apply r_mvV;rfl)|(apply r_mvSL;rfl)|(apply r_faddL;rfl)|(apply r_ixN (j:=i) (b:=50);rfl;rfl;rfl;omega)|(apply r_ldN (t:=(T.node k a b c d mn mx subs));rfl;rfl;exact hs)|(apply r_ldL (v:=.agg [.d (.val (.int .u64 a)),.d (.val (.int .u64 b)),.d (.val (.int .u64 c)),.d (.val (.int .u64 d))]);rfl;rfl;rfl)|(apply r_ldL (v:=.agg [.i k,.d (.val (.int .u64 a)),.d (.val (.int .u64 b)),.d (.val (.int .u64 c)),.d (.val (.int .u64 d)),.i mn,.i mx,.d (.sl (encL subs) subs.length)]);rfl;rfl;rfl)|(apply r_callA (ags:=[.agg [.i k,.d (.val (.int .u64 a)),.d (.val (.int .u64 b)),.d (.val (.int .u64 c)),.d (.val (.int .u64 d)),.i mn,.i mx,.d (.sl (encL subs) subs.length)]]);rfl;rfl;exact hn)|(apply r_p (v:=.agg [.i 2,.d (.val (.int .u64 a)),.d (.val (.int .u64 b)),.d (.val (.int .u64 c)),.d (.val (.int .u64 d)),.i 0,.i 0,.d (.val (.slice none 0 0))]);rfl)|(apply r_n (v:=.slL 127 0 1 8) (r:=[.i 2,.d (.val (.int .u64 a)),.d (.val (.int .u64 b)),.d (.val (.int .u64 c)),.d (.val (.int .u64 d)),.i 0,.i 0,.d (.val (.slice none 0 0))]);rfl)|(apply r_appN (b:=51) (c:=127) (id:=128) (m:=P.length) (j:=1) (r:=(encL P).map AV.d) (src:=[.i 2,.d (.val (.int .u64 a)),.d (.val (.int .u64 b)),.d (.val (.int .u64 c)),.d (.val (.int .u64 d)),.i 0,.i 0,.d (.val (.slice none 0 0))]);rfl;rfl;rfl;rfl;exact hPl;rfl;rfl;rfl;rfl;omega)|(apply r_ldL;rfl;rfl;rfl)|(apply r_eql;rfl;rfl;(first|(apply dT;omega)|(apply dF;omega)|rfl))|(apply r_lss;rfl;rfl;(first|(apply dT;omega)|(apply dF;omega)|rfl))|(apply r_geq;rfl;rfl;(first|(apply dT;omega)|(apply dF;omega)|rfl))|(apply r_add;rfl;rfl;rfl;omega)|(apply r_pickT;rfl)|(apply r_lenL;rfl)|(apply r_gT;rfl)|(apply r_alloc;((conv=>lhs;simp only [Nat.reduceAdd])<;>rfl);rfl)|(apply r_stL;rfl;rfl;rfl;rfl;(first|rfl|(simp only [z_nil,z_add]<;>rfl));rfl;rfl)|(apply r_nilK)|(apply k_V;rfl)|(apply k_PL;rfl)|(apply k_SL;rfl)|(apply k_nil)|(apply w_seq)|(apply w_ops;((conv=>lhs;simp only [Nat.reduceAdd])<;>rfl))|(apply w_condT;rfl)|(apply w_condF;rfl)|(apply e_thenN)|(apply w_block)|(apply e_blkN)|(apply w_skip))
        apply e_thenK;apply fin
        dsimp only
        have erow : (encL (P++[.node 2 a b c d 0 0 []])).map AV.d=(encL P).map AV.d++(encN (.node 2 a b c d 0 0 [])).map AV.d:=by rw [encL_end,List.map_append]
        refine fzRow (b:=128) (r':=(encL (P++[.node 2 a b c d 0 0 []])).map AV.d) (u:=[]++[]) rfl (by rw [erow];exact convAs_app (convAs_encL _) rfl) (Wk.f ?_)
        refine wkM [(51,128)] [] rfl ?_ ?_ rfl ?_
        · intro p hp;simp only [List.mem_cons,List.not_mem_nil,or_false] at hp;rcases hp with rfl | rfl | rfl<;>first | exact ⟨by omega,.inr ⟨rfl,_,rfl,.data rfl⟩⟩ | exact ⟨by omega,.inr ⟨rfl,_,rfl,.data (isD_encL _)⟩⟩
        · intro q hq;simp only [List.mem_cons,List.not_mem_nil,or_false] at hq;rcases hq with rfl | rfl<;>rfl
        · simp only [atI,List.length_append,List.length_cons,List.length_nil]
          repeat' (first|exact FWk.nil|(apply FWk.i;rfl;(first|rfl|omega|(simp;done)))|(apply FWk.sl;rfl;rfl;rfl;rfl;omega;rfl)|(apply FWk.ptr;rfl;rfl;rfl;omega;rfl))
    · have fin : ∀ s' fr C Z nx,(if (s.1.any fun u=>sameT u (T.node k a b c d mn mx subs))=true then s else (s.1++[(T.node k a b c d mn mx subs)],s.2))=s'→Wkf ⟨fr,C,Z,nx⟩ ((fun (i : Nat) (s : List T × Option Nat)=>(⟨(((((Fr.nil.put 2 (.ptrL 1 0)).put 3 (.slL 51 0 s.1.length 8)).put 4 (.i (atI s.2))).put 8 (.slL 50 0 F.length 8)).put 9 (.i F.length)).put 10 (.i i),rowsOf [(1,zeroA zsN),(50,(encL F).map AV.d),(51,(encL s.1).map AV.d)],Frz.buts 100 [1,51],100⟩ : St)) (i + 1) s')→K ⟨fr,C,Z,nx⟩:=by
        intro s' fr C Z nx h1 h2
        refine fin s' fr C Z nx ?_ h2
        unfold altStep
        rw [if_neg (by simp [hq]),if_neg (by simpa [T.kind] using hk)]
        exact h1
      obtain ⟨P,at'⟩:=s
      dsimp only at hlen hI hcs fin ⊢
      have hpo : PredOK 111 [.ptr (encN (T.node k a b c d mn mx subs)) 0] (fun u=>sameT u (T.node k a b c d mn mx subs)) P:=⟨rfl,fun j hj=>clo111_good _ _ (hcs _ (List.getElem_mem hj))⟩
      have h104:=contains104_good hpo (by omega)
      clear hpo
      generalize hany : (P.any fun u=>sameT u (T.node k a b c d mn mx subs))=q at h104 fin
      cases q
      · have fin:=fun fr C Z nx=>fin _ fr C Z nx (if_neg (by simp))
        match P,hlen,h104,fin with
        | [],hlen,h104,fin =>
          simp only [List.length_nil] at h104 ⊢
          repeat' (first|(apply r_mvV;rfl)|(apply r_mvSL;rfl)|(apply r_faddL;rfl)|(apply r_ixN (j:=i) (b:=50);rfl;rfl;rfl;omega)|(apply r_ldN (t:=(T.node k a b c d mn mx subs));rfl;rfl;exact hs)|(apply r_ldL (v:=.agg [.i k,.d (.val (.int .u64 a)),.d (.val (.int .u64 b)),.d (.val (.int .u64 c)),.d (.val (.int .u64 d)),.i mn,.i mx,.d (.sl (encL subs) subs.length)]);rfl;rfl;rfl)|(apply r_callA (ags:=[.agg [.i k,.d (.val (.int .u64 a)),.d (.val (.int .u64 b)),.d (.val (.int .u64 c)),.d (.val (.int .u64 d)),.i mn,.i mx,.d (.sl (encL subs) subs.length)]]);rfl;rfl;exact hn)|(apply r_p (v:=.fnL 111 [.ptrL 103 0]);rfl)|(apply r_call (bs:=[.d (.sl (encL []) 0),.d (.fn 111 [.ptr (encN (T.node k a b c d mn mx subs)) 0])]) (us:=[103]);rfl;rfl;exact h104;rfl)|(apply r_mkN (t:=(T.node k a b c d mn mx subs)) (id:=127);rfl;rfl)|(apply r_appE (b:=51) (c:=127) (id:=128) (K:=[]) (L:=[(T.node k a b c d mn mx subs)]) (m:=0) (j:=1);rfl;rfl;rfl;rfl;rfl;rfl;rfl;rfl;omega)|(apply r_ldL;rfl;rfl;rfl)|(apply r_eql;rfl;rfl;(first|(apply dT;omega)|(apply dF;omega)|rfl))|(apply r_lss;rfl;rfl;(first|(apply dT;omega)|(apply dF;omega)|rfl))|(apply r_add;rfl;rfl;rfl;omega)|(apply r_not;rfl;rfl)|(apply r_pickF;rfl)|(apply r_gF';rfl;rfl)|(apply r_alloc;((conv=>lhs;simp only [Nat.reduceAdd])<;>rfl);rfl)|(apply r_stL;rfl;rfl;rfl;rfl;(first|rfl|(simp only [z_nil,z_add]<;>rfl));rfl;rfl)|(apply r_nilK)|(apply k_V;rfl)|(apply k_PL;rfl)|(apply k_SL;rfl)|(apply k_nil)|(apply w_seq)|(apply w_ops;((conv=>lhs;simp only [Nat.reduceAdd])<;>rfl))|(apply w_condT;rfl)|(apply w_condF;rfl)|(apply e_thenN)|(apply w_block)|(apply e_blkN)|(apply w_skip))
          apply e_thenK;apply fin
          dsimp only
          refine Wk.f (wkM [(51,128)] [] rfl ?_ ?_ rfl ?_)
          · intro p hp;simp only [List.mem_cons,List.not_mem_nil,or_false] at hp;rcases hp with rfl | rfl | rfl<;>first | exact ⟨by omega,.inr ⟨rfl,_,rfl,.data rfl⟩⟩ | exact ⟨by omega,.inr ⟨rfl,_,rfl,.data (isD_encL _)⟩⟩
          · intro q hq;simp only [List.mem_cons,List.not_mem_nil,or_false] at hq;rcases hq with rfl | rfl<;>rfl
          · simp only [List.length_append,List.length_cons,List.length_nil]
            repeat' (first|exact FWk.nil|(apply FWk.i;rfl;(first|rfl|omega|(simp;done)))|(apply FWk.sl;rfl;rfl;rfl;rfl;omega;rfl)|(apply FWk.ptr;rfl;rfl;rfl;omega;rfl))
        | x :: r,hlen,h104,fin =>
          simp only [List.length_cons] at h104 hlen ⊢
          have hcr : ∀ C : Heap,C 51=some ((encL (x :: r)).map AV.d)→C 103=some ((encN (T.node k a b c d mn mx subs)).map AV.d)→convAs C (fun _=>false) [.slL 51 0 (r.length + 1) 8,.fnL 111 [.ptrL 103 0]]=some ([.d (.sl (encL (x :: r)) (r.length + 1)),.d (.fn 111 [.ptr (encN (T.node k a b c d mn mx subs)) 0])],[51]++([103]++[])):=by
            intro C h1 h2
            have h3:=conv_rowA (ex:=fun _=>false) h1 (by simp) rfl (m:=r.length + 1)
            have h4 : convA C (fun _=>false) (.fnL 111 [.ptrL 103 0])=some (.d (.fn 111 [.ptr (encN (T.node k a b c d mn mx subs)) 0]),[103]):=by
              have h5 : mapO (convC C (fun _=>false) 7) ((encN (T.node k a b c d mn mx subs)).map AV.d)=some (encN (T.node k a b c d mn mx subs),[]):=rfl
              simp only [convA,convC,mapO,h2,Option.bind_some,h5,Option.map_some]
              rfl
            rw [if_neg (by omega)] at h3
            simp only [convAs,h3,h4,Option.bind_some,Option.map_some]
          repeat' (first|(apply r_mvV;rfl)|(apply r_mvSL;rfl)|(apply r_faddL;rfl)|(apply r_ixN (j:=i) (b:=50);rfl;rfl;rfl;omega)|(apply r_ldN (t:=(T.node k a b c d mn mx subs));rfl;rfl;exact hs)|(apply r_ldL (v:=.agg [.i k,.d (.val (.int .u64 a)),.d (.val (.int .u64 b)),.d (.val (.int .u64 c)),.d (.val (.int .u64 d)),.i mn,.i mx,.d (.sl (encL subs) subs.length)]);rfl;rfl;rfl)|(apply r_callA (ags:=[.agg [.i k,.d (.val (.int .u64 a)),.d (.val (.int .u64 b)),.d (.val (.int .u64 c)),.d (.val (.int .u64 d)),.i mn,.i mx,.d (.sl (encL subs) subs.length)]]);rfl;rfl;exact hn)|(apply r_p (v:=.fnL 111 [.ptrL 103 0]);rfl)|(apply r_call (bs:=[.d (.sl (encL (x :: r)) (r.length + 1)),.d (.fn 111 [.ptr (encN (T.node k a b c d mn mx subs)) 0])]) (us:=[51]++([103]++[]));rfl;exact hcr _ rfl rfl;exact h104;rfl)|(apply r_mkN (t:=(T.node k a b c d mn mx subs)) (id:=127);rfl;rfl)|(apply r_appE (b:=51) (c:=127) (id:=128) (K:=x :: r) (L:=[(T.node k a b c d mn mx subs)]) (m:=r.length + 1) (j:=1);rfl;rfl;rfl;rfl;rfl;rfl;rfl;rfl;omega)|(apply r_ldL;rfl;rfl;rfl)|(apply r_eql;rfl;rfl;(first|(apply dT;omega)|(apply dF;omega)|rfl))|(apply r_lss;rfl;rfl;(first|(apply dT;omega)|(apply dF;omega)|rfl))|(apply r_add;rfl;rfl;rfl;omega)|(apply r_not;rfl;rfl)|(apply r_pickF;rfl)|(apply r_gF';rfl;rfl)|(apply r_alloc;((conv=>lhs;simp only [Nat.reduceAdd])<;>rfl);rfl)|(apply r_stL;rfl;rfl;rfl;rfl;(first|rfl|(simp only [z_nil,z_add]<;>rfl));rfl;rfl)|(apply r_nilK)|(apply k_V;rfl)|(apply k_PL;rfl)|(apply k_SL;rfl)|(apply k_nil)|(apply w_seq)|(apply w_ops;((conv=>lhs;simp only [Nat.reduceAdd])<;>rfl))|(apply w_condT;rfl)|(apply w_condF;rfl)|(apply e_thenN)|(apply w_block)|(apply e_blkN)|(apply w_skip))
          apply e_thenK;apply fin
          dsimp only
          refine Wk.f (wkM [(51,128)] [] rfl ?_ ?_ rfl ?_)
          · intro p hp;simp only [List.mem_cons,List.not_mem_nil,or_false] at hp;rcases hp with rfl | rfl | rfl<;>first | exact ⟨by omega,.inr ⟨rfl,_,rfl,.data rfl⟩⟩ | exact ⟨by omega,.inr ⟨rfl,_,rfl,.data (isD_encL _)⟩⟩
          · intro q hq;simp only [List.mem_cons,List.not_mem_nil,or_false] at hq;rcases hq with rfl | rfl<;>rfl
          · simp only [List.length_append,List.length_cons,List.length_nil]
            repeat' (first|exact FWk.nil|(apply FWk.i;rfl;(first|rfl|omega|(simp;done)))|(apply FWk.sl;rfl;rfl;rfl;rfl;omega;rfl)|(apply FWk.ptr;rfl;rfl;rfl;omega;rfl))
      · have fin:=fun fr C Z nx=>fin _ fr C Z nx (if_pos rfl)
        match P,hlen,h104,fin,hany with
        | [],_,_,_,hany=>simp at hany
        | x :: r,hlen,h104,fin,_ =>
          simp only [List.length_cons] at h104 hlen ⊢
          have hcr : ∀ C : Heap,C 51=some ((encL (x :: r)).map AV.d)→C 103=some ((encN (T.node k a b c d mn mx subs)).map AV.d)→convAs C (fun _=>false) [.slL 51 0 (r.length + 1) 8,.fnL 111 [.ptrL 103 0]]=some ([.d (.sl (encL (x :: r)) (r.length + 1)),.d (.fn 111 [.ptr (encN (T.node k a b c d mn mx subs)) 0])],[51]++([103]++[])):=by
            intro C h1 h2
            have h3:=conv_rowA (ex:=fun _=>false) h1 (by simp) rfl (m:=r.length + 1)
            have h4 : convA C (fun _=>false) (.fnL 111 [.ptrL 103 0])=some (.d (.fn 111 [.ptr (encN (T.node k a b c d mn mx subs)) 0]),[103]):=by
              have h5 : mapO (convC C (fun _=>false) 7) ((encN (T.node k a b c d mn mx subs)).map AV.d)=some (encN (T.node k a b c d mn mx subs),[]):=rfl
              simp only [convA,convC,mapO,h2,Option.bind_some,h5,Option.map_some]
              rfl
            rw [if_neg (by omega)] at h3
            simp only [convAs,h3,h4,Option.bind_some,Option.map_some]
          repeat' (first|(apply r_mvV;rfl)|(apply r_mvSL;rfl)|(apply r_faddL;rfl)|(apply r_ixN (j:=i) (b:=50);rfl;rfl;rfl;omega)|(apply r_ldN (t:=(T.node k a b c d mn mx subs));rfl;rfl;exact hs)|(apply r_ldL (v:=.agg [.i k,.d (.val (.int .u64 a)),.d (.val (.int .u64 b)),.d (.val (.int .u64 c)),.d (.val (.int .u64 d)),.i mn,.i mx,.d (.sl (encL subs) subs.length)]);rfl;rfl;rfl)|(apply r_callA (ags:=[.agg [.i k,.d (.val (.int .u64 a)),.d (.val (.int .u64 b)),.d (.val (.int .u64 c)),.d (.val (.int .u64 d)),.i mn,.i mx,.d (.sl (encL subs) subs.length)]]);rfl;rfl;exact hn)|(apply r_p (v:=.fnL 111 [.ptrL 103 0]);rfl)|(apply r_call (bs:=[.d (.sl (encL (x :: r)) (r.length + 1)),.d (.fn 111 [.ptr (encN (T.node k a b c d mn mx subs)) 0])]) (us:=[51]++([103]++[]));rfl;exact hcr _ rfl rfl;exact h104;rfl)|(apply r_ldL;rfl;rfl;rfl)|(apply r_eql;rfl;rfl;(first|(apply dT;omega)|(apply dF;omega)|rfl))|(apply r_lss;rfl;rfl;(first|(apply dT;omega)|(apply dF;omega)|rfl))|(apply r_add;rfl;rfl;rfl;omega)|(apply r_not;rfl;rfl)|(apply r_pickF;rfl)|(apply r_gF';rfl;rfl)|(apply r_alloc;((conv=>lhs;simp only [Nat.reduceAdd])<;>rfl);rfl)|(apply r_stL;rfl;rfl;rfl;rfl;(first|rfl|(simp only [z_nil,z_add]<;>rfl));rfl;rfl)|(apply r_nilK)|(apply k_V;rfl)|(apply k_PL;rfl)|(apply k_SL;rfl)|(apply k_nil)|(apply w_seq)|(apply w_ops;((conv=>lhs;simp only [Nat.reduceAdd])<;>rfl))|(apply w_condT;rfl)|(apply w_condF;rfl)|(apply e_thenN)|(apply w_block)|(apply e_blkN)|(apply w_skip))
          apply e_thenK;apply fin
          dsimp only
          refine Wk.f (wkM [] [] rfl ?_ ?_ rfl ?_)
          · intro p hp;simp only [List.mem_cons,List.not_mem_nil,or_false] at hp;rcases hp with rfl | rfl | rfl<;>first | exact ⟨by omega,.inr ⟨rfl,_,rfl,.data rfl⟩⟩ | exact ⟨by omega,.inr ⟨rfl,_,rfl,.data (isD_encL _)⟩⟩
          · intro q hq;simp only [List.mem_cons,List.not_mem_nil,or_false] at hq;rcases hq with rfl | rfl<;>rfl
          · simp only [List.length_cons]
            repeat' (first|exact FWk.nil|(apply FWk.i;rfl;(first|rfl|omega|(simp;done)))|(apply FWk.sl;rfl;rfl;rfl;rfl;omega;rfl)|(apply FWk.ptr;rfl;rfl;rfl;omega;rfl))
  · have ei : i=F.length:=by omega
    subst ei
    rw [List.take_length] at hs0
    rw [← hs0]
    clear hK hge hi hs0 hok hcnt
    have hof:=put109_good 4 s.1 noneT (by omega)
    obtain ⟨P,at'⟩:=s
    dsimp only at hof hlen ⊢
    rw [hN] at hof
    generalize ofT 4 P noneT=u at hof
    obtain ⟨k2,a2,b2,c2,d2,mn2,mx2,subs2⟩:=u
    match P,hof with
    | [],hof =>
      simp only [List.length_nil] at hof ⊢
      repeat' (first|(apply r_mvSL;rfl)|(apply r_callA (ags:=[]);rfl;rfl;exact h106)|(apply r_callS2 (pre:=[.i 4]) (pre':=[.i 4]) (post:=[.agg [.i 2,.d (.val (.int .u64 0)),.d (.val (.int .u64 0)),.d (.val (.int .u64 0)),.d (.val (.int .u64 0)),.i 0,.i 0,.d (.sl [] 0)]]) (post':=[.agg [.i 2,.d (.val (.int .u64 0)),.d (.val (.int .u64 0)),.d (.val (.int .u64 0)),.d (.val (.int .u64 0)),.i 0,.i 0,.d (.sl [] 0)]]) (b:=51) (L:=[]) (us:=[]);rfl;rfl;rfl;rfl;rfl;exact hof;rfl)|(apply r_lss;rfl;rfl;(first|(apply dT;omega)|(apply dF;omega)|rfl))|(apply r_stL;rfl;rfl;rfl;rfl;(first|rfl|(simp only [z_nil,z_add]<;>rfl));rfl;rfl)|(apply r_nilK)|(apply k_V;rfl)|(apply k_PL;rfl)|(apply k_SL;rfl)|(apply k_nil)|(apply e_ret;rfl)|(apply w_seq)|(apply w_ops;((conv=>lhs;simp only [Nat.reduceAdd])<;>rfl))|(apply w_condF;rfl)|(apply e_thenN)|(apply e_thenX)|(apply e_blkE)|(apply w_exit)|(apply w_ret))
      exact .data _ rfl
    | x :: r,hof =>
      simp only [List.length_cons] at hof ⊢
      repeat' (first|(apply r_mvSL;rfl)|(apply r_callA (ags:=[]);rfl;rfl;exact h106)|(apply r_callS2 (pre:=[.i 4]) (pre':=[.i 4]) (post:=[.agg [.i 2,.d (.val (.int .u64 0)),.d (.val (.int .u64 0)),.d (.val (.int .u64 0)),.d (.val (.int .u64 0)),.i 0,.i 0,.d (.sl [] 0)]]) (post':=[.agg [.i 2,.d (.val (.int .u64 0)),.d (.val (.int .u64 0)),.d (.val (.int .u64 0)),.d (.val (.int .u64 0)),.i 0,.i 0,.d (.sl [] 0)]]) (b:=51) (L:=x :: r) (us:=[51]);rfl;rfl;rfl;rfl;rfl;exact hof;rfl)|(apply r_lss;rfl;rfl;(first|(apply dT;omega)|(apply dF;omega)|rfl))|(apply r_stL;rfl;rfl;rfl;rfl;(first|rfl|(simp only [z_nil,z_add]<;>rfl));rfl;rfl)|(apply r_nilK)|(apply k_V;rfl)|(apply k_PL;rfl)|(apply k_SL;rfl)|(apply k_nil)|(apply e_ret;rfl)|(apply w_seq)|(apply w_ops;((conv=>lhs;simp only [Nat.reduceAdd])<;>rfl))|(apply w_condF;rfl)|(apply e_thenN)|(apply e_thenX)|(apply e_blkE)|(apply w_exit)|(apply w_ret))
      exact .data _ rfl
end Go.Sv
namespace Go.Sv
open Go Go.Proofs
def x55 : XC:=(.seq (.ops 2 [ (0,⟨some 3,none,.box (.t 0)⟩),(1,⟨some 6,none,.alloc [(.int .i64 0),(.int .u64 0),(.int .u64 0),(.int .u64 0),(.int .u64 0),(.int .i64 0),(.int .i64 0),(.slice none 0 0)]⟩)] (some [1,2,3,6])) (.seq (.block 0 (.seq (.ops 16 [ (0,⟨some 8,none,.mv (.t 2)⟩),(1,⟨some 9,none,.arith .eql (.t 8) (.k (.d (.val (.int .i64 0))))⟩),(2,⟨some 10,none,.mv (.t 9)⟩),(3,⟨some 11,(some (10,false)),.fadd 0 (.t 3)⟩),(4,⟨some 12,(some (10,false)),.load none (.t 11)⟩),(5,⟨some 13,(some (10,false)),.arith .eql (.t 12) (.k (.d (.val (.int .i64 1))))⟩),(6,⟨some 14,none,.pick (.t 10) (.k (.d (.val (.bool true)))) (.t 13)⟩),(7,⟨some 15,none,.mv (.t 14)⟩),(8,⟨some 16,(some (15,false)),.load (some 8) (.t 3)⟩),(9,⟨some 17,(some (15,false)),.call 105 [(.t 16)] none false⟩),(10,⟨some 18,(some (15,false)),.mv (.t 17)⟩),(11,⟨some 19,(some (18,true)),.mv (.t 1)⟩),(12,⟨some 20,(some (18,true)),.arith .eql (.t 19) (.k (.d (.val (.int .i64 0))))⟩),(13,⟨some 21,(some (15,false)),.pick (.t 18) (.t 20) (.k (.d (.val (.bool false))))⟩),(14,⟨some 22,none,.pick (.t 15) (.k (.d (.val (.bool true)))) (.t 21)⟩),(15,⟨some 7,none,.mv (.t 22)⟩)] (some [1,2,3,6,7])) (.cond (.t 7) (.seq (.ops 2 [ (0,⟨some 23,none,.call 110 [] none false⟩),(1,⟨none,none,.store 8 (.t 6) (.t 23)⟩)] (some [6])) .ret) (.seq (.ops 15 [ (0,⟨some 25,none,.load (some 8) (.t 3)⟩),(1,⟨some 26,none,.call 105 [(.t 25)] none false⟩),(2,⟨some 27,none,.mv (.t 26)⟩),(3,⟨some 28,(some (27,false)),.mv (.t 1)⟩),(4,⟨some 29,(some (27,false)),.arith .eql (.t 28) (.k (.d (.val (.int .i64 1))))⟩),(5,⟨some 30,(some (27,false)),.mv (.t 29)⟩),(6,⟨some 31,(some (30,true)),.mv (.t 2)⟩),(7,⟨some 32,(some (30,true)),.arith .eql (.t 31) (.k (.d (.val (.int .i64 1))))⟩),(8,⟨some 33,(some (27,false)),.pick (.t 30) (.t 32) (.k (.d (.val (.bool false))))⟩),(9,⟨some 34,none,.pick (.t 27) (.k (.d (.val (.bool true)))) (.t 33)⟩),(10,⟨some 35,none,.mv (.t 34)⟩),(11,⟨some 36,(some (35,false)),.load (some 8) (.t 3)⟩),(12,⟨some 37,(some (35,false)),.call 113 [(.t 36)] none false⟩),(13,⟨some 38,none,.pick (.t 35) (.k (.d (.val (.bool true)))) (.t 37)⟩),(14,⟨some 24,none,.mv (.t 38)⟩)] (some [1,2,3,6,24])) (.cond (.t 24) (.seq (.ops 2 [ (0,⟨some 39,none,.load (some 8) (.t 3)⟩),(1,⟨none,none,.store 8 (.t 6) (.t 39)⟩)] (some [6])) .ret) (.seq (.ops 28 [ (0,⟨some 41,none,.mv (.t 1)⟩),(1,⟨some 42,none,.arith .eql (.t 41) (.k (.d (.val (.int .i64 0))))⟩),(2,⟨some 43,none,.mv (.t 42)⟩),(3,⟨some 44,(some (43,true)),.mv (.t 2)⟩),(4,⟨some 45,(some (43,true)),.arith .eql (.t 44) (.k (.d (.val (.int .i64 (-1)))))⟩),(5,⟨some 46,none,.pick (.t 43) (.t 45) (.k (.d (.val (.bool false))))⟩),(6,⟨some 47,none,.mv (.t 46)⟩),(7,⟨some 48,(some (47,true)),.fadd 0 (.t 3)⟩),(8,⟨some 49,(some (47,true)),.load none (.t 48)⟩),(9,⟨some 50,(some (47,true)),.arith .eql (.t 49) (.k (.d (.val (.int .i64 5))))⟩),(10,⟨some 51,none,.pick (.t 47) (.t 50) (.k (.d (.val (.bool false))))⟩),(11,⟨some 52,none,.mv (.t 51)⟩),(12,⟨some 53,(some (52,true)),.fadd 5 (.t 3)⟩),(13,⟨some 54,(some (52,true)),.load none (.t 53)⟩),(14,⟨some 55,(some (52,true)),.arith .geq (.t 54) (.k (.d (.val (.int .i64 0))))⟩),(15,⟨some 56,none,.pick (.t 52) (.t 55) (.k (.d (.val (.bool false))))⟩),(16,⟨some 57,none,.mv (.t 56)⟩),(17,⟨some 58,(some (57,true)),.fadd 5 (.t 3)⟩),(18,⟨some 59,(some (57,true)),.load none (.t 58)⟩),(19,⟨some 60,(some (57,true)),.arith .leq (.t 59) (.k (.d (.val (.int .i64 1))))⟩),(20,⟨some 61,none,.pick (.t 57) (.t 60) (.k (.d (.val (.bool false))))⟩),(21,⟨some 62,none,.mv (.t 61)⟩),(22,⟨some 63,(some (62,true)),.fadd 7 (.t 3)⟩),(23,⟨some 64,(some (62,true)),.load none (.t 63)⟩),(24,⟨some 65,(some (62,true)),.lenS (.t 64)⟩),(25,⟨some 66,(some (62,true)),.arith .eql (.t 65) (.k (.d (.val (.int .i64 1))))⟩),(26,⟨some 67,none,.pick (.t 62) (.t 66) (.k (.d (.val (.bool false))))⟩),(27,⟨some 40,none,.mv (.t 67)⟩)] (some [1,2,3,6,40])) (.cond (.t 40) (.seq (.ops 8 [ (0,⟨some 68,none,.fadd 7 (.t 3)⟩),(1,⟨some 69,none,.load none (.t 68)⟩),(2,⟨some 70,none,.idxS 8 (.t 69) (.k (.d (.val (.int .i64 0))))⟩),(3,⟨some 71,none,.load (some 8) (.t 70)⟩),(4,⟨some 72,none,.mv (.t 1)⟩),(5,⟨some 73,none,.mv (.t 2)⟩),(6,⟨some 74,none,.call 55 [(.t 71),(.t 72),(.t 73)] none false⟩),(7,⟨none,none,.store 8 (.t 6) (.t 74)⟩)] (some [6])) .ret) .skip))))))) (.seq (.ops 6 [ (0,⟨some 75,none,.mv (.t 1)⟩),(1,⟨some 76,none,.mv (.t 2)⟩),(2,⟨some 77,none,.load (some 8) (.t 3)⟩),(3,⟨some 78,none,.mkrow [(.int .i64 0),(.int .u64 0),(.int .u64 0),(.int .u64 0),(.int .u64 0),(.int .i64 0),(.int .i64 0),(.slice none 0 0)] 1 8 [(0,8,(.t 77))]⟩),(4,⟨some 79,none,.build [(.int .i64 0),(.int .u64 0),(.int .u64 0),(.int .u64 0),(.int .u64 0),(.int .i64 0),(.int .i64 0),(.slice none 0 0)] [(0,1,(.k (.d (.val (.int .i64 5))))),(5,1,(.t 75)),(6,1,(.t 76)),(7,1,(.t 78))]⟩),(5,⟨none,none,.store 8 (.t 6) (.t 79)⟩)] (some [6])) .ret)))
def md55 : FuncId→Option Nat × Bool
  | _=>(none,false)
def od55 : Nat→List (List Nat) × List Nat × Option (List Nat)
  | 0=>([],[],some [1,2,3,6])
  | 1=>([],[],some [1,2,3,6,7])
  | 2=>([],[],some [6])
  | 3=>([],[],some [1,2,3,6,24])
  | 4=>([],[],some [6])
  | 5=>([],[],some [1,2,3,6,40])
  | 6=>([],[],some [6])
  | 7=>([],[],some [6])
  | _=>([],[],none)
theorem b55 {ags : List AV} {row : Option (List DV)} {r : AV} {row' nw : Option (List DV)} (hal : ags.length≤80) (hrow : row'.isSome=true→row.isSome=true) (h : xwp Try.prog x55 (retK [.cell 6 (some 8)] row.isSome r row' nw) (St.init ags row)) : Good Try.prog 55 ags row r row' nw :=
  good_of_body' (md:=md55) (od:=od55) Try.f55 (by kernel_rfl) (by kernel_rfl) (by kernel_rfl) (by kernel_rfl) (by kernel_rfl) hal hrow h

set_option maxRecDepth 100000
set_option maxHeartbeats 4000000
attribute [local irreducible] W E R KP thenK blockK retK Good xwp aRun
theorem rep55_good : ∀ (n : Nat) (t : T),t.cnt≤n→n≤1000000→∀ lo hi : Int,inW lo→inW hi→Good Try.prog 55 [nodeA t,.i lo,.i hi] none (nodeA (repS t lo hi)) none none:=by
  intro n
  induction n with
  | zero=>intro t ht;have:=cnt_pos t;omega
  | succ n ih =>
  intro t ht hc lo hi hlo hhi
  have hno:=no105_good t
  have hst:=star113_good t
  have h110:=empty110_good
  obtain ⟨k,a,b,c,d,mn,mx,subs⟩:=t
  have hsub : ∀ u,subs=[u]→Good Try.prog 55 [nodeA u,.i 0,.i (-1)] none (nodeA (repS u 0 (-1))) none none:=by
    rintro u rfl
    refine ih u ?_ (by omega) 0 (-1) (by unfold inW;omega) (by unfold inW;omega)
    simp only [T.cnt,cntL] at ht;omega
  have hlen : subs.length≤1000000:=by
    have:=cntL_len subs
    simp only [T.cnt] at ht
    omega
  have e0 : nodeA (.node k a b c d mn mx subs)=.agg [.i k,.d (.val (.int .u64 a)),.d (.val (.int .u64 b)),.d (.val (.int .u64 c)),.d (.val (.int .u64 d)),.i mn,.i mx,.d (.sl (encL subs) subs.length)]:=rfl
  clear ih ht
  rw [repS]
  rw [e0] at hno hst ⊢
  have hE : nodeA emptyT=.agg [.i 1,.d (.val (.int .u64 0)),.d (.val (.int .u64 0)),.d (.val (.int .u64 0)),.d (.val (.int .u64 0)),.i 0,.i 0,.d (.sl [] 0)]:=rfl
  rw [hE] at h110
  have hS : isStar (.node k a b c d mn mx subs)=(decide (k=5) && decide (mn=0) && decide (mx=-1)):=by
    simp only [isStar,T.kind,T.mn,T.mx];rfl
  generalize isStar (.node k a b c d mn mx subs)=st at hst hS
  generalize hN : isNo (.node k a b c d mn mx subs)=no at hno ⊢
  by_cases h1 : hi=0 ∨ k=1 ∨ (no=true∧lo=0)
  · rw [if_pos h1]
    by_cases q1 : hi=0
    · refine b55 (by simp) (by simp) (w_init ?_)
      unfold x55
      repeat' (first|(apply r_mvV;rfl)|(apply r_callA (ags:=[]);rfl;rfl;exact h110)|(apply r_eql;rfl;rfl;(first|(apply dT;omega)|(apply dF;omega)|rfl))|(apply r_pickT;rfl)|(apply r_gF';rfl;rfl)|(apply r_gN';rfl)|(apply r_alloc;((conv=>lhs;simp only [Nat.reduceAdd])<;>rfl);rfl)|(apply r_box;((conv=>lhs;simp only [Nat.reduceAdd])<;>rfl);rfl;rfl;rfl)|(apply r_stL;rfl;rfl;rfl;rfl;(first|rfl|(simp only [z_nil,z_add]<;>rfl));rfl;rfl)|(apply r_nilK)|(apply k_V;rfl)|(apply k_PL;rfl)|(apply k_nil)|(apply e_ret;rfl)|(apply w_seq)|(apply w_ops;((conv=>lhs;simp only [Nat.reduceAdd])<;>rfl))|(apply w_condT;rfl)|(apply e_thenN)|(apply w_block)|(apply e_thenR)|(apply e_blkR)|(apply w_ret))
      exact .data _ rfl
    by_cases q2 : k=1
    · refine b55 (by simp) (by simp) (w_init ?_)
      unfold x55
      repeat' (first|(apply r_mvV;rfl)|(apply r_faddL;rfl)|(apply r_callA (ags:=[]);rfl;rfl;exact h110)|(apply r_ldL;rfl;rfl;rfl)|(apply r_eql;rfl;rfl;(first|(apply dT;omega)|(apply dF;omega)|rfl))|(apply r_pickT;rfl)|(apply r_pickF;rfl)|(apply r_gT;rfl)|(apply r_gF';rfl;rfl)|(apply r_gN';rfl)|(apply r_alloc;((conv=>lhs;simp only [Nat.reduceAdd])<;>rfl);rfl)|(apply r_box;((conv=>lhs;simp only [Nat.reduceAdd])<;>rfl);rfl;rfl;rfl)|(apply r_stL;rfl;rfl;rfl;rfl;(first|rfl|(simp only [z_nil,z_add]<;>rfl));rfl;rfl)|(apply r_nilK)|(apply k_V;rfl)|(apply k_PL;rfl)|(apply k_nil)|(apply e_ret;rfl)|(apply w_seq)|(apply w_ops;((conv=>lhs;simp only [Nat.reduceAdd])<;>rfl))|(apply w_condT;rfl)|(apply e_thenN)|(apply w_block)|(apply e_thenR)|(apply e_blkR)|(apply w_ret))
      exact .data _ rfl
    have q3 : no=true∧lo=0:=by rcases h1 with h | h | h;exact absurd h q1;exact absurd h q2;exact h
    obtain ⟨rfl,q4⟩:=q3
    refine b55 (by simp) (by simp) (w_init ?_)
    unfold x55
    repeat' (first|(apply r_mvV;rfl)|(apply r_faddL;rfl)|(apply r_ldL (v:=.agg [.i k,.d (.val (.int .u64 a)),.d (.val (.int .u64 b)),.d (.val (.int .u64 c)),.d (.val (.int .u64 d)),.i mn,.i mx,.d (.sl (encL subs) subs.length)]);rfl;rfl;rfl)|(apply r_callA (ags:=[.agg [.i k,.d (.val (.int .u64 a)),.d (.val (.int .u64 b)),.d (.val (.int .u64 c)),.d (.val (.int .u64 d)),.i mn,.i mx,.d (.sl (encL subs) subs.length)]]);rfl;rfl;exact hno)|(apply r_callA (ags:=[]);rfl;rfl;exact h110)|(apply r_ldL;rfl;rfl;rfl)|(apply r_eql;rfl;rfl;(first|(apply dT;omega)|(apply dF;omega)|rfl))|(apply r_pickT;rfl)|(apply r_pickF;rfl)|(apply r_gT;rfl)|(apply r_alloc;((conv=>lhs;simp only [Nat.reduceAdd])<;>rfl);rfl)|(apply r_box;((conv=>lhs;simp only [Nat.reduceAdd])<;>rfl);rfl;rfl;rfl)|(apply r_stL;rfl;rfl;rfl;rfl;(first|rfl|(simp only [z_nil,z_add]<;>rfl));rfl;rfl)|(apply r_nilK)|(apply k_V;rfl)|(apply k_PL;rfl)|(apply k_nil)|(apply e_ret;rfl)|(apply w_seq)|(apply w_ops;((conv=>lhs;simp only [Nat.reduceAdd])<;>rfl))|(apply w_condT;rfl)|(apply e_thenN)|(apply w_block)|(apply e_thenR)|(apply e_blkR)|(apply w_ret))
    exact .data _ rfl
  rw [if_neg h1]
  have q1 : ¬ hi=0:=fun h=>h1 (.inl h)
  have q2 : ¬ k=1:=fun h=>h1 (.inr (.inl h))
  by_cases h2 : no=true ∨ (lo=1∧hi=1) ∨ (k=5∧mn=0∧mx=-1)
  · rw [if_pos h2,e0]
    rcases Bool.eq_false_or_eq_true no with hq | hq
    · have q3 : ¬ lo=0:=fun h=>h1 (.inr (.inr ⟨hq,h⟩))
      subst hq
      refine b55 (by simp) (by simp) (w_init ?_)
      unfold x55
      repeat' (first|(apply r_mvV;rfl)|(apply r_faddL;rfl)|(apply r_ldL (v:=.agg [.i k,.d (.val (.int .u64 a)),.d (.val (.int .u64 b)),.d (.val (.int .u64 c)),.d (.val (.int .u64 d)),.i mn,.i mx,.d (.sl (encL subs) subs.length)]);rfl;rfl;rfl)|(apply r_callA (ags:=[.agg [.i k,.d (.val (.int .u64 a)),.d (.val (.int .u64 b)),.d (.val (.int .u64 c)),.d (.val (.int .u64 d)),.i mn,.i mx,.d (.sl (encL subs) subs.length)]]);rfl;rfl;exact hno)|(apply r_ldL;rfl;rfl;rfl)|(apply r_eql;rfl;rfl;(first|(apply dT;omega)|(apply dF;omega)|rfl))|(apply r_pickT;rfl)|(apply r_pickF;rfl)|(apply r_gT;rfl)|(apply r_gF';rfl;rfl)|(apply r_gN';rfl)|(apply r_alloc;((conv=>lhs;simp only [Nat.reduceAdd])<;>rfl);rfl)|(apply r_box;((conv=>lhs;simp only [Nat.reduceAdd])<;>rfl);rfl;rfl;rfl)|(apply r_stL;rfl;rfl;rfl;rfl;(first|rfl|(simp only [z_nil,z_add]<;>rfl));rfl;rfl)|(apply r_nilK)|(apply k_V;rfl)|(apply k_PL;rfl)|(apply k_nil)|(apply e_ret;rfl)|(apply w_seq)|(apply w_ops;((conv=>lhs;simp only [Nat.reduceAdd])<;>rfl))|(apply w_condT;rfl)|(apply w_condF;rfl)|(apply e_thenN)|(apply w_block)|(apply e_thenR)|(apply e_blkR)|(apply w_ret))
      exact .data _ rfl
    subst hq
    by_cases h3 : lo=1∧hi=1
    · obtain ⟨h4,h5⟩:=h3
      refine b55 (by simp) (by simp) (w_init ?_)
      unfold x55
      repeat' (first|(apply r_mvV;rfl)|(apply r_faddL;rfl)|(apply r_ldL (v:=.agg [.i k,.d (.val (.int .u64 a)),.d (.val (.int .u64 b)),.d (.val (.int .u64 c)),.d (.val (.int .u64 d)),.i mn,.i mx,.d (.sl (encL subs) subs.length)]);rfl;rfl;rfl)|(apply r_callA (ags:=[.agg [.i k,.d (.val (.int .u64 a)),.d (.val (.int .u64 b)),.d (.val (.int .u64 c)),.d (.val (.int .u64 d)),.i mn,.i mx,.d (.sl (encL subs) subs.length)]]);rfl;rfl;exact hno)|(apply r_ldL;rfl;rfl;rfl)|(apply r_eql;rfl;rfl;(first|(apply dT;omega)|(apply dF;omega)|rfl))|(apply r_pickT;rfl)|(apply r_pickF;rfl)|(apply r_gT;rfl)|(apply r_gF';rfl;rfl)|(apply r_alloc;((conv=>lhs;simp only [Nat.reduceAdd])<;>rfl);rfl)|(apply r_box;((conv=>lhs;simp only [Nat.reduceAdd])<;>rfl);rfl;rfl;rfl)|(apply r_stL;rfl;rfl;rfl;rfl;(first|rfl|(simp only [z_nil,z_add]<;>rfl));rfl;rfl)|(apply r_nilK)|(apply k_V;rfl)|(apply k_PL;rfl)|(apply k_nil)|(apply e_ret;rfl)|(apply w_seq)|(apply w_ops;((conv=>lhs;simp only [Nat.reduceAdd])<;>rfl))|(apply w_condT;rfl)|(apply w_condF;rfl)|(apply e_thenN)|(apply w_block)|(apply e_thenR)|(apply e_blkR)|(apply w_ret))
      exact .data _ rfl
    obtain ⟨h4,h5,h6⟩ : k=5∧mn=0∧mx=-1:=by rcases h2 with h | h | h;cases h;exact absurd h h3;exact h
    have hs1 : st=true:=by rw [hS];simp [h4,h5,h6]
    subst hs1
    by_cases h7 : lo=1
    · have h8 : ¬ hi=1:=fun h=>h3 ⟨h7,h⟩
      refine b55 (by simp) (by simp) (w_init ?_)
      unfold x55
      repeat' (first|(apply r_mvV;rfl)|(apply r_faddL;rfl)|(apply r_ldL (v:=.agg [.i k,.d (.val (.int .u64 a)),.d (.val (.int .u64 b)),.d (.val (.int .u64 c)),.d (.val (.int .u64 d)),.i mn,.i mx,.d (.sl (encL subs) subs.length)]);rfl;rfl;rfl)|(apply r_callA (ags:=[.agg [.i k,.d (.val (.int .u64 a)),.d (.val (.int .u64 b)),.d (.val (.int .u64 c)),.d (.val (.int .u64 d)),.i mn,.i mx,.d (.sl (encL subs) subs.length)]]);rfl;rfl;exact hno)|(apply r_callA (ags:=[.agg [.i k,.d (.val (.int .u64 a)),.d (.val (.int .u64 b)),.d (.val (.int .u64 c)),.d (.val (.int .u64 d)),.i mn,.i mx,.d (.sl (encL subs) subs.length)]]);rfl;rfl;exact hst)|(apply r_ldL;rfl;rfl;rfl)|(apply r_eql;rfl;rfl;(first|(apply dT;omega)|(apply dF;omega)|rfl))|(apply r_pickT;rfl)|(apply r_pickF;rfl)|(apply r_gT;rfl)|(apply r_gF';rfl;rfl)|(apply r_alloc;((conv=>lhs;simp only [Nat.reduceAdd])<;>rfl);rfl)|(apply r_box;((conv=>lhs;simp only [Nat.reduceAdd])<;>rfl);rfl;rfl;rfl)|(apply r_stL;rfl;rfl;rfl;rfl;(first|rfl|(simp only [z_nil,z_add]<;>rfl));rfl;rfl)|(apply r_nilK)|(apply k_V;rfl)|(apply k_PL;rfl)|(apply k_nil)|(apply e_ret;rfl)|(apply w_seq)|(apply w_ops;((conv=>lhs;simp only [Nat.reduceAdd])<;>rfl))|(apply w_condT;rfl)|(apply w_condF;rfl)|(apply e_thenN)|(apply w_block)|(apply e_thenR)|(apply e_blkR)|(apply w_ret))
      exact .data _ rfl
    · refine b55 (by simp) (by simp) (w_init ?_)
      unfold x55
      repeat' (first|(apply r_mvV;rfl)|(apply r_faddL;rfl)|(apply r_ldL (v:=.agg [.i k,.d (.val (.int .u64 a)),.d (.val (.int .u64 b)),.d (.val (.int .u64 c)),.d (.val (.int .u64 d)),.i mn,.i mx,.d (.sl (encL subs) subs.length)]);rfl;rfl;rfl)|(apply r_callA (ags:=[.agg [.i k,.d (.val (.int .u64 a)),.d (.val (.int .u64 b)),.d (.val (.int .u64 c)),.d (.val (.int .u64 d)),.i mn,.i mx,.d (.sl (encL subs) subs.length)]]);rfl;rfl;exact hno)|(apply r_callA (ags:=[.agg [.i k,.d (.val (.int .u64 a)),.d (.val (.int .u64 b)),.d (.val (.int .u64 c)),.d (.val (.int .u64 d)),.i mn,.i mx,.d (.sl (encL subs) subs.length)]]);rfl;rfl;exact hst)|(apply r_ldL;rfl;rfl;rfl)|(apply r_eql;rfl;rfl;(first|(apply dT;omega)|(apply dF;omega)|rfl))|(apply r_pickF;rfl)|(apply r_gT;rfl)|(apply r_gF';rfl;rfl)|(apply r_alloc;((conv=>lhs;simp only [Nat.reduceAdd])<;>rfl);rfl)|(apply r_box;((conv=>lhs;simp only [Nat.reduceAdd])<;>rfl);rfl;rfl;rfl)|(apply r_stL;rfl;rfl;rfl;rfl;(first|rfl|(simp only [z_nil,z_add]<;>rfl));rfl;rfl)|(apply r_nilK)|(apply k_V;rfl)|(apply k_PL;rfl)|(apply k_nil)|(apply e_ret;rfl)|(apply w_seq)|(apply w_ops;((conv=>lhs;simp only [Nat.reduceAdd])<;>rfl))|(apply w_condT;rfl)|(apply w_condF;rfl)|(apply e_thenN)|(apply w_block)|(apply e_thenR)|(apply e_blkR)|(apply w_ret))
      exact .data _ rfl
  rw [if_neg h2]
  have hq : no=false:=by
    cases no with
    | false=>rfl
    | true=>exact absurd (.inl rfl) h2
  subst hq
  have h4 : ¬ (lo=1∧hi=1):=fun h=>h2 (.inr (.inl h))
  have h5 : ¬ (k=5∧mn=0∧mx=-1):=fun h=>h2 (.inr (.inr h))
  clear h1 h2
  have hs0 : st=false:=by
    rw [hS]
    by_cases g1 : k=5
    · by_cases g2 : mn=0
      · have g3 : ¬ mx=-1:=fun h=>h5 ⟨g1,g2,h⟩
        simp [g3]
      · simp [g2]
    · simp [g1]
  subst hs0
  by_cases h3 : lo=0∧hi=-1∧k=5∧mn≤1∧0≤mn∧subs.length=1
  · obtain ⟨g1,g2,g3,g4,g5,hl⟩:=h3
    rw [if_pos ⟨g1,g2,g3,g4,g5⟩]
    obtain ⟨u,hu⟩ : ∃ u,subs=[u]:=by
      match subs,hl with
      | [u],_=>exact ⟨u,rfl⟩
    have hsu : Good Try.prog 55 [nodeA u,.i lo,.i hi] none (nodeA (repS u 0 (-1))) none none:=by rw [g1,g2];exact hsub u hu
    have er : repF subs (.node k a b c d mn mx subs)=repS u 0 (-1):=by rw [hu,repF_one]
    rw [er]
    have hs : NodeAt (encL subs) 0 u:=by rw [hu];exact NodeAt.sub (l:=[u]) (i:=0) (by simp)
    have hna : [nodeA u,.i lo,.i hi].all AV.nrm=true:=by rw [List.all_cons,nodeA_nrm];rfl
    generalize repS u 0 (-1)=v at hsu
    clear er hu hsub
    obtain ⟨k2,a2,b2,c2,d2,mn2,mx2,subs2⟩:=v
    by_cases h7 : mn=0
    · have h8 : ¬ mx=-1:=fun h=>h5 ⟨g3,h7,h⟩
      refine b55 (by simp) (by simp) (w_init ?_)
      unfold x55
      repeat' (first|(apply r_mvV;rfl)|(apply r_faddL;rfl)|(apply r_l;apply ld_node';assumption;rfl)|(apply r_ldL (v:=.agg [.i k,.d (.val (.int .u64 a)),.d (.val (.int .u64 b)),.d (.val (.int .u64 c)),.d (.val (.int .u64 d)),.i mn,.i mx,.d (.sl (encL subs) subs.length)]);rfl;rfl;rfl)|(apply r_callA (ags:=[.agg [.i k,.d (.val (.int .u64 a)),.d (.val (.int .u64 b)),.d (.val (.int .u64 c)),.d (.val (.int .u64 d)),.i mn,.i mx,.d (.sl (encL subs) subs.length)]]);rfl;rfl;exact hno)|(apply r_callA (ags:=[.agg [.i k,.d (.val (.int .u64 a)),.d (.val (.int .u64 b)),.d (.val (.int .u64 c)),.d (.val (.int .u64 d)),.i mn,.i mx,.d (.sl (encL subs) subs.length)]]);rfl;rfl;exact hst)|(apply r_p (v:=.d (.ptr (encL subs) 0));exact ix_sub0 rfl rfl (by omega))|(apply r_callA (ags:=[nodeA u,.i lo,.i hi]);rfl;exact hna;exact hsu)|(apply r_ldL;rfl;rfl;rfl)|(apply r_eql;rfl;rfl;(first|(apply dT;omega)|(apply dF;omega)|rfl))|(apply r_leq;rfl;rfl;(first|(apply dT;omega)|(apply dF;omega)|rfl))|(apply r_geq;rfl;rfl;(first|(apply dT;omega)|(apply dF;omega)|rfl))|(apply r_pickT;rfl)|(apply r_pickF;rfl)|(apply r_lenD;rfl)|(apply r_gT;rfl)|(apply r_gF';rfl;rfl)|(apply r_alloc;((conv=>lhs;simp only [Nat.reduceAdd])<;>rfl);rfl)|(apply r_box;((conv=>lhs;simp only [Nat.reduceAdd])<;>rfl);rfl;rfl;rfl)|(apply r_stL;rfl;rfl;rfl;rfl;(first|rfl|(simp only [z_nil,z_add]<;>rfl));rfl;rfl)|(apply r_nilK)|(apply k_V;rfl)|(apply k_PL;rfl)|(apply k_nil)|(apply e_ret;rfl)|(apply w_seq)|(apply w_ops;((conv=>lhs;simp only [Nat.reduceAdd])<;>rfl))|(apply w_condT;rfl)|(apply w_condF;rfl)|(apply e_thenN)|(apply w_block)|(apply e_thenR)|(apply e_blkR)|(apply w_ret))
      exact .data _ rfl
    · refine b55 (by simp) (by simp) (w_init ?_)
      unfold x55
      repeat' (first|(apply r_mvV;rfl)|(apply r_faddL;rfl)|(apply r_l;apply ld_node';assumption;rfl)|(apply r_ldL (v:=.agg [.i k,.d (.val (.int .u64 a)),.d (.val (.int .u64 b)),.d (.val (.int .u64 c)),.d (.val (.int .u64 d)),.i mn,.i mx,.d (.sl (encL subs) subs.length)]);rfl;rfl;rfl)|(apply r_callA (ags:=[.agg [.i k,.d (.val (.int .u64 a)),.d (.val (.int .u64 b)),.d (.val (.int .u64 c)),.d (.val (.int .u64 d)),.i mn,.i mx,.d (.sl (encL subs) subs.length)]]);rfl;rfl;exact hno)|(apply r_callA (ags:=[.agg [.i k,.d (.val (.int .u64 a)),.d (.val (.int .u64 b)),.d (.val (.int .u64 c)),.d (.val (.int .u64 d)),.i mn,.i mx,.d (.sl (encL subs) subs.length)]]);rfl;rfl;exact hst)|(apply r_p (v:=.d (.ptr (encL subs) 0));exact ix_sub0 rfl rfl (by omega))|(apply r_callA (ags:=[nodeA u,.i lo,.i hi]);rfl;exact hna;exact hsu)|(apply r_ldL;rfl;rfl;rfl)|(apply r_eql;rfl;rfl;(first|(apply dT;omega)|(apply dF;omega)|rfl))|(apply r_leq;rfl;rfl;(first|(apply dT;omega)|(apply dF;omega)|rfl))|(apply r_geq;rfl;rfl;(first|(apply dT;omega)|(apply dF;omega)|rfl))|(apply r_pickT;rfl)|(apply r_pickF;rfl)|(apply r_lenD;rfl)|(apply r_gT;rfl)|(apply r_gF';rfl;rfl)|(apply r_alloc;((conv=>lhs;simp only [Nat.reduceAdd])<;>rfl);rfl)|(apply r_box;((conv=>lhs;simp only [Nat.reduceAdd])<;>rfl);rfl;rfl;rfl)|(apply r_stL;rfl;rfl;rfl;rfl;(first|rfl|(simp only [z_nil,z_add]<;>rfl));rfl;rfl)|(apply r_nilK)|(apply k_V;rfl)|(apply k_PL;rfl)|(apply k_nil)|(apply e_ret;rfl)|(apply w_seq)|(apply w_ops;((conv=>lhs;simp only [Nat.reduceAdd])<;>rfl))|(apply w_condT;rfl)|(apply w_condF;rfl)|(apply e_thenN)|(apply w_block)|(apply e_thenR)|(apply e_blkR)|(apply w_ret))
      exact .data _ rfl
  · have er : (if lo=0∧hi=-1∧k=5∧mn≤1∧0≤mn then repF subs (.node k a b c d mn mx subs) else .node 5 0 0 0 0 lo hi [.node k a b c d mn mx subs])=repN (.node k a b c d mn mx subs) lo hi:=by
      split
      · rename_i g
        rw [repF_two (fun hl=>h3 ⟨g.1,g.2.1,g.2.2.1,g.2.2.2.1,g.2.2.2.2,hl⟩),g.1,g.2.1]
      · rfl
    rw [er]
    clear er hsub
    refine b55 (by simp) (by simp) (w_init ?_)
    unfold x55
    repeat' (first|(apply r_mvV;rfl)|(apply r_faddL;rfl)|(apply r_ldL (v:=.agg [.i k,.d (.val (.int .u64 a)),.d (.val (.int .u64 b)),.d (.val (.int .u64 c)),.d (.val (.int .u64 d)),.i mn,.i mx,.d (.sl (encL subs) subs.length)]);rfl;rfl;rfl)|(apply r_callA (ags:=[.agg [.i k,.d (.val (.int .u64 a)),.d (.val (.int .u64 b)),.d (.val (.int .u64 c)),.d (.val (.int .u64 d)),.i mn,.i mx,.d (.sl (encL subs) subs.length)]]);rfl;rfl;exact hno)|(apply r_callA (ags:=[.agg [.i k,.d (.val (.int .u64 a)),.d (.val (.int .u64 b)),.d (.val (.int .u64 c)),.d (.val (.int .u64 d)),.i mn,.i mx,.d (.sl (encL subs) subs.length)]]);rfl;rfl;exact hst)|(apply r_n (v:=.slL 65 0 1 8) (r:=[.i k,.d (.val (.int .u64 a)),.d (.val (.int .u64 b)),.d (.val (.int .u64 c)),.d (.val (.int .u64 d)),.i mn,.i mx,.d (.sl (encL subs) subs.length)]);rfl)|(apply r_p (v:=.agg [.i 5,.d (.val (.int .u64 0)),.d (.val (.int .u64 0)),.d (.val (.int .u64 0)),.d (.val (.int .u64 0)),.i lo,.i hi,.slL 65 0 1 8]);rfl)|(apply r_ldL;rfl;rfl;rfl)|(apply r_eql;rfl;rfl;(first|(apply dT;omega)|(apply dF;omega)|rfl))|(apply r_leq;rfl;rfl;(first|(apply dT;omega)|(apply dF;omega)|rfl))|(apply r_geq;rfl;rfl;(first|(apply dT;omega)|(apply dF;omega)|rfl))|(apply r_pickT;rfl)|(apply r_pickF;rfl)|(apply r_lenD;rfl)|(apply r_gT;rfl)|(apply r_gF';rfl;rfl)|((apply r_gS (o:=default);rfl)<;>(intro h;try simp only [decide_eq_true_eq,decide_eq_false_iff_not,Bool.not_eq_true,Bool.not_eq_false] at h))|(apply r_alloc;((conv=>lhs;simp only [Nat.reduceAdd])<;>rfl);rfl)|(apply r_box;((conv=>lhs;simp only [Nat.reduceAdd])<;>rfl);rfl;rfl;rfl)|(apply r_stL;rfl;rfl;rfl;rfl;(first|rfl|(simp only [z_nil,z_add]<;>rfl));rfl;rfl)|(apply r_nilK)|(apply k_V;rfl)|(apply k_PL;rfl)|(apply k_nil)|(apply e_ret;rfl)|(apply w_seq)|(apply w_ops;((conv=>lhs;simp only [Nat.reduceAdd])<;>rfl))|(apply w_condF;rfl)|(apply e_thenN)|(apply w_block)|(apply e_blkN)|(apply w_ret)|(apply w_skip))
    all_goals first
      | (exfalso;omega)
      | exact .data _ rfl
end Go.Sv
namespace Go.Sv
open Go Go.Proofs
theorem simL_take (l : List T) (i : Nat) (h : i < l.length) : (simL l).take (i + 1)=(simL l).take i++[simT l[i]]:=by
  have h2 : i < (simL l).length:=by rw [simL_len];exact h
  rw [List.take_succ_eq_append_getElem h2,simL_get l i h h2]
set_option maxRecDepth 100000
set_option maxHeartbeats 4000000
attribute [local irreducible] W E R KP thenK blockK retK Good xwp aRun
end Go.Sv
namespace Go.Sv
open Go Go.Proofs
def x97 : XC:=(.seq (.ops 2 [ (0,⟨some 1,none,.box (.t 0)⟩),(1,⟨some 2,none,.alloc [(.int .i64 0),(.int .u64 0),(.int .u64 0),(.int .u64 0),(.int .u64 0),(.int .i64 0),(.int .i64 0),(.slice none 0 0)]⟩)] (some [1,2])) (.seq (.ops 1 [ (0,⟨some 3,none,.mv (.k (.d (.val (.slice none 0 0))))⟩)] (some [1,2,3])) (.seq (.seq (.ops 4 [ (0,⟨some 6,none,.fadd 7 (.t 1)⟩),(1,⟨some 7,none,.load none (.t 6)⟩),(2,⟨some 8,none,.lenS (.t 7)⟩),(3,⟨some 9,none,.mv (.k (.d (.val (.int .i64 0))))⟩)] (some [1,2,3,7,8,9])) (.block 0 (.loop (.seq (.ops 1 [ (0,⟨some 10,none,.arith .lss (.t 9) (.t 8)⟩)] (some [1,2,3,7,8,9,10])) (.seq (.cond (.t 10) .skip (.exit 0)) (.seq (.block 1 (.seq (.ops 4 [ (0,⟨some 11,none,.idxS 8 (.t 7) (.t 9)⟩),(1,⟨some 12,none,.load (some 8) (.t 11)⟩),(2,⟨some 5,none,.alloc [(.int .i64 0),(.int .u64 0),(.int .u64 0),(.int .u64 0),(.int .u64 0),(.int .i64 0),(.int .i64 0),(.slice none 0 0)]⟩),(3,⟨none,none,.store 8 (.t 5) (.t 12)⟩)] (some [1,2,3,5,7,8,9])) (.ops 6 [ (0,⟨some 13,none,.mv (.t 3)⟩),(1,⟨some 14,none,.load (some 8) (.t 5)⟩),(2,⟨some 15,none,.call 97 [(.t 14)] none false⟩),(3,⟨some 16,none,.mkrow [(.int .i64 0),(.int .u64 0),(.int .u64 0),(.int .u64 0),(.int .u64 0),(.int .i64 0),(.int .i64 0),(.slice none 0 0)] 1 8 [(0,8,(.t 15))]⟩),(4,⟨some 17,none,.app [(.int .i64 0),(.int .u64 0),(.int .u64 0),(.int .u64 0),(.int .u64 0),(.int .i64 0),(.int .i64 0),(.slice none 0 0)] 80 (.t 13) (.t 16)⟩),(5,⟨some 3,none,.mv (.t 17)⟩)] (some [1,2,3,7,8,9])))) (.ops 2 [ (0,⟨some 18,none,.arith .add (.t 9) (.k (.d (.val (.int .i64 1))))⟩),(1,⟨some 9,none,.mv (.t 18)⟩)] (some [1,2,3,7,8,9])))))))) (.seq (.seq (.ops 2 [ (0,⟨some 19,none,.fadd 0 (.t 1)⟩),(1,⟨some 20,none,.load none (.t 19)⟩)] (some [1,2,3,20])) (.block 2 (.seq (.ops 2 [ (0,⟨some 22,none,.arith .eql (.t 20) (.k (.d (.val (.int .i64 3))))⟩),(1,⟨some 21,none,.mv (.t 22)⟩)] (some [1,2,3,20,21])) (.cond (.t 21) (.seq (.ops 3 [ (0,⟨some 23,none,.mv (.t 3)⟩),(1,⟨some 24,none,.call 53 [(.t 23)] none false⟩),(2,⟨none,none,.store 8 (.t 2) (.t 24)⟩)] (some [2])) .ret) (.seq (.ops 2 [ (0,⟨some 26,none,.arith .eql (.t 20) (.k (.d (.val (.int .i64 4))))⟩),(1,⟨some 25,none,.mv (.t 26)⟩)] (some [1,2,3,20,25])) (.cond (.t 25) (.seq (.ops 3 [ (0,⟨some 27,none,.mv (.t 3)⟩),(1,⟨some 28,none,.call 54 [(.t 27)] none false⟩),(2,⟨none,none,.store 8 (.t 2) (.t 28)⟩)] (some [2])) .ret) (.seq (.ops 2 [ (0,⟨some 30,none,.arith .eql (.t 20) (.k (.d (.val (.int .i64 5))))⟩),(1,⟨some 29,none,.mv (.t 30)⟩)] (some [1,2,3,29])) (.cond (.t 29) (.seq (.ops 9 [ (0,⟨some 31,none,.mv (.t 3)⟩),(1,⟨some 32,none,.idxS 8 (.t 31) (.k (.d (.val (.int .i64 0))))⟩),(2,⟨some 33,none,.load (some 8) (.t 32)⟩),(3,⟨some 34,none,.fadd 5 (.t 1)⟩),(4,⟨some 35,none,.load none (.t 34)⟩),(5,⟨some 36,none,.fadd 6 (.t 1)⟩),(6,⟨some 37,none,.load none (.t 36)⟩),(7,⟨some 38,none,.call 55 [(.t 33),(.t 35),(.t 37)] none false⟩),(8,⟨none,none,.store 8 (.t 2) (.t 38)⟩)] (some [2])) .ret) .skip)))))))) (.seq (.ops 2 [ (0,⟨some 39,none,.load (some 8) (.t 1)⟩),(1,⟨none,none,.store 8 (.t 2) (.t 39)⟩)] (some [2])) .ret)))))
def md97 : FuncId→Option Nat × Bool
  | _=>(none,false)
def od97 : Nat→List (List Nat) × List Nat × Option (List Nat)
  | 0=>([],[],some [1,2])
  | 1=>([],[],some [1,2,3])
  | 2=>([],[],some [1,2,3,7,8,9])
  | 3=>([],[],some [1,2,3,7,8,9,10])
  | 4=>([],[],some [1,2,3,5,7,8,9])
  | 5=>([],[],some [1,2,3,7,8,9])
  | 6=>([],[],some [1,2,3,7,8,9])
  | 7=>([],[],some [1,2,3,20])
  | 8=>([],[],some [1,2,3,20,21])
  | 9=>([],[],some [2])
  | 10=>([],[],some [1,2,3,20,25])
  | 11=>([],[],some [2])
  | 12=>([],[],some [1,2,3,29])
  | 13=>([[],[0],[0,1],[],[3],[],[5],[0,1,2,3,4,5,6],[0,1,2,3,4,5,6,7]],[0,1,2,3,4,5,6,7,8],some [2])
  | 14=>([],[],some [2])
  | _=>([],[],none)
theorem b97 {ags : List AV} {row : Option (List DV)} {r : AV} {row' nw : Option (List DV)} (hal : ags.length≤40) (hrow : row'.isSome=true→row.isSome=true) (h : xwp Try.prog x97 (retK [.cell 2 (some 8)] row.isSome r row' nw) (St.init ags row)) : Good Try.prog 97 ags row r row' nw :=
  good_of_body' (md:=md97) (od:=od97) Try.f97 (by kernel_rfl) (by kernel_rfl) (by kernel_rfl) (by kernel_rfl) (by kernel_rfl) hal hrow h

def x46 : XC:=(.seq (.ops 3 [ (0,⟨some 1,none,.box (.t 0)⟩),(1,⟨some 2,none,.alloc [(.int .i64 0),(.int .u64 0),(.int .u64 0),(.int .u64 0),(.int .u64 0),(.int .i64 0),(.int .i64 0),(.slice none 0 0)]⟩),(2,⟨some 3,none,.mv (.k (.d (.val (.int .i64 0))))⟩)] (some [1,2])) (.seq (.seq (.ops 3 [ (0,⟨some 4,none,.load (some 8) (.t 1)⟩),(1,⟨some 5,none,.call 84 [(.t 4)] none false⟩),(2,⟨some 6,none,.un .not (.t 5)⟩)] (some [1,2,6])) (.cond (.t 6) (.seq (.ops 3 [ (0,⟨some 7,none,.build [(.int .i64 0),(.int .u64 0),(.int .u64 0),(.int .u64 0),(.int .u64 0),(.int .i64 0),(.int .i64 0),(.slice none 0 0)] []⟩),(1,⟨none,none,.store 8 (.t 2) (.t 7)⟩),(2,⟨some 3,none,.mv (.k (.d (.val (.int .i64 1))))⟩)] (some [2,3])) .ret) .skip)) (.seq (.ops 4 [ (0,⟨some 8,none,.load (some 8) (.t 1)⟩),(1,⟨some 9,none,.call 97 [(.t 8)] none false⟩),(2,⟨none,none,.store 8 (.t 2) (.t 9)⟩),(3,⟨some 3,none,.mv (.k (.d (.val (.int .i64 0))))⟩)] (some [2,3])) .ret)))
def md46 : FuncId→Option Nat × Bool
  | _=>(none,false)
def od46 : Nat→List (List Nat) × List Nat × Option (List Nat)
  | 0=>([],[],some [1,2])
  | 1=>([],[],some [1,2,6])
  | 2=>([],[],some [2,3])
  | 3=>([],[],some [2,3])
  | _=>([],[],none)
theorem b46 {ags : List AV} {row : Option (List DV)} {r : AV} {row' nw : Option (List DV)} (hal : ags.length≤10) (hrow : row'.isSome=true→row.isSome=true) (h : xwp Try.prog x46 (retK [.cell 2 (some 8),.tmp 3] row.isSome r row' nw) (St.init ags row)) : Good Try.prog 46 ags row r row' nw :=
  good_of_body' (md:=md46) (od:=od46) Try.f46 (by kernel_rfl) (by kernel_rfl) (by kernel_rfl) (by kernel_rfl) (by kernel_rfl) hal hrow h

set_option maxRecDepth 100000
set_option maxHeartbeats 4000000
attribute [local irreducible] W E R KP thenK blockK retK Good xwp aRun
theorem simple97_good : ∀ (n : Nat) (t : T),t.cnt≤n→n≤300000→okT t→Good Try.prog 97 [nodeA t] none (nodeA (simT t)) none none:=by
  intro n
  induction n with
  | zero=>intro t ht;have:=cnt_pos t;omega
  | succ n ih =>
  intro t ht hc hok
  obtain ⟨k,a,b,c,d,mn,mx,subs⟩:=t
  have hR:=okT_R hok
  have hoks:=okT_subs hok
  have hpl:=okT_plain hok
  have ih' : ∀ i (h : i < subs.length),Good Try.prog 97 [nodeA subs[i]] none (nodeA (simT subs[i])) none none:=by
    intro i h
    refine ih _ ?_ (by omega) (okL_get subs i h hoks)
    have:=cntL_get subs i h
    simp only [T.cnt] at ht
    omega
  have hlen : subs.length≤300000:=by
    have:=cntL_len subs
    simp only [T.cnt] at ht
    omega
  have hcs:=simL_cnt subs hoks
  have hso:=simL_ok subs hoks
  have hsl:=simL_len subs
  have hcc : cntL (simL subs)≤300000:=by simp only [T.cnt] at ht;omega
  have h92:=cat53_good (simL subs) (by omega)
  have h93:=alt54_good (simL subs) (by omega) (fun u hu=>okT_S ((okL_iff _).1 (okL_flat 4 hso) u hu))
  have e0 : nodeA (.node k a b c d mn mx subs)=.agg [.i k,.d (.val (.int .u64 a)),.d (.val (.int .u64 b)),.d (.val (.int .u64 c)),.d (.val (.int .u64 d)),.i mn,.i mx,.d (.sl (encL subs) subs.length)]:=rfl
  have h94 : ∀ x r,simL subs=x :: r→k=5→Good Try.prog 55 [nodeA x,.i mn,.i mx] none (nodeA (repS x mn mx)) none none:=by
    intro x r e h5
    have:=hR h5
    refine rep55_good 1000000 x ?_ (by omega) mn mx (by unfold inW;omega) (by unfold inW;omega)
    rw [e,cntL] at hcc;omega
  have hk5 : k=5→0 < subs.length:=fun h5=>by
    subst h5
    obtain ⟨u,rfl⟩:=plainT_5 hpl
    simp
  clear ih ht hcs hso hok hoks hpl hcc hR
  rw [e0,simT]
  refine b97 (by simp) (by simp) (w_init ?_)
  unfold x97
  repeat' (first|(apply r_mvV;rfl)|(apply r_faddL;rfl)|(apply r_ldL;rfl;rfl;rfl)|(apply r_lenD;rfl)|(apply r_alloc;((conv=>lhs;simp only [Nat.reduceAdd])<;>rfl);rfl)|(apply r_box;((conv=>lhs;simp only [Nat.reduceAdd])<;>rfl);rfl;rfl;rfl)|(apply r_nilK)|(apply k_V;rfl)|(apply k_PL;rfl)|(apply k_S;rfl)|(apply k_nil)|(apply w_seq)|(apply w_ops;((conv=>lhs;simp only [Nat.reduceAdd])<;>rfl))|(apply e_thenN)|(apply w_block))
  apply w_loopI (S:=fun i : Nat=>⟨(((((Fr.nil.put 1 (.ptrL 1 0)).put 2 (.ptrL 2 0)).put 3 (.slL 50 0 i 8)).put 7 (.d (.sl (encL subs) subs.length))).put 8 (.i subs.length)).put 9 (.i i),rowsOf [(1,[.i k,.d (.val (.int .u64 a)),.d (.val (.int .u64 b)),.d (.val (.int .u64 c)),.d (.val (.int .u64 d)),.i mn,.i mx,.d (.sl (encL subs) subs.length)]),(2,zeroA zsN),(50,(encL ((simL subs).take i)).map AV.d)],Frz.buts 100 [2,50],100⟩) (m:=fun i=>subs.length - i) (I:=fun i=>i≤subs.length) (i0:=0)
  · exact Nat.zero_le _
  · refine wkM [] [50] rfl ?_ ?_ rfl ?_
    · intro p hp
      simp only [List.mem_cons,List.not_mem_nil,or_false] at hp
      rcases hp with rfl | rfl | rfl
      · exact ⟨by omega,.inr ⟨rfl,_,rfl,.data rfl⟩⟩
      · exact ⟨by omega,.inr ⟨rfl,_,rfl,.data rfl⟩⟩
      · exact ⟨by omega,.inl ⟨rfl,rfl⟩⟩
    · intro q hq;simp only [List.mem_cons,List.not_mem_nil,or_false] at hq;rcases hq with rfl | rfl<;>rfl
    · repeat' (first|exact FWk.nil|(apply FWk.i;rfl;(first|rfl|omega|(simp;done)))|(apply FWk.ptr;rfl;rfl;rfl;omega;rfl)|(apply FWk.d;rfl;rfl)|(apply FWk.slN;rfl;omega;rfl))
  intro i K hi hK
  dsimp only
  rcases Nat.lt_or_ge i subs.length with hlt | hge
  · have hs:=NodeAt.sub hlt
    have hg:=ih' i hlt
    have htk:=simL_take subs i hlt
    have hna : [nodeA subs[i]].all AV.nrm=true:=by rw [List.all_cons,nodeA_nrm];rfl
    generalize simT subs[i]=u at hg htk
    generalize subs[i]=v at hs hg hna
    obtain ⟨k2,a2,b2,c2,d2,mn2,mx2,subs2⟩:=v
    have e2 : nodeA (.node k2 a2 b2 c2 d2 mn2 mx2 subs2)=.agg [.i k2,.d (.val (.int .u64 a2)),.d (.val (.int .u64 b2)),.d (.val (.int .u64 c2)),.d (.val (.int .u64 d2)),.i mn2,.i mx2,.d (.sl (encL subs2) subs2.length)]:=rfl
    rw [e2] at hg hna
    repeat' (first|(apply r_mvV;rfl)|(apply r_mvSL;rfl)|(apply r_p;apply ix_sub;rfl;rfl;omega)|(apply r_l (v:=.agg [.i k2,.d (.val (.int .u64 a2)),.d (.val (.int .u64 b2)),.d (.val (.int .u64 c2)),.d (.val (.int .u64 d2)),.i mn2,.i mx2,.d (.sl (encL subs2) subs2.length)]);exact ld_node hs rfl)|(apply r_ldL (v:=.agg [.i k2,.d (.val (.int .u64 a2)),.d (.val (.int .u64 b2)),.d (.val (.int .u64 c2)),.d (.val (.int .u64 d2)),.i mn2,.i mx2,.d (.sl (encL subs2) subs2.length)]);rfl;rfl;rfl)|(apply r_callA (ags:=[.agg [.i k2,.d (.val (.int .u64 a2)),.d (.val (.int .u64 b2)),.d (.val (.int .u64 c2)),.d (.val (.int .u64 d2)),.i mn2,.i mx2,.d (.sl (encL subs2) subs2.length)]]);rfl;exact hna;exact hg)|(apply r_mkN (t:=u) (id:=108);rfl;rfl)|(apply r_appE (b:=50) (c:=108) (id:=109) (K:=(simL subs).take i) (L:=[u]) (m:=i) (j:=1);rfl;rfl;rfl;rfl;(rw [List.length_take];omega);rfl;rfl;rfl;omega)|(apply r_lss;rfl;rfl;(first|(apply dT;omega)|(apply dF;omega)|rfl))|(apply r_add;rfl;rfl;rfl;omega)|(apply r_alloc;((conv=>lhs;simp only [Nat.reduceAdd])<;>rfl);rfl)|(apply r_stL;rfl;rfl;rfl;rfl;(first|rfl|(simp only [z_nil,z_add]<;>rfl));rfl;rfl)|(apply r_nilK)|(apply k_V;rfl)|(apply k_PL;rfl)|(apply k_S;rfl)|(apply k_SL;rfl)|(apply k_nil)|(apply w_seq)|(apply w_ops;((conv=>lhs;simp only [Nat.reduceAdd])<;>rfl))|(apply w_condT;rfl)|(apply e_thenN)|(apply w_block)|(apply e_blkN)|(apply w_skip))
    apply e_thenK
    apply hK (i + 1)
    · omega
    · omega
    · rw [htk]
      refine wkM [(50,109)] [] rfl ?_ ?_ rfl ?_
      · intro p hp
        simp only [List.mem_cons,List.not_mem_nil,or_false] at hp
        rcases hp with rfl | rfl | rfl
        · exact ⟨by omega,.inr ⟨rfl,_,rfl,.data rfl⟩⟩
        · exact ⟨by omega,.inr ⟨rfl,_,rfl,.data rfl⟩⟩
        · exact ⟨by omega,.inr ⟨rfl,_,rfl,.data (isD_encL _)⟩⟩
      · intro q hq;simp only [List.mem_cons,List.not_mem_nil,or_false] at hq;rcases hq with rfl | rfl<;>rfl
      · repeat' (first|exact FWk.nil|(apply FWk.i;rfl;(first|rfl|omega|(simp;done)))|(apply FWk.sl;rfl;rfl;rfl;rfl;omega;rfl)|(apply FWk.ptr;rfl;rfl;rfl;omega;rfl)|(apply FWk.d;rfl;rfl))
  have ei : i=subs.length:=by omega
  subst ei
  rw [List.take_of_length_le (by omega)]
  clear hK hge ih' hi
  generalize simL subs=L at hsl h92 h93 h94 ⊢
  rw [hsl] at h92 h93
  by_cases h3 : k=3
  · rw [if_pos h3]
    generalize catS L=u at h92
    obtain ⟨k2,a2,b2,c2,d2,mn2,mx2,subs2⟩:=u
    match L,hsl with
    | [],hsl =>
      simp only [List.length_nil] at hsl
      rw [← hsl] at h92 ⊢
      repeat' (first|(apply r_mvV;rfl)|(apply r_mvSL;rfl)|(apply r_faddL;rfl)|(apply r_callS2 (pre:=[]) (pre':=[]) (post:=[]) (post':=[]) (b:=50) (L:=[]) (us:=[]);rfl;rfl;rfl;rfl;rfl;exact h92;rfl)|(apply r_ldL;rfl;rfl;rfl)|(apply r_eql;rfl;rfl;(first|(apply dT;omega)|(apply dF;omega)|rfl))|(apply r_lss;rfl;rfl;(first|(apply dT;omega)|(apply dF;omega)|rfl))|(apply r_stL;rfl;rfl;rfl;rfl;(first|rfl|(simp only [z_nil,z_add]<;>rfl));rfl;rfl)|(apply r_nilK)|(apply k_V;rfl)|(apply k_PL;rfl)|(apply k_S;rfl)|(apply k_SL;rfl)|(apply k_nil)|(apply e_ret;rfl)|(apply w_seq)|(apply w_ops;((conv=>lhs;simp only [Nat.reduceAdd])<;>rfl))|(apply w_condT;rfl)|(apply w_condF;rfl)|(apply e_thenN)|(apply w_block)|(apply e_thenR)|(apply e_thenX)|(apply e_blkR)|(apply e_blkE)|(apply w_exit)|(apply w_ret))
      exact .data _ rfl
    | x :: r,hsl =>
      simp only [List.length_cons] at hsl
      rw [← hsl] at h92 ⊢
      repeat' (first|(apply r_mvV;rfl)|(apply r_mvSL;rfl)|(apply r_faddL;rfl)|(apply r_callS2 (pre:=[]) (pre':=[]) (post:=[]) (post':=[]) (b:=50) (L:=x :: r) (us:=[50]);rfl;rfl;rfl;rfl;rfl;exact h92;rfl)|(apply r_ldL;rfl;rfl;rfl)|(apply r_eql;rfl;rfl;(first|(apply dT;omega)|(apply dF;omega)|rfl))|(apply r_lss;rfl;rfl;(first|(apply dT;omega)|(apply dF;omega)|rfl))|(apply r_stL;rfl;rfl;rfl;rfl;(first|rfl|(simp only [z_nil,z_add]<;>rfl));rfl;rfl)|(apply r_nilK)|(apply k_V;rfl)|(apply k_PL;rfl)|(apply k_S;rfl)|(apply k_SL;rfl)|(apply k_nil)|(apply e_ret;rfl)|(apply w_seq)|(apply w_ops;((conv=>lhs;simp only [Nat.reduceAdd])<;>rfl))|(apply w_condT;rfl)|(apply w_condF;rfl)|(apply e_thenN)|(apply w_block)|(apply e_thenR)|(apply e_thenX)|(apply e_blkR)|(apply e_blkE)|(apply w_exit)|(apply w_ret))
      exact .data _ rfl
  rw [if_neg h3]
  by_cases h4 : k=4
  · rw [if_pos h4]
    generalize altS L=u at h93
    obtain ⟨k2,a2,b2,c2,d2,mn2,mx2,subs2⟩:=u
    match L,hsl with
    | [],hsl =>
      simp only [List.length_nil] at hsl
      rw [← hsl] at h93 ⊢
      repeat' (first|(apply r_mvV;rfl)|(apply r_mvSL;rfl)|(apply r_faddL;rfl)|(apply r_callS2 (pre:=[]) (pre':=[]) (post:=[]) (post':=[]) (b:=50) (L:=[]) (us:=[]);rfl;rfl;rfl;rfl;rfl;exact h93;rfl)|(apply r_ldL;rfl;rfl;rfl)|(apply r_eql;rfl;rfl;(first|(apply dT;omega)|(apply dF;omega)|rfl))|(apply r_lss;rfl;rfl;(first|(apply dT;omega)|(apply dF;omega)|rfl))|(apply r_stL;rfl;rfl;rfl;rfl;(first|rfl|(simp only [z_nil,z_add]<;>rfl));rfl;rfl)|(apply r_nilK)|(apply k_V;rfl)|(apply k_PL;rfl)|(apply k_S;rfl)|(apply k_SL;rfl)|(apply k_nil)|(apply e_ret;rfl)|(apply w_seq)|(apply w_ops;((conv=>lhs;simp only [Nat.reduceAdd])<;>rfl))|(apply w_condT;rfl)|(apply w_condF;rfl)|(apply e_thenN)|(apply w_block)|(apply e_thenR)|(apply e_thenX)|(apply e_blkR)|(apply e_blkE)|(apply w_exit)|(apply w_ret))
      exact .data _ rfl
    | x :: r,hsl =>
      simp only [List.length_cons] at hsl
      rw [← hsl] at h93 ⊢
      repeat' (first|(apply r_mvV;rfl)|(apply r_mvSL;rfl)|(apply r_faddL;rfl)|(apply r_callS2 (pre:=[]) (pre':=[]) (post:=[]) (post':=[]) (b:=50) (L:=x :: r) (us:=[50]);rfl;rfl;rfl;rfl;rfl;exact h93;rfl)|(apply r_ldL;rfl;rfl;rfl)|(apply r_eql;rfl;rfl;(first|(apply dT;omega)|(apply dF;omega)|rfl))|(apply r_lss;rfl;rfl;(first|(apply dT;omega)|(apply dF;omega)|rfl))|(apply r_stL;rfl;rfl;rfl;rfl;(first|rfl|(simp only [z_nil,z_add]<;>rfl));rfl;rfl)|(apply r_nilK)|(apply k_V;rfl)|(apply k_PL;rfl)|(apply k_S;rfl)|(apply k_SL;rfl)|(apply k_nil)|(apply e_ret;rfl)|(apply w_seq)|(apply w_ops;((conv=>lhs;simp only [Nat.reduceAdd])<;>rfl))|(apply w_condT;rfl)|(apply w_condF;rfl)|(apply e_thenN)|(apply w_block)|(apply e_thenR)|(apply e_thenX)|(apply e_blkR)|(apply e_blkE)|(apply w_exit)|(apply w_ret))
      exact .data _ rfl
  rw [if_neg h4]
  by_cases h5 : k=5
  · rw [if_pos h5]
    have:=hk5 h5
    match L,hsl,h94 with
    | [],hsl,_=>simp only [List.length_nil] at hsl;omega
    | x :: r,hsl,h94 =>
      have h94:=h94 x r rfl h5
      rw [List.headD_cons]
      have hna : [nodeA x,.i mn,.i mx].all AV.nrm=true:=by rw [List.all_cons,nodeA_nrm];rfl
      generalize repS x mn mx=u at h94
      obtain ⟨k2,a2,b2,c2,d2,mn2,mx2,subs2⟩:=u
      have hs : NodeAt (encL (x :: r)) (0 * 8) x:=NodeAt.sub (l:=x :: r) (i:=0) (by simp)
      repeat' (first|(apply r_mvV;rfl)|(apply r_mvSL;rfl)|(apply r_faddL;rfl)|(apply r_ixN (j:=0);rfl;rfl;rfl;omega)|(apply r_ldN (t:=x);rfl;rfl;exact hs)|(apply r_callA (ags:=[nodeA x,.i mn,.i mx]);rfl;exact hna;exact h94)|(apply r_ldL;rfl;rfl;rfl)|(apply r_eql;rfl;rfl;(first|(apply dT;omega)|(apply dF;omega)|rfl))|(apply r_lss;rfl;rfl;(first|(apply dT;omega)|(apply dF;omega)|rfl))|(apply r_stL;rfl;rfl;rfl;rfl;(first|rfl|(simp only [z_nil,z_add]<;>rfl));rfl;rfl)|(apply r_nilK)|(apply k_V;rfl)|(apply k_PL;rfl)|(apply k_S;rfl)|(apply k_SL;rfl)|(apply k_nil)|(apply e_ret;rfl)|(apply w_seq)|(apply w_ops;((conv=>lhs;simp only [Nat.reduceAdd])<;>rfl))|(apply w_condT;rfl)|(apply w_condF;rfl)|(apply e_thenN)|(apply w_block)|(apply e_thenR)|(apply e_thenX)|(apply e_blkR)|(apply e_blkE)|(apply w_exit)|(apply w_ret))
      exact .data _ rfl
  · rw [if_neg h5]
    repeat' (first|(apply r_mvV;rfl)|(apply r_faddL;rfl)|(apply r_ldL (v:=.agg [.i k,.d (.val (.int .u64 a)),.d (.val (.int .u64 b)),.d (.val (.int .u64 c)),.d (.val (.int .u64 d)),.i mn,.i mx,.d (.sl (encL subs) subs.length)]);rfl;rfl;rfl)|(apply r_ldL;rfl;rfl;rfl)|(apply r_eql;rfl;rfl;(first|(apply dT;omega)|(apply dF;omega)|rfl))|(apply r_lss;rfl;rfl;(first|(apply dT;omega)|(apply dF;omega)|rfl))|(apply r_stL;rfl;rfl;rfl;rfl;(first|rfl|(simp only [z_nil,z_add]<;>rfl));rfl;rfl)|(apply r_nilK)|(apply k_V;rfl)|(apply k_PL;rfl)|(apply k_S;rfl)|(apply k_SL;rfl)|(apply k_nil)|(apply e_ret;rfl)|(apply w_seq)|(apply w_ops;((conv=>lhs;simp only [Nat.reduceAdd])<;>rfl))|(apply w_condF;rfl)|(apply e_thenN)|(apply w_block)|(apply e_thenX)|(apply e_blkN)|(apply e_blkE)|(apply w_exit)|(apply w_ret)|(apply w_skip))
    exact .data _ rfl
def sN (t : T) : T:=if fitsT t 12=true then simT t else zT
def sE (t : T) : Int:=if fitsT t 12=true then 0 else 1
theorem Simple46_good (t : T) (hc : t.cnt≤300000) (hok : fitsT t 12=true→okT t) : Good Try.prog 46 [nodeA t] none (.tup [nodeA (sN t),.i (sE t)]) none none:=by
  have hright:=right_good t (by omega)
  rcases Bool.eq_false_or_eq_true (fitsT t 12) with hR | hR
  case inr =>
    have e1 : sE t=1:=by simp [sE,hR]
    have e2 : sN t=zT:=by simp [sN,hR]
    rw [e1,e2]
    rw [hR] at hright
    clear e1 e2 hok hc hR
    obtain ⟨k,a,b,c,d,mn,mx,subs⟩:=t
    have e0 : nodeA (.node k a b c d mn mx subs)=.agg [.i k,.d (.val (.int .u64 a)),.d (.val (.int .u64 b)),.d (.val (.int .u64 c)),.d (.val (.int .u64 d)),.i mn,.i mx,.d (.sl (encL subs) subs.length)]:=rfl
    rw [e0] at hright ⊢
    refine b46 (by simp) (by simp) (w_init ?_)
    unfold x46
    repeat' (first|(apply r_mvV;rfl)|(apply r_callA;rfl;rfl;exact hright)|(apply r_p (v:=.agg [.i 0,.d (.val (.int .u64 0)),.d (.val (.int .u64 0)),.d (.val (.int .u64 0)),.d (.val (.int .u64 0)),.i 0,.i 0,.d (.val (.slice none 0 0))]);rfl)|(apply r_ldL;rfl;rfl;rfl)|(apply r_not;rfl;rfl)|(apply r_alloc;((conv=>lhs;simp only [Nat.reduceAdd])<;>rfl);rfl)|(apply r_box;((conv=>lhs;simp only [Nat.reduceAdd])<;>rfl);rfl;rfl;rfl)|(apply r_stL;rfl;rfl;rfl;rfl;(first|rfl|(simp only [z_nil,z_add]<;>rfl));rfl;rfl)|(apply r_nilK)|(apply k_V;rfl)|(apply k_PL;rfl)|(apply k_nil)|(apply e_ret;rfl)|(apply w_seq)|(apply w_ops;((conv=>lhs;simp only [Nat.reduceAdd])<;>rfl))|(apply w_condT;rfl)|(apply e_thenN)|(apply e_thenR)|(apply w_ret))
    exact .data _ rfl
  have hs:=simple97_good 300000 t hc (by omega) (hok hR)
  have e1 : sE t=0:=by simp [sE,hR]
  have e2 : sN t=simT t:=by simp [sN,hR]
  rw [e1,e2]
  rw [hR] at hright
  generalize simT t=u at hs
  clear e1 e2 hok hc hR
  obtain ⟨k2,a2,b2,c2,d2,mn2,mx2,subs2⟩:=u
  obtain ⟨k,a,b,c,d,mn,mx,subs⟩:=t
  have e0 : nodeA (.node k a b c d mn mx subs)=.agg [.i k,.d (.val (.int .u64 a)),.d (.val (.int .u64 b)),.d (.val (.int .u64 c)),.d (.val (.int .u64 d)),.i mn,.i mx,.d (.sl (encL subs) subs.length)]:=rfl
  rw [e0] at hright hs ⊢
  refine b46 (by simp) (by simp) (w_init ?_)
  unfold x46
  repeat' (first|(apply r_mvV;rfl)|(apply r_callA;rfl;rfl;exact hright)|(apply r_callA;rfl;rfl;exact hs)|(apply r_ldL;rfl;rfl;rfl)|(apply r_not;rfl;rfl)|(apply r_alloc;((conv=>lhs;simp only [Nat.reduceAdd])<;>rfl);rfl)|(apply r_box;((conv=>lhs;simp only [Nat.reduceAdd])<;>rfl);rfl;rfl;rfl)|(apply r_stL;rfl;rfl;rfl;rfl;(first|rfl|(simp only [z_nil,z_add]<;>rfl));rfl;rfl)|(apply r_nilK)|(apply k_V;rfl)|(apply k_PL;rfl)|(apply k_nil)|(apply e_ret;rfl)|(apply w_seq)|(apply w_ops;((conv=>lhs;simp only [Nat.reduceAdd])<;>rfl))|(apply w_condF;rfl)|(apply e_thenN)|(apply w_ret)|(apply w_skip))
  exact .data _ rfl
end Go.Sv
namespace Go.Sv
open Go Go.Proofs
set_option maxRecDepth 100000
end Go.Sv
namespace Go.Sv
open Go
end Go.Sv
namespace Go.Sv
open Go
mutual
def nnT : T→Bool
  | .node k a b c d mn mx subs=>if k=2 then isZero a b c d else if k=3 then nnAny subs else if k=4 then nnAll subs else if k=5 then decide (0 < mn) && nnFst subs else false
def nnAny : List T→Bool
  | []=>false
  | t :: l=>nnT t || nnAny l
def nnAll : List T→Bool
  | []=>true
  | t :: l=>nnT t && nnAll l
def nnFst : List T→Bool
  | []=>false
  | t :: _=>nnT t
end
theorem nnAny_drop (l : List T) (i : Nat) (h : i < l.length) : nnAny (l.drop i)=(nnT l[i] || nnAny (l.drop (i + 1))):=by
  rw [List.drop_eq_getElem_cons h,nnAny]
theorem nnAll_drop (l : List T) (i : Nat) (h : i < l.length) : nnAll (l.drop i)=(nnT l[i] && nnAll (l.drop (i + 1))):=by
  rw [List.drop_eq_getElem_cons h,nnAll]
theorem zero_iff {a b c d : Int} (ha : okW a) (hb : okW b) (hc : okW c) (hd : okW d) : isZero a b c d=true↔∀ x,x < 256→inG a b c d x=false:=by
  constructor
  · intro h
    simp [isZero] at h
    obtain ⟨rfl,rfl,rfl,rfl⟩:=h
    exact fun x _=>inG_0 x
  · intro h
    have key : ∀ (w : Int) (j : Nat),okW w→[a,b,c,d][j]?=some w→j < 4→w=0:=by
      intro w j hw hj hlt
      obtain ⟨n,rfl,hn⟩:=okW_nat hw
      have : n=0:=by
        refine Nat.eq_of_testBit_eq fun i=>?_
        rw [Nat.zero_testBit]
        rcases Nat.lt_or_ge i 64 with hi | hi
        · have:=h (64 * j + i) (by omega)
          unfold inG at this
          rw [show (64 * j + i) / 64=j by omega,List.getD_eq_getElem?_getD,hj,Option.getD_some,bitG_nat,show (64 * j + i) % 64=i by omega] at this
          exact this
        · exact Nat.testBit_lt_two_pow (Nat.lt_of_lt_of_le hn (Nat.pow_le_pow_right (by omega) hi))
      omega
    have e0:=key a 0 ha rfl (by omega)
    have e1:=key b 1 hb rfl (by omega)
    have e2:=key c 2 hc rfl (by omega)
    have e3:=key d 3 hd rfl (by omega)
    simp [isZero,e0,e1,e2,e3]
theorem inG_lt {a b c d : Int} {x : Nat} (h : inG a b c d x=true) : x < 256:=by
  rcases Nat.lt_or_ge x 256 with h1 | h1
  · exact h1
  · unfold inG at h
    rw [List.getD_eq_getElem?_getD,List.getElem?_eq_none (by simp;omega),Option.getD_none,bitG_0] at h
    cases h
mutual
theorem nnT_L : ∀ t : T,okT t→(nnT t=true↔∀ w,¬ L t w)
  | .node k a b c d mn mx subs,ho=>by
    have hs:=okT_subs ho
    have hp:=okT_plain ho
    have hR:=okT_R ho
    have h3:=nnAny_L subs hs
    have h4:=nnAll_L subs hs
    have h5:=nnFst_L subs hs
    have hS:=okT_S ho
    rw [nnT]
    by_cases k2 : k=2
    · rw [if_pos k2]
      subst k2
      rw [zero_iff hS.1 hS.2.1 hS.2.2.1 hS.2.2.2]
      constructor
      · intro h w hw
        rw [L_k2] at hw
        obtain ⟨x,_,hx⟩:=hw
        rw [h x (inG_lt hx)] at hx;cases hx
      · intro h x _
        cases e : inG a b c d x with
        | false=>rfl
        | true=>exact absurd (L_k2.2 ⟨x,rfl,e⟩) (h [x])
    rw [if_neg k2]
    by_cases k3 : k=3
    · rw [if_pos k3]
      subst k3
      rw [h3]
      simp only [L_k3]
    rw [if_neg k3]
    by_cases k4 : k=4
    · rw [if_pos k4]
      subst k4
      rw [h4]
      simp only [L_k4]
    rw [if_neg k4]
    by_cases k5 : k=5
    · rw [if_pos k5]
      subst k5
      obtain ⟨u,rfl⟩:=plainT_5 hp
      obtain ⟨hm,hm2⟩:=hR rfl
      have h5:=h5 (by simp)
      rw [Bool.and_eq_true,h5,decide_eq_true_eq]
      constructor
      · rintro ⟨h1,h2⟩ w hw
        rw [L_k5] at hw
        obtain ⟨r,g1,g2,g3⟩:=hw
        exact powL_no h2 (by omega) w g3
      · intro h
        constructor
        · rcases Int.lt_or_le 0 mn with h1 | h1
          · exact h1
          · exfalso
            refine h [] ?_
            rw [L_k5]
            exact ⟨0,by omega,by omega,rfl⟩
        · intro w hw
          obtain ⟨m,rfl⟩:=Int.eq_ofNat_of_zero_le hm.1
          have : ∀ r : Nat,∃ v,powL (fstL [u]) r v:=by
            intro r
            induction r with
            | zero=>exact ⟨[],rfl⟩
            | succ r ih =>
              obtain ⟨v,hv⟩:=ih
              exact ⟨w++v,w,v,rfl,hw,hv⟩
          obtain ⟨v,hv⟩:=this m
          refine h v ?_
          rw [L_k5]
          exact ⟨m,by omega,by omega,hv⟩
    · rw [if_neg k5]
      have k1 : k=1:=by have:=(plainT_kind hp).1;omega
      subst k1
      constructor
      · intro h;cases h
      · intro h;exact absurd (L_k1.2 rfl) (h [])
theorem nnAny_L : ∀ l : List T,okL l→(nnAny l=true↔∀ w,¬ catL l w)
  | [],_=>by
    constructor
    · intro h;cases h
    · intro h;exact absurd rfl (h [])
  | t :: l,ho=>by
    simp only [okL] at ho
    have h1:=nnT_L t ho.1
    have h2:=nnAny_L l ho.2
    rw [nnAny,Bool.or_eq_true,h1,h2]
    constructor
    · rintro (h | h) w ⟨u,v,_,hu,hv⟩
      · exact h u hu
      · exact h v hv
    · intro h
      by_cases hn : ∀ w,¬ L t w
      · exact .inl hn
      · right
        intro v hv
        have : ∃ u,L t u:=Classical.byContradiction fun hc=>hn fun w hw=>hc ⟨w,hw⟩
        obtain ⟨u,hu⟩:=this
        exact h (u++v) ⟨u,v,rfl,hu,hv⟩
theorem nnAll_L : ∀ l : List T,okL l→(nnAll l=true↔∀ w,¬ altL l w)
  | [],_=>by simp [nnAll,altL]
  | t :: l,ho=>by
    simp only [okL] at ho
    rw [nnAll,Bool.and_eq_true,nnT_L t ho.1,nnAll_L l ho.2]
    simp only [altL,not_or]
    exact ⟨fun h w=>⟨h.1 w,h.2 w⟩,fun h=>⟨fun w=>(h w).1,fun w=>(h w).2⟩⟩
theorem nnFst_L : ∀ l : List T,okL l→l ≠ []→(nnFst l=true↔∀ w,¬ fstL l w)
  | [],_,h=>absurd rfl h
  | t :: l,ho,_=>by
    simp only [okL] at ho
    rw [nnFst,nnT_L t ho.1]
    simp only [fstL]
end
noncomputable def lenS (P : List Nat→Prop) (m : Nat) : List Bool:=(List.range (m + 1)).map fun k=>@decide (∃ w,P w∧w.length=k) (Classical.propDecidable _)
theorem lenS_len (P : List Nat→Prop) (m : Nat) : (lenS P m).length=m + 1:=by simp [lenS]
theorem at_lenS (P : List Nat→Prop) (m k : Nat) : At (lenS P m) k↔k≤m∧∃ w,P w∧w.length=k:=by
  unfold At lenS
  rw [List.getD_eq_getElem?_getD,List.getElem?_map]
  rcases Nat.lt_or_ge k (m + 1) with h | h
  · rw [List.getElem?_range h]
    simp only [Option.map_some,Option.getD_some,decide_eq_true_eq]
    exact ⟨fun h2=>⟨by omega,h2⟩,fun h2=>h2.2⟩
  · rw [List.getElem?_eq_none (by simpa using h)]
    simp only [Option.map_none,Option.getD_none,Bool.false_eq_true,false_iff]
    omega
theorem lenS_eq {P : List Nat→Prop} {m : Nat} {p : List Bool} (hl : p.length=m + 1) (h : ∀ k,k≤m→(At p k↔∃ w,P w∧w.length=k)) : p=lenS P m:=by
  refine at_ext (by rw [hl,lenS_len]) fun k=>?_
  rw [at_lenS]
  constructor
  · intro hk
    have:=hk.lt
    exact ⟨by omega,(h k (by omega)).1 hk⟩
  · rintro ⟨h1,h2⟩;exact (h k h1).2 h2
theorem lenS_congr {P Q : List Nat→Prop} (h : ∀ w,P w↔Q w) (m : Nat) : lenS P m=lenS Q m:=by
  have : P=Q:=funext fun w=>propext (h w)
  rw [this]
def joinB (a b : List Bool) : List Bool:=(List.range a.length).map fun n=>(List.range (n + 1)).any fun i=>a.getD i false && b.getD (n - i) false
theorem joinB_len (a b : List Bool) : (joinB a b).length=a.length:=by simp [joinB]
theorem at_joinB (a b : List Bool) (n : Nat) : At (joinB a b) n↔n < a.length∧∃ i,i≤n∧At a i∧At b (n - i):=by
  unfold At joinB
  rw [List.getD_eq_getElem?_getD,List.getElem?_map]
  rcases Nat.lt_or_ge n a.length with h | h
  · rw [List.getElem?_range h]
    simp only [Option.map_some,Option.getD_some,List.any_eq_true,List.mem_range,Bool.and_eq_true]
    constructor
    · rintro ⟨i,h1,h2,h3⟩;exact ⟨h,i,by omega,h2,h3⟩
    · rintro ⟨_,i,h1,h2,h3⟩;exact ⟨i,by omega,h2,h3⟩
  · rw [List.getElem?_eq_none (by simpa using h)]
    simp only [Option.map_none,Option.getD_none,Bool.false_eq_true,false_iff]
    omega
theorem joinB_eq {a b p : List Bool} (hl : p.length=a.length) (h : ∀ n,n < a.length→(At p n↔∃ i,i≤n∧At a i∧At b (n - i))) : p=joinB a b:=by
  refine at_ext (by rw [hl,joinB_len]) fun n=>?_
  rw [at_joinB]
  constructor
  · intro hn
    have:=hn.lt
    exact ⟨by omega,(h n (by omega)).1 hn⟩
  · rintro ⟨h1,h2⟩;exact (h n h1).2 h2
theorem joinB_lenS (P Q : List Nat→Prop) (m : Nat) : joinB (lenS P m) (lenS Q m)=lenS (fun w=>∃ u v,w=u++v∧P u∧Q v) m:=by
  refine lenS_eq (by rw [joinB_len,lenS_len]) fun k hk=>?_
  rw [at_joinB,lenS_len]
  constructor
  · rintro ⟨_,i,h1,h2,h3⟩
    obtain ⟨_,u,hu,rfl⟩:=(at_lenS P m i).1 h2
    obtain ⟨_,v,hv,h4⟩:=(at_lenS Q m _).1 h3
    exact ⟨u++v,⟨u,v,rfl,hu,hv⟩,by rw [List.length_append];omega⟩
  · rintro ⟨w,⟨u,v,rfl,hu,hv⟩,h⟩
    rw [List.length_append] at h
    exact ⟨by omega,u.length,by omega,(at_lenS P m _).2 ⟨by omega,u,hu,rfl⟩,(at_lenS Q m _).2 ⟨by omega,v,hv,by omega⟩⟩
theorem powL_drop {P : List Nat→Prop} : ∀ (r : Nat) (w : List Nat),powL P (r + 1) w→w.length < r + 1→powL P r w
  | 0,w,⟨u,v,e,h1,h2⟩,hl=>by
    have : w=[]:=List.length_eq_zero_iff.1 (by omega)
    exact this
  | r + 1,w,⟨u,v,e,h1,h2⟩,hl=>by
    subst e
    rw [List.length_append] at hl
    rcases Nat.eq_zero_or_pos u.length with h0 | h0
    · have : u=[]:=List.length_eq_zero_iff.1 h0
      subst this
      exact h2
    · exact ⟨u,v,rfl,h1,powL_drop r v h2 (by omega)⟩
theorem powL_cut {P : List Nat→Prop} (w : List Nat) (q : Nat) (hq : w.length≤q) : ∀ r,q≤r→powL P r w→powL P q w:=by
  intro r
  induction r with
  | zero =>
    intro h hw
    have : q=0:=by omega
    subst this;exact hw
  | succ r ih =>
    intro h hw
    rcases Nat.lt_or_ge r q with h1 | h1
    · have : q=r + 1:=by omega
      subst this;exact hw
    · exact ih h1 (powL_drop r w hw (by omega))
noncomputable def firstL (P : List Nat→Prop) : List Nat:=(List.range 256).filter fun x=>@decide (∃ w,P (x :: w)) (Classical.propDecidable _)
theorem mem_firstL (P : List Nat→Prop) (x : Nat) : x ∈ firstL P↔x < 256∧∃ w,P (x :: w):=by
  simp only [firstL,List.mem_filter,List.mem_range,decide_eq_true_eq]
end Go.Sv
namespace Go.Sv
open Go
theorem setWs_same {l r : List Nat} (hl : ∀ x ∈ l,x < 256) (hr : ∀ x ∈ r,x < 256) (h : ∀ y,y < 256→(y ∈ l↔y ∈ r)) : setWs l=setWs r:=by
  obtain ⟨a1,a2⟩:=setWs_ok hl
  obtain ⟨b1,b2⟩:=setWs_ok hr
  refine words_ext a1 b1 fun y hy=>?_
  rw [Bool.eq_iff_iff,a2 y hy,b2 y hy]
  exact h y hy
theorem firstL_lt (P : List Nat→Prop) : ∀ x ∈ firstL P,x < 256:=fun x h=>((mem_firstL P x).1 h).1
theorem firstL_none {P : List Nat→Prop} (h : ∀ w,¬ P w) : firstL P=[]:=by
  rw [List.eq_nil_iff_forall_not_mem]
  intro x hx
  obtain ⟨_,w,hw⟩:=(mem_firstL P x).1 hx
  exact h _ hw
theorem first_eq {P : List Nat→Prop} {l : List Nat} (hl : ∀ x ∈ l,x < 256) (h : ∀ y,y < 256→(y ∈ l↔∃ w,P (y :: w))) : setWs l=setWs (firstL P):=by
  refine setWs_same hl (firstL_lt P) fun y hy=>?_
  rw [h y hy,mem_firstL]
  exact ⟨fun h=>⟨hy,h⟩,fun h=>h.2⟩
theorem catL_first : ∀ (l : List T),(∀ j (h : j < l.length),∃ w,L l[j] w)→∀ y,(∃ w,catL l (y :: w))↔∃ j,∃ h : j < l.length,(∀ i (hi : i < l.length),i < j→L l[i] [])∧∃ w,L l[j] (y :: w)
  | [],_,y=>by
    constructor
    · rintro ⟨w,h⟩;simp [catL] at h
    · rintro ⟨j,h,_⟩;simp at h
  | t :: l,hw,y=>by
    have ih:=catL_first l (fun j h=>hw (j + 1) (by simpa using h)) y
    constructor
    · rintro ⟨w,u,v,e,hu,hv⟩
      cases u with
      | nil =>
        simp only [List.nil_append] at e
        subst e
        obtain ⟨j,h,h1,h2⟩:=ih.1 ⟨w,hv⟩
        refine ⟨j + 1,by simpa using h,fun i hi hij=>?_,by simpa using h2⟩
        cases i with
        | zero=>exact hu
        | succ i=>exact h1 i (by simpa using hi) (by omega)
      | cons x u =>
        simp only [List.cons_append,List.cons.injEq] at e
        obtain ⟨rfl,rfl⟩:=e
        exact ⟨0,by simp,fun i _ h=>by omega,u,hu⟩
    · rintro ⟨j,h,h1,w,h2⟩
      cases j with
      | zero =>
        have : ∃ v,catL l v:=by
          clear ih h1 h h2
          induction l with
          | nil=>exact ⟨[],rfl⟩
          | cons t2 l ih2 =>
            obtain ⟨a,ha⟩:=hw 1 (by simp)
            obtain ⟨b,hb⟩:=ih2 (fun j h=>by
              cases j with
              | zero=>exact hw 0 (by simp)
              | succ j=>exact hw (j + 2) (by simpa using h))
            exact ⟨a++b,a,b,rfl,ha,hb⟩
        obtain ⟨v,hv⟩:=this
        exact ⟨w++v,y :: w,v,rfl,h2,hv⟩
      | succ j =>
        obtain ⟨w',hw'⟩:=ih.2 ⟨j,by simpa using h,fun i hi hij=>h1 (i + 1) (by simpa using hi) (by omega),w,by simpa using h2⟩
        exact ⟨w',[],y :: w',rfl,h1 0 (by simp) (by omega),hw'⟩
theorem altL_first (l : List T) (y : Nat) : (∃ w,altL l (y :: w))↔∃ j,∃ h : j < l.length,∃ w,L l[j] (y :: w):=by
  induction l with
  | nil =>
    constructor
    · rintro ⟨w,h⟩;exact h.elim
    · rintro ⟨j,h,_⟩;simp at h
  | cons t l ih =>
    constructor
    · rintro ⟨w,h | h⟩
      · exact ⟨0,by simp,w,h⟩
      · obtain ⟨j,hj,hw⟩:=ih.1 ⟨w,h⟩
        exact ⟨j + 1,by simpa using hj,by simpa using hw⟩
    · rintro ⟨j,hj,w,hw⟩
      cases j with
      | zero=>exact ⟨w,.inl hw⟩
      | succ j =>
        obtain ⟨w',h⟩:=ih.2 ⟨j,by simpa using hj,w,by simpa using hw⟩
        exact ⟨w',.inr h⟩
theorem powL_first {P : List Nat→Prop} {y : Nat} : ∀ (r : Nat) (w : List Nat),powL P r (y :: w)→∃ w',P (y :: w')
  | 0,w,h=>by simp [powL] at h
  | r + 1,w,⟨u,v,e,h1,h2⟩=>by
    cases u with
    | nil =>
      simp only [List.nil_append] at e
      subst e
      exact powL_first r w h2
    | cons x u =>
      simp only [List.cons_append,List.cons.injEq] at e
      obtain ⟨rfl,rfl⟩:=e
      exact ⟨u,h1⟩
theorem powL_some {P : List Nat→Prop} {w : List Nat} (h : P w) : ∀ r : Nat,∃ v,powL P r v
  | 0=>⟨[],rfl⟩
  | r + 1=>by
    obtain ⟨v,hv⟩:=powL_some h r
    exact ⟨w++v,w,v,rfl,h,hv⟩
theorem rep_first {P : List Nat→Prop} {mn mx : Int} (h0 : 0≤mn) (hm : mx=-1 ∨ mn≤mx) (hx : mx ≠ 0) (y : Nat) : (∃ w,∃ r : Nat,mn≤r∧(mx < 0 ∨ (r : Int)≤mx)∧powL P r (y :: w))↔∃ w,P (y :: w):=by
  constructor
  · rintro ⟨w,r,_,_,h⟩;exact powL_first r w h
  · rintro ⟨w,h⟩
    obtain ⟨m,rfl⟩:=Int.eq_ofNat_of_zero_le h0
    obtain ⟨v,hv⟩:=powL_some h (m - 1)
    refine ⟨w++v,(m - 1) + 1,by omega,by omega,y :: w,v,rfl,h,hv⟩
end Go.Sv
namespace Go.Sv
set_option linter.unusedVariables false

mutual
def nlT : T→Bool
  | .node k _ _ _ _ mn _ subs=>if k=1 then true else if k=3 then nlAll subs else if k=4 then nlAny subs else if k=5 then (decide (mn=0) || nlFst subs) else false
def nlAll : List T→Bool
  | []=>true
  | t :: l=>nlT t && nlAll l
def nlAny : List T→Bool
  | []=>false
  | t :: l=>nlT t || nlAny l
def nlFst : List T→Bool
  | []=>false
  | t :: _=>nlT t
end
theorem powL_nils {P : List Nat→Prop} (h : P []) : ∀ r,powL P r []
  | 0=>rfl
  | r + 1=>⟨[],[],rfl,h,powL_nils h r⟩
mutual
theorem nlT_L : ∀ t : T,okT t→(nlT t=true↔L t [])
  | .node k a b c d mn mx subs,ho=>by
    have hp:=okT_plain ho
    have hk:=(plainT_kind hp).1
    have hR:=okT_R ho
    have hs:=okT_subs ho
    rw [nlT]
    split
    · rename_i h;subst h;simp [L_k1]
    split
    · rename_i h;subst h;rw [L_k3];exact nlAll_L subs hs
    split
    · rename_i h;subst h;rw [L_k4];exact nlAny_L subs hs
    split
    · rename_i h;subst h
      obtain ⟨u,rfl⟩:=plainT_5 hp
      have hr:=hR rfl
      simp only [okL] at hs
      have hu:=nlT_L u hs.1
      rw [L_k5]
      simp only [nlFst,Bool.or_eq_true,decide_eq_true_eq]
      constructor
      · rintro (h | h)
        · exact ⟨0,by omega,by omega,rfl⟩
        · exact ⟨mn.toNat,by omega,by omega,powL_nils (by rw [fstL];exact hu.1 h) _⟩
      · rintro ⟨r,h1,h2,h3⟩
        cases r with
        | zero=>left;omega
        | succ r =>
          right
          obtain ⟨x,y,e,hx,_⟩:=h3
          have : x=[]:=(List.append_eq_nil_iff.1 e.symm).1
          subst this
          rw [fstL] at hx
          exact hu.2 hx
    · rename_i h1 h3 h4 h5
      have : k=2:=by omega
      subst this
      rw [L_k2];simp
theorem nlAll_L : ∀ l : List T,okL l→(nlAll l=true↔catL l [])
  | [],_=>by simp [nlAll,catL]
  | t :: l,h=>by
    simp only [okL] at h
    simp only [nlAll,Bool.and_eq_true,nlT_L t h.1,nlAll_L l h.2,catL]
    constructor
    · rintro ⟨h1,h2⟩;exact ⟨[],[],rfl,h1,h2⟩
    · rintro ⟨u,v,e,h1,h2⟩
      obtain ⟨rfl,rfl⟩:=List.append_eq_nil_iff.1 e.symm
      exact ⟨h1,h2⟩
theorem nlAny_L : ∀ l : List T,okL l→(nlAny l=true↔altL l [])
  | [],_=>by simp [nlAny,altL]
  | t :: l,h=>by
    simp only [okL] at h
    simp only [nlAny,Bool.or_eq_true,nlT_L t h.1,nlAny_L l h.2,altL]
end

def rowD : List T→List T→T
  | t :: l,d :: ds=>if l.isEmpty=true then d else if nlT t=true then altS [catS (d :: l),rowD l ds] else catS (d :: l)
  | _,_=>noneT
def repD : List T→List T→Int→Int→T
  | u :: _,d :: _,mn,mx=>catS [d,repS u (max (mn - 1) 0) (if 0 < mx then mx - 1 else mx)]
  | _,_,_,_=>noneT
mutual
def byT (x : Nat) : T→T
  | .node k a b c d mn mx subs=>if k=2 then (if inG a b c d x=true then emptyT else noneT) else if k=3 then rowD subs (byL x subs) else if k=4 then altS (byL x subs) else if k=5 then (if mx=0 then noneT else repD subs (byL x subs) mn mx) else noneT
def byL (x : Nat) : List T→List T
  | []=>[]
  | t :: l=>byT x t :: byL x l
end
theorem byL_len (x : Nat) : ∀ l : List T,(byL x l).length=l.length
  | []=>rfl
  | t :: l=>by rw [byL,List.length_cons,byL_len x l,List.length_cons]
theorem byL_map (x : Nat) : ∀ l : List T,byL x l=l.map (byT x)
  | []=>rfl
  | t :: l=>by rw [byL,byL_map x l,List.map_cons]
theorem pow_cons {P : List Nat→Prop} {x : Nat} {w : List Nat} : ∀ r,powL P r (x :: w)→0 < r∧∃ u v,w=u++v∧P (x :: u)∧powL P (r - 1) v
  | 0,h=>by simp [powL] at h
  | r + 1,h=>by
    refine ⟨by omega,?_⟩
    obtain ⟨u,v,e,hu,hv⟩:=h
    cases u with
    | nil =>
      rw [List.nil_append] at e
      subst e
      obtain ⟨h0,p,q,e,hp,hq⟩:=pow_cons r hv
      refine ⟨p,q,e,hp,?_⟩
      have e2 : r + 1 - 1=(r - 1) + 1:=by omega
      rw [e2]
      exact ⟨[],q,rfl,hu,hq⟩
    | cons y u =>
      rw [List.cons_append] at e
      injection e with e1 e2
      subst e1 e2
      exact ⟨u,v,rfl,hu,hv⟩
theorem cat_cons {t : T} {l : List T} {x : Nat} {w : List Nat} : catL (t :: l) (x :: w)↔(∃ u v,w=u++v∧L t (x :: u)∧catL l v) ∨ (L t []∧catL l (x :: w)):=by
  rw [catL]
  constructor
  · rintro ⟨u,v,e,hu,hv⟩
    cases u with
    | nil=>rw [List.nil_append] at e;subst e;exact .inr ⟨hu,hv⟩
    | cons y u =>
      rw [List.cons_append] at e
      injection e with e1 e2
      subst e1 e2
      exact .inl ⟨u,v,rfl,hu,hv⟩
  · rintro (⟨u,v,rfl,hu,hv⟩ | ⟨hu,hv⟩)
    · exact ⟨x :: u,v,rfl,hu,hv⟩
    · exact ⟨[],x :: w,rfl,hu,hv⟩

def ByOK (x : Nat) (t d : T) : Prop:=okT d∧sfT d∧(∀ w,L d w↔L t (x :: w))∧d.cnt≤t.cnt * t.cnt
def ByOKL (x : Nat) : List T→List T→Prop
  | [],[]=>True
  | t :: l,d :: ds=>ByOK x t d∧ByOKL x l ds
  | _,_=>False
theorem sq_row {c S d : Nat} (hc : 0 < c) (hd : d≤c * c) : d≤(c + S + 1) * (c + S + 1)∧3 + d + S + (S + 1) * (S + 1)≤(c + S + 1) * (c + S + 1) + 1:=by
  have e : (c + S + 1) * (c + S + 1)=c * c + 2 * (c * S) + S * S + 2 * c + 2 * S + 1:=by
    simp only [Nat.add_mul,Nat.mul_add,Nat.mul_comm S c];omega
  have e2 : (S + 1) * (S + 1)=S * S + 2 * S + 1:=by simp only [Nat.add_mul,Nat.mul_add];omega
  have h1 : S≤c * S:=Nat.le_mul_of_pos_left S hc
  omega
theorem sq_mono {a b : Nat} (h : a≤b) : a * a≤b * b:=Nat.mul_le_mul h h
theorem rowD_ok (x : Nat) : ∀ (l ds : List T),okL l→sfL l→ByOKL x l ds→okT (rowD l ds)∧sfT (rowD l ds)∧(∀ w,L (rowD l ds) w↔catL l (x :: w))∧(rowD l ds).cnt≤(cntL l + 1) * (cntL l + 1)
  | [],[],_,_,_=>⟨okT_noneT,sf_none,fun w=>by simp [rowD,L_noneT,catL],by simp [rowD,noneT,T.cnt,cntL]⟩
  | [],_ :: _,_,_,h=>by simp [ByOKL] at h
  | _ :: _,[],_,_,h=>by simp [ByOKL] at h
  | t :: l,d :: ds,hl,hf,h=>by
    simp only [okL] at hl
    simp only [sfL] at hf
    obtain ⟨⟨g1,g2,g3,g4⟩,g5⟩:=h
    obtain ⟨i1,i2,i3,i4⟩:=rowD_ok x l ds hl.2 hf.2 g5
    have hsq:=sq_row (S:=cntL l) (cnt_pos t) g4
    have hcl:=cnt_cat (d :: l)
    have ho : okT (catS (d :: l)):=okT_cat ⟨g1,hl.2⟩
    have hs : sfT (catS (d :: l)):=sf_cat ⟨g2,hf.2⟩
    have hL : ∀ w,L (catS (d :: l)) w↔∃ u v,w=u++v∧L t (x :: u)∧catL l v:=fun w=>by
      rw [catS_L]
      simp only [catL,g3]
    simp only [cntL] at hcl ⊢
    simp only [rowD]
    split
    · rename_i he
      have : l=[]:=by simpa using he
      subst this
      refine ⟨g1,g2,fun w=>?_,hsq.1⟩
      rw [g3,catL_one]
    split
    · rename_i hn
      have hn':=(nlT_L t hl.1).1 hn
      have hoo : okL [catS (d :: l),rowD l ds]:=⟨ho,i1,trivial⟩
      refine ⟨okT_alt hoo,sf_alt ⟨hs,i2,trivial⟩ hoo,fun w=>?_,?_⟩
      · rw [altS_L _ (fun u hu=>okT_S ((okL_iff _).1 (okL_flat 4 hoo) u hu)),cat_cons]
        simp only [altL,hL,i3,or_false]
        constructor
        · rintro (h | h)
          · exact .inl h
          · exact .inr ⟨hn',h⟩
        · rintro (h | h)
          · exact .inl h
          · exact .inr h.2
      · have:=cnt_alt [catS (d :: l),rowD l ds]
        simp only [cntL] at this
        omega
    · rename_i hn
      refine ⟨ho,hs,fun w=>?_,?_⟩
      · rw [hL,cat_cons]
        have : ¬ L t []:=fun h=>hn ((nlT_L t hl.1).2 h)
        constructor
        · exact .inl
        · rintro (h | h)
          · exact h
          · exact absurd h.1 this
      · have:=Nat.le_mul_of_pos_left (cntL l + 1) (n:=cntL l + 1) (by omega)
        omega
theorem altD_L (x : Nat) : ∀ (l ds : List T),ByOKL x l ds→okL ds∧sfL ds∧(∀ w,altL ds w↔altL l (x :: w))∧cntL ds≤cntL l * cntL l
  | [],[],_=>⟨trivial,trivial,fun _=>Iff.rfl,by simp [cntL]⟩
  | [],_ :: _,h=>by simp [ByOKL] at h
  | _ :: _,[],h=>by simp [ByOKL] at h
  | t :: l,d :: ds,h=>by
    obtain ⟨⟨g1,g2,g3,g4⟩,g5⟩:=h
    obtain ⟨i1,i2,i3,i4⟩:=altD_L x l ds g5
    refine ⟨⟨g1,i1⟩,⟨g2,i2⟩,fun w=>by simp only [altL,g3,i3],?_⟩
    simp only [cntL,Nat.add_mul,Nat.mul_add]
    omega
mutual
theorem byT_ok (x : Nat) : ∀ t : T,okT t→sfT t→ByOK x t (byT x t)
  | .node k a b c d mn mx subs,ho,hf=>by
    have hp:=okT_plain ho
    have hk:=(plainT_kind hp).1
    have hR:=okT_R ho
    have hs:=okT_subs ho
    have hfs : sfL subs:=sfT_subs hf
    have hx:=byL_ok x subs hs hfs
    unfold ByOK
    rw [byT]
    have hnone : okT noneT∧sfT noneT∧(∀ w,L noneT w↔False)∧noneT.cnt≤(1 + cntL subs) * (1 + cntL subs):=⟨okT_noneT,sf_none,fun w=>by simp [L_noneT],by
      have : noneT.cnt=1:=rfl
      rw [this]
      exact Nat.mul_pos (by omega) (by omega)⟩
    rw [T.cnt]
    split
    · rename_i h;subst h
      split
      · rename_i hi
        refine ⟨okT_emptyT,sf_empty,fun w=>?_,hnone.2.2.2⟩
        rw [L_emptyT,L_k2]
        constructor
        · rintro rfl;exact ⟨x,rfl,hi⟩
        · rintro ⟨y,e,_⟩;injection e
      · rename_i hi
        refine ⟨hnone.1,hnone.2.1,fun w=>?_,hnone.2.2.2⟩
        rw [hnone.2.2.1,L_k2]
        constructor
        · exact False.elim
        · rintro ⟨y,e,h⟩;injection e with e1 _;subst e1;exact hi h
    split
    · rename_i h;subst h
      obtain ⟨g1,g2,g3,g4⟩:=rowD_ok x subs _ hs hfs hx
      refine ⟨g1,g2,fun w=>?_,by rw [Nat.add_comm];exact g4⟩
      rw [g3,L_k3]
    split
    · rename_i h;subst h
      obtain ⟨g1,g2,g3,g4⟩:=altD_L x subs _ hx
      refine ⟨okT_alt g1,sf_alt g2 g1,fun w=>?_,?_⟩
      · rw [altS_L _ (fun u hu=>okT_S ((okL_iff _).1 (okL_flat 4 g1) u hu)),g3,L_k4]
      · have:=cnt_alt (byL x subs)
        simp only [Nat.add_mul,Nat.mul_add]
        omega
    split
    · rename_i h;subst h
      obtain ⟨u,rfl⟩:=plainT_5 hp
      have hr:=hR rfl
      split
      · rename_i hm
        refine ⟨hnone.1,hnone.2.1,fun w=>?_,hnone.2.2.2⟩
        rw [hnone.2.2.1,L_k5]
        constructor
        · exact False.elim
        · rintro ⟨r,h1,h2,h3⟩
          have:=(pow_cons r h3).1
          omega
      · rename_i hm
        simp only [okL] at hs
        simp only [sfL] at hfs
        simp only [byL] at hx ⊢
        obtain ⟨g1,g2,g3,g4⟩:=hx.1
        have hlo : (0≤max (mn - 1) 0∧max (mn - 1) 0≤20)∧((if 0 < mx then mx - 1 else mx)=-1 ∨ (max (mn - 1) 0≤(if 0 < mx then mx - 1 else mx)∧(if 0 < mx then mx - 1 else mx)≤20)):=by
          split<;>omega
        have o1:=okT_rep u _ _ hs.1 hlo
        have s1:=sf_rep u (max (mn - 1) 0) (if 0 < mx then mx - 1 else mx) hs.1 hfs.1
        simp only [repD]
        refine ⟨okT_cat ⟨g1,o1,trivial⟩,sf_cat ⟨g2,s1,trivial⟩,fun w=>?_,?_⟩
        · rw [catS_L,L_k5]
          simp only [catL]
          have hq : ∀ w,L (repS u (max (mn - 1) 0) (if 0 < mx then mx - 1 else mx)) w↔_:=repS_L u _ _ hs.1 hfs.1 hlo.1.1 (by omega)
          have hfst : fstL [u]=L u:=by funext w;rw [fstL]
          rw [hfst]
          constructor
          · rintro ⟨p,q,rfl,h1,q1,q2,rfl,h2,rfl⟩
            rw [List.append_nil]
            obtain ⟨r,r1,r2,r3⟩:=(hq _).1 h2
            refine ⟨r + 1,by omega,?_,x :: p,q1,rfl,(g3 p).1 h1,r3⟩
            split at r2<;>omega
          · rintro ⟨r,r1,r2,r3⟩
            obtain ⟨h0,p,q,rfl,h1,h2⟩:=pow_cons r r3
            refine ⟨p,q,rfl,(g3 p).2 h1,q,[],by simp,(hq q).2 ⟨r - 1,by omega,?_,h2⟩,rfl⟩
            split<;>omega
        · have h1:=cnt_cat [byT x u,repS u (max (mn - 1) 0) (if 0 < mx then mx - 1 else mx)]
          have h2:=cnt_rep u (max (mn - 1) 0) (if 0 < mx then mx - 1 else mx)
          have h3:=cnt_pos u
          simp only [cntL,Nat.add_mul,Nat.mul_add] at h1 ⊢
          omega
    · rename_i h2 h3 h4 h5
      have : k=1:=by omega
      subst this
      refine ⟨hnone.1,hnone.2.1,fun w=>?_,hnone.2.2.2⟩
      rw [hnone.2.2.1,L_k1]
      simp
theorem byL_ok (x : Nat) : ∀ l : List T,okL l→sfL l→ByOKL x l (byL x l)
  | [],_,_=>trivial
  | t :: l,ho,hf=>by
    simp only [okL] at ho
    simp only [sfL] at hf
    exact ⟨byT_ok x t ho.1 hf.1,byL_ok x l ho.2 hf.2⟩
end
end Go.Sv
namespace Go.Sv
open Go Go.Proofs
def x7 : XC:=(.seq (.ops 2 [ (0,⟨some 4,none,.box (.t 0)⟩),(1,⟨some 8,none,.mv (.k (.d (.val (.bool false))))⟩)] (some [1,2,3,4])) (.seq (.seq (.ops 25 [ (0,⟨some 15,none,.call 29 [] none false⟩),(1,⟨some 16,none,.un .not (.t 15)⟩),(2,⟨some 17,none,.mv (.t 16)⟩),(3,⟨some 18,(some (17,false)),.load (some 8) (.t 4)⟩),(4,⟨some 19,(some (17,false)),.mv (.t 1)⟩),(5,⟨some 20,(some (17,false)),.mv (.t 2)⟩),(6,⟨some 21,(some (17,false)),.arith .add (.t 19) (.t 20)⟩),(7,⟨some 22,(some (17,false)),.call 30 [(.t 18),(.t 21)] none false⟩),(8,⟨some 23,(some (17,false)),.un .not (.t 22)⟩),(9,⟨some 24,none,.pick (.t 17) (.k (.d (.val (.bool true)))) (.t 23)⟩),(10,⟨some 25,none,.mv (.t 24)⟩),(11,⟨some 26,(some (25,false)),.load (some 8) (.t 4)⟩),(12,⟨some 27,(some (25,false)),.call 32 [(.t 26)] none false⟩),(13,⟨some 28,(some (25,false)),.un .not (.t 27)⟩),(14,⟨some 29,none,.pick (.t 25) (.k (.d (.val (.bool true)))) (.t 28)⟩),(15,⟨some 30,none,.mv (.t 29)⟩),(16,⟨some 31,(some (30,false)),.mv (.t 3)⟩),(17,⟨some 32,(some (30,false)),.arith .lss (.t 31) (.k (.d (.val (.int .i64 0))))⟩),(18,⟨some 33,none,.pick (.t 30) (.k (.d (.val (.bool true)))) (.t 32)⟩),(19,⟨some 34,none,.mv (.t 33)⟩),(20,⟨some 35,(some (34,false)),.mv (.t 3)⟩),(21,⟨some 36,(some (34,false)),.mv (.t 1)⟩),(22,⟨some 37,(some (34,false)),.lenT (.t 36)⟩),(23,⟨some 38,(some (34,false)),.arith .gtr (.t 35) (.t 37)⟩),(24,⟨some 39,none,.pick (.t 34) (.k (.d (.val (.bool true)))) (.t 38)⟩)] (some [1,2,3,4,39])) (.cond (.t 39) (.seq (.ops 2 [ (0,⟨some 40,none,.call 29 [] none false⟩),(1,⟨some 8,none,.mv (.t 40)⟩)] (some [8])) .ret) .skip)) (.seq (.ops 9 [ (0,⟨some 42,none,.load (some 8) (.t 4)⟩),(1,⟨some 43,none,.mv (.t 1)⟩),(2,⟨some 44,none,.mv (.t 3)⟩),(3,⟨some 45,none,.call 31 [(.t 42),(.t 43),(.t 44)] none false⟩),(4,⟨some 41,none,.mv (.t 45)⟩),(5,⟨some 46,none,.ext (.t 41) 0⟩),(6,⟨some 47,none,.ext (.t 41) 1⟩),(7,⟨some 9,none,.mv (.t 46)⟩),(8,⟨some 10,none,.mv (.t 47)⟩)] (some [1,2,3,4,9,10])) (.seq (.ops 11 [ (0,⟨some 49,none,.load (some 8) (.t 4)⟩),(1,⟨some 50,none,.mv (.t 1)⟩),(2,⟨some 51,none,.mv (.t 2)⟩),(3,⟨some 52,none,.arith .add (.t 50) (.t 51)⟩),(4,⟨some 53,none,.mv (.t 3)⟩),(5,⟨some 54,none,.call 31 [(.t 49),(.t 52),(.t 53)] none false⟩),(6,⟨some 48,none,.mv (.t 54)⟩),(7,⟨some 55,none,.ext (.t 48) 0⟩),(8,⟨some 56,none,.ext (.t 48) 1⟩),(9,⟨some 11,none,.mv (.t 55)⟩),(10,⟨some 12,none,.mv (.t 56)⟩)] (some [1,9,10,11,12])) (.seq (.seq (.ops 22 [ (0,⟨some 57,none,.mv (.t 10)⟩),(1,⟨some 58,none,.arith .neq (.t 57) (.k (.d (.val (.int .i64 0))))⟩),(2,⟨some 59,none,.mv (.t 58)⟩),(3,⟨some 60,(some (59,false)),.mv (.t 12)⟩),(4,⟨some 61,(some (59,false)),.arith .neq (.t 60) (.k (.d (.val (.int .i64 0))))⟩),(5,⟨some 62,none,.pick (.t 59) (.k (.d (.val (.bool true)))) (.t 61)⟩),(6,⟨some 63,none,.mv (.t 62)⟩),(7,⟨some 64,(some (63,false)),.mv (.t 11)⟩),(8,⟨some 65,(some (63,false)),.lenS (.t 64)⟩),(9,⟨some 66,(some (63,false)),.mv (.t 9)⟩),(10,⟨some 67,(some (63,false)),.lenS (.t 66)⟩),(11,⟨some 68,(some (63,false)),.arith .lss (.t 65) (.t 67)⟩),(12,⟨some 69,none,.pick (.t 63) (.k (.d (.val (.bool true)))) (.t 68)⟩),(13,⟨some 70,none,.mv (.t 69)⟩),(14,⟨some 71,(some (70,false)),.mv (.t 9)⟩),(15,⟨some 72,(some (70,false)),.mv (.t 11)⟩),(16,⟨some 73,(some (70,false)),.mv (.t 9)⟩),(17,⟨some 74,(some (70,false)),.lenS (.t 73)⟩),(18,⟨some 75,(some (70,false)),.slS 1 (.t 72) none (some (.t 74))⟩),(19,⟨some 76,(some (70,false)),.call 35 [(.t 71),(.t 75)] none false⟩),(20,⟨some 77,(some (70,false)),.un .not (.t 76)⟩),(21,⟨some 78,none,.pick (.t 70) (.k (.d (.val (.bool true)))) (.t 77)⟩)] (some [1,9,11,78])) (.cond (.t 78) (.seq (.ops 1 [ (0,⟨some 8,none,.mv (.k (.d (.val (.bool false))))⟩)] (some [8])) .ret) .skip)) (.seq (.seq (.ops 6 [ (0,⟨some 79,none,.mv (.t 11)⟩),(1,⟨some 80,none,.mv (.t 9)⟩),(2,⟨some 81,none,.lenS (.t 80)⟩),(3,⟨some 82,none,.slS 1 (.t 79) (some (.t 81)) none⟩),(4,⟨some 83,none,.lenS (.t 82)⟩),(5,⟨some 84,none,.mv (.k (.d (.val (.int .i64 0))))⟩)] (some [1,82,83,84])) (.block 0 (.loop (.seq (.ops 1 [ (0,⟨some 85,none,.arith .lss (.t 84) (.t 83)⟩)] (some [1,82,83,84,85])) (.seq (.cond (.t 85) .skip (.exit 0)) (.seq (.block 1 (.seq (.ops 3 [ (0,⟨some 86,none,.idxS 1 (.t 82) (.t 84)⟩),(1,⟨some 87,none,.load none (.t 86)⟩),(2,⟨some 14,none,.mv (.t 87)⟩)] (some [1,14,82,83,84])) (.seq (.ops 4 [ (0,⟨some 88,none,.mv (.t 14)⟩),(1,⟨some 89,none,.mv (.t 1)⟩),(2,⟨some 90,none,.lenT (.t 89)⟩),(3,⟨some 91,none,.arith .leq (.t 88) (.t 90)⟩)] (some [1,82,83,84,91])) (.cond (.t 91) (.seq (.ops 1 [ (0,⟨some 8,none,.mv (.k (.d (.val (.bool false))))⟩)] (some [8])) .ret) .skip)))) (.ops 2 [ (0,⟨some 92,none,.arith .add (.t 84) (.k (.d (.val (.int .i64 1))))⟩),(1,⟨some 84,none,.mv (.t 92)⟩)] (some [1,82,83,84])))))))) (.seq (.ops 1 [ (0,⟨some 8,none,.mv (.k (.d (.val (.bool true))))⟩)] (some [8])) .ret)))))))
def md7 : FuncId→Option Nat × Bool
  | _=>(none,false)
def od7 : Nat→List (List Nat) × List Nat × Option (List Nat)
  | 0=>([],[],some [1,2,3,4])
  | 1=>([],[],some [1,2,3,4,39])
  | 2=>([],[],some [8])
  | 3=>([],[],some [1,2,3,4,9,10])
  | 4=>([],[],some [1,9,10,11,12])
  | 5=>([],[],some [1,9,11,78])
  | 6=>([],[],some [8])
  | 7=>([],[],some [1,82,83,84])
  | 8=>([],[],some [1,82,83,84,85])
  | 9=>([],[],some [1,14,82,83,84])
  | 10=>([],[],some [1,82,83,84,91])
  | 11=>([],[],some [8])
  | 12=>([],[],some [1,82,83,84])
  | 13=>([],[],some [8])
  | _=>([],[],none)
theorem b7 {ags : List AV} {row : Option (List DV)} {r : AV} {row' nw : Option (List DV)} (hal : ags.length≤93) (hrow : row'.isSome=true→row.isSome=true) (h : xwp Try.prog x7 (retK [.tmp 8] row.isSome r row' nw) (St.init ags row)) : Good Try.prog 7 ags row r row' nw :=
  good_of_body' (md:=md7) (od:=od7) Try.f7 (by kernel_rfl) (by kernel_rfl) (by kernel_rfl) (by kernel_rfl) (by kernel_rfl) hal hrow h

section
variable {P : Program} {Q : Cont} {fr : Fr} {C : Heap} {Z Z' : Frz} {nx : Nat} {base n d : Nat} {l : List (Nat × XO)} {kp : Option (List Nat)} {x i y s : X}
end
set_option maxRecDepth 100000
set_option maxHeartbeats 4000000
attribute [local irreducible] W E R KP thenK blockK retK Good xwp aRun
end Go.Sv
namespace Go.Sv
open Go Go.Proofs
def x9 : XC:=(.seq (.ops 2 [ (0,⟨some 2,none,.box (.t 0)⟩),(1,⟨some 4,none,.mv (.k (.d (.val (.bool false))))⟩)] (some [1,2])) (.seq (.ops 5 [ (0,⟨some 12,none,.load (some 8) (.t 2)⟩),(1,⟨some 13,none,.mkrow [(.int .i64 0),(.int .u64 0),(.int .u64 0),(.int .u64 0),(.int .u64 0),(.int .i64 0),(.int .i64 0),(.slice none 0 0)] 1 8 [(0,8,(.t 12))]⟩),(2,⟨some 14,none,.build [(.int .i64 0),(.int .u64 0),(.int .u64 0),(.int .u64 0),(.int .u64 0),(.int .i64 0),(.int .i64 0),(.slice none 0 0)] [(0,1,(.k (.d (.val (.int .i64 5))))),(6,1,(.k (.d (.val (.int .i64 (-1)))))),(7,1,(.t 13))]⟩),(3,⟨some 5,none,.alloc [(.int .i64 0),(.int .u64 0),(.int .u64 0),(.int .u64 0),(.int .u64 0),(.int .i64 0),(.int .i64 0),(.slice none 0 0)]⟩),(4,⟨none,none,.store 8 (.t 5) (.t 14)⟩)] (some [1,2,5])) (.seq (.ops 9 [ (0,⟨some 15,none,.build [(.int .i64 0),(.int .u64 0),(.int .u64 0),(.int .u64 0),(.int .u64 0),(.int .i64 0),(.int .i64 0),(.slice none 0 0)] [(0,1,(.k (.d (.val (.int .i64 1)))))]⟩),(1,⟨some 16,none,.load (some 8) (.t 2)⟩),(2,⟨some 17,none,.load (some 8) (.t 5)⟩),(3,⟨some 18,none,.mkrow [(.int .i64 0),(.int .u64 0),(.int .u64 0),(.int .u64 0),(.int .u64 0),(.int .i64 0),(.int .i64 0),(.slice none 0 0)] 2 8 [(0,8,(.t 16)),(8,8,(.t 17))]⟩),(4,⟨some 19,none,.build [(.int .i64 0),(.int .u64 0),(.int .u64 0),(.int .u64 0),(.int .u64 0),(.int .i64 0),(.int .i64 0),(.slice none 0 0)] [(0,1,(.k (.d (.val (.int .i64 3))))),(7,1,(.t 18))]⟩),(5,⟨some 20,none,.mkrow [(.int .i64 0),(.int .u64 0),(.int .u64 0),(.int .u64 0),(.int .u64 0),(.int .i64 0),(.int .i64 0),(.slice none 0 0)] 2 8 [(0,8,(.t 15)),(8,8,(.t 19))]⟩),(6,⟨some 21,none,.build [(.int .i64 0),(.int .u64 0),(.int .u64 0),(.int .u64 0),(.int .u64 0),(.int .i64 0),(.int .i64 0),(.slice none 0 0)] [(0,1,(.k (.d (.val (.int .i64 4))))),(7,1,(.t 20))]⟩),(7,⟨some 6,none,.alloc [(.int .i64 0),(.int .u64 0),(.int .u64 0),(.int .u64 0),(.int .u64 0),(.int .i64 0),(.int .i64 0),(.slice none 0 0)]⟩),(8,⟨none,none,.store 8 (.t 6) (.t 21)⟩)] (some [1,5,6])) (.seq (.seq (.ops 13 [ (0,⟨some 22,none,.call 29 [] none false⟩),(1,⟨some 23,none,.un .not (.t 22)⟩),(2,⟨some 24,none,.mv (.t 23)⟩),(3,⟨some 25,(some (24,false)),.load (some 8) (.t 6)⟩),(4,⟨some 26,(some (24,false)),.mv (.t 1)⟩),(5,⟨some 27,(some (24,false)),.call 30 [(.t 25),(.t 26)] none false⟩),(6,⟨some 28,(some (24,false)),.un .not (.t 27)⟩),(7,⟨some 29,none,.pick (.t 24) (.k (.d (.val (.bool true)))) (.t 28)⟩),(8,⟨some 30,none,.mv (.t 29)⟩),(9,⟨some 31,(some (30,false)),.load (some 8) (.t 6)⟩),(10,⟨some 32,(some (30,false)),.call 32 [(.t 31)] none false⟩),(11,⟨some 33,(some (30,false)),.un .not (.t 32)⟩),(12,⟨some 34,none,.pick (.t 30) (.k (.d (.val (.bool true)))) (.t 33)⟩)] (some [1,5,6,34])) (.cond (.t 34) (.seq (.ops 2 [ (0,⟨some 35,none,.call 29 [] none false⟩),(1,⟨some 4,none,.mv (.t 35)⟩)] (some [4])) .ret) .skip)) (.seq (.seq (.ops 4 [ (0,⟨some 36,none,.mv (.t 1)⟩),(1,⟨some 37,none,.lenT (.t 36)⟩),(2,⟨some 38,none,.arith .add (.t 37) (.k (.d (.val (.int .i64 1))))⟩),(3,⟨some 39,none,.mv (.k (.d (.val (.int .i64 0))))⟩)] (some [1,5,6,38,39])) (.block 0 (.loop (.seq (.ops 1 [ (0,⟨some 40,none,.arith .lss (.t 39) (.t 38)⟩)] (some [1,5,6,38,39,40])) (.seq (.cond (.t 40) .skip (.exit 0)) (.seq (.block 1 (.seq (.ops 2 [ (0,⟨some 41,none,.mv (.t 39)⟩),(1,⟨some 7,none,.mv (.t 41)⟩)] (some [1,5,6,7,38,39])) (.seq (.ops 9 [ (0,⟨some 43,none,.load (some 8) (.t 5)⟩),(1,⟨some 44,none,.mv (.t 1)⟩),(2,⟨some 45,none,.mv (.t 7)⟩),(3,⟨some 46,none,.call 31 [(.t 43),(.t 44),(.t 45)] none false⟩),(4,⟨some 42,none,.mv (.t 46)⟩),(5,⟨some 47,none,.ext (.t 42) 0⟩),(6,⟨some 48,none,.ext (.t 42) 1⟩),(7,⟨some 8,none,.mv (.t 47)⟩),(8,⟨some 9,none,.mv (.t 48)⟩)] (some [1,5,6,7,8,9,38,39])) (.seq (.ops 9 [ (0,⟨some 50,none,.load (some 8) (.t 6)⟩),(1,⟨some 51,none,.mv (.t 1)⟩),(2,⟨some 52,none,.mv (.t 7)⟩),(3,⟨some 53,none,.call 31 [(.t 50),(.t 51),(.t 52)] none false⟩),(4,⟨some 49,none,.mv (.t 53)⟩),(5,⟨some 54,none,.ext (.t 49) 0⟩),(6,⟨some 55,none,.ext (.t 49) 1⟩),(7,⟨some 10,none,.mv (.t 54)⟩),(8,⟨some 11,none,.mv (.t 55)⟩)] (some [1,5,6,7,8,9,10,11,38,39])) (.seq (.ops 24 [ (0,⟨some 56,none,.mv (.t 9)⟩),(1,⟨some 57,none,.arith .neq (.t 56) (.k (.d (.val (.int .i64 0))))⟩),(2,⟨some 58,none,.mv (.t 57)⟩),(3,⟨some 59,(some (58,false)),.mv (.t 11)⟩),(4,⟨some 60,(some (58,false)),.arith .neq (.t 59) (.k (.d (.val (.int .i64 0))))⟩),(5,⟨some 61,none,.pick (.t 58) (.k (.d (.val (.bool true)))) (.t 60)⟩),(6,⟨some 62,none,.mv (.t 61)⟩),(7,⟨some 63,(some (62,false)),.mv (.t 8)⟩),(8,⟨some 64,(some (62,false)),.mv (.t 10)⟩),(9,⟨some 65,(some (62,false)),.call 35 [(.t 63),(.t 64)] none false⟩),(10,⟨some 66,(some (62,false)),.un .not (.t 65)⟩),(11,⟨some 67,none,.pick (.t 62) (.k (.d (.val (.bool true)))) (.t 66)⟩),(12,⟨some 68,none,.mv (.t 67)⟩),(13,⟨some 69,(some (68,false)),.mv (.t 8)⟩),(14,⟨some 70,(some (68,false)),.lenS (.t 69)⟩),(15,⟨some 71,(some (68,false)),.arith .eql (.t 70) (.k (.d (.val (.int .i64 0))))⟩),(16,⟨some 72,none,.pick (.t 68) (.k (.d (.val (.bool true)))) (.t 71)⟩),(17,⟨some 73,none,.mv (.t 72)⟩),(18,⟨some 74,(some (73,false)),.mv (.t 8)⟩),(19,⟨some 75,(some (73,false)),.idxS 1 (.t 74) (.k (.d (.val (.int .i64 0))))⟩),(20,⟨some 76,(some (73,false)),.load none (.t 75)⟩),(21,⟨some 77,(some (73,false)),.mv (.t 7)⟩),(22,⟨some 78,(some (73,false)),.arith .neq (.t 76) (.t 77)⟩),(23,⟨some 79,none,.pick (.t 73) (.k (.d (.val (.bool true)))) (.t 78)⟩)] (some [1,5,6,38,39,79])) (.cond (.t 79) (.seq (.ops 1 [ (0,⟨some 4,none,.mv (.k (.d (.val (.bool false))))⟩)] (some [4])) .ret) .skip)))))) (.ops 2 [ (0,⟨some 80,none,.arith .add (.t 39) (.k (.d (.val (.int .i64 1))))⟩),(1,⟨some 39,none,.mv (.t 80)⟩)] (some [1,5,6,38,39])))))))) (.seq (.ops 1 [ (0,⟨some 4,none,.mv (.k (.d (.val (.bool true))))⟩)] (some [4])) .ret))))))
def md9 : FuncId→Option Nat × Bool
  | _=>(none,false)
def od9 : Nat→List (List Nat) × List Nat × Option (List Nat)
  | 0=>([],[],some [1,2])
  | 1=>([],[],some [1,2,5])
  | 2=>([],[],some [1,5,6])
  | 3=>([],[],some [1,5,6,34])
  | 4=>([],[],some [4])
  | 5=>([],[],some [1,5,6,38,39])
  | 6=>([],[],some [1,5,6,38,39,40])
  | 7=>([],[],some [1,5,6,7,38,39])
  | 8=>([],[],some [1,5,6,7,8,9,38,39])
  | 9=>([],[],some [1,5,6,7,8,9,10,11,38,39])
  | 10=>([],[],some [1,5,6,38,39,79])
  | 11=>([],[],some [4])
  | 12=>([],[],some [1,5,6,38,39])
  | 13=>([],[],some [4])
  | _=>([],[],none)
theorem b9 {ags : List AV} {row : Option (List DV)} {r : AV} {row' nw : Option (List DV)} (hal : ags.length≤81) (hrow : row'.isSome=true→row.isSome=true) (h : xwp Try.prog x9 (retK [.tmp 4] row.isSome r row' nw) (St.init ags row)) : Good Try.prog 9 ags row r row' nw :=
  good_of_body' (md:=md9) (od:=od9) Try.f9 (by kernel_rfl) (by kernel_rfl) (by kernel_rfl) (by kernel_rfl) (by kernel_rfl) hal hrow h

set_option maxRecDepth 100000
set_option maxHeartbeats 4000000
attribute [local irreducible] W E R KP thenK blockK retK Good xwp aRun
end Go.Sv
namespace Go.Sv
open Go
end Go.Sv
namespace Go.Sv
set_option linter.unusedVariables false
def DOK (t : T) : Prop:=okT t∧sfT t∧t.cnt≤4000
theorem DOK_sim {t : T} (ho : okT t) (hc : t.cnt≤4000) : DOK (simT t):=⟨simT_ok t ho,simT_sf t ho,by have:=simT_cnt t ho;omega⟩
end Go.Sv
namespace Go.Sv
open Go Go.Proofs
def x131 : XC:=(.seq (.ops 1 [ (0,⟨some 2,none,.mv (.k (.d (.val (.bool false))))⟩)] (some [0])) (.seq (.seq (.ops 4 [ (0,⟨some 5,none,.mv (.t 0)⟩),(1,⟨some 6,none,.nilck (.t 5)⟩),(2,⟨some 7,none,.fadd 0 (.t 6)⟩),(3,⟨some 8,none,.load none (.t 7)⟩)] (some [0,8])) (.block 0 (.seq (.ops 2 [ (0,⟨some 10,none,.arith .eql (.t 8) (.k (.d (.val (.int .i64 1))))⟩),(1,⟨some 9,none,.mv (.t 10)⟩)] (some [0,8,9])) (.cond (.t 9) (.seq (.ops 1 [ (0,⟨some 2,none,.mv (.k (.d (.val (.bool true))))⟩)] (some [2])) .ret) (.seq (.ops 2 [ (0,⟨some 12,none,.arith .eql (.t 8) (.k (.d (.val (.int .i64 3))))⟩),(1,⟨some 11,none,.mv (.t 12)⟩)] (some [0,8,11])) (.cond (.t 11) (.seq (.seq (.ops 6 [ (0,⟨some 13,none,.mv (.t 0)⟩),(1,⟨some 14,none,.nilck (.t 13)⟩),(2,⟨some 15,none,.fadd 7 (.t 14)⟩),(3,⟨some 16,none,.load none (.t 15)⟩),(4,⟨some 17,none,.lenS (.t 16)⟩),(5,⟨some 18,none,.mv (.k (.d (.val (.int .i64 0))))⟩)] (some [0,17,18])) (.block 1 (.loop (.seq (.ops 1 [ (0,⟨some 19,none,.arith .lss (.t 18) (.t 17)⟩)] (some [0,17,18,19])) (.seq (.cond (.t 19) .skip (.exit 1)) (.seq (.block 2 (.seq (.ops 2 [ (0,⟨some 20,none,.mv (.t 18)⟩),(1,⟨some 3,none,.mv (.t 20)⟩)] (some [0,3,17,18])) (.seq (.ops 8 [ (0,⟨some 21,none,.mv (.t 0)⟩),(1,⟨some 22,none,.nilck (.t 21)⟩),(2,⟨some 23,none,.fadd 7 (.t 22)⟩),(3,⟨some 24,none,.load none (.t 23)⟩),(4,⟨some 25,none,.mv (.t 3)⟩),(5,⟨some 26,none,.idxS 8 (.t 24) (.t 25)⟩),(6,⟨some 27,none,.call 131 [(.t 26)] none false⟩),(7,⟨some 28,none,.un .not (.t 27)⟩)] (some [0,17,18,28])) (.cond (.t 28) (.seq (.ops 1 [ (0,⟨some 2,none,.mv (.k (.d (.val (.bool false))))⟩)] (some [2])) .ret) .skip)))) (.ops 2 [ (0,⟨some 29,none,.arith .add (.t 18) (.k (.d (.val (.int .i64 1))))⟩),(1,⟨some 18,none,.mv (.t 29)⟩)] (some [0,17,18])))))))) (.seq (.ops 1 [ (0,⟨some 2,none,.mv (.k (.d (.val (.bool true))))⟩)] (some [2])) .ret)) (.seq (.ops 2 [ (0,⟨some 31,none,.arith .eql (.t 8) (.k (.d (.val (.int .i64 4))))⟩),(1,⟨some 30,none,.mv (.t 31)⟩)] (some [0,8,30])) (.cond (.t 30) (.seq (.ops 6 [ (0,⟨some 32,none,.mv (.t 0)⟩),(1,⟨some 33,none,.nilck (.t 32)⟩),(2,⟨some 34,none,.fadd 7 (.t 33)⟩),(3,⟨some 35,none,.load none (.t 34)⟩),(4,⟨some 36,none,.lenS (.t 35)⟩),(5,⟨some 37,none,.mv (.k (.d (.val (.int .i64 0))))⟩)] (some [0,36,37])) (.block 3 (.loop (.seq (.ops 1 [ (0,⟨some 38,none,.arith .lss (.t 37) (.t 36)⟩)] (some [0,36,37,38])) (.seq (.cond (.t 38) .skip (.exit 3)) (.seq (.block 4 (.seq (.ops 2 [ (0,⟨some 39,none,.mv (.t 37)⟩),(1,⟨some 4,none,.mv (.t 39)⟩)] (some [0,4,36,37])) (.seq (.ops 7 [ (0,⟨some 40,none,.mv (.t 0)⟩),(1,⟨some 41,none,.nilck (.t 40)⟩),(2,⟨some 42,none,.fadd 7 (.t 41)⟩),(3,⟨some 43,none,.load none (.t 42)⟩),(4,⟨some 44,none,.mv (.t 4)⟩),(5,⟨some 45,none,.idxS 8 (.t 43) (.t 44)⟩),(6,⟨some 46,none,.call 131 [(.t 45)] none false⟩)] (some [0,36,37,46])) (.cond (.t 46) (.seq (.ops 1 [ (0,⟨some 2,none,.mv (.k (.d (.val (.bool true))))⟩)] (some [2])) .ret) .skip)))) (.ops 2 [ (0,⟨some 47,none,.arith .add (.t 37) (.k (.d (.val (.int .i64 1))))⟩),(1,⟨some 37,none,.mv (.t 47)⟩)] (some [0,36,37])))))))) (.seq (.ops 2 [ (0,⟨some 49,none,.arith .eql (.t 8) (.k (.d (.val (.int .i64 5))))⟩),(1,⟨some 48,none,.mv (.t 49)⟩)] (some [0,48])) (.cond (.t 48) (.seq (.ops 14 [ (0,⟨some 50,none,.mv (.t 0)⟩),(1,⟨some 51,none,.nilck (.t 50)⟩),(2,⟨some 52,none,.fadd 5 (.t 51)⟩),(3,⟨some 53,none,.load none (.t 52)⟩),(4,⟨some 54,none,.arith .eql (.t 53) (.k (.d (.val (.int .i64 0))))⟩),(5,⟨some 55,none,.mv (.t 54)⟩),(6,⟨some 56,(some (55,false)),.mv (.t 0)⟩),(7,⟨some 57,(some (55,false)),.nilck (.t 56)⟩),(8,⟨some 58,(some (55,false)),.fadd 7 (.t 57)⟩),(9,⟨some 59,(some (55,false)),.load none (.t 58)⟩),(10,⟨some 60,(some (55,false)),.idxS 8 (.t 59) (.k (.d (.val (.int .i64 0))))⟩),(11,⟨some 61,(some (55,false)),.call 131 [(.t 60)] none false⟩),(12,⟨some 62,none,.pick (.t 55) (.k (.d (.val (.bool true)))) (.t 61)⟩),(13,⟨some 2,none,.mv (.t 62)⟩)] (some [2])) .ret) .skip)))))))))) (.seq (.ops 1 [ (0,⟨some 2,none,.mv (.k (.d (.val (.bool false))))⟩)] (some [2])) .ret)))
def md131 : FuncId→Option Nat × Bool
  | _=>(none,false)
def od131 : Nat→List (List Nat) × List Nat × Option (List Nat)
  | 0=>([],[],some [0])
  | 1=>([],[],some [0,8])
  | 2=>([],[],some [0,8,9])
  | 3=>([],[],some [2])
  | 4=>([],[],some [0,8,11])
  | 5=>([],[],some [0,17,18])
  | 6=>([],[],some [0,17,18,19])
  | 7=>([],[],some [0,3,17,18])
  | 8=>([],[],some [0,17,18,28])
  | 9=>([],[],some [2])
  | 10=>([],[],some [0,17,18])
  | 11=>([],[],some [2])
  | 12=>([],[],some [0,8,30])
  | 13=>([],[],some [0,36,37])
  | 14=>([],[],some [0,36,37,38])
  | 15=>([],[],some [0,4,36,37])
  | 16=>([],[],some [0,36,37,46])
  | 17=>([],[],some [2])
  | 18=>([],[],some [0,36,37])
  | 19=>([],[],some [0,48])
  | 20=>([],[],some [2])
  | 21=>([],[],some [2])
  | _=>([],[],none)
theorem b131 {ags : List AV} {row : Option (List DV)} {r : AV} {row' nw : Option (List DV)} (hal : ags.length≤63) (hrow : row'.isSome=true→row.isSome=true) (h : xwp Try.prog x131 (retK [.tmp 2] row.isSome r row' nw) (St.init ags row)) : Good Try.prog 131 ags row r row' nw :=
  good_of_body' (md:=md131) (od:=od131) Try.f131 (by kernel_rfl) (by kernel_rfl) (by kernel_rfl) (by kernel_rfl) (by kernel_rfl) hal hrow h

def x152 : XC:=(.seq (.ops 1 [ (0,⟨some 4,none,.mv (.k (.d (.val (.bool false))))⟩)] (some [0,1])) (.seq (.ops 12 [ (0,⟨some 5,none,.mv (.t 0)⟩),(1,⟨some 6,none,.mv (.t 1)⟩),(2,⟨some 7,none,.arith .shr (.t 6) (.k (.d (.val (.int .u64 6))))⟩),(3,⟨some 8,none,.nilck (.t 5)⟩),(4,⟨some 9,none,.idxP 4 1 (.t 8) (.t 7)⟩),(5,⟨some 10,none,.load none (.t 9)⟩),(6,⟨some 11,none,.mv (.t 1)⟩),(7,⟨some 12,none,.arith .and (.t 11) (.k (.d (.val (.int .u8 63))))⟩),(8,⟨some 13,none,.arith .shr (.t 10) (.t 12)⟩),(9,⟨some 14,none,.arith .and (.t 13) (.k (.d (.val (.int .u64 1))))⟩),(10,⟨some 15,none,.arith .eql (.t 14) (.k (.d (.val (.int .u64 1))))⟩),(11,⟨some 4,none,.mv (.t 15)⟩)] (some [4])) .ret))
def md152 : FuncId→Option Nat × Bool
  | _=>(none,false)
def od152 : Nat→List (List Nat) × List Nat × Option (List Nat)
  | 0=>([],[],some [0,1])
  | 1=>([],[],some [4])
  | _=>([],[],none)
theorem b152 {ags : List AV} {row : Option (List DV)} {r : AV} {row' nw : Option (List DV)} (hal : ags.length≤16) (hrow : row'.isSome=true→row.isSome=true) (h : xwp Try.prog x152 (retK [.tmp 4] row.isSome r row' nw) (St.init ags row)) : Good Try.prog 152 ags row r row' nw :=
  good_of_body' (md:=md152) (od:=od152) Try.f152 (by kernel_rfl) (by kernel_rfl) (by kernel_rfl) (by kernel_rfl) (by kernel_rfl) hal hrow h

def x154 : XC:=(.seq (.ops 1 [ (0,⟨some 4,none,.mv (.k (.d (.val (.int .i64 0))))⟩)] (some [0,1])) (.seq (.ops 3 [ (0,⟨some 6,none,.mv (.t 1)⟩),(1,⟨some 7,none,.arith .sub (.t 6) (.k (.d (.val (.int .i64 1))))⟩),(2,⟨some 1,none,.mv (.t 7)⟩)] (some [0,1])) (.seq (.seq (.ops 1 [ (0,⟨some 5,none,.mv (.k (.d (.val (.int .i64 0))))⟩)] (some [0,1,5])) (.block 0 (.loop (.seq (.seq (.ops 11 [ (0,⟨some 8,none,.mv (.t 5)⟩),(1,⟨some 9,none,.mv (.t 0)⟩),(2,⟨some 10,none,.nilck (.t 9)⟩),(3,⟨some 11,none,.fadd 7 (.t 10)⟩),(4,⟨some 12,none,.load none (.t 11)⟩),(5,⟨some 13,none,.lenS (.t 12)⟩),(6,⟨some 14,none,.arith .lss (.t 8) (.t 13)⟩),(7,⟨some 15,none,.mv (.t 14)⟩),(8,⟨some 16,(some (15,true)),.mv (.t 1)⟩),(9,⟨some 17,(some (15,true)),.arith .geq (.t 16) (.k (.d (.val (.int .i64 0))))⟩),(10,⟨some 18,none,.pick (.t 15) (.t 17) (.k (.d (.val (.bool false))))⟩)] (some [0,1,5,18])) (.cond (.t 18) .skip (.exit 0))) (.seq (.block 1 (.ops 9 [ (0,⟨some 21,none,.mv (.t 0)⟩),(1,⟨some 22,none,.nilck (.t 21)⟩),(2,⟨some 23,none,.fadd 7 (.t 22)⟩),(3,⟨some 24,none,.load none (.t 23)⟩),(4,⟨some 25,none,.mv (.t 5)⟩),(5,⟨some 26,none,.idxS 8 (.t 24) (.t 25)⟩),(6,⟨some 27,none,.mv (.t 1)⟩),(7,⟨some 28,none,.call 154 [(.t 26),(.t 27)] none false⟩),(8,⟨some 1,none,.mv (.t 28)⟩)] (some [0,1,5]))) (.ops 3 [ (0,⟨some 19,none,.mv (.t 5)⟩),(1,⟨some 20,none,.arith .add (.t 19) (.k (.d (.val (.int .i64 1))))⟩),(2,⟨some 5,none,.mv (.t 20)⟩)] (some [0,1,5]))))))) (.seq (.ops 2 [ (0,⟨some 29,none,.mv (.t 1)⟩),(1,⟨some 4,none,.mv (.t 29)⟩)] (some [4])) .ret))))
def md154 : FuncId→Option Nat × Bool
  | _=>(none,false)
def od154 : Nat→List (List Nat) × List Nat × Option (List Nat)
  | 0=>([],[],some [0,1])
  | 1=>([],[],some [0,1])
  | 2=>([],[],some [0,1,5])
  | 3=>([],[],some [0,1,5,18])
  | 4=>([],[],some [0,1,5])
  | 5=>([],[],some [0,1,5])
  | 6=>([],[],some [4])
  | _=>([],[],none)
theorem b154 {ags : List AV} {row : Option (List DV)} {r : AV} {row' nw : Option (List DV)} (hal : ags.length≤30) (hrow : row'.isSome=true→row.isSome=true) (h : xwp Try.prog x154 (retK [.tmp 4] row.isSome r row' nw) (St.init ags row)) : Good Try.prog 154 ags row r row' nw :=
  good_of_body' (md:=md154) (od:=od154) Try.f154 (by kernel_rfl) (by kernel_rfl) (by kernel_rfl) (by kernel_rfl) (by kernel_rfl) hal hrow h

theorem nlAll_drop (l : List T) (i : Nat) (h : i < l.length) : nlAll (l.drop i)=(nlT l[i] && nlAll (l.drop (i + 1))):=by
  rw [List.drop_eq_getElem_cons h,nlAll]
theorem nlAny_drop (l : List T) (i : Nat) (h : i < l.length) : nlAny (l.drop i)=(nlT l[i] || nlAny (l.drop (i + 1))):=by
  rw [List.drop_eq_getElem_cons h,nlAny]
set_option maxRecDepth 100000
set_option maxHeartbeats 4000000
attribute [local irreducible] W E R KP thenK blockK retK Good xwp aRun
theorem null131_good : ∀ (n : Nat) (t : T) (cs : List DV) (off : Nat),NodeAt cs off t→t.cnt≤n→n≤100000000→okT t→Good Try.prog 131 [.d (.ptr cs off)] none (.b (nlT t)) none none:=by
  intro n
  induction n with
  | zero=>intro t cs off _ ht;have:=cnt_pos t;omega
  | succ n ih =>
  intro t cs off hs ht hc hok
  obtain ⟨k,a,b,c,d,mn,mx,subs⟩:=t
  have hp:=okT_plain hok
  have hk:=(plainT_kind hp).1
  have hoks:=okT_subs hok
  have ih' : ∀ i (h : i < subs.length),Good Try.prog 131 [.d (.ptr (encL subs) (i * 8))] none (.b (nlT subs[i])) none none:=by
    intro i h
    refine ih _ _ _ (NodeAt.sub h) ?_ (by omega) (okL_get subs i h hoks)
    have:=cntL_get subs i h
    simp only [T.cnt] at ht
    omega
  have hlen : subs.length≤100000000:=by
    have:=cntL_len subs
    simp only [T.cnt] at ht
    omega
  clear ih ht hoks
  rcases hk with rfl | rfl | rfl | rfl | rfl
  · refine b131 (by simp) (by simp) (w_init ?_)
    unfold x131
    repeat' (first|(apply r_mvV;rfl)|(apply r_mvP;rfl)|(apply r_nckD;rfl)|(apply r_faddD;rfl)|(apply r_l;apply ld_kind;assumption;rfl)|(apply r_eql;rfl;rfl;(first|(apply dT;omega)|(apply dF;omega)|rfl))|(apply r_nilK)|(apply k_V;rfl)|(apply k_P;rfl)|(apply k_nil)|(apply e_ret (vs:=[.d (.val _)]);rfl)|(apply w_seq)|(apply w_ops;((conv=>lhs;simp only [Nat.reduceAdd])<;>rfl))|(apply w_condT;rfl)|(apply e_thenN)|(apply w_block)|(apply e_thenR)|(apply e_blkR)|(apply w_ret))
    exact retB (by simp [nlT])
  · refine b131 (by simp) (by simp) (w_init ?_)
    unfold x131
    repeat' (first|(apply r_mvV;rfl)|(apply r_mvP;rfl)|(apply r_nckD;rfl)|(apply r_faddD;rfl)|(apply r_l;apply ld_kind;assumption;rfl)|(apply r_eql;rfl;rfl;(first|(apply dT;omega)|(apply dF;omega)|rfl))|(apply r_nilK)|(apply k_V;rfl)|(apply k_P;rfl)|(apply k_nil)|(apply e_ret (vs:=[.d (.val _)]);rfl)|(apply w_seq)|(apply w_ops;((conv=>lhs;simp only [Nat.reduceAdd])<;>rfl))|(apply w_condF;rfl)|(apply e_thenN)|(apply w_block)|(apply e_blkN)|(apply w_ret)|(apply w_skip))
    exact retB (by simp [nlT])
  · have e : nlT (.node 3 a b c d mn mx subs)=nlAll subs:=by simp [nlT]
    rw [e]
    refine b131 (by simp) (by simp) (w_init ?_)
    unfold x131
    repeat' (first|(apply r_mvV;rfl)|(apply r_mvP;rfl)|(apply r_nckD;rfl)|(apply r_faddD;rfl)|(apply r_l;apply ld_kind;assumption;rfl)|(apply r_l;apply ld_subs;assumption;rfl)|(apply r_eql;rfl;rfl;(first|(apply dT;omega)|(apply dF;omega)|rfl))|(apply r_lenD;rfl)|(apply r_nilK)|(apply k_V;rfl)|(apply k_P;rfl)|(apply k_nil)|(apply w_seq)|(apply w_ops;((conv=>lhs;simp only [Nat.reduceAdd])<;>rfl))|(apply w_condT;rfl)|(apply w_condF;rfl)|(apply e_thenN)|(apply w_block))
    apply w_loopI (S:=fun i : Nat=>⟨((Fr.nil.put 0 (.d (.ptr cs off))).put 17 (.i subs.length)).put 18 (.i i),Heap.nil,Frz.lo 100,100⟩) (m:=fun i=>subs.length - i) (I:=fun i=>i≤subs.length∧nlAll subs=nlAll (subs.drop i)) (i0:=0)
    · exact ⟨Nat.zero_le _,rfl⟩
    · refine wk0 (by omega) ?_
      repeat' (first|exact FWk.nil|(apply FWk.i;rfl;(first|rfl|omega|(simp;done)))|(apply FWk.d;rfl;rfl))
    rintro i K ⟨hi,hq⟩ hK
    dsimp only
    rcases Nat.lt_or_ge i subs.length with hlt | hge
    · have hg:=ih' i hlt
      have hd:=nlAll_drop subs i hlt
      rcases Bool.eq_false_or_eq_true (nlT subs[i]) with hr | hr
      · rw [hr] at hg hd
        repeat' (first|(apply r_mvV;rfl)|(apply r_mvP;rfl)|(apply r_nckD;rfl)|(apply r_faddD;rfl)|(apply r_l;apply ld_subs;assumption;rfl)|(apply r_p;apply ix_sub;rfl;rfl;omega)|(apply r_callA;rfl;rfl;exact hg)|(apply r_lss;rfl;rfl;(first|(apply dT;omega)|(apply dF;omega)|rfl))|(apply r_add;rfl;rfl;rfl;omega)|(apply r_not;rfl;rfl)|(apply r_nilK)|(apply k_V;rfl)|(apply k_P;rfl)|(apply k_nil)|(apply w_seq)|(apply w_ops;((conv=>lhs;simp only [Nat.reduceAdd])<;>rfl))|(apply w_condT;rfl)|(apply w_condF;rfl)|(apply e_thenN)|(apply w_block)|(apply e_blkN)|(apply w_skip))
        apply e_thenK
        apply hK (i + 1)
        · exact ⟨by omega,by rw [hq,hd,Bool.true_and]⟩
        · omega
        · refine wk0 (by omega) ?_
          repeat' (first|exact FWk.nil|(apply FWk.i;rfl;(first|rfl|omega|(simp;done)))|(apply FWk.d;rfl;rfl))
      · rw [hr] at hg hd
        repeat' (first|(apply r_mvV;rfl)|(apply r_mvP;rfl)|(apply r_nckD;rfl)|(apply r_faddD;rfl)|(apply r_l;apply ld_subs;assumption;rfl)|(apply r_p;apply ix_sub;rfl;rfl;omega)|(apply r_callA;rfl;rfl;exact hg)|(apply r_lss;rfl;rfl;(first|(apply dT;omega)|(apply dF;omega)|rfl))|(apply r_not;rfl;rfl)|(apply r_nilK)|(apply k_V;rfl)|(apply k_P;rfl)|(apply k_nil)|(apply e_ret (vs:=[.d (.val _)]);rfl)|(apply w_seq)|(apply w_ops;((conv=>lhs;simp only [Nat.reduceAdd])<;>rfl))|(apply w_condT;rfl)|(apply e_thenN)|(apply w_block)|(apply e_thenR)|(apply e_blkR)|(apply w_ret)|(apply w_skip))
        exact retB (by rw [hq,hd,Bool.false_and])
    · have e : nlAll subs=true:=by rw [hq,List.drop_of_length_le hge,nlAll]
      rw [e]
      repeat' (first|(apply r_mvV;rfl)|(apply r_lss;rfl;rfl;(first|(apply dT;omega)|(apply dF;omega)|rfl))|(apply r_nilK)|(apply k_V;rfl)|(apply k_P;rfl)|(apply k_nil)|(apply e_ret (vs:=[.d (.val _)]);rfl)|(apply w_seq)|(apply w_ops;((conv=>lhs;simp only [Nat.reduceAdd])<;>rfl))|(apply w_condF;rfl)|(apply e_thenN)|(apply e_thenR)|(apply e_thenX)|(apply e_blkR)|(apply e_blkE)|(apply w_exit)|(apply w_ret))
      exact retB rfl
  · have e : nlT (.node 4 a b c d mn mx subs)=nlAny subs:=by simp [nlT]
    rw [e]
    refine b131 (by simp) (by simp) (w_init ?_)
    unfold x131
    repeat' (first|(apply r_mvV;rfl)|(apply r_mvP;rfl)|(apply r_nckD;rfl)|(apply r_faddD;rfl)|(apply r_l;apply ld_kind;assumption;rfl)|(apply r_l;apply ld_subs;assumption;rfl)|(apply r_eql;rfl;rfl;(first|(apply dT;omega)|(apply dF;omega)|rfl))|(apply r_lenD;rfl)|(apply r_nilK)|(apply k_V;rfl)|(apply k_P;rfl)|(apply k_nil)|(apply w_seq)|(apply w_ops;((conv=>lhs;simp only [Nat.reduceAdd])<;>rfl))|(apply w_condT;rfl)|(apply w_condF;rfl)|(apply e_thenN)|(apply w_block))
    apply w_loopI (S:=fun i : Nat=>⟨((Fr.nil.put 0 (.d (.ptr cs off))).put 36 (.i subs.length)).put 37 (.i i),Heap.nil,Frz.lo 100,100⟩) (m:=fun i=>subs.length - i) (I:=fun i=>i≤subs.length∧nlAny subs=nlAny (subs.drop i)) (i0:=0)
    · exact ⟨Nat.zero_le _,rfl⟩
    · refine wk0 (by omega) ?_
      repeat' (first|exact FWk.nil|(apply FWk.i;rfl;(first|rfl|omega|(simp;done)))|(apply FWk.d;rfl;rfl))
    rintro i K ⟨hi,hq⟩ hK
    dsimp only
    rcases Nat.lt_or_ge i subs.length with hlt | hge
    · have hg:=ih' i hlt
      have hd:=nlAny_drop subs i hlt
      rcases Bool.eq_false_or_eq_true (nlT subs[i]) with hr | hr
      · rw [hr] at hg hd
        repeat' (first|(apply r_mvV;rfl)|(apply r_mvP;rfl)|(apply r_nckD;rfl)|(apply r_faddD;rfl)|(apply r_l;apply ld_subs;assumption;rfl)|(apply r_p;apply ix_sub;rfl;rfl;omega)|(apply r_callA;rfl;rfl;exact hg)|(apply r_lss;rfl;rfl;(first|(apply dT;omega)|(apply dF;omega)|rfl))|(apply r_nilK)|(apply k_V;rfl)|(apply k_P;rfl)|(apply k_nil)|(apply e_ret (vs:=[.d (.val _)]);rfl)|(apply w_seq)|(apply w_ops;((conv=>lhs;simp only [Nat.reduceAdd])<;>rfl))|(apply w_condT;rfl)|(apply e_thenN)|(apply w_block)|(apply e_thenR)|(apply e_blkR)|(apply w_ret)|(apply w_skip))
        exact retB (by rw [hq,hd,Bool.true_or])
      · rw [hr] at hg hd
        repeat' (first|(apply r_mvV;rfl)|(apply r_mvP;rfl)|(apply r_nckD;rfl)|(apply r_faddD;rfl)|(apply r_l;apply ld_subs;assumption;rfl)|(apply r_p;apply ix_sub;rfl;rfl;omega)|(apply r_callA;rfl;rfl;exact hg)|(apply r_lss;rfl;rfl;(first|(apply dT;omega)|(apply dF;omega)|rfl))|(apply r_add;rfl;rfl;rfl;omega)|(apply r_nilK)|(apply k_V;rfl)|(apply k_P;rfl)|(apply k_nil)|(apply w_seq)|(apply w_ops;((conv=>lhs;simp only [Nat.reduceAdd])<;>rfl))|(apply w_condT;rfl)|(apply w_condF;rfl)|(apply e_thenN)|(apply w_block)|(apply e_blkN)|(apply w_skip))
        apply e_thenK
        apply hK (i + 1)
        · exact ⟨by omega,by rw [hq,hd,Bool.false_or]⟩
        · omega
        · refine wk0 (by omega) ?_
          repeat' (first|exact FWk.nil|(apply FWk.i;rfl;(first|rfl|omega|(simp;done)))|(apply FWk.d;rfl;rfl))
    · have e : nlAny subs=false:=by rw [hq,List.drop_of_length_le hge,nlAny]
      rw [e]
      repeat' (first|(apply r_mvV;rfl)|(apply r_lss;rfl;rfl;(first|(apply dT;omega)|(apply dF;omega)|rfl))|(apply r_nilK)|(apply k_V;rfl)|(apply k_P;rfl)|(apply k_nil)|(apply e_ret (vs:=[.d (.val _)]);rfl)|(apply w_seq)|(apply w_ops;((conv=>lhs;simp only [Nat.reduceAdd])<;>rfl))|(apply w_condF;rfl)|(apply e_thenN)|(apply e_thenX)|(apply e_blkN)|(apply e_blkE)|(apply w_exit)|(apply w_ret))
      exact retB rfl
  · obtain ⟨u,rfl⟩:=plainT_5 hp
    have hg:=ih' 0 (by simp)
    simp only [List.getElem_cons_zero] at hg
    have e : nlT (.node 5 a b c d mn mx [u])=(decide (mn=0) || nlT u):=by simp [nlT,nlFst]
    rw [e]
    by_cases hm : mn=0
    · refine b131 (by simp) (by simp) (w_init ?_)
      unfold x131
      repeat' (first|(apply r_mvV;rfl)|(apply r_mvP;rfl)|(apply r_nckD;rfl)|(apply r_faddD;rfl)|(apply r_l;apply ld_kind;assumption;rfl)|(apply r_l;apply ld_mn;assumption;rfl)|(apply r_eql;rfl;rfl;(first|(apply dT;omega)|(apply dF;omega)|rfl))|(apply r_pickT;rfl)|(apply r_gF';rfl;rfl)|(apply r_nilK)|(apply k_V;rfl)|(apply k_P;rfl)|(apply k_nil)|(apply e_ret (vs:=[.d (.val _)]);rfl)|(apply w_seq)|(apply w_ops;((conv=>lhs;simp only [Nat.reduceAdd])<;>rfl))|(apply w_condT;rfl)|(apply w_condF;rfl)|(apply e_thenN)|(apply w_block)|(apply e_thenR)|(apply e_blkR)|(apply w_ret))
      exact retB (by simp [hm])
    · refine b131 (by simp) (by simp) (w_init ?_)
      unfold x131
      repeat' (first|(apply r_mvV;rfl)|(apply r_mvP;rfl)|(apply r_nckD;rfl)|(apply r_faddD;rfl)|(apply r_l;apply ld_kind;assumption;rfl)|(apply r_l;apply ld_mn;assumption;rfl)|(apply r_l;apply ld_subs;assumption;rfl)|(apply r_p;apply ix_sub (j:=0);rfl;rfl;(simp))|(apply r_callA;rfl;rfl;exact hg)|(apply r_eql;rfl;rfl;(first|(apply dT;omega)|(apply dF;omega)|rfl))|(apply r_pickF;rfl)|(apply r_gT;rfl)|(apply r_nilK)|(apply k_V;rfl)|(apply k_P;rfl)|(apply k_nil)|(apply e_ret (vs:=[.d (.val _)]);rfl)|(apply w_seq)|(apply w_ops;((conv=>lhs;simp only [Nat.reduceAdd])<;>rfl))|(apply w_condT;rfl)|(apply w_condF;rfl)|(apply e_thenN)|(apply w_block)|(apply e_thenR)|(apply e_blkR)|(apply w_ret))
      rw [show decide (mn=0)=false from decide_eq_false hm,Bool.false_or]
      exact retB rfl
theorem has152_good {cs : List DV} {off : Nat} {a b c d : Int} (hs : SetAt cs off a b c d) (ha : okW a) (hb : okW b) (hc : okW c) (hd : okW d) {x : Nat} (hx : x < 256) : Good Try.prog 152 [.d (.ptr cs off),.d (.val (.int .u8 (x : Nat)))] none (.b (inG a b c d x)) none none:=by
  have hw : okW ([a,b,c,d].getD (x / 64) 0):=by
    have : x / 64 < 4:=by omega
    match x / 64,this with
    | 0,_=>exact ha
    | 1,_=>exact hb
    | 2,_=>exact hc
    | 3,_=>exact hd
  refine b152 (by simp) (by simp) (w_init ?_)
  unfold x152
  repeat' (first|(apply r_mvV;rfl)|(apply r_mvP;rfl)|(apply r_nckD;rfl)|(apply r_shr6;rfl;rfl)|(apply r_and63;rfl;rfl;exact hx)|(apply r_ixPD;rfl;rfl;omega)|(apply r_ldSet hs;rfl;omega)|(apply r_shrW;rfl;rfl;exact hw.1;omega)|(apply r_and1;rfl;rfl;exact okW_div hw _)|(apply r_eqlU;rfl;rfl;rfl)|(apply r_nilK)|(apply k_V;rfl)|(apply k_P;rfl)|(apply k_nil)|(apply e_ret (vs:=[.d (.val _)]);rfl)|(apply w_seq)|(apply w_ops;((conv=>lhs;simp only [Nat.reduceAdd])<;>rfl))|(apply e_thenN)|(apply w_ret))
  exact retB rfl
end Go.Sv
