/- A part of the proof of the law DeriveMatches: that it answers true for every input, and that the input reads behind the call as before (no condition). -/
import Derived.Test.YtcnlgmajkclgjaaGreatDeriveMatchesG10
set_option linter.all false
set_option linter.unusedSectionVars false
set_option linter.unusedVariables false
set_option linter.unusedSimpArgs false
namespace Go.Sv
open Go Go.Proofs
set_option maxRecDepth 100000
set_option maxHeartbeats 4000000
attribute [local irreducible] W E R KP thenK blockK retK Good xwp aRun
theorem at_refG (s : ByteArray) (t : T) (hok : okT t) (j : Nat) (hj : j≤s.size) (k : Nat) : At (refG s t ((List.replicate (s.size + 1) false).set j true)) k↔j≤k∧k≤s.size∧L t (word s j k):=by
  have hl : ((List.replicate (s.size + 1) false).set j true).length=s.size + 1:=by simp
  rw [(refG_goes s t hok _ hl).2 k]
  constructor
  · rintro ⟨i,h1,h2,h3,h4⟩
    rw [at_set i (by simp;omega)] at h2
    rcases h2 with ⟨rfl,_⟩ | ⟨_,h⟩
    · exact ⟨h1,h3,h4⟩
    · exact absurd h (at_rep _ _)
  · rintro ⟨h1,h2,h3⟩
    exact ⟨j,h1,(at_set j (by simp;omega)).2 (.inl ⟨rfl,rfl⟩),h2,h3⟩
end Go.Sv
namespace Go.Sv
open Go Go.Proofs
def mtB (s : ByteArray) (t : T) : Bool:=decide (wrE s t=0) && nlT (wrN s t)
theorem last_whole {s : ByteArray} {t : T} (ho : okT t) : lastG (rallG s t 0)=(s.size : Int)↔L t (word s 0 s.size):=by
  have h2:=last_idx (refG s t ((List.replicate (s.size + 1) false).set 0 true)) s.size
  have ha:=at_refG s t ho 0 (Nat.zero_le _)
  unfold rallG
  rcases h2 with ⟨k,g1,g2,g3,g4,g5⟩ | ⟨g1,g2⟩
  · rw [g4]
    constructor
    · intro h
      have : k=s.size:=by omega
      subst this
      exact ((ha _).1 g3).2.2
    · intro h
      rcases Nat.lt_or_ge k s.size with h3 | h3
      · exact absurd ((ha _).2 ⟨Nat.zero_le _,Nat.le_refl _,h⟩) (g5 _ h3 (Nat.le_refl _))
      · omega
  · rw [g1]
    constructor
    · intro h;omega
    · intro h
      exact absurd ((ha _).2 ⟨Nat.zero_le _,Nat.le_refl _,h⟩) (g2 _ (Nat.zero_le _) (Nat.le_refl _))
theorem nl_whole {s : ByteArray} {t u : T} (ho : okT t) (hd : DOK (simT t)) (h : dS s (simT t) 0 s.size=some u) : decide (lastG (rallG s t 0)=(s.size : Int))=nlT u:=by
  obtain ⟨hu,hl⟩:=dS_ok hd _ _ h
  rw [Bool.eq_iff_iff,nlT_L _ hu.1,hl,List.append_nil,Nat.zero_add,simT_L t ho]
  simp only [decide_eq_true_eq]
  exact last_whole ho
set_option maxRecDepth 100000
set_option maxHeartbeats 4000000
attribute [local irreducible] W E R KP thenK blockK retK Good xwp aRun
theorem Match126_good (s : ByteArray) (hs : s.size≤1000000) (t : T) (hc : t.cnt≤4000) (hok : fitsT t 12=true→okT t) : Good Tryz.prog 7 [nodeA t,.d (.val (.string s))] none (.tup [.b (mtB s t),.i (wrE s t)]) none none:=by
  have h78:=Word78_good s hs t hc hok
  have hnl : wrE s t=0→Good Tryz.prog 19 [.d (.ptr (encN (wrN s t)) 0)] none (.b (nlT (wrN s t))) none none:=by
    intro h
    have hf : fitsT t 12=true:=by
      cases hq : fitsT t 12 with
      | true=>rfl
      | false=>simp [wrE,hq] at h
    have hd:=DOK_sim (hok hf) hc
    have e3 : wrN s t=wdT s (simT t):=by simp [wrN,hf]
    rw [e3]
    cases hq : dS s (simT t) 0 s.size with
    | none=>simp [wrE,wdE,hf,hq] at h
    | some u =>
      have e : wdT s (simT t)=u:=by simp [wdT,hq]
      have hu:=(dS_ok hd _ _ hq).1
      rw [e]
      exact null131_good 4000 u (encN u) 0 (NodeAt.self _) hu.2.2 (by omega) hu.1
  unfold mtB
  generalize nlT (wrN s t)=q at hnl ⊢
  generalize wrN s t=u at h78 hnl
  generalize wrE s t=e at h78 hnl ⊢
  obtain ⟨k,a,b,c,d,mn,mx,subs⟩:=t
  obtain ⟨k2,a2,b2,c2,d2,mn2,mx2,subs2⟩:=u
  have e0 : nodeA (T.node k a b c d mn mx subs)=.agg [.i k,.d (.val (.int .u64 a)),.d (.val (.int .u64 b)),.d (.val (.int .u64 c)),.d (.val (.int .u64 d)),.i mn,.i mx,.d (.sl (encL subs) subs.length)]:=rfl
  have e2 : nodeA (T.node k2 a2 b2 c2 d2 mn2 mx2 subs2)=.agg [.i k2,.d (.val (.int .u64 a2)),.d (.val (.int .u64 b2)),.d (.val (.int .u64 c2)),.d (.val (.int .u64 d2)),.i mn2,.i mx2,.d (.sl (encL subs2) subs2.length)]:=rfl
  rw [e0] at h78 ⊢
  rw [e2] at h78
  by_cases he : e=0
  · subst he
    have g:=hnl rfl
    refine b126 (by simp) (by simp) (w_init ?_)
    unfold x126
    repeat' (first|(apply r_mvV;rfl)|(apply r_mvT;rfl)|(apply r_ldL (v:=.agg [.i k,.d (.val (.int .u64 a)),.d (.val (.int .u64 b)),.d (.val (.int .u64 c)),.d (.val (.int .u64 d)),.i mn,.i mx,.d (.sl (encL subs) subs.length)]);rfl;rfl;rfl)|(apply r_callA (f:=13);rfl;rfl;exact h78)|(apply r_call (f:=19) (bs:=[.d (.ptr (encN (T.node k2 a2 b2 c2 d2 mn2 mx2 subs2)) 0)]) (us:=[1]);rfl;rfl;exact g;rfl)|(apply r_eql;rfl;rfl;(first|(apply dT;omega)|(apply dF;omega)|rfl))|(apply r_pickT;rfl)|(apply r_ext;rfl;rfl)|(apply r_gT;rfl)|(apply r_box;((conv=>lhs;simp only [Nat.reduceAdd])<;>rfl);rfl;rfl;rfl)|(apply r_stL;rfl;rfl;rfl;rfl;(first|rfl|(simp only [z_nil,z_add]<;>rfl));rfl;rfl)|(apply r_nilK)|(apply k_V;rfl)|(apply k_PL;rfl)|(apply k_nil)|(apply e_ret;rfl)|(apply w_seq)|(apply w_ops;((conv=>lhs;simp only [Nat.reduceAdd])<;>rfl))|(apply e_thenN)|(apply w_ret))
    exact .data _ rfl
  · rw [decide_eq_false he,Bool.false_and]
    refine b126 (by simp) (by simp) (w_init ?_)
    unfold x126
    repeat' (first|(apply r_mvV;rfl)|(apply r_mvT;rfl)|(apply r_ldL (v:=.agg [.i k,.d (.val (.int .u64 a)),.d (.val (.int .u64 b)),.d (.val (.int .u64 c)),.d (.val (.int .u64 d)),.i mn,.i mx,.d (.sl (encL subs) subs.length)]);rfl;rfl;rfl)|(apply r_callA (f:=13);rfl;rfl;exact h78)|(apply r_eql;rfl;rfl;(first|(apply dT;omega)|(apply dF;omega)|rfl))|(apply r_pickF;rfl)|(apply r_ext;rfl;rfl)|(apply r_gF';rfl;rfl)|(apply r_box;((conv=>lhs;simp only [Nat.reduceAdd])<;>rfl);rfl;rfl;rfl)|(apply r_stL;rfl;rfl;rfl;rfl;(first|rfl|(simp only [z_nil,z_add]<;>rfl));rfl;rfl)|(apply r_nilK)|(apply k_V;rfl)|(apply k_PL;rfl)|(apply k_nil)|(apply e_ret;rfl)|(apply w_seq)|(apply w_ops;((conv=>lhs;simp only [Nat.reduceAdd])<;>rfl))|(apply e_thenN)|(apply w_ret))
    exact .data _ rfl
end Go.Sv
namespace Go.Sv
open Go Go.Proofs Go.Proofs.YtcnlgmajkclgjaaGreat Go.ChangeShapes Go.WideShapes Go.ChangeAt Go.RowKit
set_option linter.unusedVariables false
set_option maxRecDepth 100000

theorem try_own : ownKnob Tryz.prog.godebug=none:=by kernel_rfl
theorem try_laidOut : laidOutB Tryz.prog=true:=by kernel_rfl
theorem rowed : ∀ t ∈ [27,9,3,5],Tryz.prog.readableRec t=true∧t < Tryz.prog.types.size:=by
  intro t ht
  simp only [List.mem_cons,List.not_mem_nil,or_false] at ht
  rcases ht with rfl | rfl | rfl | rfl
  all_goals exact ⟨by kernel_rfl,of_decide_eq_true (by kernel_rfl)⟩

section
variable {H : Type} {enc : TypeId × Value→H}
theorem stays_all {W W' : World} {sp : Nat→Bool} (hsame : ∀ p : MemPlace,p.block < W.heap.size→W.sameAt W' p) : ∀ {ts : List TypeId} {vs : List Value} {ds : List (DataW H)} {ps : List MemPlace},(∀ t ∈ ts,Tryz.prog.readableRec t=true∧t < Tryz.prog.types.size) →
    DataW.TrodAll enc Tryz.prog W 0 (fun _=>true) true ts vs ds ps→(∀ p ∈ ps,p.block < W.heap.size)→(∀ p ∈ ps,sp p.block=true)→DataW.TrodAll enc Tryz.prog W' 0 sp true ts vs ds ps
  | [],[],[],ps,_,h,_,_=>h
  | t :: ts,v :: vs,d :: ds,ps,hr,h,hl,hs=>by
    obtain ⟨p,q,h1,h2,rfl⟩:=h
    refine ⟨p,q,WideElems.Trod_stays try_laidOut (hr t (by simp)).1 (hr t (by simp)).2 h1 (fun x hx=>hsame x (hl x (by simp [hx]))) (fun x hx=>hs x (by simp [hx])),?_,rfl⟩
    exact stays_all hsame (fun t ht=>hr t (by simp [ht])) h2 (fun x hx=>hl x (by simp [hx])) (fun x hx=>hs x (by simp [hx]))

theorem law_post {s : ChangeSpec} {f : Func} {W W' : World} {args : Array Value} {ds gs : List (DataW H)} {before : List MemPlace} (hW : DataW.Whole enc Tryz.prog f.params.toList s.vars false W args.toList ds gs before) (hsv : s.vars=[])
    (h1 : (s.fn H (ds++gs)).results=[.lit (.bool true)]) (h2 : (s.fn H (ds++gs)).args=ds) (h3 : (s.fn H (ds++gs)).vars=[]) (hrt : f.resultTypes=#[4]) (hb : Below W.heap.size W W')
    (hr : ∀ t ∈ f.params.toList,Tryz.prog.readableRec t=true∧t < Tryz.prog.types.size) : s.post enc Tryz.prog f false true false false W args (.bool true) W':=by
  have hlt:=hW.lt
  have hW0:=hW
  obtain ⟨p,q,hA,hV,rfl,_,_⟩:=hW
  rw [hsv] at hV
  obtain ⟨rfl,rfl⟩:=trodVars_none hV
  have hlt' : ∀ x ∈ p,x.block < W.heap.size:=fun x hx=>by simpa using hlt x (by simp [hx])
  refine ⟨ds,[],p++[],[],p,[],hW0,?_,?_,?_,hb.frame _,fun h=>by cases h⟩
  · rw [hrt,h1]
    exact trodAll_mk1 (shut_bool Tryz.underlying4 true)
  · rw [h2]
    exact stays_all (fun x hx=>hb.same hx) hr hA hlt' (fun x hx=>by simpa using hlt' x hx)
  · rw [hsv,h3];rfl

theorem Kept.below {w w' : World} (h : Kept w w' (fun k=>(none : Option (List DV)).isSome=true∧(none : Option Nat)=some k)) : Below w.heap.size w w' :=
  ⟨h.os,h.tape,h.output,h.size,fun k hk=>h.keep k hk (by simp)⟩

theorem law_calls {f : FuncId} {ags : List AV} (hg : Good Tryz.prog f ags none (.b true) none none) {W : World} {args : Array Value} (ha : RAs W NoA (fun _=>none) NoA args ags) : Calls Tryz.prog f args W fun e W'=>e=.returned (.bool true)∧Below W.heap.size W W':=by
  have hNo : (fun k=>NoA k ∨ ((none : Option (List DV)).isSome=true∧(none : Option Nat)=some k))=NoA:=by
    funext k;simp [NoA]
  have hU : (fun b : Nat=>(none : Option (List DV)).isSome=true∧b=0)=NoA:=by
    funext k;simp [NoA]
  have:=hg.2.2 W NoA none args (fun k h=>h.elim) (fun k h=>by simp at h) (fun ds h=>by cases h) (by rw [hNo,hU];exact ha)
  refine this.mono fun e W' ⟨v,nm,he,hk,_,_,_,hv⟩=>?_
  have:=hv.val_eq
  subst this
  exact ⟨he,hk.below⟩
theorem RAs.nil {W : World} : RAs W NoA (fun _=>none) NoA #[] []:=⟨rfl,fun j h=>by simp at h⟩
theorem RAs.mk : ∀ {W : World} {vs : List Value} {ags : List AV},vs.length=ags.length→(∀ (j : Nat) v a,vs[j]?=some v→ags[j]?=some a→RA W NoA (fun _=>none) NoA v a)→RAs W NoA (fun _=>none) NoA vs.toArray ags:=by
  intro W vs ags hl h
  refine ⟨by simpa using hl,fun j hj=>?_⟩
  have hj2 : j < vs.length:=by omega
  have : vs.toArray.getD j undef=vs[j]:=by simp [Array.getD,hj2]
  rw [this]
  exact h j _ _ (List.getElem?_eq_getElem hj2) (List.getElem?_eq_getElem hj)
theorem RDs.toA {W : World} {vs : List Value} {ds : List DV} (h : RDs W vs ds) : RA W NoA (fun _=>none) NoA (.agg vs.toArray) (.agg (ds.map AV.d)):=by
  refine .agg _ _ (by simpa using h.1) fun j hj=>?_
  have hj1 : j < ds.length:=by simpa using hj
  have hj2 : j < vs.length:=by rw [h.1];exact hj1
  have : vs.toArray.getD j undef=vs[j]:=by simp [Array.getD,hj2]
  rw [this,List.getElem_map]
  exact .d _ _ (h.2 j _ _ (List.getElem?_eq_getElem hj2) (List.getElem?_eq_getElem hj1))
theorem arg_node {W : World} {base : Nat} {v : Value} {d : DataW H} {p : List MemPlace} (hok : Value.okWide Tryz.prog W .any base 27 v) (h : DataW.Trod enc Tryz.prog W 0 (fun _=>true) true 27 v d p) : ∃ t : T,inT t∧RA W NoA (fun _=>none) NoA v (nodeA t):=by
  obtain ⟨n,hn⟩:=h
  obtain ⟨t,h1,h2⟩:=node_open n _ _ hn
  have hs : ∃ cs,v=.agg cs:=by
    unfold Value.okWide at hok
    rw [Tryz.underlying27] at hok
    obtain ⟨cs,h,_⟩:=hok
    exact ⟨cs,h⟩
  obtain ⟨cs,rfl⟩:=hs
  exact ⟨t,h1,h2.toA⟩
theorem arg_str {W : World} {s : ByteArray} : RA W NoA (fun _=>none) NoA (.string s) (.d (.val (.string s))):=.d _ _ (.val _ rfl)
end
theorem weights_str {H : Type} {P : Program} : ∀ {ts : List TypeId} {ds : List (DataW H)} (j : Nat) {t : TypeId} {s : ByteArray},(DataW.weightsEach P ts ds).all (·≤reachBytes)=true→ts[j]?=some t→ds[j]?=some (.lit (.string s.data.toList))→s.size≤140737488355328
  | [],_,j,t,s,_,h,_=>by simp at h
  | _ :: _,[],j,t,s,_,_,h=>by simp at h
  | t0 :: ts,d :: ds,0,t,s,h,h1,h2=>by
    simp at h1 h2
    subst h2
    simp only [DataW.weightsEach,DataW.weights,List.all_append,List.all_cons,Bool.and_eq_true,decide_eq_true_eq] at h
    have h3:=h.1.1
    have e : s.data.toList.length=s.size:=by simp
    rw [e] at h3
    unfold reachBytes at h3
    omega
  | t0 :: ts,d :: ds,j + 1,t,s,h,h1,h2=>by
    simp only [DataW.weightsEach,List.all_append,Bool.and_eq_true] at h
    exact weights_str j h.2 (by simpa using h1) (by simpa using h2)
theorem joined_of {P : Program} {f : FuncId} {fn : Func} {s : ChangeSpec} {c : OpenClaim}
    (k1 : (c.wf (OpenSpec.ofChange s) && laidOutB P && mapsRowed P && fn.params.all (P.readableRec ·) && namedTie P c.named s.vars && (c.stops == []) && (P.stops == []) && (c.knobs == []) && (P.stopKnobs == []))=true)
    (k2 : (c.inPlace == P.inPlace f)=true) (k3 : (c.unfollowed == P.unfollowed f)=true) (k4 : (c.recurses == P.recurses f)=true) (k5 : (c.named == P.varsNamed f)=true)
    (k6 : ((c.maps == (fn.params.toList++s.plain.varTypes P).any (P.mapsRec ·)) && (c.ifaces == (fn.params.toList++s.plain.varTypes P).any (P.ifacesRec ·)) && (c.mapsOut == P.mapsAmong fn.resultTypes.toList) &&
  (c.loops == (fn.params.toList++s.plain.varTypes P).any (P.loopsFrom ·)) && (c.wideKeys == (fn.params.toList++s.plain.varTypes P++fn.resultTypes.toList).any (P.wideKeysFrom ·)) &&
  s.vars.all (P.varReadable ·) && fn.resultTypes.all (fun t=>P.readableRec t && decide (t < P.types.size)) && (c.ifacesOut == fn.resultTypes.toList.any (P.ifacesRec ·)) && (c.loopsOut == fn.resultTypes.toList.any (P.loopsFrom ·)))=true)
    (hm : P.mayEnter=true) (hl : P.liftsFinal=c.lifted) (hk : P.make=some c.make) (k7 : ((c.plainKeys == P.plainKeys) && c.shortTexts.isNone && P.stopsHeard && (c.kinds == (if c.domain.isEmpty then [] else fn.params.toList.map fun t=>match P.underlying t with | some (.int k)=>some k | _=>none)) && (c.pinned == c.pinnedBy) &&
  (c.veiled == (fn.params.toList++s.plain.varTypes P++fn.resultTypes.toList).any (P.veiledRec ·)) && c.veiledFits P fn.params.toList (fn.params.toList++s.plain.varTypes P++fn.resultTypes.toList))=true) : joinedFacts P f fn s c=true:=by
  unfold joinedFacts
  simp only [Bool.and_eq_true] at k1 k6 k7 ⊢
  obtain ⟨⟨⟨⟨⟨⟨⟨⟨a1,a2⟩,a3⟩,a4⟩,a5⟩,a6⟩,a7⟩,a8⟩,a9⟩:=k1
  obtain ⟨⟨⟨⟨⟨⟨⟨⟨b1,b2⟩,b3⟩,b4⟩,b5⟩,b6⟩,b7⟩,b8⟩,b9⟩:=k6
  obtain ⟨⟨⟨⟨⟨⟨c1,c2⟩,c3⟩,c4⟩,c5⟩,c6⟩,c7⟩:=k7
  have d1 : (c.lifted == P.liftsFinal)=true:=by rw [hl];exact beq_self_eq_true _
  have d2 : (P.make == some c.make)=true:=by rw [hk];exact beq_self_eq_true _
  repeat' apply And.intro
  all_goals assumption
end Go.Sv
namespace Go.Sv
open Go Go.Proofs Go.Proofs.YtcnlgmajkclgjaaGreat
set_option maxRecDepth 100000
def orderN : List Nat:=[104,97,114,110,101,115,115,32,49,57,97,99,52,49,57,55,98,100,51,49,54,52,57,57,57,102,48,55,98,98,97,102,102,99,102,53,50,50,54,48,99,55,50,57,56,49,100,51,50,51,54,57,101,51,49,100,98,101,53,99,52,56,53,100,53,57,52,48,56,100,57,101,32,99,117,116,32,97,116,32,115,105,101,118,101,47,115,105,101,118,101,108,97,119,49,50,46,68,101,114,105,118,101,77,97,116,99,104,101,115]
theorem order_eq : Tryz.prog.initOrder=String.ofList (orderN.map Char.ofNat):=by kernel_rfl
theorem order_list : Tryz.prog.initOrder.toList=orderN.map Char.ofNat:=by rw [order_eq,String.toList_ofList]
theorem ow1 : (stripLifts liftWords (behindMainWord (wordsSigns (orderN.map Char.ofNat)))).1=[]:=by kernel_rfl
theorem ow2 : ((stripLifts liftWords (behindMainWord (wordsSigns (orderN.map Char.ofNat)))).2.head? == some "cut".toList)=true:=by kernel_rfl
theorem ow3 : ((behindMainWord (wordsSigns (orderN.map Char.ofNat))).isEmpty=false):=by kernel_rfl
theorem ow4 : ((behindMainWord (wordsSigns (orderN.map Char.ofNat))).head? == some "cut".toList)=true:=by kernel_rfl
theorem ow5 : ((behindMainWord (wordsSigns (orderN.map Char.ofNat))).head? == some "carried".toList)=false:=by kernel_rfl
theorem ow6 : ((behindMainWord (wordsSigns (orderN.map Char.ofNat))).head? == some "gc".toList)=false:=by kernel_rfl
theorem ow7 : ((behindMainWord (wordsSigns (orderN.map Char.ofNat))).head? == some "spec".toList)=false:=by kernel_rfl
theorem try_lays : Tryz.prog.laysLater=false:=by kernel_rfl
theorem try_refl : Tryz.prog.bearsReflect=false:=by kernel_rfl
theorem try_door : Tryz.prog.doorFits []=true:=by kernel_rfl
theorem headLifts_of {P : Program} {l : List Char} (h : P.initOrder.toList=l) (h1 : (stripLifts liftWords (behindMainWord (wordsSigns l))).1=[]) (h2 : ((stripLifts liftWords (behindMainWord (wordsSigns l))).2.head? == some "cut".toList)=true) : P.headLifts=[]:=by
  subst h
  unfold Program.headLifts
  simp only [h2,if_true,h1]
theorem try_headLifts : Tryz.prog.headLifts=[]:=headLifts_of order_list ow1 ow2
theorem mayEnter_of {P : Program} {l : List Char} (h : P.initOrder.toList=l) (h1 : (stripLifts liftWords (behindMainWord (wordsSigns l))).1=[]) (h2 : ((stripLifts liftWords (behindMainWord (wordsSigns l))).2.head? == some "cut".toList)=true)
    (h3 : (behindMainWord (wordsSigns l)).isEmpty=false) (k1 : P.laysLater=false) (k2 : P.bearsReflect=false) (k3 : P.doorFits []=true) : P.mayEnter=true:=by
  subst h
  unfold Program.mayEnter
  generalize behindMainWord (wordsSigns P.initOrder.toList)=q at h1 h2 h3 ⊢
  cases q with
  | nil=>cases h3
  | cons c rest =>
    have e1 : ([] : List String).contains "finals"=false:=rfl
    have e2 : ([] : List String).contains "reflectrows"=false:=rfl
    have e3 : ([] : List String).contains "leanrows"=false:=rfl
    simp only [h1,h2,k1,k2,k3,e1,e2,e3,Bool.not_false,Bool.or_true,Bool.and_true,Bool.or_self,Bool.and_self]
theorem try_mayEnter : Tryz.prog.mayEnter=true:=mayEnter_of order_list ow1 ow2 ow3 try_lays try_refl try_door
theorem lifts_of {P : Program} {l : List Char} (h : P.initOrder.toList=l) (h5 : ((behindMainWord (wordsSigns l)).head? == some "carried".toList)=false) (k : P.headLifts=[]) : P.liftsFinal=false:=by
  subst h
  unfold Program.liftsFinal
  rw [k]
  have e1 : ([] : List String).contains "finals"=false:=rfl
  simp only [h5,e1,Bool.false_and,Bool.or_self]
theorem try_lifts : Tryz.prog.liftsFinal=false:=lifts_of order_list ow5 try_headLifts
theorem make_of {P : Program} {l : List Char} (h : P.initOrder.toList=l) (h3 : (behindMainWord (wordsSigns l)).isEmpty=false) (h4 : ((behindMainWord (wordsSigns l)).head? == some "cut".toList)=true)
    (h6 : ((behindMainWord (wordsSigns l)).head? == some "gc".toList)=false) (h7 : ((behindMainWord (wordsSigns l)).head? == some "spec".toList)=false) : P.make=some .cut:=by
  subst h
  unfold Program.make
  generalize behindMainWord (wordsSigns P.initOrder.toList)=q at h3 h4 h6 h7 ⊢
  cases q with
  | nil=>cases h3
  | cons c rest =>
    simp only [List.head?_cons] at h4 h6 h7
    have g : ∀ x : List Char,(some c == some x)=(c == x):=fun x=>rfl
    rw [g] at h4 h6 h7
    simp only [h4,h6,h7,Bool.or_self,Bool.false_eq_true,if_false,Bool.true_or,if_true]
theorem try_make : Tryz.prog.make=some .cut:=make_of order_list ow3 ow4 ow6 ow7
end Go.Sv
