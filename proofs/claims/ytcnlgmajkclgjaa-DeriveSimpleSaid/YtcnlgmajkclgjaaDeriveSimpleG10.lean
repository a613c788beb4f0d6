/- A part of the proof of the law DeriveSimple: that it answers true for every input, and that the input reads behind the call as before (no condition). -/
import Derived.Test.YtcnlgmajkclgjaaDeriveSimpleG9
set_option linter.all false
set_option linter.unusedSectionVars false
set_option linter.unusedVariables false
set_option linter.unusedSimpArgs false
namespace Go.Sv
open Go Go.Proofs Go.Proofs.Ytcnlgmajkclgjaa Go.ChangeShapes Go.WideShapes Go.ChangeAt Go.RowKit
set_option linter.unusedVariables false
set_option maxRecDepth 100000

theorem try_own : ownKnob Try.prog.godebug=none:=by kernel_rfl
theorem try_laidOut : laidOutB Try.prog=true:=by kernel_rfl
theorem rowed : ∀ t ∈ [27,9,3,5,41],Try.prog.readableRec t=true∧t < Try.prog.types.size:=by
  intro t ht
  simp only [List.mem_cons,List.not_mem_nil,or_false] at ht
  rcases ht with rfl | rfl | rfl | rfl | rfl
  all_goals exact ⟨by kernel_rfl,of_decide_eq_true (by kernel_rfl)⟩

section
variable {H : Type} {enc : TypeId × Value→H}
theorem stays_all {W W' : World} {sp : Nat→Bool} (hsame : ∀ p : MemPlace,p.block < W.heap.size→W.sameAt W' p) : ∀ {ts : List TypeId} {vs : List Value} {ds : List (DataW H)} {ps : List MemPlace},(∀ t ∈ ts,Try.prog.readableRec t=true∧t < Try.prog.types.size) →
    DataW.TrodAll enc Try.prog W 0 (fun _=>true) true ts vs ds ps→(∀ p ∈ ps,p.block < W.heap.size)→(∀ p ∈ ps,sp p.block=true)→DataW.TrodAll enc Try.prog W' 0 sp true ts vs ds ps
  | [],[],[],ps,_,h,_,_=>h
  | t :: ts,v :: vs,d :: ds,ps,hr,h,hl,hs=>by
    obtain ⟨p,q,h1,h2,rfl⟩:=h
    refine ⟨p,q,WideElems.Trod_stays try_laidOut (hr t (by simp)).1 (hr t (by simp)).2 h1 (fun x hx=>hsame x (hl x (by simp [hx]))) (fun x hx=>hs x (by simp [hx])),?_,rfl⟩
    exact stays_all hsame (fun t ht=>hr t (by simp [ht])) h2 (fun x hx=>hl x (by simp [hx])) (fun x hx=>hs x (by simp [hx]))

theorem law_post {s : ChangeSpec} {f : Func} {W W' : World} {args : Array Value} {ds gs : List (DataW H)} {before : List MemPlace} (hW : DataW.Whole enc Try.prog f.params.toList s.vars false W args.toList ds gs before) (hsv : s.vars=[])
    (h1 : (s.fn H (ds++gs)).results=[.lit (.bool true)]) (h2 : (s.fn H (ds++gs)).args=ds) (h3 : (s.fn H (ds++gs)).vars=[]) (hrt : f.resultTypes=#[4]) (hb : Below W.heap.size W W')
    (hr : ∀ t ∈ f.params.toList,Try.prog.readableRec t=true∧t < Try.prog.types.size) : s.post enc Try.prog f false true false false W args (.bool true) W':=by
  have hlt:=hW.lt
  have hW0:=hW
  obtain ⟨p,q,hA,hV,rfl,_,_⟩:=hW
  rw [hsv] at hV
  obtain ⟨rfl,rfl⟩:=trodVars_none hV
  have hlt' : ∀ x ∈ p,x.block < W.heap.size:=fun x hx=>by simpa using hlt x (by simp [hx])
  refine ⟨ds,[],p++[],[],p,[],hW0,?_,?_,?_,hb.frame _,fun h=>by cases h⟩
  · rw [hrt,h1]
    exact trodAll_mk1 (shut_bool Try.underlying4 true)
  · rw [h2]
    exact stays_all (fun x hx=>hb.same hx) hr hA hlt' (fun x hx=>by simpa using hlt' x hx)
  · rw [hsv,h3];rfl

theorem Kept.below {w w' : World} (h : Kept w w' (fun k=>(none : Option (List DV)).isSome=true∧(none : Option Nat)=some k)) : Below w.heap.size w w' :=
  ⟨h.os,h.tape,h.output,h.size,fun k hk=>h.keep k hk (by simp)⟩

theorem law_calls {f : FuncId} {ags : List AV} (hg : Good Try.prog f ags none (.b true) none none) {W : World} {args : Array Value} (ha : RAs W NoA (fun _=>none) NoA args ags) : Calls Try.prog f args W fun e W'=>e=.returned (.bool true)∧Below W.heap.size W W':=by
  have hNo : (fun k=>NoA k ∨ ((none : Option (List DV)).isSome=true∧(none : Option Nat)=some k))=NoA:=by
    funext k;simp [NoA]
  have hU : (fun b : Nat=>(none : Option (List DV)).isSome=true∧b=0)=NoA:=by
    funext k;simp [NoA]
  have:=hg.2.2 W NoA none args (fun k h=>h.elim) (fun k h=>by simp at h) (fun ds h=>by cases h) (by rw [hNo,hU];exact ha)
  refine this.mono fun e W' ⟨v,nm,he,hk,_,_,_,hv⟩=>?_
  have:=hv.val_eq
  subst this
  exact ⟨he,hk.below⟩
theorem RAs.nil {W : World} : RAs W NoA (fun _=>none) NoA #[] []:=⟨rfl,fun j h=>by simp at h⟩
theorem RAs.mk : ∀ {W : World} {vs : List Value} {ags : List AV},vs.length=ags.length→(∀ (j : Nat) v a,vs[j]?=some v→ags[j]?=some a→RA W NoA (fun _=>none) NoA v a)→RAs W NoA (fun _=>none) NoA vs.toArray ags:=by
  intro W vs ags hl h
  refine ⟨by simpa using hl,fun j hj=>?_⟩
  have hj2 : j < vs.length:=by omega
  have : vs.toArray.getD j undef=vs[j]:=by simp [Array.getD,hj2]
  rw [this]
  exact h j _ _ (List.getElem?_eq_getElem hj2) (List.getElem?_eq_getElem hj)
theorem RDs.toA {W : World} {vs : List Value} {ds : List DV} (h : RDs W vs ds) : RA W NoA (fun _=>none) NoA (.agg vs.toArray) (.agg (ds.map AV.d)):=by
  refine .agg _ _ (by simpa using h.1) fun j hj=>?_
  have hj1 : j < ds.length:=by simpa using hj
  have hj2 : j < vs.length:=by rw [h.1];exact hj1
  have : vs.toArray.getD j undef=vs[j]:=by simp [Array.getD,hj2]
  rw [this,List.getElem_map]
  exact .d _ _ (h.2 j _ _ (List.getElem?_eq_getElem hj2) (List.getElem?_eq_getElem hj1))
theorem arg_node {W : World} {base : Nat} {v : Value} {d : DataW H} {p : List MemPlace} (hok : Value.okWide Try.prog W .any base 27 v) (h : DataW.Trod enc Try.prog W 0 (fun _=>true) true 27 v d p) : ∃ t : T,inT t∧RA W NoA (fun _=>none) NoA v (nodeA t):=by
  obtain ⟨n,hn⟩:=h
  obtain ⟨t,h1,h2⟩:=node_open n _ _ hn
  have hs : ∃ cs,v=.agg cs:=by
    unfold Value.okWide at hok
    rw [Try.underlying27] at hok
    obtain ⟨cs,h,_⟩:=hok
    exact ⟨cs,h⟩
  obtain ⟨cs,rfl⟩:=hs
  exact ⟨t,h1,h2.toA⟩
theorem arg_int {W : World} {n : Int} {k : IntKind} : RA W NoA (fun _=>none) NoA (.int k n) (.d (.val (.int k n))):=.d _ _ (.val _ rfl)
end
theorem joined_of {P : Program} {f : FuncId} {fn : Func} {s : ChangeSpec} {c : OpenClaim}
    (k1 : (c.wf (OpenSpec.ofChange s) && laidOutB P && mapsRowed P && fn.params.all (P.readableRec ·) && namedTie P c.named s.vars && (c.stops == []) && (P.stops == []) && (c.knobs == []) && (P.stopKnobs == []))=true)
    (k2 : (c.inPlace == P.inPlace f)=true) (k3 : (c.unfollowed == P.unfollowed f)=true) (k4 : (c.recurses == P.recurses f)=true) (k5 : (c.named == P.varsNamed f)=true)
    (k6 : ((c.maps == (fn.params.toList++s.plain.varTypes P).any (P.mapsRec ·)) && (c.ifaces == (fn.params.toList++s.plain.varTypes P).any (P.ifacesRec ·)) && (c.mapsOut == P.mapsAmong fn.resultTypes.toList) &&
  (c.loops == (fn.params.toList++s.plain.varTypes P).any (P.loopsFrom ·)) && (c.wideKeys == (fn.params.toList++s.plain.varTypes P++fn.resultTypes.toList).any (P.wideKeysFrom ·)) &&
  s.vars.all (P.varReadable ·) && fn.resultTypes.all (fun t=>P.readableRec t && decide (t < P.types.size)) && (c.ifacesOut == fn.resultTypes.toList.any (P.ifacesRec ·)) && (c.loopsOut == fn.resultTypes.toList.any (P.loopsFrom ·)))=true)
    (hm : P.mayEnter=true) (hl : P.liftsFinal=c.lifted) (hk : P.make=some c.make) (k7 : ((c.plainKeys == P.plainKeys) && c.shortTexts.isNone && P.stopsHeard && (c.kinds == (if c.domain.isEmpty then [] else fn.params.toList.map fun t=>match P.underlying t with | some (.int k)=>some k | _=>none)) && (c.pinned == c.pinnedBy) &&
  (c.veiled == (fn.params.toList++s.plain.varTypes P++fn.resultTypes.toList).any (P.veiledRec ·)) && c.veiledFits P fn.params.toList (fn.params.toList++s.plain.varTypes P++fn.resultTypes.toList))=true) : joinedFacts P f fn s c=true:=by
  unfold joinedFacts
  simp only [Bool.and_eq_true] at k1 k6 k7 ⊢
  obtain ⟨⟨⟨⟨⟨⟨⟨⟨a1,a2⟩,a3⟩,a4⟩,a5⟩,a6⟩,a7⟩,a8⟩,a9⟩:=k1
  obtain ⟨⟨⟨⟨⟨⟨⟨⟨b1,b2⟩,b3⟩,b4⟩,b5⟩,b6⟩,b7⟩,b8⟩,b9⟩:=k6
  obtain ⟨⟨⟨⟨⟨⟨c1,c2⟩,c3⟩,c4⟩,c5⟩,c6⟩,c7⟩:=k7
  have d1 : (c.lifted == P.liftsFinal)=true:=by rw [hl];exact beq_self_eq_true _
  have d2 : (P.make == some c.make)=true:=by rw [hk];exact beq_self_eq_true _
  repeat' apply And.intro
  all_goals assumption
end Go.Sv
namespace Go.Sv
open Go Go.Proofs Go.Proofs.Ytcnlgmajkclgjaa
set_option maxRecDepth 100000
def orderN : List Nat:=[104,97,114,110,101,115,115,32,52,100,99,102,50,98,101,99,57,54,53,101,49,53,55,56,102,100,97,52,56,101,99,52,97,101,57,98,98,50,100,98,101,100,51,97,52,98,99,100,100,51,97,57,56,98,50,102,51,57,102,50,50,101,97,100,48,54,49,51,100,51,56,56,32,99,117,116,32,97,116,32,115,105,101,118,101,47,115,105,101,118,101,108,97,119,49,49,46,69,110,100,115,84,101,108,108,32,115,105,101,118,101,47,115,105,101,118,101,108,97,119,49,49,46,69,110,100,115,77,97,116,99,104,32,115,105,101,118,101,47,115,105,101,118,101,108,97,119,49,49,46,69,110,100,115,83,105,109,112,108,101,32,115,105,101,118,101,47,115,105,101,118,101,108,97,119,49,49,46,69,110,100,115,66,101,115,116,32,115,105,101,118,101,47,115,105,101,118,101,108,97,119,49,49,46,69,110,100,115,76,111,110,103,101,114,32,115,105,101,118,101,47,115,105,101,118,101,108,97,119,49,49,46,69,110,100,115,80,97,114,116,115,32,115,105,101,118,101,47,115,105,101,118,101,108,97,119,49,49,46,69,110,100,115,83,116,97,114,32,115,105,101,118,101,47,115,105,101,118,101,108,97,119,49,48,46,83,105,109,112,108,105,102,121,84,101,108,108,115,32,115,105,101,118,101,47,115,105,101,118,101,108,97,119,49,48,46,83,105,109,112,108,105,102,121,65,103,97,105,110,32,115,105,101,118,101,47,115,105,101,118,101,108,97,119,49,48,46,83,105,109,112,108,105,102,121,75,101,101,112,115,32,115,105,101,118,101,47,115,105,101,118,101,108,97,119,49,48,46,83,105,109,112,108,105,102,121,79,110,101,32,115,105,101,118,101,47,115,105,101,118,101,108,97,119,49,51,46,69,120,112,97,110,100,84,101,108,108,115,32,115,105,101,118,101,47,115,105,101,118,101,108,97,119,49,51,46,69,120,112,97,110,100,83,97,109,101,32,115,105,101,118,101,47,115,105,101,118,101,108,97,119,49,51,46,69,120,112,97,110,100,80,108,97,105,110,32,115,105,101,118,101,47,115,105,101,118,101,108,97,119,49,51,46,69,120,112,97,110,100,66,117,100,103,101,116,32,115,105,101,118,101,47,115,105,101,118,101,108,97,119,49,51,46,69,120,112,97,110,100,70,105,114,115,116,32,115,105,101,118,101,47,115,105,101,118,101,108,97,119,48,57,46,77,101,97,115,117,114,101,84,101,108,108,115,32,115,105,101,118,101,47,115,105,101,118,101,108,97,119,48,57,46,77,101,97,115,117,114,101,75,110,111,119,115,32,115,105,101,118,101,47,115,105,101,118,101,108,97,119,48,57,46,77,101,97,115,117,114,101,76,101,110,103,116,104,115,32,115,105,101,118,101,47,115,105,101,118,101,108,97,119,48,57,46,77,101,97,115,117,114,101,80,97,114,116,115,32,115,105,101,118,101,47,115,105,101,118,101,108,97,119,48,57,46,77,101,97,115,117,114,101,82,101,112,32,115,105,101,118,101,47,115,105,101,118,101,108,97,119,49,50,46,68,101,114,105,118,101,84,101,108,108,115,32,115,105,101,118,101,47,115,105,101,118,101,108,97,119,49,50,46,68,101,114,105,118,101,76,111,110,103,101,115,116,32,115,105,101,118,101,47,115,105,101,118,101,108,97,119,49,50,46,68,101,114,105,118,101,87,111,114,100,115,32,115,105,101,118,101,47,115,105,101,118,101,108,97,119,49,50,46,68,101,114,105,118,101,70,105,114,115,116,32,115,105,101,118,101,47,115,105,101,118,101,108,97,119,49,50,46,68,101,114,105,118,101,83,105,109,112,108,101]
theorem order_eq : Try.prog.initOrder=String.ofList (orderN.map Char.ofNat):=by kernel_rfl
theorem order_list : Try.prog.initOrder.toList=orderN.map Char.ofNat:=by rw [order_eq,String.toList_ofList]
theorem ow1 : (stripLifts liftWords (behindMainWord (wordsSigns (orderN.map Char.ofNat)))).1=[]:=by kernel_rfl
theorem ow2 : ((stripLifts liftWords (behindMainWord (wordsSigns (orderN.map Char.ofNat)))).2.head? == some "cut".toList)=true:=by kernel_rfl
theorem ow3 : ((behindMainWord (wordsSigns (orderN.map Char.ofNat))).isEmpty=false):=by kernel_rfl
theorem ow4 : ((behindMainWord (wordsSigns (orderN.map Char.ofNat))).head? == some "cut".toList)=true:=by kernel_rfl
theorem ow5 : ((behindMainWord (wordsSigns (orderN.map Char.ofNat))).head? == some "carried".toList)=false:=by kernel_rfl
theorem ow6 : ((behindMainWord (wordsSigns (orderN.map Char.ofNat))).head? == some "gc".toList)=false:=by kernel_rfl
theorem ow7 : ((behindMainWord (wordsSigns (orderN.map Char.ofNat))).head? == some "spec".toList)=false:=by kernel_rfl
theorem try_lays : Try.prog.laysLater=false:=by kernel_rfl
theorem try_refl : Try.prog.bearsReflect=false:=by kernel_rfl
theorem try_door : Try.prog.doorFits []=true:=by kernel_rfl
theorem headLifts_of {P : Program} {l : List Char} (h : P.initOrder.toList=l) (h1 : (stripLifts liftWords (behindMainWord (wordsSigns l))).1=[]) (h2 : ((stripLifts liftWords (behindMainWord (wordsSigns l))).2.head? == some "cut".toList)=true) : P.headLifts=[]:=by
  subst h
  unfold Program.headLifts
  simp only [h2,if_true,h1]
theorem try_headLifts : Try.prog.headLifts=[]:=headLifts_of order_list ow1 ow2
theorem mayEnter_of {P : Program} {l : List Char} (h : P.initOrder.toList=l) (h1 : (stripLifts liftWords (behindMainWord (wordsSigns l))).1=[]) (h2 : ((stripLifts liftWords (behindMainWord (wordsSigns l))).2.head? == some "cut".toList)=true)
    (h3 : (behindMainWord (wordsSigns l)).isEmpty=false) (k1 : P.laysLater=false) (k2 : P.bearsReflect=false) (k3 : P.doorFits []=true) : P.mayEnter=true:=by
  subst h
  unfold Program.mayEnter
  generalize behindMainWord (wordsSigns P.initOrder.toList)=q at h1 h2 h3 ⊢
  cases q with
  | nil=>cases h3
  | cons c rest =>
    have e1 : ([] : List String).contains "finals"=false:=rfl
    have e2 : ([] : List String).contains "reflectrows"=false:=rfl
    have e3 : ([] : List String).contains "leanrows"=false:=rfl
    simp only [h1,h2,k1,k2,k3,e1,e2,e3,Bool.not_false,Bool.or_true,Bool.and_true,Bool.or_self,Bool.and_self]
theorem try_mayEnter : Try.prog.mayEnter=true:=mayEnter_of order_list ow1 ow2 ow3 try_lays try_refl try_door
theorem lifts_of {P : Program} {l : List Char} (h : P.initOrder.toList=l) (h5 : ((behindMainWord (wordsSigns l)).head? == some "carried".toList)=false) (k : P.headLifts=[]) : P.liftsFinal=false:=by
  subst h
  unfold Program.liftsFinal
  rw [k]
  have e1 : ([] : List String).contains "finals"=false:=rfl
  simp only [h5,e1,Bool.false_and,Bool.or_self]
theorem try_lifts : Try.prog.liftsFinal=false:=lifts_of order_list ow5 try_headLifts
theorem make_of {P : Program} {l : List Char} (h : P.initOrder.toList=l) (h3 : (behindMainWord (wordsSigns l)).isEmpty=false) (h4 : ((behindMainWord (wordsSigns l)).head? == some "cut".toList)=true)
    (h6 : ((behindMainWord (wordsSigns l)).head? == some "gc".toList)=false) (h7 : ((behindMainWord (wordsSigns l)).head? == some "spec".toList)=false) : P.make=some .cut:=by
  subst h
  unfold Program.make
  generalize behindMainWord (wordsSigns P.initOrder.toList)=q at h3 h4 h6 h7 ⊢
  cases q with
  | nil=>cases h3
  | cons c rest =>
    simp only [List.head?_cons] at h4 h6 h7
    have g : ∀ x : List Char,(some c == some x)=(c == x):=fun x=>rfl
    rw [g] at h4 h6 h7
    simp only [h4,h6,h7,Bool.or_self,Bool.false_eq_true,if_false,Bool.true_or,if_true]
theorem try_make : Try.prog.make=some .cut:=make_of order_list ow3 ow4 ow6 ow7
end Go.Sv
